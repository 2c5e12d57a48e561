-- A program of this session wrote this text: a changed copy of the kit print, with given functions.
import Derived.Test.YtddapeieolfolaaDoorPFnExactPackScanx0
import Derived.Test.YtddapeieolfolaaDoorPFnExactPackScanx10
namespace Go.Proofs.YtddapeieolfolaaDoor.PFnExactPackScan
open Go.RowKit Go.Proofs.YtddapeieolfolaaDoorW.PrintWords Go.Proofs.YtddapeieolfolaaDoorW.PrintLast Go.Proofs.YtddapeieolfolaaDoorW.PrintMore Go.Proofs.YtddapeieolfolaaDoor.Aut
attribute [local go_sem] max2_int min2_int max_two min_two max_three min_three max_four min_four   -- for this text's walks alone
set_option linter.unusedVariables false
set_option linter.unusedSimpArgs false

/-! ### laws_eqEntryS: function 37 -/
def laws_eqEntryS.l0 : Nat → List (S61) → List (S61) → Int → Option (Bool)
  | 0, _, _, _ => none
  | k + 1, x0, x1, x5 => if x5 < (x0.length : Int) then (if 0 ≤ x5 then (if x5 < (x1.length : Int) then ((laws_eqEntry.f ((rd_T61 x0 x5).f0) ((rd_T61 x0 x5).f1) ((rd_T61 x0 x5).f2) ((rd_T61 x0 x5).f3) ((rd_T61 x1 x5).f0) ((rd_T61 x1 x5).f1) ((rd_T61 x1 x5).f2) ((rd_T61 x1 x5).f3)).bind fun t288 => (if t288 = true then (laws_eqEntryS.l0 k x0 x1 (wrap64 (x5 + 1))) else (some false))) else (none)) else (none)) else (some true)
def laws_eqEntryS.f (k : Nat) (l0 : List (S61)) (l1 : List (S61)) : Option (Bool) := if (l0.length : Int) = (l1.length : Int) then (laws_eqEntryS.l0 k l0 l1 0) else (some false)
theorem laws_eqEntryS.mono_l : ∀ k, (∀ y0 y1 y2, LeO (laws_eqEntryS.l0 k y0 y1 y2) (laws_eqEntryS.l0 (k + 1) y0 y1 y2))
  | 0 => fun _ _ _ r h => by simp [laws_eqEntryS.l0] at h
  | k + 1 => by
    have ih0 := laws_eqEntryS.mono_l k
    · intro y0 y1 y2
      unfold laws_eqEntryS.l0
      repeat' first
      | (with_reducible exact ih0 _ _ _)
      | (with_reducible exact LeO.refl _)
      | (with_reducible exact LeO.none _)
      | (with_reducible refine LeO.ite ?_ ?_)
      | (with_reducible refine LeO.bind ?_ (fun _ => ?_))
      | exact ih0 _ _ _
      | exact LeO.none _
      | refine LeO.ite ?_ ?_
      | refine LeO.bind ?_ (fun _ => ?_)
theorem laws_eqEntryS.mono : ∀ a0 a1 k, LeO (laws_eqEntryS.f k a0 a1) (laws_eqEntryS.f (k + 1) a0 a1) := by
  intro a0 a1 k
  have ih0 := laws_eqEntryS.mono_l k
  unfold laws_eqEntryS.f
  repeat' first
      | (with_reducible exact ih0 _ _ _)
      | (with_reducible exact LeO.refl _)
      | (with_reducible exact LeO.none _)
      | (with_reducible refine LeO.ite ?_ ?_)
      | (with_reducible refine LeO.bind ?_ (fun _ => ?_))
      | exact ih0 _ _ _
      | exact LeO.none _
      | refine LeO.ite ?_ ?_
      | refine LeO.bind ?_ (fun _ => ?_)
def laws_eqEntryS.T6 : Bool × List (List Nat × List Nat) := (true, [([], []), ([], []), ([0, 1], [0, 1]), ([2], [2]), ([], []), ([], []), ([4, 5], [4, 5]), ([6], [6]), ([3, 7], [3, 7]), ([8], [8])])
def laws_eqEntryS.B6 : List Nat := [0, 0, 3, 7, 0, 0, 48, 112, 255, 511]
theorem laws_eqEntryS.tab6 : rtab .any (opsOf Tryd.f37 6) = laws_eqEntryS.T6 := by kernel_rfl
theorem laws_eqEntryS.bits6 : waitsOk laws_eqEntryS.T6.2 laws_eqEntryS.B6 = true := by kernel_rfl
set_option maxHeartbeats 8000000 in
set_option maxRecDepth 100000 in
theorem laws_eqEntryS.calls (k : Nat) (A0 : Option Addr) (c0 : Nat) (l0 : List (S61)) (A1 : Option Addr) (c1 : Nat) (l1 : List (S61)) (r : Bool) (w : World) (hr0 : Kd.C k61 w A0 l0.length l0) (hc0 : l0.length ≤ c0) (hr1 : Kd.C k61 w A1 l1.length l1) (hc1 : l1.length ≤ c1) (h : laws_eqEntryS.f k l0 l1 = some r) :
    Calls Tryd.prog 37 #[.slice A0 l0.length c0, .slice A1 l1.length c1] w fun e w' => e = .returned (.bool r) ∧ Below w.heap.size w w' := by
  have hu61 := Tryd.underlying61
  have HR0 := AM hr0
  have HC0 := AM hc0
  clear hr0 hc0
  have HR1 := AM hr1
  have HC1 := AM hc1
  clear hr1 hc1
  have HB := AM (Below.refl w.heap.size w)
  have H : (if (l0.length : Int) = (l1.length : Int) then (laws_eqEntryS.l0 k l0 l1 0) else (some false)) = some r := h
  clear h
  by_cases c3 : (l0.length : Int) = (l1.length : Int)
  · rw [if_pos c3] at H
    have c3b0 : ((l0.length : Int) == (l1.length : Int)) = true := beq_iff_eq.mpr c3
    have c3b1 : ((l0.length : Int) != (l1.length : Int)) = false := bne_eq_false_iff_eq.mpr c3
    have c3b2 : (l0.length == l1.length) = true := by first | simpa using c3 | (simp at c3 ⊢; omega)
    clear c3
    have H' := AM H
    clear H
    go_enter Tryd.func37, Tryd.ntmps37
    go_wp2
    go_loopg [5] k (fun kq v5 w' => ∃ (x5_1 : Int), v5 = .int .i64 x5_1 ∧ Aside0 (laws_eqEntryS.l0 kq l0 l1 x5_1 = some r) ∧ Aside0 (kq ≤ k) ∧ Aside0 (Below w.heap.size w w'))
    case atStart => exact ⟨(0), (by first | rfl | (simp; done) | (simp [*]; done)), H', ⟨Nat.le_refl _⟩, ⟨bel_⟩⟩
    case round =>
      clear H'
      try clear c1
      try clear p2
      try clear c3
      try clear c3b0
      try clear c3b1
      try clear c3b2
      obtain ⟨x5_1, rfl, HA, HK1, HB⟩ := hrel
      cases gk with
      | zero => exact absurd HA.out (by simp [laws_eqEntryS.l0])
      | succ k1 =>
        have H := HA.out
        clear HA
        simp only [laws_eqEntryS.l0] at H
        by_cases c4 : x5_1 < (l0.length : Int)
        · rw [if_pos c4] at H
          have c4b0 : decide (x5_1 < (l0.length : Int)) = true := decide_eq_true c4
          clear c4
          by_cases c5 : 0 ≤ x5_1
          · rw [if_pos c5] at H
            have c5b0 : decide (0 ≤ x5_1) = true := decide_eq_true c5
            clear c5
            by_cases c6 : x5_1 < (l1.length : Int)
            · rw [if_pos c6] at H
              have c6b0 : decide (x5_1 < (l1.length : Int)) = true := decide_eq_true c6
              clear c6
              obtain ⟨t288, A7, H⟩ := OB H
              try dsimp only at H
              replace A7 := AM A7
              by_cases c8 : t288 = true
              · subst c8
                rw [if_pos rfl] at H
                have H' := AM H
                clear H
                try go_wp2
                replace HB := AM (below_drew1 HB.out)
                have p286 : 0 ≤ (x5_1 : Int) := of_decide_eq_true (by first | (with_reducible assumption) | assumption)
                have q286 : x5_1 < (l0.length : Int) := of_decide_eq_true (by first | (with_reducible assumption) | assumption)
                obtain ⟨ad286, e286, hx286_0, hx286_1, hx286_2, hx286_3⟩ := at_T61 HR0.out x5_1 p286 q286
                have hw286_3 := hx286_3
                have hw286_2 := hx286_2
                have hw286_1 := hx286_1
                have hw286_0 := hx286_0
                cases e286
                replace hx286_0 := (HB.out.cell (World.block_lt_of_cell? w _ hx286_0)).trans hx286_0
                replace hx286_1 := (HB.out.cell (World.block_lt_of_cell? w _ hx286_1)).trans hx286_1
                replace hx286_2 := (HB.out.cell (World.block_lt_of_cell? w _ hx286_2)).trans hx286_2
                replace hx286_3 := (HB.out.cell (World.block_lt_of_cell? w _ hx286_3)).trans hx286_3
                replace p286 := eq_true p286
                replace q286 := eq_true q286
                have p287 : 0 ≤ (x5_1 : Int) := of_decide_eq_true (by first | (with_reducible assumption) | assumption)
                have q287 : x5_1 < (l1.length : Int) := of_decide_eq_true (by first | (with_reducible assumption) | assumption)
                obtain ⟨ad287, e287, hx287_0, hx287_1, hx287_2, hx287_3⟩ := at_T61 HR1.out x5_1 p287 q287
                have hw287_3 := hx287_3
                have hw287_2 := hx287_2
                have hw287_1 := hx287_1
                have hw287_0 := hx287_0
                cases e287
                replace hx287_0 := (HB.out.cell (World.block_lt_of_cell? w _ hx287_0)).trans hx287_0
                replace hx287_1 := (HB.out.cell (World.block_lt_of_cell? w _ hx287_1)).trans hx287_1
                replace hx287_2 := (HB.out.cell (World.block_lt_of_cell? w _ hx287_2)).trans hx287_2
                replace hx287_3 := (HB.out.cell (World.block_lt_of_cell? w _ hx287_3)).trans hx287_3
                replace p287 := eq_true p287
                replace q287 := eq_true q287
                refine start_ (n := 10) (S := fun w' => w'.cell? (ad286.add ((x5_1).toNat * 4)) = some (.string ((rd_T61 l0 x5_1).f0)) ∧ w'.cell? ⟨(ad286.add ((x5_1).toNat * 4)).block, (ad286.add ((x5_1).toNat * 4)).off + 1, none⟩ = some (.int .i64 ((rd_T61 l0 x5_1).f1)) ∧ w'.cell? ⟨(ad286.add ((x5_1).toNat * 4)).block, (ad286.add ((x5_1).toNat * 4)).off + 2, none⟩ = some (.int .i64 ((rd_T61 l0 x5_1).f2)) ∧ w'.cell? ⟨(ad286.add ((x5_1).toNat * 4)).block, (ad286.add ((x5_1).toNat * 4)).off + 3, none⟩ = some (.int .i64 ((rd_T61 l0 x5_1).f3)) ∧ w'.cell? (ad287.add ((x5_1).toNat * 4)) = some (.string ((rd_T61 l1 x5_1).f0)) ∧ w'.cell? ⟨(ad287.add ((x5_1).toNat * 4)).block, (ad287.add ((x5_1).toNat * 4)).off + 1, none⟩ = some (.int .i64 ((rd_T61 l1 x5_1).f1)) ∧ w'.cell? ⟨(ad287.add ((x5_1).toNat * 4)).block, (ad287.add ((x5_1).toNat * 4)).off + 2, none⟩ = some (.int .i64 ((rd_T61 l1 x5_1).f2)) ∧ w'.cell? ⟨(ad287.add ((x5_1).toNat * 4)).block, (ad287.add ((x5_1).toNat * 4)).off + 3, none⟩ = some (.int .i64 ((rd_T61 l1 x5_1).f3))) (ds := []) #[false, false, false, false, false, false, false, false, false, false] (by kernel_rfl) rfl rfl ⟨((HB.out.cell (World.block_lt_of_cell? w _ hw286_0)).trans hw286_0), ((HB.out.cell (World.block_lt_of_cell? w _ hw286_1)).trans hw286_1), ((HB.out.cell (World.block_lt_of_cell? w _ hw286_2)).trans hw286_2), ((HB.out.cell (World.block_lt_of_cell? w _ hw286_3)).trans hw286_3), ((HB.out.cell (World.block_lt_of_cell? w _ hw287_0)).trans hw287_0), ((HB.out.cell (World.block_lt_of_cell? w _ hw287_1)).trans hw287_1), ((HB.out.cell (World.block_lt_of_cell? w _ hw287_2)).trans hw287_2), ((HB.out.cell (World.block_lt_of_cell? w _ hw287_3)).trans hw287_3)⟩ (fun hHeld => ?_); refine with_tabW laws_eqEntryS.tab6 laws_eqEntryS.bits6 (fun HT_ HW_ => ?_)
                generalize wr.drew = w9 at HB hx286_0 hx286_1 hx286_2 hx286_3 hx287_0 hx287_1 hx287_2 hx287_3 hHeld ⊢
                refine pu_ HT_ 0 (some 17) #[true, false, false, false, false, false, false, false, false, false] ?_
                refine pu_ HT_ 1 (some 18) #[true, true, false, false, false, false, false, false, false, false] ?_
                refine pu_ HT_ 2 (some 19) #[true, true, true, false, false, false, false, false, false, false] ?_
                refine pu_ HT_ 4 (some 21) #[true, true, true, false, true, false, false, false, false, false] ?_
                refine pu_ HT_ 5 (some 22) #[true, true, true, false, true, true, false, false, false, false] ?_
                refine pu_ HT_ 6 (some 23) #[true, true, true, false, true, true, true, false, false, false] ?_
                refine ta_ HT_ HW_ 3 (some 20) #[true, true, true, true, true, true, true, false, false, false] hHeld ?_
                refine ta_ HT_ HW_ 7 (some 24) #[true, true, true, true, true, true, true, true, false, false] hHeld ?_
                refine on_ HT_ 8 (some 25) #[true, true, true, true, true, true, true, true, true, false] (fun K hK => ?_)
                refine go1_ Tryd.func85 #[.agg #[.string ((rd_T61 l0 x5_1).f0), .int .i64 ((rd_T61 l0 x5_1).f1), .int .i64 ((rd_T61 l0 x5_1).f2), .int .i64 ((rd_T61 l0 x5_1).f3)], .agg #[.string ((rd_T61 l1 x5_1).f0), .int .i64 ((rd_T61 l1 x5_1).f1), .int .i64 ((rd_T61 l1 x5_1).f2), .int .i64 ((rd_T61 l1 x5_1).f3)]] ?_
                with_reducible refine (laws_eqEntry.calls ((rd_T61 l0 x5_1).f0) ((rd_T61 l0 x5_1).f1) ((rd_T61 l0 x5_1).f2) ((rd_T61 l0 x5_1).f3) ((rd_T61 l1 x5_1).f0) ((rd_T61 l1 x5_1).f1) ((rd_T61 l1 x5_1).f2) ((rd_T61 l1 x5_1).f3) true _ A7.out).mono ?_
                rintro e w10 ⟨rfl, hb⟩
                refine ⟨_, rfl, ?_⟩
                replace HB := AM (below_step bel_ hb)
                (try clear hb)
                (try clear hb2)
                (try clear hk)
                (try clear hi)
                refine hK.out _ _ ⟨((HB.out.cell (World.block_lt_of_cell? w _ hw286_0)).trans hw286_0), ((HB.out.cell (World.block_lt_of_cell? w _ hw286_1)).trans hw286_1), ((HB.out.cell (World.block_lt_of_cell? w _ hw286_2)).trans hw286_2), ((HB.out.cell (World.block_lt_of_cell? w _ hw286_3)).trans hw286_3), ((HB.out.cell (World.block_lt_of_cell? w _ hw287_0)).trans hw287_0), ((HB.out.cell (World.block_lt_of_cell? w _ hw287_1)).trans hw287_1), ((HB.out.cell (World.block_lt_of_cell? w _ hw287_2)).trans hw287_2), ((HB.out.cell (World.block_lt_of_cell? w _ hw287_3)).trans hw287_3)⟩ (fun hHeld => ?_)
                clear hK K
                refine nm_ ?_
                refine pu_ HT_ 9 (some 26) #[true, true, true, true, true, true, true, true, true, true] ?_
                refine dn_ HT_ ?_
                try go_wp2
                go_roundg k1
                case measure => have := HK1.out; omega
                case rel => exact ⟨(wrap64 (x5_1 + 1)), (by first | rfl | (simp; done) | (simp [*]; done)), H', ⟨by have := HK1.out; omega⟩, ⟨bel_⟩⟩
              · replace c8 := Bool.eq_false_iff.mpr c8
                subst c8
                rw [if_neg (show ¬ (false = true) by decide)] at H
                obtain rfl := Option.some.inj H
                try go_wp2
                replace HB := AM (below_drew1 HB.out)
                have p286 : 0 ≤ (x5_1 : Int) := of_decide_eq_true (by first | (with_reducible assumption) | assumption)
                have q286 : x5_1 < (l0.length : Int) := of_decide_eq_true (by first | (with_reducible assumption) | assumption)
                obtain ⟨ad286, e286, hx286_0, hx286_1, hx286_2, hx286_3⟩ := at_T61 HR0.out x5_1 p286 q286
                have hw286_3 := hx286_3
                have hw286_2 := hx286_2
                have hw286_1 := hx286_1
                have hw286_0 := hx286_0
                cases e286
                replace hx286_0 := (HB.out.cell (World.block_lt_of_cell? w _ hx286_0)).trans hx286_0
                replace hx286_1 := (HB.out.cell (World.block_lt_of_cell? w _ hx286_1)).trans hx286_1
                replace hx286_2 := (HB.out.cell (World.block_lt_of_cell? w _ hx286_2)).trans hx286_2
                replace hx286_3 := (HB.out.cell (World.block_lt_of_cell? w _ hx286_3)).trans hx286_3
                replace p286 := eq_true p286
                replace q286 := eq_true q286
                have p287 : 0 ≤ (x5_1 : Int) := of_decide_eq_true (by first | (with_reducible assumption) | assumption)
                have q287 : x5_1 < (l1.length : Int) := of_decide_eq_true (by first | (with_reducible assumption) | assumption)
                obtain ⟨ad287, e287, hx287_0, hx287_1, hx287_2, hx287_3⟩ := at_T61 HR1.out x5_1 p287 q287
                have hw287_3 := hx287_3
                have hw287_2 := hx287_2
                have hw287_1 := hx287_1
                have hw287_0 := hx287_0
                cases e287
                replace hx287_0 := (HB.out.cell (World.block_lt_of_cell? w _ hx287_0)).trans hx287_0
                replace hx287_1 := (HB.out.cell (World.block_lt_of_cell? w _ hx287_1)).trans hx287_1
                replace hx287_2 := (HB.out.cell (World.block_lt_of_cell? w _ hx287_2)).trans hx287_2
                replace hx287_3 := (HB.out.cell (World.block_lt_of_cell? w _ hx287_3)).trans hx287_3
                replace p287 := eq_true p287
                replace q287 := eq_true q287
                refine start_ (n := 10) (S := fun w' => w'.cell? (ad286.add ((x5_1).toNat * 4)) = some (.string ((rd_T61 l0 x5_1).f0)) ∧ w'.cell? ⟨(ad286.add ((x5_1).toNat * 4)).block, (ad286.add ((x5_1).toNat * 4)).off + 1, none⟩ = some (.int .i64 ((rd_T61 l0 x5_1).f1)) ∧ w'.cell? ⟨(ad286.add ((x5_1).toNat * 4)).block, (ad286.add ((x5_1).toNat * 4)).off + 2, none⟩ = some (.int .i64 ((rd_T61 l0 x5_1).f2)) ∧ w'.cell? ⟨(ad286.add ((x5_1).toNat * 4)).block, (ad286.add ((x5_1).toNat * 4)).off + 3, none⟩ = some (.int .i64 ((rd_T61 l0 x5_1).f3)) ∧ w'.cell? (ad287.add ((x5_1).toNat * 4)) = some (.string ((rd_T61 l1 x5_1).f0)) ∧ w'.cell? ⟨(ad287.add ((x5_1).toNat * 4)).block, (ad287.add ((x5_1).toNat * 4)).off + 1, none⟩ = some (.int .i64 ((rd_T61 l1 x5_1).f1)) ∧ w'.cell? ⟨(ad287.add ((x5_1).toNat * 4)).block, (ad287.add ((x5_1).toNat * 4)).off + 2, none⟩ = some (.int .i64 ((rd_T61 l1 x5_1).f2)) ∧ w'.cell? ⟨(ad287.add ((x5_1).toNat * 4)).block, (ad287.add ((x5_1).toNat * 4)).off + 3, none⟩ = some (.int .i64 ((rd_T61 l1 x5_1).f3))) (ds := []) #[false, false, false, false, false, false, false, false, false, false] (by kernel_rfl) rfl rfl ⟨((HB.out.cell (World.block_lt_of_cell? w _ hw286_0)).trans hw286_0), ((HB.out.cell (World.block_lt_of_cell? w _ hw286_1)).trans hw286_1), ((HB.out.cell (World.block_lt_of_cell? w _ hw286_2)).trans hw286_2), ((HB.out.cell (World.block_lt_of_cell? w _ hw286_3)).trans hw286_3), ((HB.out.cell (World.block_lt_of_cell? w _ hw287_0)).trans hw287_0), ((HB.out.cell (World.block_lt_of_cell? w _ hw287_1)).trans hw287_1), ((HB.out.cell (World.block_lt_of_cell? w _ hw287_2)).trans hw287_2), ((HB.out.cell (World.block_lt_of_cell? w _ hw287_3)).trans hw287_3)⟩ (fun hHeld => ?_); refine with_tabW laws_eqEntryS.tab6 laws_eqEntryS.bits6 (fun HT_ HW_ => ?_)
                generalize wr.drew = w11 at HB hx286_0 hx286_1 hx286_2 hx286_3 hx287_0 hx287_1 hx287_2 hx287_3 hHeld ⊢
                refine pu_ HT_ 0 (some 17) #[true, false, false, false, false, false, false, false, false, false] ?_
                refine pu_ HT_ 1 (some 18) #[true, true, false, false, false, false, false, false, false, false] ?_
                refine pu_ HT_ 2 (some 19) #[true, true, true, false, false, false, false, false, false, false] ?_
                refine pu_ HT_ 4 (some 21) #[true, true, true, false, true, false, false, false, false, false] ?_
                refine pu_ HT_ 5 (some 22) #[true, true, true, false, true, true, false, false, false, false] ?_
                refine pu_ HT_ 6 (some 23) #[true, true, true, false, true, true, true, false, false, false] ?_
                refine ta_ HT_ HW_ 3 (some 20) #[true, true, true, true, true, true, true, false, false, false] hHeld ?_
                refine ta_ HT_ HW_ 7 (some 24) #[true, true, true, true, true, true, true, true, false, false] hHeld ?_
                refine on_ HT_ 8 (some 25) #[true, true, true, true, true, true, true, true, true, false] (fun K hK => ?_)
                refine go1_ Tryd.func85 #[.agg #[.string ((rd_T61 l0 x5_1).f0), .int .i64 ((rd_T61 l0 x5_1).f1), .int .i64 ((rd_T61 l0 x5_1).f2), .int .i64 ((rd_T61 l0 x5_1).f3)], .agg #[.string ((rd_T61 l1 x5_1).f0), .int .i64 ((rd_T61 l1 x5_1).f1), .int .i64 ((rd_T61 l1 x5_1).f2), .int .i64 ((rd_T61 l1 x5_1).f3)]] ?_
                with_reducible refine (laws_eqEntry.calls ((rd_T61 l0 x5_1).f0) ((rd_T61 l0 x5_1).f1) ((rd_T61 l0 x5_1).f2) ((rd_T61 l0 x5_1).f3) ((rd_T61 l1 x5_1).f0) ((rd_T61 l1 x5_1).f1) ((rd_T61 l1 x5_1).f2) ((rd_T61 l1 x5_1).f3) false _ A7.out).mono ?_
                rintro e w12 ⟨rfl, hb⟩
                refine ⟨_, rfl, ?_⟩
                replace HB := AM (below_step bel_ hb)
                (try clear hb)
                (try clear hb2)
                (try clear hk)
                (try clear hi)
                refine hK.out _ _ ⟨((HB.out.cell (World.block_lt_of_cell? w _ hw286_0)).trans hw286_0), ((HB.out.cell (World.block_lt_of_cell? w _ hw286_1)).trans hw286_1), ((HB.out.cell (World.block_lt_of_cell? w _ hw286_2)).trans hw286_2), ((HB.out.cell (World.block_lt_of_cell? w _ hw286_3)).trans hw286_3), ((HB.out.cell (World.block_lt_of_cell? w _ hw287_0)).trans hw287_0), ((HB.out.cell (World.block_lt_of_cell? w _ hw287_1)).trans hw287_1), ((HB.out.cell (World.block_lt_of_cell? w _ hw287_2)).trans hw287_2), ((HB.out.cell (World.block_lt_of_cell? w _ hw287_3)).trans hw287_3)⟩ (fun hHeld => ?_)
                clear hK K
                refine nm_ ?_
                refine pu_ HT_ 9 (some 26) #[true, true, true, true, true, true, true, true, true, true] ?_
                refine dn_ HT_ ?_
                try go_wp2
                go_ret
                exact ⟨ri_, bel_⟩
            · rw [if_neg c6] at H
              exact absurd H (by simp)
          · rw [if_neg c5] at H
            exact absurd H (by simp)
        · rw [if_neg c4] at H
          have c4b0 : decide (x5_1 < (l0.length : Int)) = false := decide_eq_false c4
          clear c4
          obtain rfl := Option.some.inj H
          go_wp2
          go_ret
          exact ⟨ri_, bel_⟩
  · rw [if_neg c3] at H
    have c3b0 : ((l0.length : Int) == (l1.length : Int)) = false := beq_eq_false_iff_ne.mpr c3
    have c3b1 : ((l0.length : Int) != (l1.length : Int)) = true := bne_iff_ne.mpr c3
    have c3b2 : (l0.length == l1.length) = false := by first | simpa using c3 | (simp at c3 ⊢; omega)
    obtain rfl := Option.some.inj H
    go_enter Tryd.func37, Tryd.ntmps37
    go_wp2
    go_ret
    exact ⟨ri_, bel_⟩

/-! ### laws_markText: function 86 -/
def laws_markText.l0 : Nat → Int → ByteArray → Option (ByteArray)
  | 0, _, _ => none
  | k + 1, x0, x3 => if x0 > 0 then ((some (([(wrap64 (48 + (Int.tmod x0 10))) % 256] : List Int) : List Int)).bind fun y289 => (if (strOfNums y289).size + x3.size ≤ 9223372036854775807 then (laws_markText.l0 k (wrap64 (Int.tdiv x0 10)) ((strOfNums y289) ++ x3)) else (none))) else (if 1 + x3.size ≤ 9223372036854775807 then (some ((⟨#[109]⟩ : ByteArray) ++ x3)) else (none))
def laws_markText.f (k : Nat) (a0 : Int) : Option (ByteArray) := if a0 ≤ 0 then (some (⟨#[109, 48]⟩ : ByteArray)) else (laws_markText.l0 k a0 (⟨#[]⟩ : ByteArray))
theorem laws_markText.mono_l : ∀ k, (∀ y0 y1, LeO (laws_markText.l0 k y0 y1) (laws_markText.l0 (k + 1) y0 y1))
  | 0 => fun _ _ r h => by simp [laws_markText.l0] at h
  | k + 1 => by
    have ih0 := laws_markText.mono_l k
    · intro y0 y1
      unfold laws_markText.l0
      repeat' first
      | (with_reducible exact ih0 _ _)
      | (with_reducible exact LeO.refl _)
      | (with_reducible exact LeO.none _)
      | (with_reducible refine LeO.ite ?_ ?_)
      | (with_reducible refine LeO.bind ?_ (fun _ => ?_))
      | exact ih0 _ _
      | exact LeO.none _
      | refine LeO.ite ?_ ?_
      | refine LeO.bind ?_ (fun _ => ?_)
theorem laws_markText.mono : ∀ a0 k, LeO (laws_markText.f k a0) (laws_markText.f (k + 1) a0) := by
  intro a0 k
  have ih0 := laws_markText.mono_l k
  unfold laws_markText.f
  repeat' first
      | (with_reducible exact ih0 _ _)
      | (with_reducible exact LeO.refl _)
      | (with_reducible exact LeO.none _)
      | (with_reducible refine LeO.ite ?_ ?_)
      | (with_reducible refine LeO.bind ?_ (fun _ => ?_))
      | exact ih0 _ _
      | exact LeO.none _
      | refine LeO.ite ?_ ?_
      | refine LeO.bind ?_ (fun _ => ?_)
set_option maxHeartbeats 8000000 in
set_option maxRecDepth 100000 in
theorem laws_markText.calls (k : Nat) (a0 : Int) (r : ByteArray) (w : World) (h : laws_markText.f k a0 = some r) :
    Calls Tryd.prog 86 #[.int .i64 a0] w fun e w' => e = .returned (.string r) ∧ Below w.heap.size w w' := by
  have HB := AM (Below.refl w.heap.size w)
  have H : (if a0 ≤ 0 then (some (⟨#[109, 48]⟩ : ByteArray)) else (laws_markText.l0 k a0 (⟨#[]⟩ : ByteArray))) = some r := h
  clear h
  by_cases c2 : a0 ≤ 0
  · rw [if_pos c2] at H
    have c2b0 : decide (a0 ≤ 0) = true := decide_eq_true c2
    clear c2
    obtain rfl := Option.some.inj H
    go_enter Tryd.func86, Tryd.ntmps86
    go_wp2
    go_ret
    exact ⟨ri_, bel_⟩
  · rw [if_neg c2] at H
    have c2b0 : decide (a0 ≤ 0) = false := decide_eq_false c2
    clear c2
    have H' := AM H
    clear H
    go_enter Tryd.func86, Tryd.ntmps86
    go_wp2
    go_loopg [0, 3] k (fun kq v0 v3 w' => ∃ (x0_1 : Int) (x3_1 : ByteArray), v0 = .int .i64 x0_1 ∧ v3 = .string x3_1 ∧ Aside0 (laws_markText.l0 kq x0_1 x3_1 = some r) ∧ Aside0 (kq ≤ k) ∧ Aside0 (Below w.heap.size w w'))
    case atStart => exact ⟨(a0), ((⟨#[]⟩ : ByteArray)), (by first | rfl | (simp; done) | (simp [*]; done)), (by first | rfl | (simp; done) | (simp [*]; done)), H', ⟨Nat.le_refl _⟩, ⟨bel_⟩⟩
    case round =>
      clear H'
      try clear c2
      try clear c2b0
      try clear p2
      obtain ⟨x0_1, x3_1, rfl, rfl, HA, HK1, HB⟩ := hrel
      cases gk with
      | zero => exact absurd HA.out (by simp [laws_markText.l0])
      | succ k1 =>
        have H := HA.out
        clear HA
        simp only [laws_markText.l0] at H
        by_cases c3 : x0_1 > 0
        · rw [if_pos c3] at H
          have c3b0 : decide (0 < x0_1) = true := decide_eq_true c3
          clear c3
          obtain ⟨y289, hy289⟩ : ∃ y_ : List Int, y_ = (([(wrap64 (48 + (Int.tmod x0_1 10))) % 256] : List Int)) := ⟨_, rfl⟩
          replace H : (if (strOfNums y289).size + x3_1.size ≤ 9223372036854775807 then (laws_markText.l0 k1 (wrap64 (Int.tdiv x0_1 10)) ((strOfNums y289) ++ x3_1)) else (none)) = some r := by first | (rw [hy289]; with_reducible exact H) | (have H2_ := (Option.bind_some _ _).symm.trans H; rw [hy289]; with_reducible exact H2_) | (have H2_ := (Option.bind_some _ _).symm.trans H; with_reducible exact H2_) | with_reducible exact H | (rw [hy289]; exact H) | exact H
          have Ny289 := AM hy289
          clear hy289
          by_cases c4 : (strOfNums y289).size + x3_1.size ≤ 9223372036854775807
          · rw [if_pos c4] at H
            have c4b0 := eq_true c4
            have c4b1 : decide ((strOfNums y289).size + x3_1.size ≤ 9223372036854775807) = true := decide_eq_true c4
            try have c4b2 : (9223372036854775807 < (strOfNums y289).size + x3_1.size) = False := eq_false (Nat.not_lt.2 c4)
            have H' := AM H
            clear H
            go_wp2_with (first | ((with_reducible refine gate_dst (N := 12) rfl ?_); refine Kd.R_lit (Kd.int .u8) _ 5 ?hg (N := 12) ?hd (xs := ([(wrap64 (48 + (Int.tmod x0_1 10))) % 256] : List Int)) (inner := [.int .u8 ((wrap64 (48 + (Int.tmod x0_1 10))) % 256)]) (ok := fun _ => True) (okp := fun _ => True) ?hr ?hp (fun _ hk => hk) trivial (Below.refl _ _) (Nat.le_refl _) (by simp) ?_; (case hd => rfl); (case hg => rfl); (case hr => first | (go_simp; done) | (go_simp; rfl)); (case hp => exact (Reps.one (show Kd.M (Kd.int .u8) _ _ _ ((wrap64 (48 + (Int.tmod x0_1 10))) % 256) [.int .u8 ((wrap64 (48 + (Int.tmod x0_1 10))) % 256)] from rfl) (Reps.none _ _))); intro v290 w5 ho6 hb hg_ hnew_; clear hg_ hnew_; (first | rw [← Ny289.out] at ho6 | (simp only [Int.reduceToNat] at ho6; rw [← Ny289.out] at ho6)); have HO291 := AM (Kd.R_lower ho6 (below_size bel_)); replace HB := AM (below_step bel_ hb); clear hb ho6; have hcv7 := own_string (P := Tryd.prog) Tryd.underlying38 Tryd.underlying5 Tryd.underlying9 (Kd.own_of_R HO291.out)))
            go_roundg k1
            case measure => have := HK1.out; omega
            case rel => exact ⟨(wrap64 (Int.tdiv x0_1 10)), ((strOfNums y289) ++ x3_1), (by first | rfl | (simp; done) | (simp [*]; done)), (by first | rfl | (simp; done) | (simp [*]; done)), H', ⟨by have := HK1.out; omega⟩, ⟨bel_⟩⟩
          · rw [if_neg c4] at H
            exact absurd H (by simp)
        · rw [if_neg c3] at H
          have c3b0 : decide (0 < x0_1) = false := decide_eq_false c3
          clear c3
          by_cases c8 : 1 + x3_1.size ≤ 9223372036854775807
          · rw [if_pos c8] at H
            have c8b0 := eq_true c8
            have c8b1 : decide (1 + x3_1.size ≤ 9223372036854775807) = true := decide_eq_true c8
            try have c8b2 : (9223372036854775807 < 1 + x3_1.size) = False := eq_false (Nat.not_lt.2 c8)
            obtain rfl := Option.some.inj H
            go_wp2
            go_ret
            exact ⟨ri_, bel_⟩
          · rw [if_neg c8] at H
            exact absurd H (by simp)

/-! ### laws_markEntryS: function 38 -/
def laws_markEntryS.l0 : Nat → List (S61) → Int → Int → Option (Int × (List (S61)))
  | 0, _, _, _ => none
  | k + 1, x0, x1, x5 => if x5 < (x0.length : Int) then ((laws_markText.f k x1).bind fun t292 => (if 0 ≤ x5 then ((some (x0.set (x5 : Int).toNat (⟨t292, (rd_T61 x0 x5).f1, (rd_T61 x0 x5).f2, (rd_T61 x0 x5).f3⟩ : S61) : List (S61))).bind fun y293 => ((some (y293.set (x5 : Int).toNat (⟨(rd_T61 y293 x5).f0, wrap64 (x1 + 1), (rd_T61 y293 x5).f2, (rd_T61 y293 x5).f3⟩ : S61) : List (S61))).bind fun y294 => ((some (y294.set (x5 : Int).toNat (⟨(rd_T61 y294 x5).f0, (rd_T61 y294 x5).f1, wrap64 ((wrap64 (x1 + 1)) + 1), (rd_T61 y294 x5).f3⟩ : S61) : List (S61))).bind fun y295 => (laws_markEntryS.l0 k (y295.set (x5 : Int).toNat (⟨(rd_T61 y295 x5).f0, (rd_T61 y295 x5).f1, (rd_T61 y295 x5).f2, wrap64 ((wrap64 ((wrap64 (x1 + 1)) + 1)) + 1)⟩ : S61)) (wrap64 ((wrap64 ((wrap64 ((wrap64 (x1 + 1)) + 1)) + 1)) + 1)) (wrap64 (x5 + 1)))))) else (none))) else (some (x1, x0))
def laws_markEntryS.f (k : Nat) (l0 : List (S61)) (a1 : Int) : Option (Int × (List (S61))) := laws_markEntryS.l0 k l0 a1 0
theorem laws_markEntryS.mono_l : ∀ k, (∀ y0 y1 y2, LeO (laws_markEntryS.l0 k y0 y1 y2) (laws_markEntryS.l0 (k + 1) y0 y1 y2))
  | 0 => fun _ _ _ r h => by simp [laws_markEntryS.l0] at h
  | k + 1 => by
    have ih0 := laws_markEntryS.mono_l k
    · intro y0 y1 y2
      unfold laws_markEntryS.l0
      repeat' first
      | (with_reducible exact ih0 _ _ _)
      | (with_reducible exact laws_markText.mono _ _)
      | (with_reducible exact LeO.refl _)
      | (with_reducible exact LeO.none _)
      | (with_reducible refine LeO.ite ?_ ?_)
      | (with_reducible refine LeO.bind ?_ (fun _ => ?_))
      | exact ih0 _ _ _
      | exact laws_markText.mono _ _
      | exact LeO.none _
      | refine LeO.ite ?_ ?_
      | refine LeO.bind ?_ (fun _ => ?_)
theorem laws_markEntryS.mono : ∀ a0 a1 k, LeO (laws_markEntryS.f k a0 a1) (laws_markEntryS.f (k + 1) a0 a1) := by
  intro a0 a1 k
  have ih0 := laws_markEntryS.mono_l k
  unfold laws_markEntryS.f
  repeat' first
      | (with_reducible exact ih0 _ _ _)
      | (with_reducible exact laws_markText.mono _ _)
      | (with_reducible exact LeO.refl _)
      | (with_reducible exact LeO.none _)
      | (with_reducible refine LeO.ite ?_ ?_)
      | (with_reducible refine LeO.bind ?_ (fun _ => ?_))
      | exact ih0 _ _ _
      | exact laws_markText.mono _ _
      | exact LeO.none _
      | refine LeO.ite ?_ ?_
      | refine LeO.bind ?_ (fun _ => ?_)
set_option maxHeartbeats 8000000 in
set_option maxRecDepth 100000 in
theorem laws_markEntryS.calls (k : Nat) (P0_ : Nat → Prop) (u9000_ : Value) (l0 : List (S61)) (a1 : Int) (r1 : Int) (r2 : List (S61)) (w0 w : World) (hB : Below w0.heap.size w0 w) (ho0 : Kd.R k61 61 w w0.heap.size P0_ u9000_ l0) (h : laws_markEntryS.f k l0 a1 = some (r1, r2)) :
    Calls Tryd.prog 38 #[u9000_, .int .i64 a1] w fun e w' => e = .returned (.int .i64 r1) ∧ Kd.R k61 61 w' w0.heap.size (fun k_ => (P0_ k_ ∨ w.heap.size ≤ k_)) u9000_ r2 ∧ Below w0.heap.size w0 w' ∧ Kept w w' (fun k_ => P0_ k_) := by
  have HO0 := AM (show Kd.R k61 61 w w0.heap.size (fun k_ => (P0_ k_ ∨ w.heap.size ≤ k_)) u9000_ l0 from Kd.R_mono ho0 (fun k_ hk => (.inl hk)))
  have HK := AM (Kept.refl w (fun k_ => P0_ k_))
  have HW0 := AM hB.size
  have HB := AM hB
  clear hB
  have H : (laws_markEntryS.l0 k l0 a1 0) = some (r1, r2) := h
  clear h
  have H' := AM H
  clear H
  go_enter Tryd.func38, Tryd.ntmps38
  go_wp2
  go_loopg [1, 5] k (fun kq v1 v5 w' => ∃ (x0_1 : List (S61)) (x1_1 : Int) (x5_1 : Int), v1 = .int .i64 x1_1 ∧ v5 = .int .i64 x5_1 ∧ Aside0 (laws_markEntryS.l0 kq x0_1 x1_1 x5_1 = some (r1, r2)) ∧ Aside0 (kq ≤ k) ∧ Aside0 (Kd.R k61 61 w' w0.heap.size (fun k_ => (P0_ k_ ∨ w.heap.size ≤ k_)) u9000_ x0_1) ∧ Aside0 (Kept w w' (fun k_ => P0_ k_)) ∧ Aside0 (Below w0.heap.size w0 w'))
  case atStart => exact ⟨(l0), (a1), (0), (by first | rfl | (simp; done) | (simp [*]; done)), (by first | rfl | (simp; done) | (simp [*]; done)), H', ⟨Nat.le_refl _⟩, ⟨ro_ HO0.out⟩, ⟨kt_⟩, ⟨bel_⟩⟩
  case round =>
    clear H'
    try clear p2
    obtain ⟨x0_1, x1_1, x5_1, rfl, rfl, HA, HK1, HO_0, HK, HB⟩ := hrel
    cases gk with
    | zero => exact absurd HA.out (by simp [laws_markEntryS.l0])
    | succ k1 =>
      have H := HA.out
      clear HA
      simp only [laws_markEntryS.l0] at H
      by_cases c3 : x5_1 < (x0_1.length : Int)
      · rw [if_pos c3] at H
        have c3b0 : decide (x5_1 < (x0_1.length : Int)) = true := decide_eq_true c3
        clear c3
        obtain ⟨t292, A4, H⟩ := OB H
        try dsimp only at H
        replace A4 := AM A4
        by_cases c5 : 0 ≤ x5_1
        · rw [if_pos c5] at H
          have c5b0 : decide (0 ≤ x5_1) = true := decide_eq_true c5
          clear c5
          obtain ⟨y293, hy293⟩ : ∃ y_ : List (S61), y_ = (x0_1.set (x5_1 : Int).toNat (⟨t292, (rd_T61 x0_1 x5_1).f1, (rd_T61 x0_1 x5_1).f2, (rd_T61 x0_1 x5_1).f3⟩ : S61)) := ⟨_, rfl⟩
          replace H : ((some (y293.set (x5_1 : Int).toNat (⟨(rd_T61 y293 x5_1).f0, wrap64 (x1_1 + 1), (rd_T61 y293 x5_1).f2, (rd_T61 y293 x5_1).f3⟩ : S61) : List (S61))).bind fun y294 => ((some (y294.set (x5_1 : Int).toNat (⟨(rd_T61 y294 x5_1).f0, (rd_T61 y294 x5_1).f1, wrap64 ((wrap64 (x1_1 + 1)) + 1), (rd_T61 y294 x5_1).f3⟩ : S61) : List (S61))).bind fun y295 => (laws_markEntryS.l0 k1 (y295.set (x5_1 : Int).toNat (⟨(rd_T61 y295 x5_1).f0, (rd_T61 y295 x5_1).f1, (rd_T61 y295 x5_1).f2, wrap64 ((wrap64 ((wrap64 (x1_1 + 1)) + 1)) + 1)⟩ : S61)) (wrap64 ((wrap64 ((wrap64 ((wrap64 (x1_1 + 1)) + 1)) + 1)) + 1)) (wrap64 (x5_1 + 1))))) = some (r1, r2) := by first | (rw [hy293]; with_reducible exact H) | (have H2_ := (Option.bind_some _ _).symm.trans H; rw [hy293]; with_reducible exact H2_) | (have H2_ := (Option.bind_some _ _).symm.trans H; with_reducible exact H2_) | with_reducible exact H | (rw [hy293]; exact H) | exact H
          have Ny293 := AM hy293
          clear hy293
          obtain ⟨y294, hy294⟩ : ∃ y_ : List (S61), y_ = (y293.set (x5_1 : Int).toNat (⟨(rd_T61 y293 x5_1).f0, wrap64 (x1_1 + 1), (rd_T61 y293 x5_1).f2, (rd_T61 y293 x5_1).f3⟩ : S61)) := ⟨_, rfl⟩
          replace H : ((some (y294.set (x5_1 : Int).toNat (⟨(rd_T61 y294 x5_1).f0, (rd_T61 y294 x5_1).f1, wrap64 ((wrap64 (x1_1 + 1)) + 1), (rd_T61 y294 x5_1).f3⟩ : S61) : List (S61))).bind fun y295 => (laws_markEntryS.l0 k1 (y295.set (x5_1 : Int).toNat (⟨(rd_T61 y295 x5_1).f0, (rd_T61 y295 x5_1).f1, (rd_T61 y295 x5_1).f2, wrap64 ((wrap64 ((wrap64 (x1_1 + 1)) + 1)) + 1)⟩ : S61)) (wrap64 ((wrap64 ((wrap64 ((wrap64 (x1_1 + 1)) + 1)) + 1)) + 1)) (wrap64 (x5_1 + 1)))) = some (r1, r2) := by first | (rw [hy294]; with_reducible exact H) | (have H2_ := (Option.bind_some _ _).symm.trans H; rw [hy294]; with_reducible exact H2_) | (have H2_ := (Option.bind_some _ _).symm.trans H; with_reducible exact H2_) | with_reducible exact H | (rw [hy294]; exact H) | exact H
          have Ny294 := AM hy294
          clear hy294
          obtain ⟨y295, hy295⟩ : ∃ y_ : List (S61), y_ = (y294.set (x5_1 : Int).toNat (⟨(rd_T61 y294 x5_1).f0, (rd_T61 y294 x5_1).f1, wrap64 ((wrap64 (x1_1 + 1)) + 1), (rd_T61 y294 x5_1).f3⟩ : S61)) := ⟨_, rfl⟩
          replace H : (laws_markEntryS.l0 k1 (y295.set (x5_1 : Int).toNat (⟨(rd_T61 y295 x5_1).f0, (rd_T61 y295 x5_1).f1, (rd_T61 y295 x5_1).f2, wrap64 ((wrap64 ((wrap64 (x1_1 + 1)) + 1)) + 1)⟩ : S61)) (wrap64 ((wrap64 ((wrap64 ((wrap64 (x1_1 + 1)) + 1)) + 1)) + 1)) (wrap64 (x5_1 + 1))) = some (r1, r2) := by first | (rw [hy295]; with_reducible exact H) | (have H2_ := (Option.bind_some _ _).symm.trans H; rw [hy295]; with_reducible exact H2_) | (have H2_ := (Option.bind_some _ _).symm.trans H; with_reducible exact H2_) | with_reducible exact H | (rw [hy295]; exact H) | exact H
          have Ny295 := AM hy295
          clear hy295
          obtain ⟨y296, hy296⟩ : ∃ y_ : List (S61), y_ = (y295.set (x5_1 : Int).toNat (⟨(rd_T61 y295 x5_1).f0, (rd_T61 y295 x5_1).f1, (rd_T61 y295 x5_1).f2, wrap64 ((wrap64 ((wrap64 (x1_1 + 1)) + 1)) + 1)⟩ : S61)) := ⟨_, rfl⟩
          replace H : (laws_markEntryS.l0 k1 y296 (wrap64 ((wrap64 ((wrap64 ((wrap64 (x1_1 + 1)) + 1)) + 1)) + 1)) (wrap64 (x5_1 + 1))) = some (r1, r2) := by first | (rw [hy296]; with_reducible exact H) | (have H2_ := (Option.bind_some _ _).symm.trans H; rw [hy296]; with_reducible exact H2_) | (have H2_ := (Option.bind_some _ _).symm.trans H; with_reducible exact H2_) | with_reducible exact H | (rw [hy296]; exact H) | exact H
          have Ny296 := AM hy296
          clear hy296
          have H' := AM H
          clear H
          obtain ⟨Ao10, co10, eo10⟩ := Kd.R_slice HO_0.out
          subst eo10
          go_wp2_with (first | ((with_reducible refine gate_callee (f := 86) rfl ?_); refine gl_ (some 15) Tryd.func86 #[.int .i64 x1_1] ?_; (with_reducible refine (laws_markText.calls k1 x1_1 t292 _ A4.out).mono ?_); rintro e w11 ⟨rfl, hb⟩; refine ⟨_, rfl, ?_⟩; replace HO_0 := AM (Kd.R_below (ro_ HO_0.out) hb); replace HK := AM (Kept.below (S := (fun k_ => P0_ k_)) kt_ hb); replace HB := AM (below_step bel_ hb); (try clear hb); (try clear hb2); (try clear hk); (try clear hi); have p6 : 0 ≤ (x5_1 : Int) := of_decide_eq_true (by first | (with_reducible assumption) | assumption); have q6 : (x5_1 : Int) < ((x0_1.length : Int) : Int) := of_decide_eq_true (by first | (with_reducible assumption) | assumption); obtain ⟨go6, co6, eo6, gb6, gl6, cl6, HG6⟩ := Kd.R_form HO_0.out (by omega); (first | cases eo6 | (injection eo6 with ea_ en_ ec_; (first | subst ea_ | (injection ea_ with ea_; subst ea_)); subst ec_; clear en_)); have GB6 := AM gb6; have GG6 := AM HG6; clear gb6 gl6 HG6; have HMgo6 := AM (show (P0_ go6 ∨ w.heap.size ≤ go6) from (HO_0.out.1 _ rfl)); obtain ⟨ce6, hcl6, hM6, hcc6, hfr6⟩ := Kd.R_elem HO_0.out z61 (x5_1 : Int) p6 q6; obtain rfl := k61_openM hM6; have hx6_0 : w11.cell? ⟨go6, (x5_1 : Int).toNat * 4, none⟩ = some (.string ((rd_T61 x0_1 x5_1).f0)) := hcc6 0 _ rfl; have hx6_1 : w11.cell? ⟨go6, (x5_1 : Int).toNat * 4 + 1, none⟩ = some (.int .i64 ((rd_T61 x0_1 x5_1).f1)) := hcc6 1 _ rfl; have hx6_2 : w11.cell? ⟨go6, (x5_1 : Int).toNat * 4 + 2, none⟩ = some (.int .i64 ((rd_T61 x0_1 x5_1).f2)) := hcc6 2 _ rfl; have hx6_3 : w11.cell? ⟨go6, (x5_1 : Int).toNat * 4 + 3, none⟩ = some (.int .i64 ((rd_T61 x0_1 x5_1).f3)) := hcc6 3 _ rfl; have hf6_0 : w11.frozen? ⟨go6, (x5_1 : Int).toNat * 4, none⟩ = false := hfr6 0; have hf6_1 : w11.frozen? ⟨go6, (x5_1 : Int).toNat * 4 + 1, none⟩ = false := hfr6 1; have hf6_2 : w11.frozen? ⟨go6, (x5_1 : Int).toNat * 4 + 2, none⟩ = false := hfr6 2; have hf6_3 : w11.frozen? ⟨go6, (x5_1 : Int).toNat * 4 + 3, none⟩ = false := hfr6 3; clear hcl6 hcc6 hfr6 hM6; replace p6 := eq_true p6; replace q6 := eq_true q6; have HX12 := AM (show Kd.R k61 61 w11 w0.heap.size (fun k_ => (P0_ k_ ∨ w.heap.size ≤ k_)) (.slice (some ⟨go6, 0, none⟩) x0_1.length co10) x0_1 from (ro_ HO_0.out)); obtain ⟨ce12, hcl12, hM12, hcc12, hfr12⟩ := Kd.R_elem HX12.out z61 (x5_1 : Int) (of_decide_eq_true (by first | (with_reducible assumption) | assumption)) (by have h_ : (x5_1 : Int) < ((x0_1.length : Int) : Int) := of_decide_eq_true (by first | (with_reducible assumption) | assumption); first | exact h_ | (have e_ := (Kd.R_reads' HO_0.out).1; omega) | simpa using h_); obtain rfl := k61_openM hM12; have HP12 := Kd.R_seg HX12.out (x5_1 : Int) (of_decide_eq_true (by first | (with_reducible assumption) | assumption)) (by have h_ : (x5_1 : Int) < ((x0_1.length : Int) : Int) := of_decide_eq_true (by first | (with_reducible assumption) | assumption); first | exact h_ | (have e_ := (Kd.R_reads' HO_0.out).1; omega) | simpa using h_) (seg := [.string t292]) (j := 0) hcl12 hcc12 (show 1 ≤ 4 from by decide) (x' := (⟨t292, (rd_T61 x0_1 x5_1).f1, (rd_T61 x0_1 x5_1).f2, (rd_T61 x0_1 x5_1).f3⟩ : S61)) (k61_mkM _ _ _ (⟨t292, (rd_T61 x0_1 x5_1).f1, (rd_T61 x0_1 x5_1).f2, (rd_T61 x0_1 x5_1).f3⟩ : S61) ) (fun _ hk => hk); have hx12_0 := hcc12 0 _ rfl; (try simp only [show (k61).sz = 4 from rfl, Nat.mul_one, Nat.add_zero] at hx12_0); have hf12_0 := hfr12 0; (try simp only [show (k61).sz = 4 from rfl, Nat.mul_one, Nat.add_zero] at hf12_0); clear hcl12 hcc12 hfr12 hM12) | ((with_reducible refine gate_store (t := 9) (p := 17) rfl ?_); refine store_event (t := 9) (p := 17) (v := ?vo_w13) (w1 := (w11.setCell ⟨go6, (x5_1 : Int).toNat * 4, none⟩ (.string t292))) ?hg ?ho ?hn ?hr ?_; (case ho => rfl); (case hg => rfl); (case hn => rfl); (case hr => first | (go_simp; done) | (go_simp; rfl)); intro w13 hw; have hg : w11.grownBy w13 (some go6) := (by rw [hw]; exact HP12.2); have hp_ : Kd.R k61 61 w13 w0.heap.size (fun k_ => (P0_ k_ ∨ w.heap.size ≤ k_)) (.slice (some ⟨go6, 0, none⟩) x0_1.length co10) y293 := (by rw [hw, Ny293.out]; exact HP12.1); clear HP12; replace HB := AM ((by rw [hw]; exact below_set (HB.out) GB6.out : Below w0.heap.size w0 w13)); replace HK := AM (Kept.of_grown (S := (fun k_ => P0_ k_)) hg kt_ (fun k_ e_ => (HO_0.out.1 k_ e_))); replace HO_0 := AM hp_; clear hg hw hp_; have p7 : 0 ≤ (x5_1 : Int) := of_decide_eq_true (by first | (with_reducible assumption) | assumption); have q7 : (x5_1 : Int) < ((x0_1.length : Int) : Int) := of_decide_eq_true (by first | (with_reducible assumption) | assumption); obtain ⟨ce7, hcl7, hM7, hcc7, hfr7⟩ := Kd.R_elem HO_0.out z61 (x5_1 : Int) p7 q7; obtain rfl := k61_openM hM7; have hx7_0 : w13.cell? ⟨go6, (x5_1 : Int).toNat * 4, none⟩ = some (.string ((rd_T61 y293 x5_1).f0)) := hcc7 0 _ rfl; have hx7_1 : w13.cell? ⟨go6, (x5_1 : Int).toNat * 4 + 1, none⟩ = some (.int .i64 ((rd_T61 y293 x5_1).f1)) := hcc7 1 _ rfl; have hx7_2 : w13.cell? ⟨go6, (x5_1 : Int).toNat * 4 + 2, none⟩ = some (.int .i64 ((rd_T61 y293 x5_1).f2)) := hcc7 2 _ rfl; have hx7_3 : w13.cell? ⟨go6, (x5_1 : Int).toNat * 4 + 3, none⟩ = some (.int .i64 ((rd_T61 y293 x5_1).f3)) := hcc7 3 _ rfl; have hf7_0 : w13.frozen? ⟨go6, (x5_1 : Int).toNat * 4, none⟩ = false := hfr7 0; have hf7_1 : w13.frozen? ⟨go6, (x5_1 : Int).toNat * 4 + 1, none⟩ = false := hfr7 1; have hf7_2 : w13.frozen? ⟨go6, (x5_1 : Int).toNat * 4 + 2, none⟩ = false := hfr7 2; have hf7_3 : w13.frozen? ⟨go6, (x5_1 : Int).toNat * 4 + 3, none⟩ = false := hfr7 3; clear hcl7 hcc7 hfr7 hM7; replace p7 := eq_true p7; replace q7 := eq_true q7; have HX14 := AM (show Kd.R k61 61 w13 w0.heap.size (fun k_ => (P0_ k_ ∨ w.heap.size ≤ k_)) (.slice (some ⟨go6, 0, none⟩) x0_1.length co10) y293 from (ro_ HO_0.out)); obtain ⟨ce14, hcl14, hM14, hcc14, hfr14⟩ := Kd.R_elem HX14.out z61 (x5_1 : Int) (of_decide_eq_true (by first | (with_reducible assumption) | assumption)) (by have h_ : (x5_1 : Int) < ((x0_1.length : Int) : Int) := of_decide_eq_true (by first | (with_reducible assumption) | assumption); first | exact h_ | (have e_ := (Kd.R_reads' HO_0.out).1; omega) | simpa using h_); obtain rfl := k61_openM hM14; have HP14 := Kd.R_seg HX14.out (x5_1 : Int) (of_decide_eq_true (by first | (with_reducible assumption) | assumption)) (by have h_ : (x5_1 : Int) < ((x0_1.length : Int) : Int) := of_decide_eq_true (by first | (with_reducible assumption) | assumption); first | exact h_ | (have e_ := (Kd.R_reads' HO_0.out).1; omega) | simpa using h_) (seg := [.int .i64 (wrap64 (x1_1 + 1))]) (j := 1) hcl14 hcc14 (show 2 ≤ 4 from by decide) (x' := (⟨(rd_T61 y293 x5_1).f0, wrap64 (x1_1 + 1), (rd_T61 y293 x5_1).f2, (rd_T61 y293 x5_1).f3⟩ : S61)) (k61_mkM _ _ _ (⟨(rd_T61 y293 x5_1).f0, wrap64 (x1_1 + 1), (rd_T61 y293 x5_1).f2, (rd_T61 y293 x5_1).f3⟩ : S61) ) (fun _ hk => hk); have hx14_1 := hcc14 1 _ rfl; (try simp only [show (k61).sz = 4 from rfl, Nat.mul_one, Nat.add_zero] at hx14_1); have hf14_1 := hfr14 1; (try simp only [show (k61).sz = 4 from rfl, Nat.mul_one, Nat.add_zero] at hf14_1); clear hcl14 hcc14 hfr14 hM14) | ((with_reducible refine gate_store (t := 2) (p := 24) rfl ?_); refine store_event (t := 2) (p := 24) (v := ?vo_w15) (w1 := (w13.setCell ⟨go6, (x5_1 : Int).toNat * 4 + 1, none⟩ (.int .i64 (wrap64 (x1_1 + 1))))) ?hg ?ho ?hn ?hr ?_; (case ho => rfl); (case hg => rfl); (case hn => rfl); (case hr => first | (go_simp; done) | (go_simp; rfl)); intro w15 hw; have hg : w13.grownBy w15 (some go6) := (by rw [hw]; exact HP14.2); have hp_ : Kd.R k61 61 w15 w0.heap.size (fun k_ => (P0_ k_ ∨ w.heap.size ≤ k_)) (.slice (some ⟨go6, 0, none⟩) x0_1.length co10) y294 := (by rw [hw, Ny294.out]; exact HP14.1); clear HP14; replace HB := AM ((by rw [hw]; exact below_set (HB.out) GB6.out : Below w0.heap.size w0 w15)); replace HK := AM (Kept.of_grown (S := (fun k_ => P0_ k_)) hg kt_ (fun k_ e_ => (HO_0.out.1 k_ e_))); replace HO_0 := AM hp_; clear hg hw hp_; have p8 : 0 ≤ (x5_1 : Int) := of_decide_eq_true (by first | (with_reducible assumption) | assumption); have q8 : (x5_1 : Int) < ((x0_1.length : Int) : Int) := of_decide_eq_true (by first | (with_reducible assumption) | assumption); obtain ⟨ce8, hcl8, hM8, hcc8, hfr8⟩ := Kd.R_elem HO_0.out z61 (x5_1 : Int) p8 q8; obtain rfl := k61_openM hM8; have hx8_0 : w15.cell? ⟨go6, (x5_1 : Int).toNat * 4, none⟩ = some (.string ((rd_T61 y294 x5_1).f0)) := hcc8 0 _ rfl; have hx8_1 : w15.cell? ⟨go6, (x5_1 : Int).toNat * 4 + 1, none⟩ = some (.int .i64 ((rd_T61 y294 x5_1).f1)) := hcc8 1 _ rfl; have hx8_2 : w15.cell? ⟨go6, (x5_1 : Int).toNat * 4 + 2, none⟩ = some (.int .i64 ((rd_T61 y294 x5_1).f2)) := hcc8 2 _ rfl; have hx8_3 : w15.cell? ⟨go6, (x5_1 : Int).toNat * 4 + 3, none⟩ = some (.int .i64 ((rd_T61 y294 x5_1).f3)) := hcc8 3 _ rfl; have hf8_0 : w15.frozen? ⟨go6, (x5_1 : Int).toNat * 4, none⟩ = false := hfr8 0; have hf8_1 : w15.frozen? ⟨go6, (x5_1 : Int).toNat * 4 + 1, none⟩ = false := hfr8 1; have hf8_2 : w15.frozen? ⟨go6, (x5_1 : Int).toNat * 4 + 2, none⟩ = false := hfr8 2; have hf8_3 : w15.frozen? ⟨go6, (x5_1 : Int).toNat * 4 + 3, none⟩ = false := hfr8 3; clear hcl8 hcc8 hfr8 hM8; replace p8 := eq_true p8; replace q8 := eq_true q8; have HX16 := AM (show Kd.R k61 61 w15 w0.heap.size (fun k_ => (P0_ k_ ∨ w.heap.size ≤ k_)) (.slice (some ⟨go6, 0, none⟩) x0_1.length co10) y294 from (ro_ HO_0.out)); obtain ⟨ce16, hcl16, hM16, hcc16, hfr16⟩ := Kd.R_elem HX16.out z61 (x5_1 : Int) (of_decide_eq_true (by first | (with_reducible assumption) | assumption)) (by have h_ : (x5_1 : Int) < ((x0_1.length : Int) : Int) := of_decide_eq_true (by first | (with_reducible assumption) | assumption); first | exact h_ | (have e_ := (Kd.R_reads' HO_0.out).1; omega) | simpa using h_); obtain rfl := k61_openM hM16; have HP16 := Kd.R_seg HX16.out (x5_1 : Int) (of_decide_eq_true (by first | (with_reducible assumption) | assumption)) (by have h_ : (x5_1 : Int) < ((x0_1.length : Int) : Int) := of_decide_eq_true (by first | (with_reducible assumption) | assumption); first | exact h_ | (have e_ := (Kd.R_reads' HO_0.out).1; omega) | simpa using h_) (seg := [.int .i64 (wrap64 ((wrap64 (x1_1 + 1)) + 1))]) (j := 2) hcl16 hcc16 (show 3 ≤ 4 from by decide) (x' := (⟨(rd_T61 y294 x5_1).f0, (rd_T61 y294 x5_1).f1, wrap64 ((wrap64 (x1_1 + 1)) + 1), (rd_T61 y294 x5_1).f3⟩ : S61)) (k61_mkM _ _ _ (⟨(rd_T61 y294 x5_1).f0, (rd_T61 y294 x5_1).f1, wrap64 ((wrap64 (x1_1 + 1)) + 1), (rd_T61 y294 x5_1).f3⟩ : S61) ) (fun _ hk => hk); have hx16_2 := hcc16 2 _ rfl; (try simp only [show (k61).sz = 4 from rfl, Nat.mul_one, Nat.add_zero] at hx16_2); have hf16_2 := hfr16 2; (try simp only [show (k61).sz = 4 from rfl, Nat.mul_one, Nat.add_zero] at hf16_2); clear hcl16 hcc16 hfr16 hM16) | ((with_reducible refine gate_store (t := 2) (p := 31) rfl ?_); refine store_event (t := 2) (p := 31) (v := ?vo_w17) (w1 := (w15.setCell ⟨go6, (x5_1 : Int).toNat * 4 + 2, none⟩ (.int .i64 (wrap64 ((wrap64 (x1_1 + 1)) + 1))))) ?hg ?ho ?hn ?hr ?_; (case ho => rfl); (case hg => rfl); (case hn => rfl); (case hr => first | (go_simp; done) | (go_simp; rfl)); intro w17 hw; have hg : w15.grownBy w17 (some go6) := (by rw [hw]; exact HP16.2); have hp_ : Kd.R k61 61 w17 w0.heap.size (fun k_ => (P0_ k_ ∨ w.heap.size ≤ k_)) (.slice (some ⟨go6, 0, none⟩) x0_1.length co10) y295 := (by rw [hw, Ny295.out]; exact HP16.1); clear HP16; replace HB := AM ((by rw [hw]; exact below_set (HB.out) GB6.out : Below w0.heap.size w0 w17)); replace HK := AM (Kept.of_grown (S := (fun k_ => P0_ k_)) hg kt_ (fun k_ e_ => (HO_0.out.1 k_ e_))); replace HO_0 := AM hp_; clear hg hw hp_; have p9 : 0 ≤ (x5_1 : Int) := of_decide_eq_true (by first | (with_reducible assumption) | assumption); have q9 : (x5_1 : Int) < ((x0_1.length : Int) : Int) := of_decide_eq_true (by first | (with_reducible assumption) | assumption); obtain ⟨ce9, hcl9, hM9, hcc9, hfr9⟩ := Kd.R_elem HO_0.out z61 (x5_1 : Int) p9 q9; obtain rfl := k61_openM hM9; have hx9_0 : w17.cell? ⟨go6, (x5_1 : Int).toNat * 4, none⟩ = some (.string ((rd_T61 y295 x5_1).f0)) := hcc9 0 _ rfl; have hx9_1 : w17.cell? ⟨go6, (x5_1 : Int).toNat * 4 + 1, none⟩ = some (.int .i64 ((rd_T61 y295 x5_1).f1)) := hcc9 1 _ rfl; have hx9_2 : w17.cell? ⟨go6, (x5_1 : Int).toNat * 4 + 2, none⟩ = some (.int .i64 ((rd_T61 y295 x5_1).f2)) := hcc9 2 _ rfl; have hx9_3 : w17.cell? ⟨go6, (x5_1 : Int).toNat * 4 + 3, none⟩ = some (.int .i64 ((rd_T61 y295 x5_1).f3)) := hcc9 3 _ rfl; have hf9_0 : w17.frozen? ⟨go6, (x5_1 : Int).toNat * 4, none⟩ = false := hfr9 0; have hf9_1 : w17.frozen? ⟨go6, (x5_1 : Int).toNat * 4 + 1, none⟩ = false := hfr9 1; have hf9_2 : w17.frozen? ⟨go6, (x5_1 : Int).toNat * 4 + 2, none⟩ = false := hfr9 2; have hf9_3 : w17.frozen? ⟨go6, (x5_1 : Int).toNat * 4 + 3, none⟩ = false := hfr9 3; clear hcl9 hcc9 hfr9 hM9; replace p9 := eq_true p9; replace q9 := eq_true q9; have HX18 := AM (show Kd.R k61 61 w17 w0.heap.size (fun k_ => (P0_ k_ ∨ w.heap.size ≤ k_)) (.slice (some ⟨go6, 0, none⟩) x0_1.length co10) y295 from (ro_ HO_0.out)); obtain ⟨ce18, hcl18, hM18, hcc18, hfr18⟩ := Kd.R_elem HX18.out z61 (x5_1 : Int) (of_decide_eq_true (by first | (with_reducible assumption) | assumption)) (by have h_ : (x5_1 : Int) < ((x0_1.length : Int) : Int) := of_decide_eq_true (by first | (with_reducible assumption) | assumption); first | exact h_ | (have e_ := (Kd.R_reads' HO_0.out).1; omega) | simpa using h_); obtain rfl := k61_openM hM18; have HP18 := Kd.R_seg HX18.out (x5_1 : Int) (of_decide_eq_true (by first | (with_reducible assumption) | assumption)) (by have h_ : (x5_1 : Int) < ((x0_1.length : Int) : Int) := of_decide_eq_true (by first | (with_reducible assumption) | assumption); first | exact h_ | (have e_ := (Kd.R_reads' HO_0.out).1; omega) | simpa using h_) (seg := [.int .i64 (wrap64 ((wrap64 ((wrap64 (x1_1 + 1)) + 1)) + 1))]) (j := 3) hcl18 hcc18 (show 4 ≤ 4 from by decide) (x' := (⟨(rd_T61 y295 x5_1).f0, (rd_T61 y295 x5_1).f1, (rd_T61 y295 x5_1).f2, wrap64 ((wrap64 ((wrap64 (x1_1 + 1)) + 1)) + 1)⟩ : S61)) (k61_mkM _ _ _ (⟨(rd_T61 y295 x5_1).f0, (rd_T61 y295 x5_1).f1, (rd_T61 y295 x5_1).f2, wrap64 ((wrap64 ((wrap64 (x1_1 + 1)) + 1)) + 1)⟩ : S61) ) (fun _ hk => hk); have hx18_3 := hcc18 3 _ rfl; (try simp only [show (k61).sz = 4 from rfl, Nat.mul_one, Nat.add_zero] at hx18_3); have hf18_3 := hfr18 3; (try simp only [show (k61).sz = 4 from rfl, Nat.mul_one, Nat.add_zero] at hf18_3); clear hcl18 hcc18 hfr18 hM18) | ((with_reducible refine gate_store (t := 2) (p := 38) rfl ?_); refine store_event (t := 2) (p := 38) (v := ?vo_w19) (w1 := (w17.setCell ⟨go6, (x5_1 : Int).toNat * 4 + 3, none⟩ (.int .i64 (wrap64 ((wrap64 ((wrap64 (x1_1 + 1)) + 1)) + 1))))) ?hg ?ho ?hn ?hr ?_; (case ho => rfl); (case hg => rfl); (case hn => rfl); (case hr => first | (go_simp; done) | (go_simp; rfl)); intro w19 hw; have hg : w17.grownBy w19 (some go6) := (by rw [hw]; exact HP18.2); have hp_ : Kd.R k61 61 w19 w0.heap.size (fun k_ => (P0_ k_ ∨ w.heap.size ≤ k_)) (.slice (some ⟨go6, 0, none⟩) x0_1.length co10) y296 := (by rw [hw, Ny296.out]; exact HP18.1); clear HP18; replace HB := AM ((by rw [hw]; exact below_set (HB.out) GB6.out : Below w0.heap.size w0 w19)); replace HK := AM (Kept.of_grown (S := (fun k_ => P0_ k_)) hg kt_ (fun k_ e_ => (HO_0.out.1 k_ e_))); replace HO_0 := AM hp_; clear hg hw hp_))
          go_roundg k1
          case measure => have := HK1.out; omega
          case rel => exact ⟨(y296), (wrap64 ((wrap64 ((wrap64 ((wrap64 (x1_1 + 1)) + 1)) + 1)) + 1)), (wrap64 (x5_1 + 1)), (by first | rfl | (simp; done) | (simp [*]; done)), (by first | rfl | (simp; done) | (simp [*]; done)), H', ⟨by have := HK1.out; omega⟩, ⟨ro_ HO_0.out⟩, ⟨kt_⟩, ⟨bel_⟩⟩
        · rw [if_neg c5] at H
          exact absurd H (by simp)
      · rw [if_neg c3] at H
        have c3b0 : decide (x5_1 < (x0_1.length : Int)) = false := decide_eq_false c3
        clear c3
        simp only [Option.some.injEq, Prod.mk.injEq] at H
        obtain ⟨rfl, rfl⟩ := H
        obtain ⟨Ao20, co20, eo20⟩ := Kd.R_slice HO_0.out
        subst eo20
        go_wp2
        go_ret
        exact ⟨ri_, ro_ HO_0.out, bel_, kt_⟩

end Go.Proofs.YtddapeieolfolaaDoor.PFnExactPackScan
