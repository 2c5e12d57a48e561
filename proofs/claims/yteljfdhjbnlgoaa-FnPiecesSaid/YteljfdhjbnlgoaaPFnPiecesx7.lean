/- Functions of the law FnPieces: the print's, with walks of this session's own. No statement is proved here. -/
import Derived.WalkLawsBesides
import Derived.Test.YteljfdhjbnlgoaaReg
-- A program of this session wrote this text: a changed copy of the kit print, with given functions.
import Derived.Test.YteljfdhjbnlgoaaPFnPiecesx0
import Derived.Test.YteljfdhjbnlgoaaPFnPiecesx5
import Derived.Test.YteljfdhjbnlgoaaPFnPiecesx6
namespace Go.Proofs.Yteljfdhjbnlgoaa.PFnPieces
open Go.RowKit Go.Proofs.YteljfdhjbnlgoaaW.PrintWords Go.Proofs.YteljfdhjbnlgoaaW.PrintLast Go.Proofs.YteljfdhjbnlgoaaW.PrintMore Go.Proofs.Yteljfdhjbnlgoaa.Reg
attribute [local go_sem] max2_int min2_int max_two min_two max_three min_three max_four min_four   -- for this text's walks alone
set_option linter.unusedVariables false
set_option linter.unusedSimpArgs false

/-! ### spec_l06Cut: function 149 -/
def spec_l06Cut.l0 : Nat → ByteArray → Int → Int → Int → Int → Option (Int)
  | 0, _, _, _, _, _ => none
  | k + 1, x1, x5, x6, x7, x8 => if x8 < x5 then (if (Go.bits .and .i64 x7 x6) = x6 then (some x8) else (if 0 ≤ (wrap64 (x8 - 16)) then (if (wrap64 (x8 - 16)) < (x1.size : Int) then ((spec_l06Out.f k (wrap64 (bt x1 (wrap64 (x8 - 16))))).bind fun t235 => (if 0 ≤ x8 then (if x8 < (x1.size : Int) then ((spec_l06Shift.f k (Go.bits .xor .i64 x7 t235) (wrap64 (bt x1 x8))).bind fun t236 => (spec_l06Cut.l0 k x1 x5 x6 t236 (wrap64 (x8 + 1)))) else (none)) else (none))) else (none)) else (none))) else (some x5)
def spec_l06Cut.f (k : Nat) (a0_0 : Int) (a0_1 : Int) (a0_2 : Int) (a1 : ByteArray) : Option (Int) := (spec_l01Min.f a0_2 (a1.size : Int)).bind fun t233 => (if t233 < a0_0 then (some t233) else (if 0 ≤ (IntKind.u64.wrap (a0_1)) then (if 0 ≤ (wrap64 (a0_0 - 16)) then (if (wrap64 (a0_0 - 16)) ≤ a0_0 then (if a0_0 ≤ (a1.size : Int) then ((spec_l06Of.f k (a1.extract ((wrap64 (a0_0 - 16)) : Int).toNat (a0_0 : Int).toNat)).bind fun t234 => (spec_l06Cut.l0 k a1 t233 (wrap64 ((shl .i64 1 (IntKind.u64.wrap (a0_1))) - 1)) t234 a0_0)) else (none)) else (none)) else (none)) else (none)))
theorem spec_l06Cut.mono_l : ∀ k, (∀ y0 y1 y2 y3 y4, LeO (spec_l06Cut.l0 k y0 y1 y2 y3 y4) (spec_l06Cut.l0 (k + 1) y0 y1 y2 y3 y4))
  | 0 => fun _ _ _ _ _ r h => by simp [spec_l06Cut.l0] at h
  | k + 1 => by
    have ih0 := spec_l06Cut.mono_l k
    · intro y0 y1 y2 y3 y4
      unfold spec_l06Cut.l0
      repeat' first
      | (with_reducible exact ih0 _ _ _ _ _)
      | (with_reducible exact spec_l06Of.mono _ _)
      | (with_reducible exact spec_l06Out.mono _ _)
      | (with_reducible exact spec_l06Shift.mono _ _ _)
      | (with_reducible exact LeO.refl _)
      | (with_reducible exact LeO.none _)
      | (with_reducible refine LeO.ite ?_ ?_)
      | (with_reducible refine LeO.bind ?_ (fun _ => ?_))
      | exact ih0 _ _ _ _ _
      | exact spec_l06Of.mono _ _
      | exact spec_l06Out.mono _ _
      | exact spec_l06Shift.mono _ _ _
      | exact LeO.none _
      | refine LeO.ite ?_ ?_
      | refine LeO.bind ?_ (fun _ => ?_)
theorem spec_l06Cut.mono : ∀ a0 a1 a2 a3 k, LeO (spec_l06Cut.f k a0 a1 a2 a3) (spec_l06Cut.f (k + 1) a0 a1 a2 a3) := by
  intro a0 a1 a2 a3 k
  have ih0 := spec_l06Cut.mono_l k
  unfold spec_l06Cut.f
  repeat' first
      | (with_reducible exact ih0 _ _ _ _ _)
      | (with_reducible exact spec_l06Of.mono _ _)
      | (with_reducible exact spec_l06Out.mono _ _)
      | (with_reducible exact spec_l06Shift.mono _ _ _)
      | (with_reducible exact LeO.refl _)
      | (with_reducible exact LeO.none _)
      | (with_reducible refine LeO.ite ?_ ?_)
      | (with_reducible refine LeO.bind ?_ (fun _ => ?_))
      | exact ih0 _ _ _ _ _
      | exact spec_l06Of.mono _ _
      | exact spec_l06Out.mono _ _
      | exact spec_l06Shift.mono _ _ _
      | exact LeO.none _
      | refine LeO.ite ?_ ?_
      | refine LeO.bind ?_ (fun _ => ?_)
set_option maxHeartbeats 8000000 in
set_option maxRecDepth 100000 in
theorem spec_l06Cut.calls (k : Nat) (a0_0 : Int) (a0_1 : Int) (a0_2 : Int) (a1 : ByteArray) (r : Int) (w : World) (h : spec_l06Cut.f k a0_0 a0_1 a0_2 a1 = some r) :
    Calls Try.prog 149 #[.agg #[.int .i64 a0_0, .int .i64 a0_1, .int .i64 a0_2], .string a1] w fun e w' => e = .returned (.int .i64 r) ∧ Below w.heap.size w w' := by
  have hu40 := Try.underlying40
  have HB := Aside0.mk (Below.refl w.heap.size w)
  have H : ((spec_l01Min.f a0_2 (a1.size : Int)).bind fun t233 => (if t233 < a0_0 then (some t233) else (if 0 ≤ (IntKind.u64.wrap (a0_1)) then (if 0 ≤ (wrap64 (a0_0 - 16)) then (if (wrap64 (a0_0 - 16)) ≤ a0_0 then (if a0_0 ≤ (a1.size : Int) then ((spec_l06Of.f k (a1.extract ((wrap64 (a0_0 - 16)) : Int).toNat (a0_0 : Int).toNat)).bind fun t234 => (spec_l06Cut.l0 k a1 t233 (wrap64 ((shl .i64 1 (IntKind.u64.wrap (a0_1))) - 1)) t234 a0_0)) else (none)) else (none)) else (none)) else (none)))) = some r := h
  clear h
  replace H := Option.bind_eq_some_iff.mp H
  obtain ⟨t233, A30, H⟩ := H
  replace H : (if t233 < a0_0 then (some t233) else (if 0 ≤ (IntKind.u64.wrap (a0_1)) then (if 0 ≤ (wrap64 (a0_0 - 16)) then (if (wrap64 (a0_0 - 16)) ≤ a0_0 then (if a0_0 ≤ (a1.size : Int) then ((spec_l06Of.f k (a1.extract ((wrap64 (a0_0 - 16)) : Int).toNat (a0_0 : Int).toNat)).bind fun t234 => (spec_l06Cut.l0 k a1 t233 (wrap64 ((shl .i64 1 (IntKind.u64.wrap (a0_1))) - 1)) t234 a0_0)) else (none)) else (none)) else (none)) else (none))) = some r := H
  have A3 := Aside0.mk A30
  clear A30
  by_cases c4 : t233 < a0_0
  · rw [if_pos c4] at H
    have c4b0 : decide (t233 < a0_0) = true := decide_eq_true c4
    clear c4
    obtain rfl := Option.some.inj H
    go_enter Try.func149, Try.ntmps149
    go_wp2_with (first | ((with_reducible refine gate_dst (N := 2) rfl ?_); refine box_event ?hg (N := 2) ?hd (cs := #[.int .i64 a0_0, .int .i64 a0_1, .int .i64 a0_2]) (t := 40) ?hr ?_; (case hd => rfl); (case hg => rfl); (case hr => first | (go_simp; done) | (go_simp; rfl)); intro gb232 hg w5 hbox hb; have n0_ := Aside0.mk (below_step (by repeat (first | (with_reducible first | exact HB.out | apply below_alloc | apply pw_below_drewN | apply below_drew1) | exact HB.out)) hb); have n1_ := Aside0.mk (hbox); have n2_ := Aside0.mk ((by rw [hg]; exact (below_size (by repeat (first | (with_reducible first | exact HB.out | apply below_alloc | apply pw_below_drewN | apply below_drew1) | exact HB.out))) : w.heap.size ≤ gb232)); have n3_ := Aside0.mk ((by rw [hg]; exact (below_size (by repeat (first | (with_reducible first | exact HB.out | apply below_alloc | apply pw_below_drewN | apply below_drew1) | exact HB.out))) : w.heap.size ≤ gb232)); clear HB; have HB := n0_; have BK232 := n1_; have GW232 := n2_; have GE232 := n3_; clear n0_ n1_ n2_ n3_; clear hb hbox hg; have hcz6_0 : w5.cell? ⟨gb232, 0, none⟩ = some (.int .i64 a0_0) := (blk_cell BK232.out 0).trans rfl; have hcz6_1 : w5.cell? ⟨gb232, 1, none⟩ = some (.int .i64 a0_1) := (blk_cell BK232.out 1).trans rfl; have hcz6_2 : w5.cell? ⟨gb232, 2, none⟩ = some (.int .i64 a0_2) := (blk_cell BK232.out 2).trans rfl; have hfz6_0 := blk_frozen BK232.out 0; have hfz6_1 := blk_frozen BK232.out 1; have hfz6_2 := blk_frozen BK232.out 2) | (go_at_call 175; (with_reducible refine (spec_l01Min.calls a0_2 (a1.size : Int) t233 _ A3.out).mono ?_); rintro e w' ⟨rfl, ⟨nd, rfl⟩⟩; (try first | exact ⟨rfl, _, World.drewN_drewN _ _ _⟩ | exact ⟨rfl, _, Eq.trans (World.drewN_drewN _ _ _) (congrArg (World.drewN _) (Nat.add_assoc _ _ _))⟩)))
    repeat (go_quiet (first | ((with_reducible refine gate_dst (N := 2) rfl ?_); refine box_event ?hg (N := 2) ?hd (cs := #[.int .i64 a0_0, .int .i64 a0_1, .int .i64 a0_2]) (t := 40) ?hr ?_; (case hd => rfl); (case hg => rfl); (case hr => first | (go_simp; done) | (go_simp; rfl)); intro gb232 hg w5 hbox hb; have n0_ := Aside0.mk (below_step (by repeat (first | (with_reducible first | exact HB.out | apply below_alloc | apply pw_below_drewN | apply below_drew1) | exact HB.out)) hb); have n1_ := Aside0.mk (hbox); have n2_ := Aside0.mk ((by rw [hg]; exact (below_size (by repeat (first | (with_reducible first | exact HB.out | apply below_alloc | apply pw_below_drewN | apply below_drew1) | exact HB.out))) : w.heap.size ≤ gb232)); have n3_ := Aside0.mk ((by rw [hg]; exact (below_size (by repeat (first | (with_reducible first | exact HB.out | apply below_alloc | apply pw_below_drewN | apply below_drew1) | exact HB.out))) : w.heap.size ≤ gb232)); clear HB; have HB := n0_; have BK232 := n1_; have GW232 := n2_; have GE232 := n3_; clear n0_ n1_ n2_ n3_; clear hb hbox hg; have hcz6_0 : w5.cell? ⟨gb232, 0, none⟩ = some (.int .i64 a0_0) := (blk_cell BK232.out 0).trans rfl; have hcz6_1 : w5.cell? ⟨gb232, 1, none⟩ = some (.int .i64 a0_1) := (blk_cell BK232.out 1).trans rfl; have hcz6_2 : w5.cell? ⟨gb232, 2, none⟩ = some (.int .i64 a0_2) := (blk_cell BK232.out 2).trans rfl; have hfz6_0 := blk_frozen BK232.out 0; have hfz6_1 := blk_frozen BK232.out 1; have hfz6_2 := blk_frozen BK232.out 2) | (go_at_call 175; (with_reducible refine (spec_l01Min.calls a0_2 (a1.size : Int) t233 _ A3.out).mono ?_); rintro e w' ⟨rfl, ⟨nd, rfl⟩⟩; (try first | exact ⟨rfl, _, World.drewN_drewN _ _ _⟩ | exact ⟨rfl, _, Eq.trans (World.drewN_drewN _ _ _) (congrArg (World.drewN _) (Nat.add_assoc _ _ _))⟩))); try go_wp2_with (first | ((with_reducible refine gate_dst (N := 2) rfl ?_); refine box_event ?hg (N := 2) ?hd (cs := #[.int .i64 a0_0, .int .i64 a0_1, .int .i64 a0_2]) (t := 40) ?hr ?_; (case hd => rfl); (case hg => rfl); (case hr => first | (go_simp; done) | (go_simp; rfl)); intro gb232 hg w5 hbox hb; have n0_ := Aside0.mk (below_step (by repeat (first | (with_reducible first | exact HB.out | apply below_alloc | apply pw_below_drewN | apply below_drew1) | exact HB.out)) hb); have n1_ := Aside0.mk (hbox); have n2_ := Aside0.mk ((by rw [hg]; exact (below_size (by repeat (first | (with_reducible first | exact HB.out | apply below_alloc | apply pw_below_drewN | apply below_drew1) | exact HB.out))) : w.heap.size ≤ gb232)); have n3_ := Aside0.mk ((by rw [hg]; exact (below_size (by repeat (first | (with_reducible first | exact HB.out | apply below_alloc | apply pw_below_drewN | apply below_drew1) | exact HB.out))) : w.heap.size ≤ gb232)); clear HB; have HB := n0_; have BK232 := n1_; have GW232 := n2_; have GE232 := n3_; clear n0_ n1_ n2_ n3_; clear hb hbox hg; have hcz6_0 : w5.cell? ⟨gb232, 0, none⟩ = some (.int .i64 a0_0) := (blk_cell BK232.out 0).trans rfl; have hcz6_1 : w5.cell? ⟨gb232, 1, none⟩ = some (.int .i64 a0_1) := (blk_cell BK232.out 1).trans rfl; have hcz6_2 : w5.cell? ⟨gb232, 2, none⟩ = some (.int .i64 a0_2) := (blk_cell BK232.out 2).trans rfl; have hfz6_0 := blk_frozen BK232.out 0; have hfz6_1 := blk_frozen BK232.out 1; have hfz6_2 := blk_frozen BK232.out 2) | (go_at_call 175; (with_reducible refine (spec_l01Min.calls a0_2 (a1.size : Int) t233 _ A3.out).mono ?_); rintro e w' ⟨rfl, ⟨nd, rfl⟩⟩; (try first | exact ⟨rfl, _, World.drewN_drewN _ _ _⟩ | exact ⟨rfl, _, Eq.trans (World.drewN_drewN _ _ _) (congrArg (World.drewN _) (Nat.add_assoc _ _ _))⟩))))
    go_ret
    exact ⟨by first | rfl | (simp [errW_none, errW_some] <;> rfl) | (simp [*, errW_none, errW_some] <;> rfl), by repeat (first | (with_reducible first | exact HB.out | apply below_alloc | apply pw_below_drewN | apply below_drew1 | refine below_set ?_ GE232.out) | exact HB.out)⟩
  · rw [if_neg c4] at H
    have c4b0 : decide (t233 < a0_0) = false := decide_eq_false c4
    clear c4
    obtain ⟨ji7, hji7⟩ : ∃ j_ : Int, (IntKind.u64.wrap (a0_1)) = j_ := ⟨_, rfl⟩
    replace H : (if 0 ≤ (ji7) then (if 0 ≤ (wrap64 (a0_0 - 16)) then (if (wrap64 (a0_0 - 16)) ≤ a0_0 then (if a0_0 ≤ (a1.size : Int) then ((spec_l06Of.f k (a1.extract ((wrap64 (a0_0 - 16)) : Int).toNat (a0_0 : Int).toNat)).bind fun t234 => (spec_l06Cut.l0 k a1 t233 (wrap64 ((shl .i64 1 (ji7)) - 1)) t234 a0_0)) else (none)) else (none)) else (none)) else (none)) = some r := by first | (rw [hji7] at H; exact H) | (simp only [hji7] at H ⊢; exact H)
    (try rw [hji7] at A3)
    by_cases c8 : 0 ≤ (ji7)
    · rw [if_pos c8] at H
      have c8b0 := eq_true c8
      have c8b1 : decide (0 ≤ (ji7)) = true := decide_eq_true c8
      clear c8
      obtain ⟨ji9, hji9⟩ : ∃ j_ : Int, (shl .i64 1 (ji7)) = j_ := ⟨_, rfl⟩
      replace H : (if 0 ≤ (wrap64 (a0_0 - 16)) then (if (wrap64 (a0_0 - 16)) ≤ a0_0 then (if a0_0 ≤ (a1.size : Int) then ((spec_l06Of.f k (a1.extract ((wrap64 (a0_0 - 16)) : Int).toNat (a0_0 : Int).toNat)).bind fun t234 => (spec_l06Cut.l0 k a1 t233 (wrap64 ((ji9) - 1)) t234 a0_0)) else (none)) else (none)) else (none)) = some r := by first | (rw [hji9] at H; exact H) | (simp only [hji9] at H ⊢; exact H)
      (try rw [hji9] at A3)
      have hji9_ : (IntKind.i64.wrap (1 * 2 ^ min (ji7).toNat 64)) = ji9 := hji9
      have hji9z : (ji7) ≤ 64 → (IntKind.i64.wrap (1 * 2 ^ (ji7).toNat)) = ji9 := shl_small hji9
      have hji9u : (IntKind.i64.wrap (2 ^ min (ji7).toNat 64)) = ji9 := by have h_ := hji9_; rw [Int.one_mul] at h_; exact h_
      have hji9v : (ji7) ≤ 64 → (IntKind.i64.wrap (2 ^ (ji7).toNat)) = ji9 := fun hle_ => by have h_ := hji9z hle_; rw [Int.one_mul] at h_; exact h_
      have hji9y : (wrap64 (1 * 2 ^ min (ji7).toNat 64)) = ji9 := (i64_w _).symm.trans hji9_
      have hji9x : (ji7) ≤ 64 → (wrap64 (1 * 2 ^ (ji7).toNat)) = ji9 := fun h_ => (i64_w _).symm.trans (hji9z h_)
      obtain ⟨ji10, hji10⟩ : ∃ j_ : Int, (wrap64 (a0_0 - 16)) = j_ := ⟨_, rfl⟩
      replace H : (if 0 ≤ (ji10) then (if (ji10) ≤ a0_0 then (if a0_0 ≤ (a1.size : Int) then ((spec_l06Of.f k (a1.extract ((ji10) : Int).toNat (a0_0 : Int).toNat)).bind fun t234 => (spec_l06Cut.l0 k a1 t233 (wrap64 ((ji9) - 1)) t234 a0_0)) else (none)) else (none)) else (none)) = some r := by first | (rw [hji10] at H; exact H) | (simp only [hji10] at H ⊢; exact H)
      (try rw [hji10] at A3)
      have hji10w : (IntKind.i64.wrap (a0_0 - 16)) = ji10 := (i64_w _).trans hji10
      by_cases c11 : 0 ≤ (ji10)
      · rw [if_pos c11] at H
        have c11b0 := eq_true c11
        have c11b1 : decide (0 ≤ (ji10)) = true := decide_eq_true c11
        clear c11
        by_cases c12 : (ji10) ≤ a0_0
        · rw [if_pos c12] at H
          have c12b0 := eq_true c12
          have c12b1 : decide ((ji10) ≤ a0_0) = true := decide_eq_true c12
          clear c12
          by_cases c13 : a0_0 ≤ (a1.size : Int)
          · rw [if_pos c13] at H
            have c13b0 := eq_true c13
            have c13b1 : decide (a0_0 ≤ (a1.size : Int)) = true := decide_eq_true c13
            clear c13
            replace H := Option.bind_eq_some_iff.mp H
            obtain ⟨t234, A140, H⟩ := H
            replace H : (spec_l06Cut.l0 k a1 t233 (wrap64 ((ji9) - 1)) t234 a0_0) = some r := H
            have A14 := Aside0.mk A140
            clear A140
            have H' := Aside0.mk H
            clear H
            go_enter Try.func149, Try.ntmps149
            go_wp2_with (first | ((with_reducible refine gate_dst (N := 2) rfl ?_); refine box_event ?hg (N := 2) ?hd (cs := #[.int .i64 a0_0, .int .i64 a0_1, .int .i64 a0_2]) (t := 40) ?hr ?_; (case hd => rfl); (case hg => rfl); (case hr => first | (go_simp; done) | (go_simp; rfl)); intro gb232 hg w15 hbox hb; have n0_ := Aside0.mk (below_step (by repeat (first | (with_reducible first | exact HB.out | apply below_alloc | apply pw_below_drewN | apply below_drew1) | exact HB.out)) hb); have n1_ := Aside0.mk (hbox); have n2_ := Aside0.mk ((by rw [hg]; exact (below_size (by repeat (first | (with_reducible first | exact HB.out | apply below_alloc | apply pw_below_drewN | apply below_drew1) | exact HB.out))) : w.heap.size ≤ gb232)); have n3_ := Aside0.mk ((by rw [hg]; exact (below_size (by repeat (first | (with_reducible first | exact HB.out | apply below_alloc | apply pw_below_drewN | apply below_drew1) | exact HB.out))) : w.heap.size ≤ gb232)); clear HB; have HB := n0_; have BK232 := n1_; have GW232 := n2_; have GE232 := n3_; clear n0_ n1_ n2_ n3_; clear hb hbox hg; have hcz16_0 : w15.cell? ⟨gb232, 0, none⟩ = some (.int .i64 a0_0) := (blk_cell BK232.out 0).trans rfl; have hcz16_1 : w15.cell? ⟨gb232, 1, none⟩ = some (.int .i64 a0_1) := (blk_cell BK232.out 1).trans rfl; have hcz16_2 : w15.cell? ⟨gb232, 2, none⟩ = some (.int .i64 a0_2) := (blk_cell BK232.out 2).trans rfl; have hfz16_0 := blk_frozen BK232.out 0; have hfz16_1 := blk_frozen BK232.out 1; have hfz16_2 := blk_frozen BK232.out 2) | (go_at_call 175; (with_reducible refine (spec_l01Min.calls a0_2 (a1.size : Int) t233 _ A3.out).mono ?_); rintro e w' ⟨rfl, ⟨nd, rfl⟩⟩; (try first | exact ⟨rfl, _, World.drewN_drewN _ _ _⟩ | exact ⟨rfl, _, Eq.trans (World.drewN_drewN _ _ _) (congrArg (World.drewN _) (Nat.add_assoc _ _ _))⟩)) | (go_at_call 80; (with_reducible refine (spec_l06Of.calls k (a1.extract ((ji10) : Int).toNat (a0_0 : Int).toNat) t234 _ A14.out).mono ?_); rintro e w' ⟨rfl, ⟨nd, rfl⟩⟩; (try first | exact ⟨rfl, _, World.drewN_drewN _ _ _⟩ | exact ⟨rfl, _, Eq.trans (World.drewN_drewN _ _ _) (congrArg (World.drewN _) (Nat.add_assoc _ _ _))⟩)))
            repeat (go_quiet (first | ((with_reducible refine gate_dst (N := 2) rfl ?_); refine box_event ?hg (N := 2) ?hd (cs := #[.int .i64 a0_0, .int .i64 a0_1, .int .i64 a0_2]) (t := 40) ?hr ?_; (case hd => rfl); (case hg => rfl); (case hr => first | (go_simp; done) | (go_simp; rfl)); intro gb232 hg w15 hbox hb; have n0_ := Aside0.mk (below_step (by repeat (first | (with_reducible first | exact HB.out | apply below_alloc | apply pw_below_drewN | apply below_drew1) | exact HB.out)) hb); have n1_ := Aside0.mk (hbox); have n2_ := Aside0.mk ((by rw [hg]; exact (below_size (by repeat (first | (with_reducible first | exact HB.out | apply below_alloc | apply pw_below_drewN | apply below_drew1) | exact HB.out))) : w.heap.size ≤ gb232)); have n3_ := Aside0.mk ((by rw [hg]; exact (below_size (by repeat (first | (with_reducible first | exact HB.out | apply below_alloc | apply pw_below_drewN | apply below_drew1) | exact HB.out))) : w.heap.size ≤ gb232)); clear HB; have HB := n0_; have BK232 := n1_; have GW232 := n2_; have GE232 := n3_; clear n0_ n1_ n2_ n3_; clear hb hbox hg; have hcz16_0 : w15.cell? ⟨gb232, 0, none⟩ = some (.int .i64 a0_0) := (blk_cell BK232.out 0).trans rfl; have hcz16_1 : w15.cell? ⟨gb232, 1, none⟩ = some (.int .i64 a0_1) := (blk_cell BK232.out 1).trans rfl; have hcz16_2 : w15.cell? ⟨gb232, 2, none⟩ = some (.int .i64 a0_2) := (blk_cell BK232.out 2).trans rfl; have hfz16_0 := blk_frozen BK232.out 0; have hfz16_1 := blk_frozen BK232.out 1; have hfz16_2 := blk_frozen BK232.out 2) | (go_at_call 175; (with_reducible refine (spec_l01Min.calls a0_2 (a1.size : Int) t233 _ A3.out).mono ?_); rintro e w' ⟨rfl, ⟨nd, rfl⟩⟩; (try first | exact ⟨rfl, _, World.drewN_drewN _ _ _⟩ | exact ⟨rfl, _, Eq.trans (World.drewN_drewN _ _ _) (congrArg (World.drewN _) (Nat.add_assoc _ _ _))⟩)) | (go_at_call 80; (with_reducible refine (spec_l06Of.calls k (a1.extract ((ji10) : Int).toNat (a0_0 : Int).toNat) t234 _ A14.out).mono ?_); rintro e w' ⟨rfl, ⟨nd, rfl⟩⟩; (try first | exact ⟨rfl, _, World.drewN_drewN _ _ _⟩ | exact ⟨rfl, _, Eq.trans (World.drewN_drewN _ _ _) (congrArg (World.drewN _) (Nat.add_assoc _ _ _))⟩))); try go_wp2_with (first | ((with_reducible refine gate_dst (N := 2) rfl ?_); refine box_event ?hg (N := 2) ?hd (cs := #[.int .i64 a0_0, .int .i64 a0_1, .int .i64 a0_2]) (t := 40) ?hr ?_; (case hd => rfl); (case hg => rfl); (case hr => first | (go_simp; done) | (go_simp; rfl)); intro gb232 hg w15 hbox hb; have n0_ := Aside0.mk (below_step (by repeat (first | (with_reducible first | exact HB.out | apply below_alloc | apply pw_below_drewN | apply below_drew1) | exact HB.out)) hb); have n1_ := Aside0.mk (hbox); have n2_ := Aside0.mk ((by rw [hg]; exact (below_size (by repeat (first | (with_reducible first | exact HB.out | apply below_alloc | apply pw_below_drewN | apply below_drew1) | exact HB.out))) : w.heap.size ≤ gb232)); have n3_ := Aside0.mk ((by rw [hg]; exact (below_size (by repeat (first | (with_reducible first | exact HB.out | apply below_alloc | apply pw_below_drewN | apply below_drew1) | exact HB.out))) : w.heap.size ≤ gb232)); clear HB; have HB := n0_; have BK232 := n1_; have GW232 := n2_; have GE232 := n3_; clear n0_ n1_ n2_ n3_; clear hb hbox hg; have hcz16_0 : w15.cell? ⟨gb232, 0, none⟩ = some (.int .i64 a0_0) := (blk_cell BK232.out 0).trans rfl; have hcz16_1 : w15.cell? ⟨gb232, 1, none⟩ = some (.int .i64 a0_1) := (blk_cell BK232.out 1).trans rfl; have hcz16_2 : w15.cell? ⟨gb232, 2, none⟩ = some (.int .i64 a0_2) := (blk_cell BK232.out 2).trans rfl; have hfz16_0 := blk_frozen BK232.out 0; have hfz16_1 := blk_frozen BK232.out 1; have hfz16_2 := blk_frozen BK232.out 2) | (go_at_call 175; (with_reducible refine (spec_l01Min.calls a0_2 (a1.size : Int) t233 _ A3.out).mono ?_); rintro e w' ⟨rfl, ⟨nd, rfl⟩⟩; (try first | exact ⟨rfl, _, World.drewN_drewN _ _ _⟩ | exact ⟨rfl, _, Eq.trans (World.drewN_drewN _ _ _) (congrArg (World.drewN _) (Nat.add_assoc _ _ _))⟩)) | (go_at_call 80; (with_reducible refine (spec_l06Of.calls k (a1.extract ((ji10) : Int).toNat (a0_0 : Int).toNat) t234 _ A14.out).mono ?_); rintro e w' ⟨rfl, ⟨nd, rfl⟩⟩; (try first | exact ⟨rfl, _, World.drewN_drewN _ _ _⟩ | exact ⟨rfl, _, Eq.trans (World.drewN_drewN _ _ _) (congrArg (World.drewN _) (Nat.add_assoc _ _ _))⟩))))
            go_loopg [7, 8] k (fun kq v7 v8 w' => ∃ (x7_1 : Int) (x8_1 : Int), v7 = .int .i64 x7_1 ∧ v8 = .int .i64 x8_1 ∧ Aside0 (spec_l06Cut.l0 kq a1 t233 (wrap64 ((ji9) - 1)) x7_1 x8_1 = some r) ∧ Aside0 (kq ≤ k) ∧ Aside0 (w'.heap[gb232]? = some (.cells #[.int .i64 a0_0, .int .i64 a0_1, .int .i64 a0_2] 40 (0, 0))) ∧ Aside0 (Below w.heap.size w w'))
            case atStart => exact ⟨(t234), (a0_0), (by first | rfl | (simp; done) | (simp [*]; done)), (by first | rfl | (simp; done) | (simp [*]; done)), H', ⟨Nat.le_refl _⟩, ⟨by (with_reducible repeat (first | refine blk_drewN ?_ _ | refine blk_drew ?_ | refine blk_alloc ?_ _)); exact BK232.out⟩, ⟨by repeat (first | (with_reducible first | exact HB.out | apply below_alloc | apply pw_below_drewN | apply below_drew1 | refine below_set ?_ GE232.out) | exact HB.out)⟩⟩
            case round =>
              clear H'
              try clear c1
              try clear p2
              try clear c4
              try clear c4b0
              try clear p6
              try clear c8
              try clear c8b0
              try clear c8b1
              try clear c11
              try clear c11b0
              try clear c11b1
              try clear c12
              try clear c12b0
              try clear c12b1
              try clear c13
              try clear c13b0
              try clear c13b1
              try clear c14
              try clear hcz16_0
              try clear hcz16_1
              try clear hcz16_2
              try clear hcz6_0
              try clear hcz6_1
              try clear hcz6_2
              try clear hfz16_0
              try clear hfz16_1
              try clear hfz16_2
              try clear hfz6_0
              try clear hfz6_1
              try clear hfz6_2
              obtain ⟨x7_1, x8_1, rfl, rfl, HA, HK1, BK232, HB⟩ := hrel
              cases gk with
              | zero => exact absurd HA.out (by simp [spec_l06Cut.l0])
              | succ k1 =>
                have H := HA.out
                clear HA
                simp only [spec_l06Cut.l0] at H
                by_cases c17 : x8_1 < t233
                · rw [if_pos c17] at H
                  have c17b0 : decide (x8_1 < t233) = true := decide_eq_true c17
                  clear c17
                  by_cases c18 : (Go.bits .and .i64 x7_1 (wrap64 ((ji9) - 1))) = (wrap64 ((ji9) - 1))
                  · rw [if_pos c18] at H
                    have c18b0 : ((Go.bits .and .i64 x7_1 (wrap64 ((ji9) - 1))) == (wrap64 ((ji9) - 1))) = true := beq_iff_eq.mpr c18
                    try have c18b9 : (((Go.bits .and .i64 x7_1 (((ji9) - 1))) == (((ji9) - 1)))) = true := (by have hw0 : wrap64 ((ji9) - 1) = (ji9) - 1 := (by unfold wrap64; omega); have hw1 : wrap64 ((ji9) - 1) = (ji9) - 1 := (by unfold wrap64; omega); have z_ := c18b0; simp only [hw0, hw1] at z_; exact z_)
                    have c18b1 : ((Go.bits .and .i64 x7_1 (wrap64 ((ji9) - 1))) != (wrap64 ((ji9) - 1))) = false := bne_eq_false_iff_eq.mpr c18
                    clear c18
                    obtain rfl := Option.some.inj H
                    go_wp2
                    repeat (go_quiet (fail); try go_wp2)
                    go_ret
                    exact ⟨by first | rfl | (simp [errW_none, errW_some] <;> rfl) | (simp only [← hji7, ← hji9, ← hji10]; first | rfl | (simp [errW_none, errW_some] <;> rfl)) | (simp [*, errW_none, errW_some] <;> rfl), by repeat (first | (with_reducible first | exact HB.out | apply below_alloc | apply pw_below_drewN | apply below_drew1 | refine below_set ?_ GE232.out) | exact HB.out)⟩
                  · rw [if_neg c18] at H
                    have c18b0 : ((Go.bits .and .i64 x7_1 (wrap64 ((ji9) - 1))) == (wrap64 ((ji9) - 1))) = false := beq_eq_false_iff_ne.mpr c18
                    try have c18b9 : (((Go.bits .and .i64 x7_1 (((ji9) - 1))) == (((ji9) - 1)))) = false := (by have hw0 : wrap64 ((ji9) - 1) = (ji9) - 1 := (by unfold wrap64; omega); have hw1 : wrap64 ((ji9) - 1) = (ji9) - 1 := (by unfold wrap64; omega); have z_ := c18b0; simp only [hw0, hw1] at z_; exact z_)
                    have c18b1 : ((Go.bits .and .i64 x7_1 (wrap64 ((ji9) - 1))) != (wrap64 ((ji9) - 1))) = true := bne_iff_ne.mpr c18
                    obtain ⟨ji19, hji19⟩ : ∃ j_ : Int, (wrap64 (x8_1 - 16)) = j_ := ⟨_, rfl⟩
                    replace H : (if 0 ≤ (ji19) then (if (ji19) < (a1.size : Int) then ((spec_l06Out.f k1 (wrap64 (bt a1 (ji19)))).bind fun t235 => (if 0 ≤ x8_1 then (if x8_1 < (a1.size : Int) then ((spec_l06Shift.f k1 (Go.bits .xor .i64 x7_1 t235) (wrap64 (bt a1 x8_1))).bind fun t236 => (spec_l06Cut.l0 k1 a1 t233 (wrap64 ((ji9) - 1)) t236 (wrap64 (x8_1 + 1)))) else (none)) else (none))) else (none)) else (none)) = some r := by first | (rw [hji19] at H; exact H) | (simp only [hji19] at H ⊢; exact H)
                    have hji19w : (IntKind.i64.wrap (x8_1 - 16)) = ji19 := (i64_w _).trans hji19
                    by_cases c20 : 0 ≤ (ji19)
                    · rw [if_pos c20] at H
                      have c20b0 : decide (0 ≤ (ji19)) = true := decide_eq_true c20
                      clear c20
                      by_cases c21 : (ji19) < (a1.size : Int)
                      · rw [if_pos c21] at H
                        have c21b0 : decide ((ji19) < (a1.size : Int)) = true := decide_eq_true c21
                        clear c21
                        replace H := Option.bind_eq_some_iff.mp H
                        obtain ⟨t235, A230, H⟩ := H
                        replace H : (if 0 ≤ x8_1 then (if x8_1 < (a1.size : Int) then ((spec_l06Shift.f k1 (Go.bits .xor .i64 x7_1 t235) (wrap64 (bt a1 x8_1))).bind fun t236 => (spec_l06Cut.l0 k1 a1 t233 (wrap64 ((ji9) - 1)) t236 (wrap64 (x8_1 + 1)))) else (none)) else (none)) = some r := H
                        have A23 := Aside0.mk A230
                        clear A230
                        by_cases c24 : 0 ≤ x8_1
                        · rw [if_pos c24] at H
                          have c24b0 : decide (0 ≤ x8_1) = true := decide_eq_true c24
                          clear c24
                          by_cases c25 : x8_1 < (a1.size : Int)
                          · rw [if_pos c25] at H
                            have c25b0 : decide (x8_1 < (a1.size : Int)) = true := decide_eq_true c25
                            clear c25
                            replace H := Option.bind_eq_some_iff.mp H
                            obtain ⟨t236, A270, H⟩ := H
                            replace H : (spec_l06Cut.l0 k1 a1 t233 (wrap64 ((ji9) - 1)) t236 (wrap64 (x8_1 + 1))) = some r := H
                            have A27 := Aside0.mk A270
                            clear A270
                            have H' := Aside0.mk H
                            clear H
                            have p22 : 0 ≤ ((ji19) : Int) := of_decide_eq_true (by first | (with_reducible assumption) | assumption)
                            have q22 : (ji19) < (a1.size : Int) := of_decide_eq_true (by first | (with_reducible assumption) | assumption)
                            have hx22 := bt_at a1 (ji19)
                            replace p22 := eq_true p22
                            replace q22 := eq_true q22
                            (try (have p26 : 0 ≤ (x8_1 : Int) := of_decide_eq_true (by first | (with_reducible assumption) | assumption); have q26 : x8_1 < (a1.size : Int) := of_decide_eq_true (by first | (with_reducible assumption) | assumption); have hx26 := bt_at a1 x8_1; replace p26 := eq_true p26; replace q26 := eq_true q26))
                            go_wp2_with (first | (go_at_call 176; (with_reducible refine (spec_l06Out.calls k1 (wrap64 (bt a1 (ji19))) t235 _ A23.out).mono ?_); rintro e w' ⟨rfl, ⟨nd, rfl⟩⟩; (try first | exact ⟨rfl, _, World.drewN_drewN _ _ _⟩ | exact ⟨rfl, _, Eq.trans (World.drewN_drewN _ _ _) (congrArg (World.drewN _) (Nat.add_assoc _ _ _))⟩); have p26 : 0 ≤ (x8_1 : Int) := of_decide_eq_true (by first | (with_reducible assumption) | assumption); have q26 : x8_1 < (a1.size : Int) := of_decide_eq_true (by first | (with_reducible assumption) | assumption); have hx26 := bt_at a1 x8_1; replace p26 := eq_true p26; replace q26 := eq_true q26) | (go_at_call 142; (with_reducible refine (spec_l06Shift.calls k1 (Go.bits .xor .i64 x7_1 t235) (wrap64 (bt a1 x8_1)) t236 _ A27.out).mono ?_); rintro e w' ⟨rfl, ⟨nd, rfl⟩⟩; (try first | exact ⟨rfl, _, World.drewN_drewN _ _ _⟩ | exact ⟨rfl, _, Eq.trans (World.drewN_drewN _ _ _) (congrArg (World.drewN _) (Nat.add_assoc _ _ _))⟩)))
                            repeat (go_quiet (first | (go_at_call 176; (with_reducible refine (spec_l06Out.calls k1 (wrap64 (bt a1 (ji19))) t235 _ A23.out).mono ?_); rintro e w' ⟨rfl, ⟨nd, rfl⟩⟩; (try first | exact ⟨rfl, _, World.drewN_drewN _ _ _⟩ | exact ⟨rfl, _, Eq.trans (World.drewN_drewN _ _ _) (congrArg (World.drewN _) (Nat.add_assoc _ _ _))⟩)) | (go_at_call 142; (with_reducible refine (spec_l06Shift.calls k1 (Go.bits .xor .i64 x7_1 t235) (wrap64 (bt a1 x8_1)) t236 _ A27.out).mono ?_); rintro e w' ⟨rfl, ⟨nd, rfl⟩⟩; (try first | exact ⟨rfl, _, World.drewN_drewN _ _ _⟩ | exact ⟨rfl, _, Eq.trans (World.drewN_drewN _ _ _) (congrArg (World.drewN _) (Nat.add_assoc _ _ _))⟩))); try go_wp2_with (first | (go_at_call 176; (with_reducible refine (spec_l06Out.calls k1 (wrap64 (bt a1 (ji19))) t235 _ A23.out).mono ?_); rintro e w' ⟨rfl, ⟨nd, rfl⟩⟩; (try first | exact ⟨rfl, _, World.drewN_drewN _ _ _⟩ | exact ⟨rfl, _, Eq.trans (World.drewN_drewN _ _ _) (congrArg (World.drewN _) (Nat.add_assoc _ _ _))⟩)) | (go_at_call 142; (with_reducible refine (spec_l06Shift.calls k1 (Go.bits .xor .i64 x7_1 t235) (wrap64 (bt a1 x8_1)) t236 _ A27.out).mono ?_); rintro e w' ⟨rfl, ⟨nd, rfl⟩⟩; (try first | exact ⟨rfl, _, World.drewN_drewN _ _ _⟩ | exact ⟨rfl, _, Eq.trans (World.drewN_drewN _ _ _) (congrArg (World.drewN _) (Nat.add_assoc _ _ _))⟩))))
                            go_roundg k1
                            case measure => have := HK1.out; omega
                            case rel => exact ⟨(t236), (wrap64 (x8_1 + 1)), (by first | rfl | (simp; done) | (simp [*]; done)), (by first | rfl | (simp; done) | (simp [*]; done)), H', ⟨by have := HK1.out; omega⟩, ⟨by (with_reducible repeat (first | refine blk_drewN ?_ _ | refine blk_drew ?_ | refine blk_alloc ?_ _)); exact BK232.out⟩, ⟨by repeat (first | (with_reducible first | exact HB.out | apply below_alloc | apply pw_below_drewN | apply below_drew1 | refine below_set ?_ GE232.out) | exact HB.out)⟩⟩
                          · rw [if_neg c25] at H
                            exact absurd H (by simp)
                        · rw [if_neg c24] at H
                          exact absurd H (by simp)
                      · rw [if_neg c21] at H
                        exact absurd H (by simp)
                    · rw [if_neg c20] at H
                      exact absurd H (by simp)
                · rw [if_neg c17] at H
                  have c17b0 : decide (x8_1 < t233) = false := decide_eq_false c17
                  clear c17
                  obtain rfl := Option.some.inj H
                  go_wp2
                  repeat (go_quiet (fail); try go_wp2)
                  go_ret
                  exact ⟨by first | rfl | (simp [errW_none, errW_some] <;> rfl) | (simp only [← hji7, ← hji9, ← hji10]; first | rfl | (simp [errW_none, errW_some] <;> rfl)) | (simp [*, errW_none, errW_some] <;> rfl), by repeat (first | (with_reducible first | exact HB.out | apply below_alloc | apply pw_below_drewN | apply below_drew1 | refine below_set ?_ GE232.out) | exact HB.out)⟩
          · rw [if_neg c13] at H
            exact absurd H (by simp)
        · rw [if_neg c12] at H
          exact absurd H (by simp)
      · rw [if_neg c11] at H
        exact absurd H (by simp)
    · rw [if_neg c8] at H
      exact absurd H (by simp)

/-! ### spec_l06Pieces: function 99 -/
def spec_l06Pieces.l0 : Nat → ByteArray → List ByteArray → Int → Int → Int → Option (List ByteArray)
  | 0, _, _, _, _, _ => none
  | k + 1, x1, x5, x238000, x238001, x238002 => if (x1.size : Int) > 0 then ((spec_l06Cut.f k x238000 x238001 x238002 x1).bind fun t241 => (if 0 ≤ t241 then (if t241 ≤ (x1.size : Int) then (if x5.length < 8796093022208 then (spec_l06Pieces.l0 k (x1.extract (t241 : Int).toNat x1.size) (x5 ++ [x1.extract 0 (t241 : Int).toNat]) x238000 x238001 x238002) else (none)) else (none)) else (none))) else (some x5)
def spec_l06Pieces.f (k : Nat) (a0_0 : Int) (a0_1 : Int) (a0_2 : Int) (a1 : ByteArray) : Option (List ByteArray) := spec_l06Pieces.l0 k a1 (([] : List ByteArray)) a0_0 a0_1 a0_2
theorem spec_l06Pieces.mono_l : ∀ k, (∀ y0 y1 y2 y3 y4, LeO (spec_l06Pieces.l0 k y0 y1 y2 y3 y4) (spec_l06Pieces.l0 (k + 1) y0 y1 y2 y3 y4))
  | 0 => fun _ _ _ _ _ r h => by simp [spec_l06Pieces.l0] at h
  | k + 1 => by
    have ih0 := spec_l06Pieces.mono_l k
    · intro y0 y1 y2 y3 y4
      unfold spec_l06Pieces.l0
      repeat' first
      | (with_reducible exact ih0 _ _ _ _ _)
      | (with_reducible exact spec_l06Cut.mono _ _ _ _ _)
      | (with_reducible exact LeO.refl _)
      | (with_reducible exact LeO.none _)
      | (with_reducible refine LeO.ite ?_ ?_)
      | (with_reducible refine LeO.bind ?_ (fun _ => ?_))
      | exact ih0 _ _ _ _ _
      | exact spec_l06Cut.mono _ _ _ _ _
      | exact LeO.none _
      | refine LeO.ite ?_ ?_
      | refine LeO.bind ?_ (fun _ => ?_)
theorem spec_l06Pieces.mono : ∀ a0 a1 a2 a3 k, LeO (spec_l06Pieces.f k a0 a1 a2 a3) (spec_l06Pieces.f (k + 1) a0 a1 a2 a3) := by
  intro a0 a1 a2 a3 k
  have ih0 := spec_l06Pieces.mono_l k
  unfold spec_l06Pieces.f
  repeat' first
      | (with_reducible exact ih0 _ _ _ _ _)
      | (with_reducible exact spec_l06Cut.mono _ _ _ _ _)
      | (with_reducible exact LeO.refl _)
      | (with_reducible exact LeO.none _)
      | (with_reducible refine LeO.ite ?_ ?_)
      | (with_reducible refine LeO.bind ?_ (fun _ => ?_))
      | exact ih0 _ _ _ _ _
      | exact spec_l06Cut.mono _ _ _ _ _
      | exact LeO.none _
      | refine LeO.ite ?_ ?_
      | refine LeO.bind ?_ (fun _ => ?_)
set_option maxHeartbeats 8000000 in
set_option maxRecDepth 100000 in
theorem spec_l06Pieces.calls (k : Nat) (a0_0 : Int) (a0_1 : Int) (a0_2 : Int) (a1 : ByteArray) (r : List ByteArray) (w : World) (h : spec_l06Pieces.f k a0_0 a0_1 a0_2 a1 = some r) :
    Calls Try.prog 99 #[.agg #[.int .i64 a0_0, .int .i64 a0_1, .int .i64 a0_2], .string a1] w fun e w' => ∃ v0_ : Value, e = .returned (v0_) ∧ Kd.R Kd.string 9 w' w.heap.size (fun _ => True) v0_ r ∧ Below w.heap.size w w' := by
  have hu40 := Try.underlying40
  have HB := Aside0.mk (Below.refl w.heap.size w)
  have H : (spec_l06Pieces.l0 k a1 (([] : List ByteArray)) a0_0 a0_1 a0_2) = some r := h
  clear h
  obtain ⟨y238, hy238⟩ : ∃ y_ : List ByteArray, y_ = (([] : List ByteArray)) := ⟨_, rfl⟩
  replace H : (spec_l06Pieces.l0 k a1 y238 a0_0 a0_1 a0_2) = some r := by first | (rw [hy238]; with_reducible exact H) | (have H2_ := (Option.bind_some _ _).symm.trans H; rw [hy238]; with_reducible exact H2_) | (have H2_ := (Option.bind_some _ _).symm.trans H; with_reducible exact H2_) | with_reducible exact H | (rw [hy238]; exact H) | exact H
  have Ny238 := Aside0.mk hy238
  clear hy238
  have H' := Aside0.mk H
  clear H
  go_enter Try.func99, Try.ntmps99
  go_wp2_with (first | ((with_reducible refine gate_dst (N := 2) rfl ?_); refine box_event ?hg (N := 2) ?hd (cs := #[.int .i64 a0_0, .int .i64 a0_1, .int .i64 a0_2]) (t := 40) ?hr ?_; (case hd => rfl); (case hg => rfl); (case hr => first | (go_simp; done) | (go_simp; rfl)); intro gb237 hg w3 hbox hb; have n0_ := Aside0.mk (below_step (by repeat (first | (with_reducible first | exact HB.out | apply below_alloc | apply pw_below_drewN | apply below_drew1) | exact HB.out)) hb); have n1_ := Aside0.mk (hbox); have n2_ := Aside0.mk ((by rw [hg]; exact (below_size (by repeat (first | (with_reducible first | exact HB.out | apply below_alloc | apply pw_below_drewN | apply below_drew1) | exact HB.out))) : w.heap.size ≤ gb237)); have n3_ := Aside0.mk ((by rw [hg]; exact (below_size (by repeat (first | (with_reducible first | exact HB.out | apply below_alloc | apply pw_below_drewN | apply below_drew1) | exact HB.out))) : w.heap.size ≤ gb237)); clear HB; have HB := n0_; have BK237 := n1_; have GW237 := n2_; have GE237 := n3_; clear n0_ n1_ n2_ n3_; clear hb hbox hg) | ((with_reducible refine gate_dst (N := 7) rfl ?_); refine Kd.R_lit Kd.string _ 9 ?hg (N := 7) ?hd (xs := ([] : List ByteArray)) (inner := []) (ok := fun _ => True) (okp := fun _ => True) ?hr ?hp (fun _ hk => hk) trivial (Below.refl _ _) (Nat.le_refl _) (by simp) ?_; (case hd => rfl); (case hg => rfl); (case hr => first | (go_simp; done) | (go_simp; rfl)); (case hp => exact (Reps.none _ _)); intro v239 w4 ho5 hb hg_ hnew_; clear hg_ hnew_; (first | rw [← Ny238.out] at ho5 | (simp only [Int.reduceToNat] at ho5; rw [← Ny238.out] at ho5)); have n0_ := Aside0.mk (Kd.R_lower ho5 (below_size (by repeat (first | (with_reducible first | exact HB.out | apply below_alloc | apply pw_below_drewN | apply below_drew1 | refine below_set ?_ GE237.out) | exact HB.out)))); have n1_ := Aside0.mk (blk_below (g := gb237) (o := .cells #[.int .i64 a0_0, .int .i64 a0_1, .int .i64 a0_2] 40 (0, 0)) (by (with_reducible repeat (first | refine blk_drewN ?_ _ | refine blk_drew ?_ | refine blk_alloc ?_ _)); exact BK237.out) hb); have n2_ := Aside0.mk (below_step (by repeat (first | (with_reducible first | exact HB.out | apply below_alloc | apply pw_below_drewN | apply below_drew1 | refine below_set ?_ GE237.out) | exact HB.out)) hb); clear BK237; clear HB; have HO240 := n0_; have BK237 := n1_; have HB := n2_; clear n0_ n1_ n2_; clear hb ho5))
  go_loopg [1, 5] k (fun kq v1 v5 w' => ∃ (x1_1 : ByteArray) (x5_1 : List ByteArray), v1 = .string x1_1 ∧ Aside0 (spec_l06Pieces.l0 kq x1_1 x5_1 a0_0 a0_1 a0_2 = some r) ∧ Aside0 (kq ≤ k) ∧ Aside0 (Kd.R Kd.string 9 w' w.heap.size (fun _ => True) v5 x5_1) ∧ Aside0 (w'.heap[gb237]? = some (.cells #[.int .i64 a0_0, .int .i64 a0_1, .int .i64 a0_2] 40 (0, 0))) ∧ Aside0 (Below w.heap.size w w'))
  case atStart => exact ⟨(a1), (y238), (by first | rfl | (simp; done) | (simp [*]; done)), H', ⟨Nat.le_refl _⟩, ⟨by (with_reducible repeat (first | apply Kd.R_alloc | apply Kd.R_drewN | apply Kd.R_drew)); exact HO240.out⟩, ⟨by (with_reducible repeat (first | refine blk_drewN ?_ _ | refine blk_drew ?_ | refine blk_alloc ?_ _)); exact BK237.out⟩, ⟨by repeat (first | (with_reducible first | exact HB.out | apply below_alloc | apply pw_below_drewN | apply below_drew1 | refine below_set ?_ GE237.out) | exact HB.out)⟩⟩
  case round =>
    clear H'
    try clear p2
    obtain ⟨x1_1, x5_1, rfl, HA, HK1, HO_5, BK237, HB⟩ := hrel
    cases gk with
    | zero => exact absurd HA.out (by simp [spec_l06Pieces.l0])
    | succ k1 =>
      have H := HA.out
      clear HA
      simp only [spec_l06Pieces.l0] at H
      by_cases c6 : (x1_1.size : Int) > 0
      · rw [if_pos c6] at H
        have c6b0 : decide (0 < (x1_1.size : Int)) = true := decide_eq_true c6
        have c6b1 : decide (0 < x1_1.size) = true := decide_eq_true (by omega)
        clear c6
        replace H := Option.bind_eq_some_iff.mp H
        obtain ⟨t241, A70, H⟩ := H
        replace H : (if 0 ≤ t241 then (if t241 ≤ (x1_1.size : Int) then (if x5_1.length < 8796093022208 then (spec_l06Pieces.l0 k1 (x1_1.extract (t241 : Int).toNat x1_1.size) (x5_1 ++ [x1_1.extract 0 (t241 : Int).toNat]) a0_0 a0_1 a0_2) else (none)) else (none)) else (none)) = some r := H
        have A7 := Aside0.mk A70
        clear A70
        by_cases c8 : 0 ≤ t241
        · rw [if_pos c8] at H
          have c8b0 := eq_true c8
          have c8b1 : decide (0 ≤ t241) = true := decide_eq_true c8
          clear c8
          by_cases c9 : t241 ≤ (x1_1.size : Int)
          · rw [if_pos c9] at H
            have c9b0 := eq_true c9
            have c9b1 : decide (t241 ≤ (x1_1.size : Int)) = true := decide_eq_true c9
            clear c9
            by_cases c10 : x5_1.length < 8796093022208
            · rw [if_pos c10] at H
              have LMc10 := Aside0.mk c10
              clear c10
              obtain ⟨y242, hy242⟩ : ∃ y_ : List ByteArray, y_ = (x5_1 ++ [x1_1.extract 0 (t241 : Int).toNat]) := ⟨_, rfl⟩
              replace H : (spec_l06Pieces.l0 k1 (x1_1.extract (t241 : Int).toNat x1_1.size) y242 a0_0 a0_1 a0_2) = some r := by first | (rw [hy242]; with_reducible exact H) | (have H2_ := (Option.bind_some _ _).symm.trans H; rw [hy242]; with_reducible exact H2_) | (have H2_ := (Option.bind_some _ _).symm.trans H; with_reducible exact H2_) | with_reducible exact H | (rw [hy242]; exact H) | exact H
              have Ny242 := Aside0.mk hy242
              clear hy242
              have c11b0 := eq_true (of_decide_eq_true (by first | (with_reducible assumption) | assumption) : 0 ≤ t241)
              have c12b0 := eq_true (of_decide_eq_true (by first | (with_reducible assumption) | assumption) : t241 ≤ (x1_1.size : Int))
              have H' := Aside0.mk H
              clear H
              have hcz13_0 : wr.cell? ⟨gb237, 0, none⟩ = some (.int .i64 a0_0) := (blk_cell BK237.out 0).trans rfl
              have hcz13_1 : wr.cell? ⟨gb237, 1, none⟩ = some (.int .i64 a0_1) := (blk_cell BK237.out 1).trans rfl
              have hcz13_2 : wr.cell? ⟨gb237, 2, none⟩ = some (.int .i64 a0_2) := (blk_cell BK237.out 2).trans rfl
              have hfz13_0 := blk_frozen BK237.out 0
              have hfz13_1 := blk_frozen BK237.out 1
              have hfz13_2 := blk_frozen BK237.out 2
              go_wp2_with (first | ((with_reducible refine gate_callee (f := 149) rfl ?_); refine goesL_ (some 13) rfl rfl Try.func149 (by kernel_rfl) rfl #[.agg #[.int .i64 a0_0, .int .i64 a0_1, .int .i64 a0_2], .string x1_1] rfl (by (try simp only [List.map_toArray, List.map_cons, List.map_nil]); first | done | rfl | (simp only [List.length_drop, List.length_take]; rfl)) ?_; (with_reducible refine (spec_l06Cut.calls k1 a0_0 a0_1 a0_2 x1_1 t241 _ A7.out).mono ?_); rintro e w14 ⟨rfl, hb⟩; refine ⟨_, rfl, ?_⟩; have n0_ := Aside0.mk (Kd.R_below (by (with_reducible repeat (first | apply Kd.R_alloc | apply Kd.R_drewN | apply Kd.R_drew)); exact HO_5.out) hb); have n1_ := Aside0.mk (blk_below (g := gb237) (o := .cells #[.int .i64 a0_0, .int .i64 a0_1, .int .i64 a0_2] 40 (0, 0)) (by (with_reducible repeat (first | refine blk_drewN ?_ _ | refine blk_drew ?_ | refine blk_alloc ?_ _)); exact BK237.out) hb); have n2_ := Aside0.mk (below_step (by repeat (first | (with_reducible first | exact HB.out | apply below_alloc | apply pw_below_drewN | apply below_drew1 | refine below_set ?_ GE237.out) | exact HB.out)) hb); clear HO_5; clear BK237; clear HB; have HO_5 := n0_; have BK237 := n1_; have HB := n2_; clear n0_ n1_ n2_; (try clear hb); (try clear hb2); (try clear hk); (try clear hi)) | ((with_reducible refine gate_builtin (b := .append) (xs := #[.tmp 14, .tmp 18]) rfl ?_); at_builtin; refine Kd.R_append Kd.string (w0 := w) w.heap.size rfl (.tmp 14) (.tmp 18) 43 9 (.string ⟨#[]⟩) 16 rfl Try.underlying43 info9 rfl (by decide) (by omega) u5 x5_1 (x1_1.extract 0 (t241 : Int).toNat) [.string (x1_1.extract 0 (t241 : Int).toNat)] (fun _ => True) (fun _ => False) rfl rfl ?aP (fun _ hk => hk.elim) ?aF ?aO ?aB ?aS ?aL ?_; (case aP => exact rfl); (case aB => exact (by repeat (first | (with_reducible first | exact HB.out | apply below_alloc | apply pw_below_drewN | apply below_drew1 | refine below_set ?_ GE237.out) | exact HB.out))); (case aF => exact (fun _ _ => trivial)); (case aO => exact (by (with_reducible repeat (first | apply Kd.R_alloc | apply Kd.R_drewN | apply Kd.R_drew)); exact HO_5.out)); (case aS => exact (below_size (by repeat (first | (with_reducible first | exact HB.out | apply below_alloc | apply pw_below_drewN | apply below_drew1 | refine below_set ?_ GE237.out) | exact HB.out)))); (case aL => have := LMc10.out; omega); intro v243 w15 ho hb hg hat; rw [← Ny242.out] at ho; have n0_ := Aside0.mk (blk_grown (g := gb237) (o := .cells #[.int .i64 a0_0, .int .i64 a0_1, .int .i64 a0_2] 40 (0, 0)) (by (with_reducible repeat (first | refine blk_drewN ?_ _ | refine blk_drew ?_ | refine blk_alloc ?_ _)); exact BK237.out) hg (Kd.R_ne HO_5.out BK237.out (by decide))); have n1_ := Aside0.mk (hb); have n2_ := Aside0.mk (ho); clear BK237; clear HB; clear HO_5; have BK237 := n0_; have HB := n1_; have HO244 := n2_; clear n0_ n1_ n2_; clear ho hb hg hat))
              go_roundg k1
              case measure => have := HK1.out; omega
              case rel => exact ⟨(x1_1.extract (t241 : Int).toNat x1_1.size), (y242), (by first | rfl | (simp; done) | (simp [*]; done)), H', ⟨by have := HK1.out; omega⟩, ⟨by (with_reducible repeat (first | apply Kd.R_alloc | apply Kd.R_drewN | apply Kd.R_drew)); exact HO244.out⟩, ⟨by (with_reducible repeat (first | refine blk_drewN ?_ _ | refine blk_drew ?_ | refine blk_alloc ?_ _)); exact BK237.out⟩, ⟨by repeat (first | (with_reducible first | exact HB.out | apply below_alloc | apply pw_below_drewN | apply below_drew1 | refine below_set ?_ GE237.out) | exact HB.out)⟩⟩
            · rw [if_neg c10] at H
              exact absurd H (by simp)
          · rw [if_neg c9] at H
            exact absurd H (by simp)
        · rw [if_neg c8] at H
          exact absurd H (by simp)
      · rw [if_neg c6] at H
        have c6b0 : decide (0 < (x1_1.size : Int)) = false := decide_eq_false c6
        have c6b1 : decide (0 < x1_1.size) = false := decide_eq_false (by omega)
        clear c6
        obtain rfl := Option.some.inj H
        go_wp2
        go_ret
        exact ⟨_, by first | rfl | (simp [errW_none, errW_some] <;> rfl) | (simp [*, errW_none, errW_some] <;> rfl), by (with_reducible repeat (first | apply Kd.R_alloc | apply Kd.R_drewN | apply Kd.R_drew)); exact HO_5.out, by repeat (first | (with_reducible first | exact HB.out | apply below_alloc | apply pw_below_drewN | apply below_drew1 | refine below_set ?_ GE237.out) | exact HB.out)⟩

/-! ### spec_Pieces: function 35 -/
def spec_Pieces.f (k : Nat) (a0_0 : Int) (a0_1 : Int) (a0_2 : Int) (a1 : ByteArray) : Option (List ByteArray) := if (a1.size : Int) > 20000 then (some (([] : List ByteArray))) else ((spec_CuttingRight.f a0_0 a0_1 a0_2).bind fun t249 => (if t249 = true then ((spec_l06Pieces.f k a0_0 a0_1 a0_2 a1).bind fun t250 => (some t250)) else (some (([] : List ByteArray)))))
theorem spec_Pieces.mono : ∀ a0 a1 a2 a3 k, LeO (spec_Pieces.f k a0 a1 a2 a3) (spec_Pieces.f (k + 1) a0 a1 a2 a3) := by
  intro a0 a1 a2 a3 k
  unfold spec_Pieces.f
  repeat' first
      | (with_reducible exact spec_l06Pieces.mono _ _ _ _ _)
      | (with_reducible exact LeO.refl _)
      | (with_reducible exact LeO.none _)
      | (with_reducible refine LeO.ite ?_ ?_)
      | (with_reducible refine LeO.bind ?_ (fun _ => ?_))
      | exact spec_l06Pieces.mono _ _ _ _ _
      | exact LeO.none _
      | refine LeO.ite ?_ ?_
      | refine LeO.bind ?_ (fun _ => ?_)
set_option maxHeartbeats 8000000 in
set_option maxRecDepth 100000 in
theorem spec_Pieces.calls (k : Nat) (a0_0 : Int) (a0_1 : Int) (a0_2 : Int) (a1 : ByteArray) (r : List ByteArray) (w : World) (h : spec_Pieces.f k a0_0 a0_1 a0_2 a1 = some r) :
    Calls Try.prog 35 #[.agg #[.int .i64 a0_0, .int .i64 a0_1, .int .i64 a0_2], .string a1] w fun e w' => ∃ v0_ : Value, e = .returned (v0_) ∧ Kd.R Kd.string 9 w' w.heap.size (fun _ => True) v0_ r ∧ Below w.heap.size w w' := by
  have hu40 := Try.underlying40
  have HB := Aside0.mk (Below.refl w.heap.size w)
  have H : (if (a1.size : Int) > 20000 then (some (([] : List ByteArray))) else ((spec_CuttingRight.f a0_0 a0_1 a0_2).bind fun t249 => (if t249 = true then ((spec_l06Pieces.f k a0_0 a0_1 a0_2 a1).bind fun t250 => (some t250)) else (some (([] : List ByteArray)))))) = some r := h
  clear h
  by_cases c3 : (a1.size : Int) > 20000
  · rw [if_pos c3] at H
    have c3b0 : decide (20000 < (a1.size : Int)) = true := decide_eq_true c3
    have c3b1 : decide (20000 < a1.size) = true := decide_eq_true (by omega)
    clear c3
    obtain ⟨y246, hy246⟩ : ∃ y_ : List ByteArray, y_ = (([] : List ByteArray)) := ⟨_, rfl⟩
    replace H : (some y246) = some r := by first | (rw [hy246]; with_reducible exact H) | (have H2_ := (Option.bind_some _ _).symm.trans H; rw [hy246]; with_reducible exact H2_) | (have H2_ := (Option.bind_some _ _).symm.trans H; with_reducible exact H2_) | with_reducible exact H | (rw [hy246]; exact H) | exact H
    have Ny246 := Aside0.mk hy246
    clear hy246
    obtain rfl := Option.some.inj H
    go_enter Try.func35, Try.ntmps35
    go_wp2_with (first | ((with_reducible refine gate_dst (N := 2) rfl ?_); refine box_event ?hg (N := 2) ?hd (cs := #[.int .i64 a0_0, .int .i64 a0_1, .int .i64 a0_2]) (t := 40) ?hr ?_; (case hd => rfl); (case hg => rfl); (case hr => first | (go_simp; done) | (go_simp; rfl)); intro gb245 hg w4 hbox hb; have n0_ := Aside0.mk (below_step (by repeat (first | (with_reducible first | exact HB.out | apply below_alloc | apply pw_below_drewN | apply below_drew1) | exact HB.out)) hb); have n1_ := Aside0.mk (hbox); have n2_ := Aside0.mk ((by rw [hg]; exact (below_size (by repeat (first | (with_reducible first | exact HB.out | apply below_alloc | apply pw_below_drewN | apply below_drew1) | exact HB.out))) : w.heap.size ≤ gb245)); have n3_ := Aside0.mk ((by rw [hg]; exact (below_size (by repeat (first | (with_reducible first | exact HB.out | apply below_alloc | apply pw_below_drewN | apply below_drew1) | exact HB.out))) : w.heap.size ≤ gb245)); clear HB; have HB := n0_; have BK245 := n1_; have GW245 := n2_; have GE245 := n3_; clear n0_ n1_ n2_ n3_; clear hb hbox hg) | ((with_reducible refine gate_dst (N := 13) rfl ?_); refine Kd.R_lit Kd.string _ 9 ?hg (N := 13) ?hd (xs := ([] : List ByteArray)) (inner := []) (ok := fun _ => True) (okp := fun _ => True) ?hr ?hp (fun _ hk => hk) trivial (Below.refl _ _) (Nat.le_refl _) (by simp) ?_; (case hd => rfl); (case hg => rfl); (case hr => first | (go_simp; done) | (go_simp; rfl)); (case hp => exact (Reps.none _ _)); intro v247 w5 ho6 hb hg_ hnew_; clear hg_ hnew_; (first | rw [← Ny246.out] at ho6 | (simp only [Int.reduceToNat] at ho6; rw [← Ny246.out] at ho6)); have n0_ := Aside0.mk (Kd.R_lower ho6 (below_size (by repeat (first | (with_reducible first | exact HB.out | apply below_alloc | apply pw_below_drewN | apply below_drew1 | refine below_set ?_ GE245.out) | exact HB.out)))); have n1_ := Aside0.mk (blk_below (g := gb245) (o := .cells #[.int .i64 a0_0, .int .i64 a0_1, .int .i64 a0_2] 40 (0, 0)) (by (with_reducible repeat (first | refine blk_drewN ?_ _ | refine blk_drew ?_ | refine blk_alloc ?_ _)); exact BK245.out) hb); have n2_ := Aside0.mk (below_step (by repeat (first | (with_reducible first | exact HB.out | apply below_alloc | apply pw_below_drewN | apply below_drew1 | refine below_set ?_ GE245.out) | exact HB.out)) hb); clear BK245; clear HB; have HO248 := n0_; have BK245 := n1_; have HB := n2_; clear n0_ n1_ n2_; clear hb ho6))
    go_ret
    exact ⟨_, by first | rfl | (simp [errW_none, errW_some] <;> rfl) | (simp [*, errW_none, errW_some] <;> rfl), by (with_reducible repeat (first | apply Kd.R_alloc | apply Kd.R_drewN | apply Kd.R_drew)); exact HO248.out, by repeat (first | (with_reducible first | exact HB.out | apply below_alloc | apply pw_below_drewN | apply below_drew1 | refine below_set ?_ GE245.out) | exact HB.out)⟩
  · rw [if_neg c3] at H
    have c3b0 : decide (20000 < (a1.size : Int)) = false := decide_eq_false c3
    have c3b1 : decide (20000 < a1.size) = false := decide_eq_false (by omega)
    clear c3
    replace H := Option.bind_eq_some_iff.mp H
    obtain ⟨t249, A70, H⟩ := H
    replace H : (if t249 = true then ((spec_l06Pieces.f k a0_0 a0_1 a0_2 a1).bind fun t250 => (some t250)) else (some (([] : List ByteArray)))) = some r := H
    have A7 := Aside0.mk A70
    clear A70
    by_cases c8 : t249 = true
    · subst c8
      have H1 : ((spec_l06Pieces.f k a0_0 a0_1 a0_2 a1).bind fun t250 => (some t250)) = some r := by rw [if_pos rfl] at H; exact H
      clear H
      have H := H1
      clear H1
      replace H := Option.bind_eq_some_iff.mp H
      obtain ⟨t250, A90, H⟩ := H
      replace H : (some t250) = some r := H
      have A9 := Aside0.mk A90
      clear A90
      obtain rfl := Option.some.inj H
      go_enter Try.func35, Try.ntmps35
      go_wp2_with (first | ((with_reducible refine gate_dst (N := 2) rfl ?_); refine box_event ?hg (N := 2) ?hd (cs := #[.int .i64 a0_0, .int .i64 a0_1, .int .i64 a0_2]) (t := 40) ?hr ?_; (case hd => rfl); (case hg => rfl); (case hr => first | (go_simp; done) | (go_simp; rfl)); intro gb245 hg w10 hbox hb; have n0_ := Aside0.mk (below_step (by repeat (first | (with_reducible first | exact HB.out | apply below_alloc | apply pw_below_drewN | apply below_drew1) | exact HB.out)) hb); have n1_ := Aside0.mk (hbox); have n2_ := Aside0.mk ((by rw [hg]; exact (below_size (by repeat (first | (with_reducible first | exact HB.out | apply below_alloc | apply pw_below_drewN | apply below_drew1) | exact HB.out))) : w.heap.size ≤ gb245)); have n3_ := Aside0.mk ((by rw [hg]; exact (below_size (by repeat (first | (with_reducible first | exact HB.out | apply below_alloc | apply pw_below_drewN | apply below_drew1) | exact HB.out))) : w.heap.size ≤ gb245)); clear HB; have HB := n0_; have BK245 := n1_; have GW245 := n2_; have GE245 := n3_; clear n0_ n1_ n2_ n3_; clear hb hbox hg; have hcz11_0 : w10.cell? ⟨gb245, 0, none⟩ = some (.int .i64 a0_0) := (blk_cell BK245.out 0).trans rfl; have hcz11_1 : w10.cell? ⟨gb245, 1, none⟩ = some (.int .i64 a0_1) := (blk_cell BK245.out 1).trans rfl; have hcz11_2 : w10.cell? ⟨gb245, 2, none⟩ = some (.int .i64 a0_2) := (blk_cell BK245.out 2).trans rfl; have hfz11_0 := blk_frozen BK245.out 0; have hfz11_1 := blk_frozen BK245.out 1; have hfz11_2 := blk_frozen BK245.out 2) | (go_at_call 98; (with_reducible refine (spec_CuttingRight.calls a0_0 a0_1 a0_2 true _ A7.out).mono ?_); rintro e w12 ⟨rfl, hb⟩; have n0_ := Aside0.mk (blk_below (g := gb245) (o := .cells #[.int .i64 a0_0, .int .i64 a0_1, .int .i64 a0_2] 40 (0, 0)) (by (with_reducible repeat (first | refine blk_drewN ?_ _ | refine blk_drew ?_ | refine blk_alloc ?_ _)); exact BK245.out) hb); have n1_ := Aside0.mk (below_step (by repeat (first | (with_reducible first | exact HB.out | apply below_alloc | apply pw_below_drewN | apply below_drew1 | refine below_set ?_ GE245.out) | exact HB.out)) hb); clear BK245; clear HB; have BK245 := n0_; have HB := n1_; clear n0_ n1_; (try clear hb); (try clear hb2); (try clear hk); (try clear hi); have hcz13_0 : w12.cell? ⟨gb245, 0, none⟩ = some (.int .i64 a0_0) := (blk_cell BK245.out 0).trans rfl; have hcz13_1 : w12.cell? ⟨gb245, 1, none⟩ = some (.int .i64 a0_1) := (blk_cell BK245.out 1).trans rfl; have hcz13_2 : w12.cell? ⟨gb245, 2, none⟩ = some (.int .i64 a0_2) := (blk_cell BK245.out 2).trans rfl; have hfz13_0 := blk_frozen BK245.out 0; have hfz13_1 := blk_frozen BK245.out 1; have hfz13_2 := blk_frozen BK245.out 2) | ((with_reducible refine gate_callee (f := 99) rfl ?_); refine goesL_ (some 16) rfl rfl Try.func99 (by kernel_rfl) rfl #[.agg #[.int .i64 a0_0, .int .i64 a0_1, .int .i64 a0_2], .string a1] rfl (by (try simp only [List.map_toArray, List.map_cons, List.map_nil]); first | done | rfl | (simp only [List.length_drop, List.length_take]; rfl)) ?_; (with_reducible refine (spec_l06Pieces.calls k a0_0 a0_1 a0_2 a1 t250 _ A9.out).mono ?_); rintro e w14 ⟨v251, rfl, ho0, hb⟩; refine ⟨_, rfl, ?_⟩; have n0_ := Aside0.mk (Kd.R_lower ho0 (below_size (by repeat (first | (with_reducible first | exact HB.out | apply below_alloc | apply pw_below_drewN | apply below_drew1 | refine below_set ?_ GE245.out) | exact HB.out)))); have n1_ := Aside0.mk (blk_below (g := gb245) (o := .cells #[.int .i64 a0_0, .int .i64 a0_1, .int .i64 a0_2] 40 (0, 0)) (by (with_reducible repeat (first | refine blk_drewN ?_ _ | refine blk_drew ?_ | refine blk_alloc ?_ _)); exact BK245.out) hb); have n2_ := Aside0.mk (below_step (by repeat (first | (with_reducible first | exact HB.out | apply below_alloc | apply pw_below_drewN | apply below_drew1 | refine below_set ?_ GE245.out) | exact HB.out)) hb); clear BK245; clear HB; have HO252 := n0_; have BK245 := n1_; have HB := n2_; clear n0_ n1_ n2_; (try clear hb); (try clear hb2); (try clear hk); (try clear hi); (try clear ho0)))
      go_ret
      exact ⟨_, by first | rfl | (simp [errW_none, errW_some] <;> rfl) | (simp [*, errW_none, errW_some] <;> rfl), by (with_reducible repeat (first | apply Kd.R_alloc | apply Kd.R_drewN | apply Kd.R_drew)); exact HO252.out, by repeat (first | (with_reducible first | exact HB.out | apply below_alloc | apply pw_below_drewN | apply below_drew1 | refine below_set ?_ GE245.out) | exact HB.out)⟩
    · replace c8 := Bool.eq_false_iff.mpr c8
      subst c8
      have H1 : (some (([] : List ByteArray))) = some r := by rw [if_neg (show ¬ (false = true) by decide)] at H; exact H
      clear H
      have H := H1
      clear H1
      obtain ⟨y253, hy253⟩ : ∃ y_ : List ByteArray, y_ = (([] : List ByteArray)) := ⟨_, rfl⟩
      replace H : (some y253) = some r := by first | (rw [hy253]; with_reducible exact H) | (have H2_ := (Option.bind_some _ _).symm.trans H; rw [hy253]; with_reducible exact H2_) | (have H2_ := (Option.bind_some _ _).symm.trans H; with_reducible exact H2_) | with_reducible exact H | (rw [hy253]; exact H) | exact H
      have Ny253 := Aside0.mk hy253
      clear hy253
      obtain rfl := Option.some.inj H
      go_enter Try.func35, Try.ntmps35
      go_wp2_with (first | ((with_reducible refine gate_dst (N := 2) rfl ?_); refine box_event ?hg (N := 2) ?hd (cs := #[.int .i64 a0_0, .int .i64 a0_1, .int .i64 a0_2]) (t := 40) ?hr ?_; (case hd => rfl); (case hg => rfl); (case hr => first | (go_simp; done) | (go_simp; rfl)); intro gb245 hg w15 hbox hb; have n0_ := Aside0.mk (below_step (by repeat (first | (with_reducible first | exact HB.out | apply below_alloc | apply pw_below_drewN | apply below_drew1) | exact HB.out)) hb); have n1_ := Aside0.mk (hbox); have n2_ := Aside0.mk ((by rw [hg]; exact (below_size (by repeat (first | (with_reducible first | exact HB.out | apply below_alloc | apply pw_below_drewN | apply below_drew1) | exact HB.out))) : w.heap.size ≤ gb245)); have n3_ := Aside0.mk ((by rw [hg]; exact (below_size (by repeat (first | (with_reducible first | exact HB.out | apply below_alloc | apply pw_below_drewN | apply below_drew1) | exact HB.out))) : w.heap.size ≤ gb245)); clear HB; have HB := n0_; have BK245 := n1_; have GW245 := n2_; have GE245 := n3_; clear n0_ n1_ n2_ n3_; clear hb hbox hg; have hcz16_0 : w15.cell? ⟨gb245, 0, none⟩ = some (.int .i64 a0_0) := (blk_cell BK245.out 0).trans rfl; have hcz16_1 : w15.cell? ⟨gb245, 1, none⟩ = some (.int .i64 a0_1) := (blk_cell BK245.out 1).trans rfl; have hcz16_2 : w15.cell? ⟨gb245, 2, none⟩ = some (.int .i64 a0_2) := (blk_cell BK245.out 2).trans rfl; have hfz16_0 := blk_frozen BK245.out 0; have hfz16_1 := blk_frozen BK245.out 1; have hfz16_2 := blk_frozen BK245.out 2) | (go_at_call 98; (with_reducible refine (spec_CuttingRight.calls a0_0 a0_1 a0_2 false _ A7.out).mono ?_); rintro e w17 ⟨rfl, hb⟩; have n0_ := Aside0.mk (blk_below (g := gb245) (o := .cells #[.int .i64 a0_0, .int .i64 a0_1, .int .i64 a0_2] 40 (0, 0)) (by (with_reducible repeat (first | refine blk_drewN ?_ _ | refine blk_drew ?_ | refine blk_alloc ?_ _)); exact BK245.out) hb); have n1_ := Aside0.mk (below_step (by repeat (first | (with_reducible first | exact HB.out | apply below_alloc | apply pw_below_drewN | apply below_drew1 | refine below_set ?_ GE245.out) | exact HB.out)) hb); clear BK245; clear HB; have BK245 := n0_; have HB := n1_; clear n0_ n1_; (try clear hb); (try clear hb2); (try clear hk); (try clear hi)) | ((with_reducible refine gate_dst (N := 13) rfl ?_); refine Kd.R_lit Kd.string _ 9 ?hg (N := 13) ?hd (xs := ([] : List ByteArray)) (inner := []) (ok := fun _ => True) (okp := fun _ => True) ?hr ?hp (fun _ hk => hk) trivial (Below.refl _ _) (Nat.le_refl _) (by simp) ?_; (case hd => rfl); (case hg => rfl); (case hr => first | (go_simp; done) | (go_simp; rfl)); (case hp => exact (Reps.none _ _)); intro v254 w18 ho19 hb hg_ hnew_; clear hg_ hnew_; (first | rw [← Ny253.out] at ho19 | (simp only [Int.reduceToNat] at ho19; rw [← Ny253.out] at ho19)); have n0_ := Aside0.mk (Kd.R_lower ho19 (below_size (by repeat (first | (with_reducible first | exact HB.out | apply below_alloc | apply pw_below_drewN | apply below_drew1 | refine below_set ?_ GE245.out) | exact HB.out)))); have n1_ := Aside0.mk (blk_below (g := gb245) (o := .cells #[.int .i64 a0_0, .int .i64 a0_1, .int .i64 a0_2] 40 (0, 0)) (by (with_reducible repeat (first | refine blk_drewN ?_ _ | refine blk_drew ?_ | refine blk_alloc ?_ _)); exact BK245.out) hb); have n2_ := Aside0.mk (below_step (by repeat (first | (with_reducible first | exact HB.out | apply below_alloc | apply pw_below_drewN | apply below_drew1 | refine below_set ?_ GE245.out) | exact HB.out)) hb); clear BK245; clear HB; have HO255 := n0_; have BK245 := n1_; have HB := n2_; clear n0_ n1_ n2_; clear hb ho19))
      go_ret
      exact ⟨_, by first | rfl | (simp [errW_none, errW_some] <;> rfl) | (simp [*, errW_none, errW_some] <;> rfl), by (with_reducible repeat (first | apply Kd.R_alloc | apply Kd.R_drewN | apply Kd.R_drew)); exact HO255.out, by repeat (first | (with_reducible first | exact HB.out | apply below_alloc | apply pw_below_drewN | apply below_drew1 | refine below_set ?_ GE245.out) | exact HB.out)⟩

/-! ### laws_lwAt: function 36 -/
def laws_lwAt.f (l0 : List Int) (a1 : Int) (a2 : Int) : Option (Int) := if a2 ≤ 1 then (some 0) else (if (l0.length : Int) = 0 then (some 0) else (if 0 ≤ (Int.tmod a1 (l0.length : Int)) then (if (Int.tmod a1 (l0.length : Int)) < (l0.length : Int) then (if a2 = 0 then (none) else (some (Int.tmod (wrap64 (rd l0 (Int.tmod a1 (l0.length : Int)))) a2))) else (none)) else (none)))
set_option maxHeartbeats 8000000 in
set_option maxRecDepth 100000 in
theorem laws_lwAt.calls (A0 : Option Addr) (c0 : Nat) (l0 : List Int) (a1 : Int) (a2 : Int) (r : Int) (w : World) (hr0 : Kd.C (Kd.int .u8) w A0 l0.length l0) (hc0 : l0.length ≤ c0) (h : laws_lwAt.f l0 a1 a2 = some r) :
    Calls Try.prog 36 #[.slice A0 l0.length c0, .int .i64 a1, .int .i64 a2] w fun e w' => e = .returned (.int .i64 r) ∧ Drawn0 w w' := by
  have HR0 := Aside0.mk hr0
  have HC0 := Aside0.mk hc0
  clear hr0 hc0
  have H : (if a2 ≤ 1 then (some 0) else (if (l0.length : Int) = 0 then (some 0) else (if 0 ≤ (Int.tmod a1 (l0.length : Int)) then (if (Int.tmod a1 (l0.length : Int)) < (l0.length : Int) then (if a2 = 0 then (none) else (some (Int.tmod (wrap64 (rd l0 (Int.tmod a1 (l0.length : Int)))) a2))) else (none)) else (none)))) = some r := h
  clear h
  by_cases c4 : a2 ≤ 1
  · rw [if_pos c4] at H
    have c4b0 : decide (a2 ≤ 1) = true := decide_eq_true c4
    clear c4
    obtain rfl := Option.some.inj H
    go_enter Try.func36, Try.ntmps36
    go_wp2
    go_ret
    exact ⟨by first | rfl | (simp; done) | (simp [*]; done), by repeat (first | exact Drawn0.refl _ | apply Drawn0.step)⟩
  · rw [if_neg c4] at H
    have c4b0 : decide (a2 ≤ 1) = false := decide_eq_false c4
    clear c4
    by_cases c5 : (l0.length : Int) = 0
    · rw [if_pos c5] at H
      have c5b0 : ((l0.length : Int) == 0) = true := beq_iff_eq.mpr c5
      have c5b1 : ((l0.length : Int) != 0) = false := bne_eq_false_iff_eq.mpr c5
      clear c5
      obtain rfl := Option.some.inj H
      go_enter Try.func36, Try.ntmps36
      go_wp2
      go_ret
      exact ⟨by first | rfl | (simp; done) | (simp [*]; done), by repeat (first | exact Drawn0.refl _ | apply Drawn0.step)⟩
    · rw [if_neg c5] at H
      have c5b0 : ((l0.length : Int) == 0) = false := beq_eq_false_iff_ne.mpr c5
      have c5b1 : ((l0.length : Int) != 0) = true := bne_iff_ne.mpr c5
      have c5b2 : ¬ (l0 = []) := fun h_ => c5 (by rw [h_]; rfl)
      obtain ⟨ji6, hji6⟩ : ∃ j_ : Int, (Int.tmod a1 (l0.length : Int)) = j_ := ⟨_, rfl⟩
      replace H : (if 0 ≤ (ji6) then (if (ji6) < (l0.length : Int) then (if a2 = 0 then (none) else (some (Int.tmod (wrap64 (rd l0 (ji6))) a2))) else (none)) else (none)) = some r := by first | (rw [hji6] at H; exact H) | (simp only [hji6] at H ⊢; exact H)
      by_cases c7 : 0 ≤ (ji6)
      · rw [if_pos c7] at H
        have c7b0 : decide (0 ≤ (ji6)) = true := decide_eq_true c7
        clear c7
        by_cases c8 : (ji6) < (l0.length : Int)
        · rw [if_pos c8] at H
          have c8b0 : decide ((ji6) < (l0.length : Int)) = true := decide_eq_true c8
          clear c8
          by_cases c9 : a2 = 0
          · rw [if_pos c9] at H
            exact absurd H (by simp)
          · rw [if_neg c9] at H
            have c9b0 : (a2 == 0) = false := beq_eq_false_iff_ne.mpr c9
            have c9b1 : (a2 != 0) = true := bne_iff_ne.mpr c9
            obtain rfl := Option.some.inj H
            have p256 : 0 ≤ ((ji6) : Int) := of_decide_eq_true (by first | (with_reducible assumption) | assumption)
            have q256 : (ji6) < (l0.length : Int) := of_decide_eq_true (by first | (with_reducible assumption) | assumption)
            obtain ⟨ad256, e256, hx256_0⟩ := Kd.at_int HR0.out (ji6) p256 q256
            cases e256
            replace p256 := eq_true p256
            replace q256 := eq_true q256
            go_enter Try.func36, Try.ntmps36
            go_wp2
            go_ret
            exact ⟨by first | rfl | (simp; done) | (simp only [← hji6] <;> (first | rfl | simp)) | (simp [*]; done), by repeat (first | exact Drawn0.refl _ | apply Drawn0.step)⟩
        · rw [if_neg c8] at H
          exact absurd H (by simp)
      · rw [if_neg c7] at H
        exact absurd H (by simp)

/-! ### impl_CutAt: function 37 -/
def impl_CutAt.f (k : Nat) (a0_0 : Int) (a0_1 : Int) (a0_2 : Int) (a1 : ByteArray) : Option (Int) := (impl_isLong.f a1).bind fun t258 => (if t258 = true then (some 0) else ((impl_CuttingRight.f a0_0 a0_1 a0_2).bind fun t259 => (if t259 = true then ((impl_cutAt.f k a0_0 a0_1 a0_2 a1).bind fun t260 => (some t260)) else (some 0))))
theorem impl_CutAt.mono : ∀ a0 a1 a2 a3 k, LeO (impl_CutAt.f k a0 a1 a2 a3) (impl_CutAt.f (k + 1) a0 a1 a2 a3) := by
  intro a0 a1 a2 a3 k
  unfold impl_CutAt.f
  repeat' first
      | (with_reducible exact impl_cutAt.mono _ _ _ _ _)
      | (with_reducible exact LeO.refl _)
      | (with_reducible exact LeO.none _)
      | (with_reducible refine LeO.ite ?_ ?_)
      | (with_reducible refine LeO.bind ?_ (fun _ => ?_))
      | exact impl_cutAt.mono _ _ _ _ _
      | exact LeO.none _
      | refine LeO.ite ?_ ?_
      | refine LeO.bind ?_ (fun _ => ?_)
set_option maxHeartbeats 8000000 in
set_option maxRecDepth 100000 in
theorem impl_CutAt.calls (k : Nat) (a0_0 : Int) (a0_1 : Int) (a0_2 : Int) (a1 : ByteArray) (r : Int) (w : World) (h : impl_CutAt.f k a0_0 a0_1 a0_2 a1 = some r) :
    Calls Try.prog 37 #[.agg #[.int .i64 a0_0, .int .i64 a0_1, .int .i64 a0_2], .string a1] w fun e w' => e = .returned (.int .i64 r) ∧ Below w.heap.size w w' := by
  have hu40 := Try.underlying40
  have HB := Aside0.mk (Below.refl w.heap.size w)
  have H : ((impl_isLong.f a1).bind fun t258 => (if t258 = true then (some 0) else ((impl_CuttingRight.f a0_0 a0_1 a0_2).bind fun t259 => (if t259 = true then ((impl_cutAt.f k a0_0 a0_1 a0_2 a1).bind fun t260 => (some t260)) else (some 0))))) = some r := h
  clear h
  replace H := Option.bind_eq_some_iff.mp H
  obtain ⟨t258, A30, H⟩ := H
  replace H : (if t258 = true then (some 0) else ((impl_CuttingRight.f a0_0 a0_1 a0_2).bind fun t259 => (if t259 = true then ((impl_cutAt.f k a0_0 a0_1 a0_2 a1).bind fun t260 => (some t260)) else (some 0)))) = some r := H
  have A3 := Aside0.mk A30
  clear A30
  by_cases c4 : t258 = true
  · subst c4
    have H1 : (some 0) = some r := by rw [if_pos rfl] at H; exact H
    clear H
    have H := H1
    clear H1
    obtain rfl := Option.some.inj H
    go_enter Try.func37, Try.ntmps37
    go_wp2_with (first | ((with_reducible refine gate_dst (N := 2) rfl ?_); refine box_event ?hg (N := 2) ?hd (cs := #[.int .i64 a0_0, .int .i64 a0_1, .int .i64 a0_2]) (t := 40) ?hr ?_; (case hd => rfl); (case hg => rfl); (case hr => first | (go_simp; done) | (go_simp; rfl)); intro gb257 hg w5 hbox hb; have n0_ := Aside0.mk (below_step (by repeat (first | (with_reducible first | exact HB.out | apply below_alloc | apply pw_below_drewN | apply below_drew1) | exact HB.out)) hb); have n1_ := Aside0.mk (hbox); have n2_ := Aside0.mk ((by rw [hg]; exact (below_size (by repeat (first | (with_reducible first | exact HB.out | apply below_alloc | apply pw_below_drewN | apply below_drew1) | exact HB.out))) : w.heap.size ≤ gb257)); have n3_ := Aside0.mk ((by rw [hg]; exact (below_size (by repeat (first | (with_reducible first | exact HB.out | apply below_alloc | apply pw_below_drewN | apply below_drew1) | exact HB.out))) : w.heap.size ≤ gb257)); clear HB; have HB := n0_; have BK257 := n1_; have GW257 := n2_; have GE257 := n3_; clear n0_ n1_ n2_ n3_; clear hb hbox hg) | ((with_reducible refine gate_callee (f := 78) rfl ?_); refine goesL_ (some 6) rfl rfl Try.func78 (by kernel_rfl) rfl #[.string a1] rfl (by (try simp only [List.map_toArray, List.map_cons, List.map_nil]); first | done | rfl | (simp only [List.length_drop, List.length_take]; rfl)) ?_; (with_reducible refine (impl_isLong.calls a1 true _ A3.out).mono ?_); rintro e w' ⟨rfl, ⟨nd, rfl⟩⟩; refine ⟨_, rfl, ?_⟩))
    go_ret
    exact ⟨by first | rfl | (simp [errW_none, errW_some] <;> rfl) | (simp [*, errW_none, errW_some] <;> rfl), by repeat (first | (with_reducible first | exact HB.out | apply below_alloc | apply pw_below_drewN | apply below_drew1 | refine below_set ?_ GE257.out) | exact HB.out)⟩
  · replace c4 := Bool.eq_false_iff.mpr c4
    subst c4
    have H1 : ((impl_CuttingRight.f a0_0 a0_1 a0_2).bind fun t259 => (if t259 = true then ((impl_cutAt.f k a0_0 a0_1 a0_2 a1).bind fun t260 => (some t260)) else (some 0))) = some r := by rw [if_neg (show ¬ (false = true) by decide)] at H; exact H
    clear H
    have H := H1
    clear H1
    replace H := Option.bind_eq_some_iff.mp H
    obtain ⟨t259, A60, H⟩ := H
    replace H : (if t259 = true then ((impl_cutAt.f k a0_0 a0_1 a0_2 a1).bind fun t260 => (some t260)) else (some 0)) = some r := H
    have A6 := Aside0.mk A60
    clear A60
    by_cases c7 : t259 = true
    · subst c7
      have H1 : ((impl_cutAt.f k a0_0 a0_1 a0_2 a1).bind fun t260 => (some t260)) = some r := by rw [if_pos rfl] at H; exact H
      clear H
      have H := H1
      clear H1
      replace H := Option.bind_eq_some_iff.mp H
      obtain ⟨t260, A80, H⟩ := H
      replace H : (some t260) = some r := H
      have A8 := Aside0.mk A80
      clear A80
      obtain rfl := Option.some.inj H
      go_enter Try.func37, Try.ntmps37
      go_wp2_with (first | ((with_reducible refine gate_dst (N := 2) rfl ?_); refine box_event ?hg (N := 2) ?hd (cs := #[.int .i64 a0_0, .int .i64 a0_1, .int .i64 a0_2]) (t := 40) ?hr ?_; (case hd => rfl); (case hg => rfl); (case hr => first | (go_simp; done) | (go_simp; rfl)); intro gb257 hg w9 hbox hb; have n0_ := Aside0.mk (below_step (by repeat (first | (with_reducible first | exact HB.out | apply below_alloc | apply pw_below_drewN | apply below_drew1) | exact HB.out)) hb); have n1_ := Aside0.mk (hbox); have n2_ := Aside0.mk ((by rw [hg]; exact (below_size (by repeat (first | (with_reducible first | exact HB.out | apply below_alloc | apply pw_below_drewN | apply below_drew1) | exact HB.out))) : w.heap.size ≤ gb257)); have n3_ := Aside0.mk ((by rw [hg]; exact (below_size (by repeat (first | (with_reducible first | exact HB.out | apply below_alloc | apply pw_below_drewN | apply below_drew1) | exact HB.out))) : w.heap.size ≤ gb257)); clear HB; have HB := n0_; have BK257 := n1_; have GW257 := n2_; have GE257 := n3_; clear n0_ n1_ n2_ n3_; clear hb hbox hg) | ((with_reducible refine gate_callee (f := 78) rfl ?_); refine goesL_ (some 6) rfl rfl Try.func78 (by kernel_rfl) rfl #[.string a1] rfl (by (try simp only [List.map_toArray, List.map_cons, List.map_nil]); first | done | rfl | (simp only [List.length_drop, List.length_take]; rfl)) ?_; (with_reducible refine (impl_isLong.calls a1 false _ A3.out).mono ?_); rintro e w' ⟨rfl, ⟨nd, rfl⟩⟩; refine ⟨_, rfl, ?_⟩; have hcz10_0 : w9.cell? ⟨gb257, 0, none⟩ = some (.int .i64 a0_0) := (blk_cell BK257.out 0).trans rfl; have hcz10_1 : w9.cell? ⟨gb257, 1, none⟩ = some (.int .i64 a0_1) := (blk_cell BK257.out 1).trans rfl; have hcz10_2 : w9.cell? ⟨gb257, 2, none⟩ = some (.int .i64 a0_2) := (blk_cell BK257.out 2).trans rfl; have hfz10_0 := blk_frozen BK257.out 0; have hfz10_1 := blk_frozen BK257.out 1; have hfz10_2 := blk_frozen BK257.out 2) | (go_at_call 96; (with_reducible refine (impl_CuttingRight.calls a0_0 a0_1 a0_2 true _ A6.out).mono ?_); rintro e w11 ⟨rfl, hb⟩; have n0_ := Aside0.mk (blk_below (g := gb257) (o := .cells #[.int .i64 a0_0, .int .i64 a0_1, .int .i64 a0_2] 40 (0, 0)) (by (with_reducible repeat (first | refine blk_drewN ?_ _ | refine blk_drew ?_ | refine blk_alloc ?_ _)); exact BK257.out) hb); have n1_ := Aside0.mk (below_step (by repeat (first | (with_reducible first | exact HB.out | apply below_alloc | apply pw_below_drewN | apply below_drew1 | refine below_set ?_ GE257.out) | exact HB.out)) hb); clear BK257; clear HB; have BK257 := n0_; have HB := n1_; clear n0_ n1_; (try clear hb); (try clear hb2); (try clear hk); (try clear hi); have hcz12_0 : w11.cell? ⟨gb257, 0, none⟩ = some (.int .i64 a0_0) := (blk_cell BK257.out 0).trans rfl; have hcz12_1 : w11.cell? ⟨gb257, 1, none⟩ = some (.int .i64 a0_1) := (blk_cell BK257.out 1).trans rfl; have hcz12_2 : w11.cell? ⟨gb257, 2, none⟩ = some (.int .i64 a0_2) := (blk_cell BK257.out 2).trans rfl; have hfz12_0 := blk_frozen BK257.out 0; have hfz12_1 := blk_frozen BK257.out 1; have hfz12_2 := blk_frozen BK257.out 2) | ((with_reducible refine gate_callee (f := 100) rfl ?_); refine goesL_ (some 14) rfl rfl Try.func100 (by kernel_rfl) rfl #[.agg #[.int .i64 a0_0, .int .i64 a0_1, .int .i64 a0_2], .string a1] rfl (by (try simp only [List.map_toArray, List.map_cons, List.map_nil]); first | done | rfl | (simp only [List.length_drop, List.length_take]; rfl)) ?_; (with_reducible refine (impl_cutAt.calls k a0_0 a0_1 a0_2 a1 t260 _ A8.out).mono ?_); rintro e w13 ⟨rfl, hb⟩; refine ⟨_, rfl, ?_⟩; have n0_ := Aside0.mk (blk_below (g := gb257) (o := .cells #[.int .i64 a0_0, .int .i64 a0_1, .int .i64 a0_2] 40 (0, 0)) (by (with_reducible repeat (first | refine blk_drewN ?_ _ | refine blk_drew ?_ | refine blk_alloc ?_ _)); exact BK257.out) hb); have n1_ := Aside0.mk (below_step (by repeat (first | (with_reducible first | exact HB.out | apply below_alloc | apply pw_below_drewN | apply below_drew1 | refine below_set ?_ GE257.out) | exact HB.out)) hb); clear BK257; clear HB; have BK257 := n0_; have HB := n1_; clear n0_ n1_; (try clear hb); (try clear hb2); (try clear hk); (try clear hi)))
      go_ret
      exact ⟨by first | rfl | (simp [errW_none, errW_some] <;> rfl) | (simp [*, errW_none, errW_some] <;> rfl), by repeat (first | (with_reducible first | exact HB.out | apply below_alloc | apply pw_below_drewN | apply below_drew1 | refine below_set ?_ GE257.out) | exact HB.out)⟩
    · replace c7 := Bool.eq_false_iff.mpr c7
      subst c7
      have H1 : (some 0) = some r := by rw [if_neg (show ¬ (false = true) by decide)] at H; exact H
      clear H
      have H := H1
      clear H1
      obtain rfl := Option.some.inj H
      go_enter Try.func37, Try.ntmps37
      go_wp2_with (first | ((with_reducible refine gate_dst (N := 2) rfl ?_); refine box_event ?hg (N := 2) ?hd (cs := #[.int .i64 a0_0, .int .i64 a0_1, .int .i64 a0_2]) (t := 40) ?hr ?_; (case hd => rfl); (case hg => rfl); (case hr => first | (go_simp; done) | (go_simp; rfl)); intro gb257 hg w14 hbox hb; have n0_ := Aside0.mk (below_step (by repeat (first | (with_reducible first | exact HB.out | apply below_alloc | apply pw_below_drewN | apply below_drew1) | exact HB.out)) hb); have n1_ := Aside0.mk (hbox); have n2_ := Aside0.mk ((by rw [hg]; exact (below_size (by repeat (first | (with_reducible first | exact HB.out | apply below_alloc | apply pw_below_drewN | apply below_drew1) | exact HB.out))) : w.heap.size ≤ gb257)); have n3_ := Aside0.mk ((by rw [hg]; exact (below_size (by repeat (first | (with_reducible first | exact HB.out | apply below_alloc | apply pw_below_drewN | apply below_drew1) | exact HB.out))) : w.heap.size ≤ gb257)); clear HB; have HB := n0_; have BK257 := n1_; have GW257 := n2_; have GE257 := n3_; clear n0_ n1_ n2_ n3_; clear hb hbox hg) | ((with_reducible refine gate_callee (f := 78) rfl ?_); refine goesL_ (some 6) rfl rfl Try.func78 (by kernel_rfl) rfl #[.string a1] rfl (by (try simp only [List.map_toArray, List.map_cons, List.map_nil]); first | done | rfl | (simp only [List.length_drop, List.length_take]; rfl)) ?_; (with_reducible refine (impl_isLong.calls a1 false _ A3.out).mono ?_); rintro e w' ⟨rfl, ⟨nd, rfl⟩⟩; refine ⟨_, rfl, ?_⟩; have hcz15_0 : w14.cell? ⟨gb257, 0, none⟩ = some (.int .i64 a0_0) := (blk_cell BK257.out 0).trans rfl; have hcz15_1 : w14.cell? ⟨gb257, 1, none⟩ = some (.int .i64 a0_1) := (blk_cell BK257.out 1).trans rfl; have hcz15_2 : w14.cell? ⟨gb257, 2, none⟩ = some (.int .i64 a0_2) := (blk_cell BK257.out 2).trans rfl; have hfz15_0 := blk_frozen BK257.out 0; have hfz15_1 := blk_frozen BK257.out 1; have hfz15_2 := blk_frozen BK257.out 2) | (go_at_call 96; (with_reducible refine (impl_CuttingRight.calls a0_0 a0_1 a0_2 false _ A6.out).mono ?_); rintro e w16 ⟨rfl, hb⟩; have n0_ := Aside0.mk (blk_below (g := gb257) (o := .cells #[.int .i64 a0_0, .int .i64 a0_1, .int .i64 a0_2] 40 (0, 0)) (by (with_reducible repeat (first | refine blk_drewN ?_ _ | refine blk_drew ?_ | refine blk_alloc ?_ _)); exact BK257.out) hb); have n1_ := Aside0.mk (below_step (by repeat (first | (with_reducible first | exact HB.out | apply below_alloc | apply pw_below_drewN | apply below_drew1 | refine below_set ?_ GE257.out) | exact HB.out)) hb); clear BK257; clear HB; have BK257 := n0_; have HB := n1_; clear n0_ n1_; (try clear hb); (try clear hb2); (try clear hk); (try clear hi)))
      go_ret
      exact ⟨by first | rfl | (simp [errW_none, errW_some] <;> rfl) | (simp [*, errW_none, errW_some] <;> rfl), by repeat (first | (with_reducible first | exact HB.out | apply below_alloc | apply pw_below_drewN | apply below_drew1 | refine below_set ?_ GE257.out) | exact HB.out)⟩

end Go.Proofs.Yteljfdhjbnlgoaa.PFnPieces
