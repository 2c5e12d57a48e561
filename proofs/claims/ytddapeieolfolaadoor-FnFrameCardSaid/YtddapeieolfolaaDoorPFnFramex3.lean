/- Functions of the law FnFrame: the print's, with walks of this session's own. No statement is proved here. -/
import Derived.WalkLawsBesides
import Derived.Test.YtddapeieolfolaaDoorVRegFnFrame
-- A program of this session wrote this text: a changed copy of the kit print, with given functions.
import Derived.Test.YtddapeieolfolaaDoorPFnFramex0
import Derived.Test.YtddapeieolfolaaDoorPFnFramex2
namespace Go.Proofs.YtddapeieolfolaaDoor.PFnFrame
open Go.RowKit Go.Proofs.YtddapeieolfolaaDoorW.PrintWords Go.Proofs.YtddapeieolfolaaDoorW.PrintLast Go.Proofs.YtddapeieolfolaaDoorW.PrintMore Go.Proofs.YtddapeieolfolaaDoor.Reg Go.Proofs.YtddapeieolfolaaDoor.Aut
attribute [local go_sem] max2_int min2_int max_two min_two max_three min_three max_four min_four   -- for this text's walks alone
set_option linter.unusedVariables false
set_option linter.unusedSimpArgs false

/-! ### spec_FrameRight: function 50 -/
def spec_FrameRight.f (a0_0 : Int) (a0_1 : Int) (a0_2 : Int) (a0_3 : Int) (a0_4 : ByteArray) (a0_5 : ByteArray) : Option (Bool) := (spec_CodeRight.f a0_0 a0_1).bind fun t104 => (if t104 = true then (if a0_2 ≥ 0 then (if a0_2 < (wrap64 (a0_0 + a0_1)) then (if a0_3 ≥ 0 then (if a0_3 ≤ 12000 then (if (a0_4.size : Int) = 32 then ((spec_ShardSize.f a0_0 a0_3).bind fun t105 => (some ((a0_5.size : Int) == t105))) else (some false)) else (some false)) else (some false)) else (some false)) else (some false)) else (some false))
def spec_FrameRight.T1 : Bool × List (List Nat × List Nat) := (true, [([], []), ([0], [0]), ([], []), ([2], [2]), ([1, 3], [1, 3]), ([4, 4], [4]), ([5], [5]), ([6, 5], [5, 6]), ([7, 5], [5, 7]), ([5, 8], [5, 8]), ([9, 5], [9]), ([10], [10]), ([11, 10], [10, 11]), ([10], [10]), ([13, 10], [10, 13]), ([10], [10]), ([15, 10], [10, 15]), ([14, 16, 10], [10, 14, 16]), ([12, 17, 10], [10, 12, 17]), ([10, 18], [10, 18]), ([19, 10], [19]), ([20], [20]), ([21, 20], [20, 21]), ([22, 20], [20, 22]), ([20, 23], [20, 23]), ([24, 20], [24]), ([25], [25]), ([26, 25], [25, 26]), ([27, 25], [25, 27]), ([25, 28], [25, 28]), ([29, 25], [29]), ([30], [30]), ([31, 30], [30, 31]), ([32, 30], [30, 32]), ([33, 30], [30, 33]), ([30, 34], [30, 34]), ([35, 30], [35]), ([36], [36]), ([37, 36], [36, 37]), ([38, 36], [36, 38]), ([36], [36]), ([40, 36], [36, 40]), ([36], [36]), ([42, 36], [36, 42]), ([41, 43, 36, 36], [36, 41, 43]), ([39, 44, 36], [36, 39, 44]), ([36, 45], [36, 45]), ([46, 44, 0, 1, 2, 3, 4, 5, 6, 7, 8, 9, 10, 11, 12, 13, 14, 15, 16, 17, 18, 19, 20, 21, 22, 23, 24, 25, 26, 27, 28, 29, 30, 31, 32, 33, 34, 35, 36, 37, 38, 39, 40, 41, 42, 43, 44, 45, 46], [46])])
def spec_FrameRight.B1 : List Nat := [0, 1, 0, 4, 15, 31, 63, 127, 255, 511, 1023, 2047, 4095, 2047, 10239, 2047, 34815, 124927, 262143, 524287, 1048575, 2097151, 4194303, 8388607, 16777215, 33554431, 67108863, 134217727, 268435455, 536870911, 1073741823, 2147483647, 4294967295, 8589934591, 17179869183, 34359738367, 68719476735, 137438953471, 274877906943, 549755813887, 137438953471, 1236950581247, 137438953471, 4535485464575, 16630113370111, 35184372088831, 70368744177663, 140737488355327]
theorem spec_FrameRight.tab1 : rtab .any (opsOf Tryd.f50 1) = spec_FrameRight.T1 := by kernel_rfl
theorem spec_FrameRight.bits1 : waitsOk spec_FrameRight.T1.2 spec_FrameRight.B1 = true := by kernel_rfl
set_option maxHeartbeats 8000000 in
set_option maxRecDepth 100000 in
theorem spec_FrameRight.calls (a0_0 : Int) (a0_1 : Int) (a0_2 : Int) (a0_3 : Int) (a0_4 : ByteArray) (a0_5 : ByteArray) (r : Bool) (w : World) (h : spec_FrameRight.f a0_0 a0_1 a0_2 a0_3 a0_4 a0_5 = some r) :
    Calls Tryd.prog 50 #[.agg #[.int .i64 a0_0, .int .i64 a0_1, .int .i64 a0_2, .int .i64 a0_3, .string a0_4, .string a0_5]] w fun e w' => e = .returned (.bool r) ∧ Below w.heap.size w w' := by
  have hu28 := Tryd.underlying28
  have HB := AM (Below.refl w.heap.size w)
  have H : ((spec_CodeRight.f a0_0 a0_1).bind fun t104 => (if t104 = true then (if a0_2 ≥ 0 then (if a0_2 < (wrap64 (a0_0 + a0_1)) then (if a0_3 ≥ 0 then (if a0_3 ≤ 12000 then (if (a0_4.size : Int) = 32 then ((spec_ShardSize.f a0_0 a0_3).bind fun t105 => (some ((a0_5.size : Int) == t105))) else (some false)) else (some false)) else (some false)) else (some false)) else (some false)) else (some false))) = some r := h
  clear h
  obtain ⟨t104, A2, H⟩ := OB H
  try dsimp only at H
  replace A2 := AM A2
  by_cases c3 : t104 = true
  · subst c3
    rw [if_pos rfl] at H
    by_cases c4 : a0_2 ≥ 0
    · rw [if_pos c4] at H
      have c4b0 : decide (0 ≤ a0_2) = true := decide_eq_true c4
      clear c4
      by_cases c5 : a0_2 < (wrap64 (a0_0 + a0_1))
      · rw [if_pos c5] at H
        have c5b0 : decide (a0_2 < (wrap64 (a0_0 + a0_1))) = true := decide_eq_true c5
        try have c5b9 : (decide (a0_2 < ((a0_0 + a0_1)))) = true := (by have hw0 : wrap64 (a0_0 + a0_1) = a0_0 + a0_1 := (by unfold wrap64; omega); have z_ := c5b0; simp only [hw0] at z_; exact z_)
        clear c5
        by_cases c6 : a0_3 ≥ 0
        · rw [if_pos c6] at H
          have c6b0 : decide (0 ≤ a0_3) = true := decide_eq_true c6
          clear c6
          by_cases c7 : a0_3 ≤ 12000
          · rw [if_pos c7] at H
            have c7b0 : decide (a0_3 ≤ 12000) = true := decide_eq_true c7
            clear c7
            by_cases c8 : (a0_4.size : Int) = 32
            · rw [if_pos c8] at H
              have c8b0 : ((a0_4.size : Int) == 32) = true := beq_iff_eq.mpr c8
              have c8b1 : ((a0_4.size : Int) != 32) = false := bne_eq_false_iff_eq.mpr c8
              clear c8
              obtain ⟨t105, A9, H⟩ := OB H
              try dsimp only at H
              replace A9 := AM A9
              obtain rfl := Option.some.inj H
              go_enter Tryd.func50, Tryd.ntmps50
              try go_wp2_with (first | ((with_reducible refine gate_dst (N := 1) rfl ?_); (try (refine gate_guard (by rfl) ?_; dsimp only)); refine be_ 1 #[.int .i64 a0_0, .int .i64 a0_1, .int .i64 a0_2, .int .i64 a0_3, .string a0_4, .string a0_5] 28 ?_; intro gb103 hg w10 hbox hb; have BK103 := AM hbox; have GW103 := AM ((by rw [hg]; exact (below_size bel_) : w.heap.size ≤ gb103)); have GE103 := AM ((by rw [hg]; exact (below_size bel_) : w.heap.size ≤ gb103)); replace HB := AM (below_step bel_ hb); clear hb hbox hg))
              replace BK103 := AM (blk_drew BK103.out)
              replace HB := AM (below_drew1 HB.out)
              refine start_ (n := 48) (S := fun w' => w'.cell? ⟨gb103, 0, none⟩ = some (.int .i64 a0_0) ∧ w'.cell? ⟨gb103, 1, none⟩ = some (.int .i64 a0_1) ∧ w'.cell? ⟨gb103, 2, none⟩ = some (.int .i64 a0_2) ∧ w'.cell? ⟨gb103, 3, none⟩ = some (.int .i64 a0_3) ∧ w'.cell? ⟨gb103, 4, none⟩ = some (.string a0_4) ∧ w'.cell? ⟨gb103, 5, none⟩ = some (.string a0_5)) (ds := []) (Array.replicate 48 false) (by kernel_rfl) rfl rfl ⟨(blk_cell BK103.out 0).trans rfl, (blk_cell BK103.out 1).trans rfl, (blk_cell BK103.out 2).trans rfl, (blk_cell BK103.out 3).trans rfl, (blk_cell BK103.out 4).trans rfl, (blk_cell BK103.out 5).trans rfl⟩ (fun hHeld => ?_); refine with_tabW spec_FrameRight.tab1 spec_FrameRight.bits1 (fun HT_ HW_ => ?_)
              generalize w10.drew = w11 at BK103 HB hHeld ⊢
              refine pu_ HT_ 0 (some 3) (bA 48 1) ?_
              refine pu_ HT_ 2 (some 5) (bA 48 5) ?_
              refine ta_ HT_ HW_ 1 (some 4) (bA 48 7) hHeld ?_
              refine ta_ HT_ HW_ 3 (some 6) (bA 48 15) hHeld ?_
              refine on_ HT_ 4 (some 7) (bA 48 31) (fun K hK => ?_)
              refine go1_ Tryd.func96 #[.int .i64 a0_0, .int .i64 a0_1] ?_
              with_reducible refine (spec_CodeRight.calls a0_0 a0_1 true _ A2.out).mono ?_
              rintro e w' ⟨rfl, ⟨nd, rfl⟩⟩
              refine ⟨_, rfl, ?_⟩
              refine hK.out _ _ ⟨(blk_cell BK103.out 0).trans rfl, (blk_cell BK103.out 1).trans rfl, (blk_cell BK103.out 2).trans rfl, (blk_cell BK103.out 3).trans rfl, (blk_cell BK103.out 4).trans rfl, (blk_cell BK103.out 5).trans rfl⟩ (fun hHeld => ?_)
              clear hK K
              refine nm_ ?_
              refine pu_ HT_ 5 (some 8) (bA 48 63) ?_
              refine pu_ HT_ 6 (some 9) (bA 48 127) ?_
              refine ta_ HT_ HW_ 7 (some 10) (bA 48 255) hHeld ?_
              refine pu_ HT_ 8 (some 11) (bA 48 511) ?_
              refine pu_ HT_ 9 (some 12) (bA 48 1023) ?_
              refine pu_ HT_ 10 (some 13) (bA 48 2047) ?_
              refine pu_ HT_ 11 (some 14) (bA 48 4095) ?_
              refine pu_ HT_ 13 (some 16) (bA 48 12287) ?_
              refine pu_ HT_ 15 (some 18) (bA 48 45055) ?_
              refine ta_ HT_ HW_ 12 (some 15) (bA 48 49151) hHeld ?_
              refine ta_ HT_ HW_ 14 (some 17) (bA 48 65535) hHeld ?_
              refine ta_ HT_ HW_ 16 (some 19) (bA 48 131071) hHeld ?_
              refine pu_ HT_ 17 (some 20) (bA 48 262143) ?_
              refine pu_ HT_ 18 (some 21) (bA 48 524287) ?_
              refine pu_ HT_ 19 (some 22) (bA 48 1048575) ?_
              refine pu_ HT_ 20 (some 23) (bA 48 2097151) ?_
              refine pu_ HT_ 21 (some 24) (bA 48 4194303) ?_
              refine ta_ HT_ HW_ 22 (some 25) (bA 48 8388607) hHeld ?_
              refine pu_ HT_ 23 (some 26) (bA 48 16777215) ?_
              refine pu_ HT_ 24 (some 27) (bA 48 33554431) ?_
              refine pu_ HT_ 25 (some 28) (bA 48 67108863) ?_
              refine pu_ HT_ 26 (some 29) (bA 48 134217727) ?_
              refine ta_ HT_ HW_ 27 (some 30) (bA 48 268435455) hHeld ?_
              refine pu_ HT_ 28 (some 31) (bA 48 536870911) ?_
              refine pu_ HT_ 29 (some 32) (bA 48 1073741823) ?_
              refine pu_ HT_ 30 (some 33) (bA 48 2147483647) ?_
              refine pu_ HT_ 31 (some 34) (bA 48 4294967295) ?_
              refine ta_ HT_ HW_ 32 (some 35) (bA 48 8589934591) hHeld ?_
              refine pu_ HT_ 33 (some 36) (bA 48 17179869183) ?_
              refine pu_ HT_ 34 (some 37) (bA 48 34359738367) ?_
              refine pu_ HT_ 35 (some 38) (bA 48 68719476735) ?_
              refine pu_ HT_ 36 (some 39) (bA 48 137438953471) ?_
              refine pu_ HT_ 37 (some 40) (bA 48 274877906943) ?_
              refine pu_ HT_ 40 (some 43) (bA 48 1374389534719) ?_
              refine pu_ HT_ 42 (some 45) (bA 48 5772436045823) ?_
              refine ta_ HT_ HW_ 38 (some 41) (bA 48 6047313952767) hHeld ?_
              refine pu_ HT_ 39 (some 42) (bA 48 6597069766655) ?_
              refine ta_ HT_ HW_ 41 (some 44) (bA 48 8796093022207) hHeld ?_
              refine ta_ HT_ HW_ 43 (some 46) (bA 48 17592186044415) hHeld ?_
              refine on_ HT_ 44 (some 47) (bA 48 35184372088831) (fun K hK => ?_)
              refine go1_ Tryd.func97 #[.int .i64 a0_0, .int .i64 a0_3] ?_
              with_reducible refine (spec_ShardSize.calls a0_0 a0_3 t105 _ A9.out).mono ?_
              rintro e w' ⟨rfl, ⟨nd, rfl⟩⟩
              refine ⟨_, rfl, ?_⟩
              refine hK.out _ _ ⟨(blk_cell BK103.out 0).trans rfl, (blk_cell BK103.out 1).trans rfl, (blk_cell BK103.out 2).trans rfl, (blk_cell BK103.out 3).trans rfl, (blk_cell BK103.out 4).trans rfl, (blk_cell BK103.out 5).trans rfl⟩ (fun hHeld => ?_)
              clear hK K
              refine nm_ ?_
              refine pu_ HT_ 45 (some 48) (bA 48 70368744177663) ?_
              refine pu_ HT_ 46 (some 49) (bA 48 140737488355327) ?_
              refine pu_ HT_ 47 (some 2) (bA 48 281474976710655) ?_
              refine dn_ HT_ ?_
              try go_wp2
              go_ret
              exact ⟨ri_, bel_⟩
            · rw [if_neg c8] at H
              have c8b0 : ((a0_4.size : Int) == 32) = false := beq_eq_false_iff_ne.mpr c8
              have c8b1 : ((a0_4.size : Int) != 32) = true := bne_iff_ne.mpr c8
              obtain rfl := Option.some.inj H
              go_enter Tryd.func50, Tryd.ntmps50
              try go_wp2_with (first | ((with_reducible refine gate_dst (N := 1) rfl ?_); (try (refine gate_guard (by rfl) ?_; dsimp only)); refine be_ 1 #[.int .i64 a0_0, .int .i64 a0_1, .int .i64 a0_2, .int .i64 a0_3, .string a0_4, .string a0_5] 28 ?_; intro gb103 hg w12 hbox hb; have BK103 := AM hbox; have GW103 := AM ((by rw [hg]; exact (below_size bel_) : w.heap.size ≤ gb103)); have GE103 := AM ((by rw [hg]; exact (below_size bel_) : w.heap.size ≤ gb103)); replace HB := AM (below_step bel_ hb); clear hb hbox hg))
              replace BK103 := AM (blk_drew BK103.out)
              replace HB := AM (below_drew1 HB.out)
              refine start_ (n := 48) (S := fun w' => w'.cell? ⟨gb103, 0, none⟩ = some (.int .i64 a0_0) ∧ w'.cell? ⟨gb103, 1, none⟩ = some (.int .i64 a0_1) ∧ w'.cell? ⟨gb103, 2, none⟩ = some (.int .i64 a0_2) ∧ w'.cell? ⟨gb103, 3, none⟩ = some (.int .i64 a0_3) ∧ w'.cell? ⟨gb103, 4, none⟩ = some (.string a0_4) ∧ w'.cell? ⟨gb103, 5, none⟩ = some (.string a0_5)) (ds := []) (Array.replicate 48 false) (by kernel_rfl) rfl rfl ⟨(blk_cell BK103.out 0).trans rfl, (blk_cell BK103.out 1).trans rfl, (blk_cell BK103.out 2).trans rfl, (blk_cell BK103.out 3).trans rfl, (blk_cell BK103.out 4).trans rfl, (blk_cell BK103.out 5).trans rfl⟩ (fun hHeld => ?_); refine with_tabW spec_FrameRight.tab1 spec_FrameRight.bits1 (fun HT_ HW_ => ?_)
              generalize w12.drew = w13 at BK103 HB hHeld ⊢
              refine pu_ HT_ 0 (some 3) (bA 48 1) ?_
              refine pu_ HT_ 2 (some 5) (bA 48 5) ?_
              refine ta_ HT_ HW_ 1 (some 4) (bA 48 7) hHeld ?_
              refine ta_ HT_ HW_ 3 (some 6) (bA 48 15) hHeld ?_
              refine on_ HT_ 4 (some 7) (bA 48 31) (fun K hK => ?_)
              refine go1_ Tryd.func96 #[.int .i64 a0_0, .int .i64 a0_1] ?_
              with_reducible refine (spec_CodeRight.calls a0_0 a0_1 true _ A2.out).mono ?_
              rintro e w' ⟨rfl, ⟨nd, rfl⟩⟩
              refine ⟨_, rfl, ?_⟩
              refine hK.out _ _ ⟨(blk_cell BK103.out 0).trans rfl, (blk_cell BK103.out 1).trans rfl, (blk_cell BK103.out 2).trans rfl, (blk_cell BK103.out 3).trans rfl, (blk_cell BK103.out 4).trans rfl, (blk_cell BK103.out 5).trans rfl⟩ (fun hHeld => ?_)
              clear hK K
              refine nm_ ?_
              refine pu_ HT_ 5 (some 8) (bA 48 63) ?_
              refine pu_ HT_ 6 (some 9) (bA 48 127) ?_
              refine ta_ HT_ HW_ 7 (some 10) (bA 48 255) hHeld ?_
              refine pu_ HT_ 8 (some 11) (bA 48 511) ?_
              refine pu_ HT_ 9 (some 12) (bA 48 1023) ?_
              refine pu_ HT_ 10 (some 13) (bA 48 2047) ?_
              refine pu_ HT_ 11 (some 14) (bA 48 4095) ?_
              refine pu_ HT_ 13 (some 16) (bA 48 12287) ?_
              refine pu_ HT_ 15 (some 18) (bA 48 45055) ?_
              refine ta_ HT_ HW_ 12 (some 15) (bA 48 49151) hHeld ?_
              refine ta_ HT_ HW_ 14 (some 17) (bA 48 65535) hHeld ?_
              refine ta_ HT_ HW_ 16 (some 19) (bA 48 131071) hHeld ?_
              refine pu_ HT_ 17 (some 20) (bA 48 262143) ?_
              refine pu_ HT_ 18 (some 21) (bA 48 524287) ?_
              refine pu_ HT_ 19 (some 22) (bA 48 1048575) ?_
              refine pu_ HT_ 20 (some 23) (bA 48 2097151) ?_
              refine pu_ HT_ 21 (some 24) (bA 48 4194303) ?_
              refine ta_ HT_ HW_ 22 (some 25) (bA 48 8388607) hHeld ?_
              refine pu_ HT_ 23 (some 26) (bA 48 16777215) ?_
              refine pu_ HT_ 24 (some 27) (bA 48 33554431) ?_
              refine pu_ HT_ 25 (some 28) (bA 48 67108863) ?_
              refine pu_ HT_ 26 (some 29) (bA 48 134217727) ?_
              refine ta_ HT_ HW_ 27 (some 30) (bA 48 268435455) hHeld ?_
              refine pu_ HT_ 28 (some 31) (bA 48 536870911) ?_
              refine pu_ HT_ 29 (some 32) (bA 48 1073741823) ?_
              refine pu_ HT_ 30 (some 33) (bA 48 2147483647) ?_
              refine pu_ HT_ 31 (some 34) (bA 48 4294967295) ?_
              refine ta_ HT_ HW_ 32 (some 35) (bA 48 8589934591) hHeld ?_
              refine pu_ HT_ 33 (some 36) (bA 48 17179869183) ?_
              refine pu_ HT_ 34 (some 37) (bA 48 34359738367) ?_
              refine pu_ HT_ 35 (some 38) (bA 48 68719476735) ?_
              refine pu_ HT_ 36 (some 39) (bA 48 137438953471) ?_
              refine pu_ HT_ 37 (some 40) (bA 48 274877906943) ?_
              refine pu_ HT_ 38 (some 41) (bA 48 549755813887) ?_
              refine pu_ HT_ 39 (some 42) (bA 48 1099511627775) ?_
              refine pu_ HT_ 40 (some 43) (bA 48 2199023255551) ?_
              refine pu_ HT_ 41 (some 44) (bA 48 4398046511103) ?_
              refine pu_ HT_ 42 (some 45) (bA 48 8796093022207) ?_
              refine pu_ HT_ 43 (some 46) (bA 48 17592186044415) ?_
              refine pu_ HT_ 44 (some 47) (bA 48 35184372088831) ?_
              refine pu_ HT_ 45 (some 48) (bA 48 70368744177663) ?_
              refine pu_ HT_ 46 (some 49) (bA 48 140737488355327) ?_
              refine pu_ HT_ 47 (some 2) (bA 48 281474976710655) ?_
              refine dn_ HT_ ?_
              try go_wp2
              go_ret
              exact ⟨ri_, bel_⟩
          · rw [if_neg c7] at H
            have c7b0 : decide (a0_3 ≤ 12000) = false := decide_eq_false c7
            clear c7
            obtain rfl := Option.some.inj H
            go_enter Tryd.func50, Tryd.ntmps50
            try go_wp2_with (first | ((with_reducible refine gate_dst (N := 1) rfl ?_); (try (refine gate_guard (by rfl) ?_; dsimp only)); refine be_ 1 #[.int .i64 a0_0, .int .i64 a0_1, .int .i64 a0_2, .int .i64 a0_3, .string a0_4, .string a0_5] 28 ?_; intro gb103 hg w14 hbox hb; have BK103 := AM hbox; have GW103 := AM ((by rw [hg]; exact (below_size bel_) : w.heap.size ≤ gb103)); have GE103 := AM ((by rw [hg]; exact (below_size bel_) : w.heap.size ≤ gb103)); replace HB := AM (below_step bel_ hb); clear hb hbox hg))
            replace BK103 := AM (blk_drew BK103.out)
            replace HB := AM (below_drew1 HB.out)
            refine start_ (n := 48) (S := fun w' => w'.cell? ⟨gb103, 0, none⟩ = some (.int .i64 a0_0) ∧ w'.cell? ⟨gb103, 1, none⟩ = some (.int .i64 a0_1) ∧ w'.cell? ⟨gb103, 2, none⟩ = some (.int .i64 a0_2) ∧ w'.cell? ⟨gb103, 3, none⟩ = some (.int .i64 a0_3) ∧ w'.cell? ⟨gb103, 4, none⟩ = some (.string a0_4) ∧ w'.cell? ⟨gb103, 5, none⟩ = some (.string a0_5)) (ds := []) (Array.replicate 48 false) (by kernel_rfl) rfl rfl ⟨(blk_cell BK103.out 0).trans rfl, (blk_cell BK103.out 1).trans rfl, (blk_cell BK103.out 2).trans rfl, (blk_cell BK103.out 3).trans rfl, (blk_cell BK103.out 4).trans rfl, (blk_cell BK103.out 5).trans rfl⟩ (fun hHeld => ?_); refine with_tabW spec_FrameRight.tab1 spec_FrameRight.bits1 (fun HT_ HW_ => ?_)
            generalize w14.drew = w15 at BK103 HB hHeld ⊢
            refine pu_ HT_ 0 (some 3) (bA 48 1) ?_
            refine pu_ HT_ 2 (some 5) (bA 48 5) ?_
            refine ta_ HT_ HW_ 1 (some 4) (bA 48 7) hHeld ?_
            refine ta_ HT_ HW_ 3 (some 6) (bA 48 15) hHeld ?_
            refine on_ HT_ 4 (some 7) (bA 48 31) (fun K hK => ?_)
            refine go1_ Tryd.func96 #[.int .i64 a0_0, .int .i64 a0_1] ?_
            with_reducible refine (spec_CodeRight.calls a0_0 a0_1 true _ A2.out).mono ?_
            rintro e w' ⟨rfl, ⟨nd, rfl⟩⟩
            refine ⟨_, rfl, ?_⟩
            refine hK.out _ _ ⟨(blk_cell BK103.out 0).trans rfl, (blk_cell BK103.out 1).trans rfl, (blk_cell BK103.out 2).trans rfl, (blk_cell BK103.out 3).trans rfl, (blk_cell BK103.out 4).trans rfl, (blk_cell BK103.out 5).trans rfl⟩ (fun hHeld => ?_)
            clear hK K
            refine nm_ ?_
            refine pu_ HT_ 5 (some 8) (bA 48 63) ?_
            refine pu_ HT_ 6 (some 9) (bA 48 127) ?_
            refine ta_ HT_ HW_ 7 (some 10) (bA 48 255) hHeld ?_
            refine pu_ HT_ 8 (some 11) (bA 48 511) ?_
            refine pu_ HT_ 9 (some 12) (bA 48 1023) ?_
            refine pu_ HT_ 10 (some 13) (bA 48 2047) ?_
            refine pu_ HT_ 11 (some 14) (bA 48 4095) ?_
            refine pu_ HT_ 13 (some 16) (bA 48 12287) ?_
            refine pu_ HT_ 15 (some 18) (bA 48 45055) ?_
            refine ta_ HT_ HW_ 12 (some 15) (bA 48 49151) hHeld ?_
            refine ta_ HT_ HW_ 14 (some 17) (bA 48 65535) hHeld ?_
            refine ta_ HT_ HW_ 16 (some 19) (bA 48 131071) hHeld ?_
            refine pu_ HT_ 17 (some 20) (bA 48 262143) ?_
            refine pu_ HT_ 18 (some 21) (bA 48 524287) ?_
            refine pu_ HT_ 19 (some 22) (bA 48 1048575) ?_
            refine pu_ HT_ 20 (some 23) (bA 48 2097151) ?_
            refine pu_ HT_ 21 (some 24) (bA 48 4194303) ?_
            refine ta_ HT_ HW_ 22 (some 25) (bA 48 8388607) hHeld ?_
            refine pu_ HT_ 23 (some 26) (bA 48 16777215) ?_
            refine pu_ HT_ 24 (some 27) (bA 48 33554431) ?_
            refine pu_ HT_ 25 (some 28) (bA 48 67108863) ?_
            refine pu_ HT_ 26 (some 29) (bA 48 134217727) ?_
            refine ta_ HT_ HW_ 27 (some 30) (bA 48 268435455) hHeld ?_
            refine pu_ HT_ 28 (some 31) (bA 48 536870911) ?_
            refine pu_ HT_ 29 (some 32) (bA 48 1073741823) ?_
            refine pu_ HT_ 30 (some 33) (bA 48 2147483647) ?_
            refine pu_ HT_ 31 (some 34) (bA 48 4294967295) ?_
            refine pu_ HT_ 32 (some 35) (bA 48 8589934591) ?_
            refine pu_ HT_ 33 (some 36) (bA 48 17179869183) ?_
            refine pu_ HT_ 34 (some 37) (bA 48 34359738367) ?_
            refine pu_ HT_ 35 (some 38) (bA 48 68719476735) ?_
            refine pu_ HT_ 36 (some 39) (bA 48 137438953471) ?_
            refine pu_ HT_ 37 (some 40) (bA 48 274877906943) ?_
            refine pu_ HT_ 38 (some 41) (bA 48 549755813887) ?_
            refine pu_ HT_ 39 (some 42) (bA 48 1099511627775) ?_
            refine pu_ HT_ 40 (some 43) (bA 48 2199023255551) ?_
            refine pu_ HT_ 41 (some 44) (bA 48 4398046511103) ?_
            refine pu_ HT_ 42 (some 45) (bA 48 8796093022207) ?_
            refine pu_ HT_ 43 (some 46) (bA 48 17592186044415) ?_
            refine pu_ HT_ 44 (some 47) (bA 48 35184372088831) ?_
            refine pu_ HT_ 45 (some 48) (bA 48 70368744177663) ?_
            refine pu_ HT_ 46 (some 49) (bA 48 140737488355327) ?_
            refine pu_ HT_ 47 (some 2) (bA 48 281474976710655) ?_
            refine dn_ HT_ ?_
            try go_wp2
            go_ret
            exact ⟨ri_, bel_⟩
        · rw [if_neg c6] at H
          have c6b0 : decide (0 ≤ a0_3) = false := decide_eq_false c6
          clear c6
          obtain rfl := Option.some.inj H
          go_enter Tryd.func50, Tryd.ntmps50
          try go_wp2_with (first | ((with_reducible refine gate_dst (N := 1) rfl ?_); (try (refine gate_guard (by rfl) ?_; dsimp only)); refine be_ 1 #[.int .i64 a0_0, .int .i64 a0_1, .int .i64 a0_2, .int .i64 a0_3, .string a0_4, .string a0_5] 28 ?_; intro gb103 hg w16 hbox hb; have BK103 := AM hbox; have GW103 := AM ((by rw [hg]; exact (below_size bel_) : w.heap.size ≤ gb103)); have GE103 := AM ((by rw [hg]; exact (below_size bel_) : w.heap.size ≤ gb103)); replace HB := AM (below_step bel_ hb); clear hb hbox hg))
          replace BK103 := AM (blk_drew BK103.out)
          replace HB := AM (below_drew1 HB.out)
          refine start_ (n := 48) (S := fun w' => w'.cell? ⟨gb103, 0, none⟩ = some (.int .i64 a0_0) ∧ w'.cell? ⟨gb103, 1, none⟩ = some (.int .i64 a0_1) ∧ w'.cell? ⟨gb103, 2, none⟩ = some (.int .i64 a0_2) ∧ w'.cell? ⟨gb103, 3, none⟩ = some (.int .i64 a0_3) ∧ w'.cell? ⟨gb103, 4, none⟩ = some (.string a0_4) ∧ w'.cell? ⟨gb103, 5, none⟩ = some (.string a0_5)) (ds := []) (Array.replicate 48 false) (by kernel_rfl) rfl rfl ⟨(blk_cell BK103.out 0).trans rfl, (blk_cell BK103.out 1).trans rfl, (blk_cell BK103.out 2).trans rfl, (blk_cell BK103.out 3).trans rfl, (blk_cell BK103.out 4).trans rfl, (blk_cell BK103.out 5).trans rfl⟩ (fun hHeld => ?_); refine with_tabW spec_FrameRight.tab1 spec_FrameRight.bits1 (fun HT_ HW_ => ?_)
          generalize w16.drew = w17 at BK103 HB hHeld ⊢
          refine pu_ HT_ 0 (some 3) (bA 48 1) ?_
          refine pu_ HT_ 2 (some 5) (bA 48 5) ?_
          refine ta_ HT_ HW_ 1 (some 4) (bA 48 7) hHeld ?_
          refine ta_ HT_ HW_ 3 (some 6) (bA 48 15) hHeld ?_
          refine on_ HT_ 4 (some 7) (bA 48 31) (fun K hK => ?_)
          refine go1_ Tryd.func96 #[.int .i64 a0_0, .int .i64 a0_1] ?_
          with_reducible refine (spec_CodeRight.calls a0_0 a0_1 true _ A2.out).mono ?_
          rintro e w' ⟨rfl, ⟨nd, rfl⟩⟩
          refine ⟨_, rfl, ?_⟩
          refine hK.out _ _ ⟨(blk_cell BK103.out 0).trans rfl, (blk_cell BK103.out 1).trans rfl, (blk_cell BK103.out 2).trans rfl, (blk_cell BK103.out 3).trans rfl, (blk_cell BK103.out 4).trans rfl, (blk_cell BK103.out 5).trans rfl⟩ (fun hHeld => ?_)
          clear hK K
          refine nm_ ?_
          refine pu_ HT_ 5 (some 8) (bA 48 63) ?_
          refine pu_ HT_ 6 (some 9) (bA 48 127) ?_
          refine ta_ HT_ HW_ 7 (some 10) (bA 48 255) hHeld ?_
          refine pu_ HT_ 8 (some 11) (bA 48 511) ?_
          refine pu_ HT_ 9 (some 12) (bA 48 1023) ?_
          refine pu_ HT_ 10 (some 13) (bA 48 2047) ?_
          refine pu_ HT_ 11 (some 14) (bA 48 4095) ?_
          refine pu_ HT_ 13 (some 16) (bA 48 12287) ?_
          refine pu_ HT_ 15 (some 18) (bA 48 45055) ?_
          refine ta_ HT_ HW_ 12 (some 15) (bA 48 49151) hHeld ?_
          refine ta_ HT_ HW_ 14 (some 17) (bA 48 65535) hHeld ?_
          refine ta_ HT_ HW_ 16 (some 19) (bA 48 131071) hHeld ?_
          refine pu_ HT_ 17 (some 20) (bA 48 262143) ?_
          refine pu_ HT_ 18 (some 21) (bA 48 524287) ?_
          refine pu_ HT_ 19 (some 22) (bA 48 1048575) ?_
          refine pu_ HT_ 20 (some 23) (bA 48 2097151) ?_
          refine pu_ HT_ 21 (some 24) (bA 48 4194303) ?_
          refine ta_ HT_ HW_ 22 (some 25) (bA 48 8388607) hHeld ?_
          refine pu_ HT_ 23 (some 26) (bA 48 16777215) ?_
          refine pu_ HT_ 24 (some 27) (bA 48 33554431) ?_
          refine pu_ HT_ 25 (some 28) (bA 48 67108863) ?_
          refine pu_ HT_ 26 (some 29) (bA 48 134217727) ?_
          refine pu_ HT_ 27 (some 30) (bA 48 268435455) ?_
          refine pu_ HT_ 28 (some 31) (bA 48 536870911) ?_
          refine pu_ HT_ 29 (some 32) (bA 48 1073741823) ?_
          refine pu_ HT_ 30 (some 33) (bA 48 2147483647) ?_
          refine pu_ HT_ 31 (some 34) (bA 48 4294967295) ?_
          refine pu_ HT_ 32 (some 35) (bA 48 8589934591) ?_
          refine pu_ HT_ 33 (some 36) (bA 48 17179869183) ?_
          refine pu_ HT_ 34 (some 37) (bA 48 34359738367) ?_
          refine pu_ HT_ 35 (some 38) (bA 48 68719476735) ?_
          refine pu_ HT_ 36 (some 39) (bA 48 137438953471) ?_
          refine pu_ HT_ 37 (some 40) (bA 48 274877906943) ?_
          refine pu_ HT_ 38 (some 41) (bA 48 549755813887) ?_
          refine pu_ HT_ 39 (some 42) (bA 48 1099511627775) ?_
          refine pu_ HT_ 40 (some 43) (bA 48 2199023255551) ?_
          refine pu_ HT_ 41 (some 44) (bA 48 4398046511103) ?_
          refine pu_ HT_ 42 (some 45) (bA 48 8796093022207) ?_
          refine pu_ HT_ 43 (some 46) (bA 48 17592186044415) ?_
          refine pu_ HT_ 44 (some 47) (bA 48 35184372088831) ?_
          refine pu_ HT_ 45 (some 48) (bA 48 70368744177663) ?_
          refine pu_ HT_ 46 (some 49) (bA 48 140737488355327) ?_
          refine pu_ HT_ 47 (some 2) (bA 48 281474976710655) ?_
          refine dn_ HT_ ?_
          try go_wp2
          go_ret
          exact ⟨ri_, bel_⟩
      · rw [if_neg c5] at H
        have c5b0 : decide (a0_2 < (wrap64 (a0_0 + a0_1))) = false := decide_eq_false c5
        try have c5b9 : (decide (a0_2 < ((a0_0 + a0_1)))) = false := (by have hw0 : wrap64 (a0_0 + a0_1) = a0_0 + a0_1 := (by unfold wrap64; omega); have z_ := c5b0; simp only [hw0] at z_; exact z_)
        clear c5
        obtain rfl := Option.some.inj H
        go_enter Tryd.func50, Tryd.ntmps50
        try go_wp2_with (first | ((with_reducible refine gate_dst (N := 1) rfl ?_); (try (refine gate_guard (by rfl) ?_; dsimp only)); refine be_ 1 #[.int .i64 a0_0, .int .i64 a0_1, .int .i64 a0_2, .int .i64 a0_3, .string a0_4, .string a0_5] 28 ?_; intro gb103 hg w18 hbox hb; have BK103 := AM hbox; have GW103 := AM ((by rw [hg]; exact (below_size bel_) : w.heap.size ≤ gb103)); have GE103 := AM ((by rw [hg]; exact (below_size bel_) : w.heap.size ≤ gb103)); replace HB := AM (below_step bel_ hb); clear hb hbox hg))
        replace BK103 := AM (blk_drew BK103.out)
        replace HB := AM (below_drew1 HB.out)
        refine start_ (n := 48) (S := fun w' => w'.cell? ⟨gb103, 0, none⟩ = some (.int .i64 a0_0) ∧ w'.cell? ⟨gb103, 1, none⟩ = some (.int .i64 a0_1) ∧ w'.cell? ⟨gb103, 2, none⟩ = some (.int .i64 a0_2) ∧ w'.cell? ⟨gb103, 3, none⟩ = some (.int .i64 a0_3) ∧ w'.cell? ⟨gb103, 4, none⟩ = some (.string a0_4) ∧ w'.cell? ⟨gb103, 5, none⟩ = some (.string a0_5)) (ds := []) (Array.replicate 48 false) (by kernel_rfl) rfl rfl ⟨(blk_cell BK103.out 0).trans rfl, (blk_cell BK103.out 1).trans rfl, (blk_cell BK103.out 2).trans rfl, (blk_cell BK103.out 3).trans rfl, (blk_cell BK103.out 4).trans rfl, (blk_cell BK103.out 5).trans rfl⟩ (fun hHeld => ?_); refine with_tabW spec_FrameRight.tab1 spec_FrameRight.bits1 (fun HT_ HW_ => ?_)
        generalize w18.drew = w19 at BK103 HB hHeld ⊢
        refine pu_ HT_ 0 (some 3) (bA 48 1) ?_
        refine pu_ HT_ 2 (some 5) (bA 48 5) ?_
        refine ta_ HT_ HW_ 1 (some 4) (bA 48 7) hHeld ?_
        refine ta_ HT_ HW_ 3 (some 6) (bA 48 15) hHeld ?_
        refine on_ HT_ 4 (some 7) (bA 48 31) (fun K hK => ?_)
        refine go1_ Tryd.func96 #[.int .i64 a0_0, .int .i64 a0_1] ?_
        with_reducible refine (spec_CodeRight.calls a0_0 a0_1 true _ A2.out).mono ?_
        rintro e w' ⟨rfl, ⟨nd, rfl⟩⟩
        refine ⟨_, rfl, ?_⟩
        refine hK.out _ _ ⟨(blk_cell BK103.out 0).trans rfl, (blk_cell BK103.out 1).trans rfl, (blk_cell BK103.out 2).trans rfl, (blk_cell BK103.out 3).trans rfl, (blk_cell BK103.out 4).trans rfl, (blk_cell BK103.out 5).trans rfl⟩ (fun hHeld => ?_)
        clear hK K
        refine nm_ ?_
        refine pu_ HT_ 5 (some 8) (bA 48 63) ?_
        refine pu_ HT_ 6 (some 9) (bA 48 127) ?_
        refine ta_ HT_ HW_ 7 (some 10) (bA 48 255) hHeld ?_
        refine pu_ HT_ 8 (some 11) (bA 48 511) ?_
        refine pu_ HT_ 9 (some 12) (bA 48 1023) ?_
        refine pu_ HT_ 10 (some 13) (bA 48 2047) ?_
        refine pu_ HT_ 11 (some 14) (bA 48 4095) ?_
        refine pu_ HT_ 13 (some 16) (bA 48 12287) ?_
        refine pu_ HT_ 15 (some 18) (bA 48 45055) ?_
        refine ta_ HT_ HW_ 12 (some 15) (bA 48 49151) hHeld ?_
        refine ta_ HT_ HW_ 14 (some 17) (bA 48 65535) hHeld ?_
        refine ta_ HT_ HW_ 16 (some 19) (bA 48 131071) hHeld ?_
        refine pu_ HT_ 17 (some 20) (bA 48 262143) ?_
        refine pu_ HT_ 18 (some 21) (bA 48 524287) ?_
        refine pu_ HT_ 19 (some 22) (bA 48 1048575) ?_
        refine pu_ HT_ 20 (some 23) (bA 48 2097151) ?_
        refine pu_ HT_ 21 (some 24) (bA 48 4194303) ?_
        refine pu_ HT_ 22 (some 25) (bA 48 8388607) ?_
        refine pu_ HT_ 23 (some 26) (bA 48 16777215) ?_
        refine pu_ HT_ 24 (some 27) (bA 48 33554431) ?_
        refine pu_ HT_ 25 (some 28) (bA 48 67108863) ?_
        refine pu_ HT_ 26 (some 29) (bA 48 134217727) ?_
        refine pu_ HT_ 27 (some 30) (bA 48 268435455) ?_
        refine pu_ HT_ 28 (some 31) (bA 48 536870911) ?_
        refine pu_ HT_ 29 (some 32) (bA 48 1073741823) ?_
        refine pu_ HT_ 30 (some 33) (bA 48 2147483647) ?_
        refine pu_ HT_ 31 (some 34) (bA 48 4294967295) ?_
        refine pu_ HT_ 32 (some 35) (bA 48 8589934591) ?_
        refine pu_ HT_ 33 (some 36) (bA 48 17179869183) ?_
        refine pu_ HT_ 34 (some 37) (bA 48 34359738367) ?_
        refine pu_ HT_ 35 (some 38) (bA 48 68719476735) ?_
        refine pu_ HT_ 36 (some 39) (bA 48 137438953471) ?_
        refine pu_ HT_ 37 (some 40) (bA 48 274877906943) ?_
        refine pu_ HT_ 38 (some 41) (bA 48 549755813887) ?_
        refine pu_ HT_ 39 (some 42) (bA 48 1099511627775) ?_
        refine pu_ HT_ 40 (some 43) (bA 48 2199023255551) ?_
        refine pu_ HT_ 41 (some 44) (bA 48 4398046511103) ?_
        refine pu_ HT_ 42 (some 45) (bA 48 8796093022207) ?_
        refine pu_ HT_ 43 (some 46) (bA 48 17592186044415) ?_
        refine pu_ HT_ 44 (some 47) (bA 48 35184372088831) ?_
        refine pu_ HT_ 45 (some 48) (bA 48 70368744177663) ?_
        refine pu_ HT_ 46 (some 49) (bA 48 140737488355327) ?_
        refine pu_ HT_ 47 (some 2) (bA 48 281474976710655) ?_
        refine dn_ HT_ ?_
        try go_wp2
        go_ret
        exact ⟨ri_, bel_⟩
    · rw [if_neg c4] at H
      have c4b0 : decide (0 ≤ a0_2) = false := decide_eq_false c4
      clear c4
      obtain rfl := Option.some.inj H
      go_enter Tryd.func50, Tryd.ntmps50
      try go_wp2_with (first | ((with_reducible refine gate_dst (N := 1) rfl ?_); (try (refine gate_guard (by rfl) ?_; dsimp only)); refine be_ 1 #[.int .i64 a0_0, .int .i64 a0_1, .int .i64 a0_2, .int .i64 a0_3, .string a0_4, .string a0_5] 28 ?_; intro gb103 hg w20 hbox hb; have BK103 := AM hbox; have GW103 := AM ((by rw [hg]; exact (below_size bel_) : w.heap.size ≤ gb103)); have GE103 := AM ((by rw [hg]; exact (below_size bel_) : w.heap.size ≤ gb103)); replace HB := AM (below_step bel_ hb); clear hb hbox hg))
      replace BK103 := AM (blk_drew BK103.out)
      replace HB := AM (below_drew1 HB.out)
      refine start_ (n := 48) (S := fun w' => w'.cell? ⟨gb103, 0, none⟩ = some (.int .i64 a0_0) ∧ w'.cell? ⟨gb103, 1, none⟩ = some (.int .i64 a0_1) ∧ w'.cell? ⟨gb103, 2, none⟩ = some (.int .i64 a0_2) ∧ w'.cell? ⟨gb103, 3, none⟩ = some (.int .i64 a0_3) ∧ w'.cell? ⟨gb103, 4, none⟩ = some (.string a0_4) ∧ w'.cell? ⟨gb103, 5, none⟩ = some (.string a0_5)) (ds := []) (Array.replicate 48 false) (by kernel_rfl) rfl rfl ⟨(blk_cell BK103.out 0).trans rfl, (blk_cell BK103.out 1).trans rfl, (blk_cell BK103.out 2).trans rfl, (blk_cell BK103.out 3).trans rfl, (blk_cell BK103.out 4).trans rfl, (blk_cell BK103.out 5).trans rfl⟩ (fun hHeld => ?_); refine with_tabW spec_FrameRight.tab1 spec_FrameRight.bits1 (fun HT_ HW_ => ?_)
      generalize w20.drew = w21 at BK103 HB hHeld ⊢
      refine pu_ HT_ 0 (some 3) (bA 48 1) ?_
      refine pu_ HT_ 2 (some 5) (bA 48 5) ?_
      refine ta_ HT_ HW_ 1 (some 4) (bA 48 7) hHeld ?_
      refine ta_ HT_ HW_ 3 (some 6) (bA 48 15) hHeld ?_
      refine on_ HT_ 4 (some 7) (bA 48 31) (fun K hK => ?_)
      refine go1_ Tryd.func96 #[.int .i64 a0_0, .int .i64 a0_1] ?_
      with_reducible refine (spec_CodeRight.calls a0_0 a0_1 true _ A2.out).mono ?_
      rintro e w' ⟨rfl, ⟨nd, rfl⟩⟩
      refine ⟨_, rfl, ?_⟩
      refine hK.out _ _ ⟨(blk_cell BK103.out 0).trans rfl, (blk_cell BK103.out 1).trans rfl, (blk_cell BK103.out 2).trans rfl, (blk_cell BK103.out 3).trans rfl, (blk_cell BK103.out 4).trans rfl, (blk_cell BK103.out 5).trans rfl⟩ (fun hHeld => ?_)
      clear hK K
      refine nm_ ?_
      refine pu_ HT_ 5 (some 8) (bA 48 63) ?_
      refine pu_ HT_ 6 (some 9) (bA 48 127) ?_
      refine ta_ HT_ HW_ 7 (some 10) (bA 48 255) hHeld ?_
      refine pu_ HT_ 8 (some 11) (bA 48 511) ?_
      refine pu_ HT_ 9 (some 12) (bA 48 1023) ?_
      refine pu_ HT_ 10 (some 13) (bA 48 2047) ?_
      refine pu_ HT_ 11 (some 14) (bA 48 4095) ?_
      refine pu_ HT_ 12 (some 15) (bA 48 8191) ?_
      refine pu_ HT_ 13 (some 16) (bA 48 16383) ?_
      refine pu_ HT_ 14 (some 17) (bA 48 32767) ?_
      refine pu_ HT_ 15 (some 18) (bA 48 65535) ?_
      refine pu_ HT_ 16 (some 19) (bA 48 131071) ?_
      refine pu_ HT_ 17 (some 20) (bA 48 262143) ?_
      refine pu_ HT_ 18 (some 21) (bA 48 524287) ?_
      refine pu_ HT_ 19 (some 22) (bA 48 1048575) ?_
      refine pu_ HT_ 20 (some 23) (bA 48 2097151) ?_
      refine pu_ HT_ 21 (some 24) (bA 48 4194303) ?_
      refine pu_ HT_ 22 (some 25) (bA 48 8388607) ?_
      refine pu_ HT_ 23 (some 26) (bA 48 16777215) ?_
      refine pu_ HT_ 24 (some 27) (bA 48 33554431) ?_
      refine pu_ HT_ 25 (some 28) (bA 48 67108863) ?_
      refine pu_ HT_ 26 (some 29) (bA 48 134217727) ?_
      refine pu_ HT_ 27 (some 30) (bA 48 268435455) ?_
      refine pu_ HT_ 28 (some 31) (bA 48 536870911) ?_
      refine pu_ HT_ 29 (some 32) (bA 48 1073741823) ?_
      refine pu_ HT_ 30 (some 33) (bA 48 2147483647) ?_
      refine pu_ HT_ 31 (some 34) (bA 48 4294967295) ?_
      refine pu_ HT_ 32 (some 35) (bA 48 8589934591) ?_
      refine pu_ HT_ 33 (some 36) (bA 48 17179869183) ?_
      refine pu_ HT_ 34 (some 37) (bA 48 34359738367) ?_
      refine pu_ HT_ 35 (some 38) (bA 48 68719476735) ?_
      refine pu_ HT_ 36 (some 39) (bA 48 137438953471) ?_
      refine pu_ HT_ 37 (some 40) (bA 48 274877906943) ?_
      refine pu_ HT_ 38 (some 41) (bA 48 549755813887) ?_
      refine pu_ HT_ 39 (some 42) (bA 48 1099511627775) ?_
      refine pu_ HT_ 40 (some 43) (bA 48 2199023255551) ?_
      refine pu_ HT_ 41 (some 44) (bA 48 4398046511103) ?_
      refine pu_ HT_ 42 (some 45) (bA 48 8796093022207) ?_
      refine pu_ HT_ 43 (some 46) (bA 48 17592186044415) ?_
      refine pu_ HT_ 44 (some 47) (bA 48 35184372088831) ?_
      refine pu_ HT_ 45 (some 48) (bA 48 70368744177663) ?_
      refine pu_ HT_ 46 (some 49) (bA 48 140737488355327) ?_
      refine pu_ HT_ 47 (some 2) (bA 48 281474976710655) ?_
      refine dn_ HT_ ?_
      try go_wp2
      go_ret
      exact ⟨ri_, bel_⟩
  · replace c3 := Bool.eq_false_iff.mpr c3
    subst c3
    rw [if_neg (show ¬ (false = true) by decide)] at H
    obtain rfl := Option.some.inj H
    go_enter Tryd.func50, Tryd.ntmps50
    try go_wp2_with (first | ((with_reducible refine gate_dst (N := 1) rfl ?_); (try (refine gate_guard (by rfl) ?_; dsimp only)); refine be_ 1 #[.int .i64 a0_0, .int .i64 a0_1, .int .i64 a0_2, .int .i64 a0_3, .string a0_4, .string a0_5] 28 ?_; intro gb103 hg w22 hbox hb; have BK103 := AM hbox; have GW103 := AM ((by rw [hg]; exact (below_size bel_) : w.heap.size ≤ gb103)); have GE103 := AM ((by rw [hg]; exact (below_size bel_) : w.heap.size ≤ gb103)); replace HB := AM (below_step bel_ hb); clear hb hbox hg))
    replace BK103 := AM (blk_drew BK103.out)
    replace HB := AM (below_drew1 HB.out)
    refine start_ (n := 48) (S := fun w' => w'.cell? ⟨gb103, 0, none⟩ = some (.int .i64 a0_0) ∧ w'.cell? ⟨gb103, 1, none⟩ = some (.int .i64 a0_1) ∧ w'.cell? ⟨gb103, 2, none⟩ = some (.int .i64 a0_2) ∧ w'.cell? ⟨gb103, 3, none⟩ = some (.int .i64 a0_3) ∧ w'.cell? ⟨gb103, 4, none⟩ = some (.string a0_4) ∧ w'.cell? ⟨gb103, 5, none⟩ = some (.string a0_5)) (ds := []) (Array.replicate 48 false) (by kernel_rfl) rfl rfl ⟨(blk_cell BK103.out 0).trans rfl, (blk_cell BK103.out 1).trans rfl, (blk_cell BK103.out 2).trans rfl, (blk_cell BK103.out 3).trans rfl, (blk_cell BK103.out 4).trans rfl, (blk_cell BK103.out 5).trans rfl⟩ (fun hHeld => ?_); refine with_tabW spec_FrameRight.tab1 spec_FrameRight.bits1 (fun HT_ HW_ => ?_)
    generalize w22.drew = w23 at BK103 HB hHeld ⊢
    refine pu_ HT_ 0 (some 3) (bA 48 1) ?_
    refine pu_ HT_ 2 (some 5) (bA 48 5) ?_
    refine ta_ HT_ HW_ 1 (some 4) (bA 48 7) hHeld ?_
    refine ta_ HT_ HW_ 3 (some 6) (bA 48 15) hHeld ?_
    refine on_ HT_ 4 (some 7) (bA 48 31) (fun K hK => ?_)
    refine go1_ Tryd.func96 #[.int .i64 a0_0, .int .i64 a0_1] ?_
    with_reducible refine (spec_CodeRight.calls a0_0 a0_1 false _ A2.out).mono ?_
    rintro e w' ⟨rfl, ⟨nd, rfl⟩⟩
    refine ⟨_, rfl, ?_⟩
    refine hK.out _ _ ⟨(blk_cell BK103.out 0).trans rfl, (blk_cell BK103.out 1).trans rfl, (blk_cell BK103.out 2).trans rfl, (blk_cell BK103.out 3).trans rfl, (blk_cell BK103.out 4).trans rfl, (blk_cell BK103.out 5).trans rfl⟩ (fun hHeld => ?_)
    clear hK K
    refine nm_ ?_
    refine pu_ HT_ 5 (some 8) (bA 48 63) ?_
    refine pu_ HT_ 6 (some 9) (bA 48 127) ?_
    refine pu_ HT_ 7 (some 10) (bA 48 255) ?_
    refine pu_ HT_ 8 (some 11) (bA 48 511) ?_
    refine pu_ HT_ 9 (some 12) (bA 48 1023) ?_
    refine pu_ HT_ 10 (some 13) (bA 48 2047) ?_
    refine pu_ HT_ 11 (some 14) (bA 48 4095) ?_
    refine pu_ HT_ 12 (some 15) (bA 48 8191) ?_
    refine pu_ HT_ 13 (some 16) (bA 48 16383) ?_
    refine pu_ HT_ 14 (some 17) (bA 48 32767) ?_
    refine pu_ HT_ 15 (some 18) (bA 48 65535) ?_
    refine pu_ HT_ 16 (some 19) (bA 48 131071) ?_
    refine pu_ HT_ 17 (some 20) (bA 48 262143) ?_
    refine pu_ HT_ 18 (some 21) (bA 48 524287) ?_
    refine pu_ HT_ 19 (some 22) (bA 48 1048575) ?_
    refine pu_ HT_ 20 (some 23) (bA 48 2097151) ?_
    refine pu_ HT_ 21 (some 24) (bA 48 4194303) ?_
    refine pu_ HT_ 22 (some 25) (bA 48 8388607) ?_
    refine pu_ HT_ 23 (some 26) (bA 48 16777215) ?_
    refine pu_ HT_ 24 (some 27) (bA 48 33554431) ?_
    refine pu_ HT_ 25 (some 28) (bA 48 67108863) ?_
    refine pu_ HT_ 26 (some 29) (bA 48 134217727) ?_
    refine pu_ HT_ 27 (some 30) (bA 48 268435455) ?_
    refine pu_ HT_ 28 (some 31) (bA 48 536870911) ?_
    refine pu_ HT_ 29 (some 32) (bA 48 1073741823) ?_
    refine pu_ HT_ 30 (some 33) (bA 48 2147483647) ?_
    refine pu_ HT_ 31 (some 34) (bA 48 4294967295) ?_
    refine pu_ HT_ 32 (some 35) (bA 48 8589934591) ?_
    refine pu_ HT_ 33 (some 36) (bA 48 17179869183) ?_
    refine pu_ HT_ 34 (some 37) (bA 48 34359738367) ?_
    refine pu_ HT_ 35 (some 38) (bA 48 68719476735) ?_
    refine pu_ HT_ 36 (some 39) (bA 48 137438953471) ?_
    refine pu_ HT_ 37 (some 40) (bA 48 274877906943) ?_
    refine pu_ HT_ 38 (some 41) (bA 48 549755813887) ?_
    refine pu_ HT_ 39 (some 42) (bA 48 1099511627775) ?_
    refine pu_ HT_ 40 (some 43) (bA 48 2199023255551) ?_
    refine pu_ HT_ 41 (some 44) (bA 48 4398046511103) ?_
    refine pu_ HT_ 42 (some 45) (bA 48 8796093022207) ?_
    refine pu_ HT_ 43 (some 46) (bA 48 17592186044415) ?_
    refine pu_ HT_ 44 (some 47) (bA 48 35184372088831) ?_
    refine pu_ HT_ 45 (some 48) (bA 48 70368744177663) ?_
    refine pu_ HT_ 46 (some 49) (bA 48 140737488355327) ?_
    refine pu_ HT_ 47 (some 2) (bA 48 281474976710655) ?_
    refine dn_ HT_ ?_
    try go_wp2
    go_ret
    exact ⟨ri_, bel_⟩

end Go.Proofs.YtddapeieolfolaaDoor.PFnFrame
