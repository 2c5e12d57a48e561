-- A program of this session wrote this text: a changed copy of the kit print, with given functions.
import Derived.Test.YtddapeieolfolaaDoorPFnFramex0
import Derived.Test.YtddapeieolfolaaDoorPFnFramex6
namespace Go.Proofs.YtddapeieolfolaaDoor.PFnFrame
open Go.RowKit Go.Proofs.YtddapeieolfolaaDoorW.PrintWords Go.Proofs.YtddapeieolfolaaDoorW.PrintLast Go.Proofs.YtddapeieolfolaaDoorW.PrintMore Go.Proofs.YtddapeieolfolaaDoor.Aut
attribute [local go_sem] max2_int min2_int max_two min_two max_three min_three max_four min_four   -- for this text's walks alone
set_option linter.unusedVariables false
set_option linter.unusedSimpArgs false

/-! ### impl_FrameRight: function 45 -/
def impl_FrameRight.f (a0_0 : Int) (a0_1 : Int) (a0_2 : Int) (a0_3 : Int) (a0_4 : ByteArray) (a0_5 : ByteArray) : Option (Bool) := (impl_CodeRight.f a0_0 a0_1).bind fun t194 => (if t194 = true then ((impl_within.f a0_2 0 (wrap64 ((wrap64 (a0_0 + a0_1)) - 1))).bind fun t195 => (if t195 = true then ((impl_within.f a0_3 0 12000).bind fun t196 => (if t196 = true then (if (a0_4.size : Int) = 32 then ((impl_long.f a0_5).bind fun t197 => ((impl_ShardSize.f a0_0 a0_3).bind fun t198 => (some (t197 == t198)))) else (some false)) else (some false))) else (some false))) else (some false))
def impl_FrameRight.T1 : Bool × List (List Nat × List Nat) := (true, [([], []), ([0], [0]), ([], []), ([2], [2]), ([1, 3], [1, 3]), ([4, 4], [4]), ([5], [5]), ([6, 5], [5, 6]), ([5], [5]), ([8, 5], [5, 8]), ([5], [5]), ([10, 5], [5, 10]), ([9, 11, 5], [5, 9, 11]), ([12, 5], [5, 12]), ([7, 13, 5, 5], [5, 7, 13]), ([5, 14], [5, 14]), ([15, 14], [15]), ([16], [16]), ([17, 16], [16, 17]), ([18, 16, 16], [16, 18]), ([16, 19], [16, 19]), ([20, 19], [20]), ([21], [21]), ([22, 21], [21, 22]), ([23, 21], [21, 23]), ([24, 21], [21, 24]), ([21, 25], [21, 25]), ([26, 21], [26]), ([27], [27]), ([28, 27], [27, 28]), ([29, 27, 27], [27, 29]), ([27], [27]), ([31, 27], [27, 31]), ([27], [27]), ([33, 27], [27, 33]), ([32, 34, 30, 27], [27, 32, 34]), ([30, 35, 27], [27, 30, 35]), ([27, 36], [27, 36]), ([37, 35, 0, 1, 2, 3, 4, 5, 6, 7, 8, 9, 10, 11, 12, 13, 14, 15, 16, 17, 18, 19, 20, 21, 22, 23, 24, 25, 26, 27, 28, 29, 30, 31, 32, 33, 34, 35, 36, 37], [37])])
def impl_FrameRight.B1 : List Nat := [0, 1, 0, 4, 15, 31, 63, 127, 63, 319, 63, 1087, 3903, 7999, 16383, 32767, 65535, 131071, 262143, 524287, 1048575, 2097151, 4194303, 8388607, 16777215, 33554431, 67108863, 134217727, 268435455, 536870911, 1073741823, 268435455, 2415919103, 268435455, 8858370047, 34359738367, 68719476735, 137438953471, 274877906943]
theorem impl_FrameRight.tab1 : rtab .any (opsOf Tryd.f45 1) = impl_FrameRight.T1 := by kernel_rfl
theorem impl_FrameRight.bits1 : waitsOk impl_FrameRight.T1.2 impl_FrameRight.B1 = true := by kernel_rfl
set_option maxHeartbeats 8000000 in
set_option maxRecDepth 100000 in
theorem impl_FrameRight.calls (a0_0 : Int) (a0_1 : Int) (a0_2 : Int) (a0_3 : Int) (a0_4 : ByteArray) (a0_5 : ByteArray) (r : Bool) (w : World) (h : impl_FrameRight.f a0_0 a0_1 a0_2 a0_3 a0_4 a0_5 = some r) :
    Calls Tryd.prog 45 #[.agg #[.int .i64 a0_0, .int .i64 a0_1, .int .i64 a0_2, .int .i64 a0_3, .string a0_4, .string a0_5]] w fun e w' => e = .returned (.bool r) ∧ Below w.heap.size w w' := by
  have hu28 := Tryd.underlying28
  have HB := AM (Below.refl w.heap.size w)
  have H : ((impl_CodeRight.f a0_0 a0_1).bind fun t194 => (if t194 = true then ((impl_within.f a0_2 0 (wrap64 ((wrap64 (a0_0 + a0_1)) - 1))).bind fun t195 => (if t195 = true then ((impl_within.f a0_3 0 12000).bind fun t196 => (if t196 = true then (if (a0_4.size : Int) = 32 then ((impl_long.f a0_5).bind fun t197 => ((impl_ShardSize.f a0_0 a0_3).bind fun t198 => (some (t197 == t198)))) else (some false)) else (some false))) else (some false))) else (some false))) = some r := h
  clear h
  obtain ⟨t194, A2, H⟩ := OB H
  try dsimp only at H
  replace A2 := AM A2
  by_cases c3 : t194 = true
  · subst c3
    rw [if_pos rfl] at H
    obtain ⟨t195, A4, H⟩ := OB H
    try dsimp only at H
    replace A4 := AM A4
    by_cases c5 : t195 = true
    · subst c5
      rw [if_pos rfl] at H
      obtain ⟨t196, A6, H⟩ := OB H
      try dsimp only at H
      replace A6 := AM A6
      by_cases c7 : t196 = true
      · subst c7
        rw [if_pos rfl] at H
        by_cases c8 : (a0_4.size : Int) = 32
        · rw [if_pos c8] at H
          have c8b0 : ((a0_4.size : Int) == 32) = true := beq_iff_eq.mpr c8
          have c8b1 : ((a0_4.size : Int) != 32) = false := bne_eq_false_iff_eq.mpr c8
          clear c8
          obtain ⟨t197, A9, H⟩ := OB H
          try dsimp only at H
          replace A9 := AM A9
          obtain ⟨t198, A10, H⟩ := OB H
          try dsimp only at H
          replace A10 := AM A10
          obtain rfl := Option.some.inj H
          go_enter Tryd.func45, Tryd.ntmps45
          try go_wp2_with (first | ((with_reducible refine gate_dst (N := 1) rfl ?_); (try (refine gate_guard (by rfl) ?_; dsimp only)); refine be_ 1 #[.int .i64 a0_0, .int .i64 a0_1, .int .i64 a0_2, .int .i64 a0_3, .string a0_4, .string a0_5] 28 ?_; intro gb193 hg w11 hbox hb; have BK193 := AM hbox; have GW193 := AM ((by rw [hg]; exact (below_size bel_) : w.heap.size ≤ gb193)); have GE193 := AM ((by rw [hg]; exact (below_size bel_) : w.heap.size ≤ gb193)); replace HB := AM (below_step bel_ hb); clear hb hbox hg))
          replace BK193 := AM (blk_drew BK193.out)
          replace HB := AM (below_drew1 HB.out)
          refine start_ (n := 39) (S := fun w' => w'.cell? ⟨gb193, 0, none⟩ = some (.int .i64 a0_0) ∧ w'.cell? ⟨gb193, 1, none⟩ = some (.int .i64 a0_1) ∧ w'.cell? ⟨gb193, 2, none⟩ = some (.int .i64 a0_2) ∧ w'.cell? ⟨gb193, 3, none⟩ = some (.int .i64 a0_3) ∧ w'.cell? ⟨gb193, 4, none⟩ = some (.string a0_4) ∧ w'.cell? ⟨gb193, 5, none⟩ = some (.string a0_5)) (ds := []) (Array.replicate 39 false) (by kernel_rfl) rfl rfl ⟨(blk_cell BK193.out 0).trans rfl, (blk_cell BK193.out 1).trans rfl, (blk_cell BK193.out 2).trans rfl, (blk_cell BK193.out 3).trans rfl, (blk_cell BK193.out 4).trans rfl, (blk_cell BK193.out 5).trans rfl⟩ (fun hHeld => ?_); refine with_tabW impl_FrameRight.tab1 impl_FrameRight.bits1 (fun HT_ HW_ => ?_)
          generalize w11.drew = w12 at BK193 HB hHeld ⊢
          refine pu_ HT_ 0 (some 3) (bA 39 1) ?_
          refine pu_ HT_ 2 (some 5) (bA 39 5) ?_
          refine ta_ HT_ HW_ 1 (some 4) (bA 39 7) hHeld ?_
          refine ta_ HT_ HW_ 3 (some 6) (bA 39 15) hHeld ?_
          refine on_ HT_ 4 (some 7) (bA 39 31) (fun K hK => ?_)
          refine go1_ Tryd.func93 #[.int .i64 a0_0, .int .i64 a0_1] ?_
          with_reducible refine (impl_CodeRight.calls a0_0 a0_1 true _ A2.out).mono ?_
          rintro e w' ⟨rfl, ⟨nd, rfl⟩⟩
          refine ⟨_, rfl, ?_⟩
          refine hK.out _ _ ⟨(blk_cell BK193.out 0).trans rfl, (blk_cell BK193.out 1).trans rfl, (blk_cell BK193.out 2).trans rfl, (blk_cell BK193.out 3).trans rfl, (blk_cell BK193.out 4).trans rfl, (blk_cell BK193.out 5).trans rfl⟩ (fun hHeld => ?_)
          clear hK K
          refine nm_ ?_
          refine pu_ HT_ 5 (some 8) (bA 39 63) ?_
          refine pu_ HT_ 6 (some 9) (bA 39 127) ?_
          refine pu_ HT_ 8 (some 11) (bA 39 383) ?_
          refine pu_ HT_ 10 (some 13) (bA 39 1407) ?_
          refine ta_ HT_ HW_ 7 (some 10) (bA 39 1535) hHeld ?_
          refine ta_ HT_ HW_ 9 (some 12) (bA 39 2047) hHeld ?_
          refine ta_ HT_ HW_ 11 (some 14) (bA 39 4095) hHeld ?_
          refine pu_ HT_ 12 (some 15) (bA 39 8191) ?_
          refine pu_ HT_ 13 (some 16) (bA 39 16383) ?_
          refine on_ HT_ 14 (some 17) (bA 39 32767) (fun K hK => ?_)
          refine go1_ Tryd.func77 #[.int .i64 a0_2, .int .i64 0, .int .i64 (wrap64 ((wrap64 (a0_0 + a0_1)) - 1))] ?_
          with_reducible refine (impl_within.calls a0_2 0 (wrap64 ((wrap64 (a0_0 + a0_1)) - 1)) true _ A4.out).mono ?_
          rintro e w' ⟨rfl, ⟨nd, rfl⟩⟩
          refine ⟨_, rfl, ?_⟩
          refine hK.out _ _ ⟨(blk_cell BK193.out 0).trans rfl, (blk_cell BK193.out 1).trans rfl, (blk_cell BK193.out 2).trans rfl, (blk_cell BK193.out 3).trans rfl, (blk_cell BK193.out 4).trans rfl, (blk_cell BK193.out 5).trans rfl⟩ (fun hHeld => ?_)
          clear hK K
          refine nm_ ?_
          refine pu_ HT_ 15 (some 18) (bA 39 65535) ?_
          refine pu_ HT_ 16 (some 19) (bA 39 131071) ?_
          refine pu_ HT_ 17 (some 20) (bA 39 262143) ?_
          refine ta_ HT_ HW_ 18 (some 21) (bA 39 524287) hHeld ?_
          refine on_ HT_ 19 (some 22) (bA 39 1048575) (fun K hK => ?_)
          refine go1_ Tryd.func77 #[.int .i64 a0_3, .int .i64 0, .int .i64 12000] ?_
          with_reducible refine (impl_within.calls a0_3 0 12000 true _ A6.out).mono ?_
          rintro e w' ⟨rfl, ⟨nd, rfl⟩⟩
          refine ⟨_, rfl, ?_⟩
          refine hK.out _ _ ⟨(blk_cell BK193.out 0).trans rfl, (blk_cell BK193.out 1).trans rfl, (blk_cell BK193.out 2).trans rfl, (blk_cell BK193.out 3).trans rfl, (blk_cell BK193.out 4).trans rfl, (blk_cell BK193.out 5).trans rfl⟩ (fun hHeld => ?_)
          clear hK K
          refine nm_ ?_
          refine pu_ HT_ 20 (some 23) (bA 39 2097151) ?_
          refine pu_ HT_ 21 (some 24) (bA 39 4194303) ?_
          refine pu_ HT_ 22 (some 25) (bA 39 8388607) ?_
          refine ta_ HT_ HW_ 23 (some 26) (bA 39 16777215) hHeld ?_
          refine pu_ HT_ 24 (some 27) (bA 39 33554431) ?_
          refine pu_ HT_ 25 (some 28) (bA 39 67108863) ?_
          refine pu_ HT_ 26 (some 29) (bA 39 134217727) ?_
          refine pu_ HT_ 27 (some 30) (bA 39 268435455) ?_
          refine pu_ HT_ 28 (some 31) (bA 39 536870911) ?_
          refine pu_ HT_ 31 (some 34) (bA 39 2684354559) ?_
          refine pu_ HT_ 33 (some 36) (bA 39 11274289151) ?_
          refine ta_ HT_ HW_ 29 (some 32) (bA 39 11811160063) hHeld ?_
          refine ta_ HT_ HW_ 32 (some 35) (bA 39 16106127359) hHeld ?_
          refine ta_ HT_ HW_ 34 (some 37) (bA 39 33285996543) hHeld ?_
          refine on_ HT_ 30 (some 33) (bA 39 34359738367) (fun K hK => ?_)
          refine go1_ Tryd.func70 #[.string a0_5] ?_
          with_reducible refine (impl_long.calls a0_5 t197 _ A9.out).mono ?_
          rintro e w' ⟨rfl, ⟨nd, rfl⟩⟩
          refine ⟨_, rfl, ?_⟩
          refine hK.out _ _ ⟨(blk_cell BK193.out 0).trans rfl, (blk_cell BK193.out 1).trans rfl, (blk_cell BK193.out 2).trans rfl, (blk_cell BK193.out 3).trans rfl, (blk_cell BK193.out 4).trans rfl, (blk_cell BK193.out 5).trans rfl⟩ (fun hHeld => ?_)
          clear hK K
          refine nm_ ?_
          refine on_ HT_ 35 (some 38) (bA 39 68719476735) (fun K hK => ?_)
          refine go1_ Tryd.func94 #[.int .i64 a0_0, .int .i64 a0_3] ?_
          with_reducible refine (impl_ShardSize.calls a0_0 a0_3 t198 _ A10.out).mono ?_
          rintro e w' ⟨rfl, ⟨nd, rfl⟩⟩
          refine ⟨_, rfl, ?_⟩
          refine hK.out _ _ ⟨(blk_cell BK193.out 0).trans rfl, (blk_cell BK193.out 1).trans rfl, (blk_cell BK193.out 2).trans rfl, (blk_cell BK193.out 3).trans rfl, (blk_cell BK193.out 4).trans rfl, (blk_cell BK193.out 5).trans rfl⟩ (fun hHeld => ?_)
          clear hK K
          refine nm_ ?_
          refine pu_ HT_ 36 (some 39) (bA 39 137438953471) ?_
          refine pu_ HT_ 37 (some 40) (bA 39 274877906943) ?_
          refine pu_ HT_ 38 (some 2) (bA 39 549755813887) ?_
          refine dn_ HT_ ?_
          try go_wp2
          go_ret
          exact ⟨ri_, bel_⟩
        · rw [if_neg c8] at H
          have c8b0 : ((a0_4.size : Int) == 32) = false := beq_eq_false_iff_ne.mpr c8
          have c8b1 : ((a0_4.size : Int) != 32) = true := bne_iff_ne.mpr c8
          obtain rfl := Option.some.inj H
          go_enter Tryd.func45, Tryd.ntmps45
          try go_wp2_with (first | ((with_reducible refine gate_dst (N := 1) rfl ?_); (try (refine gate_guard (by rfl) ?_; dsimp only)); refine be_ 1 #[.int .i64 a0_0, .int .i64 a0_1, .int .i64 a0_2, .int .i64 a0_3, .string a0_4, .string a0_5] 28 ?_; intro gb193 hg w13 hbox hb; have BK193 := AM hbox; have GW193 := AM ((by rw [hg]; exact (below_size bel_) : w.heap.size ≤ gb193)); have GE193 := AM ((by rw [hg]; exact (below_size bel_) : w.heap.size ≤ gb193)); replace HB := AM (below_step bel_ hb); clear hb hbox hg))
          replace BK193 := AM (blk_drew BK193.out)
          replace HB := AM (below_drew1 HB.out)
          refine start_ (n := 39) (S := fun w' => w'.cell? ⟨gb193, 0, none⟩ = some (.int .i64 a0_0) ∧ w'.cell? ⟨gb193, 1, none⟩ = some (.int .i64 a0_1) ∧ w'.cell? ⟨gb193, 2, none⟩ = some (.int .i64 a0_2) ∧ w'.cell? ⟨gb193, 3, none⟩ = some (.int .i64 a0_3) ∧ w'.cell? ⟨gb193, 4, none⟩ = some (.string a0_4) ∧ w'.cell? ⟨gb193, 5, none⟩ = some (.string a0_5)) (ds := []) (Array.replicate 39 false) (by kernel_rfl) rfl rfl ⟨(blk_cell BK193.out 0).trans rfl, (blk_cell BK193.out 1).trans rfl, (blk_cell BK193.out 2).trans rfl, (blk_cell BK193.out 3).trans rfl, (blk_cell BK193.out 4).trans rfl, (blk_cell BK193.out 5).trans rfl⟩ (fun hHeld => ?_); refine with_tabW impl_FrameRight.tab1 impl_FrameRight.bits1 (fun HT_ HW_ => ?_)
          generalize w13.drew = w14 at BK193 HB hHeld ⊢
          refine pu_ HT_ 0 (some 3) (bA 39 1) ?_
          refine pu_ HT_ 2 (some 5) (bA 39 5) ?_
          refine ta_ HT_ HW_ 1 (some 4) (bA 39 7) hHeld ?_
          refine ta_ HT_ HW_ 3 (some 6) (bA 39 15) hHeld ?_
          refine on_ HT_ 4 (some 7) (bA 39 31) (fun K hK => ?_)
          refine go1_ Tryd.func93 #[.int .i64 a0_0, .int .i64 a0_1] ?_
          with_reducible refine (impl_CodeRight.calls a0_0 a0_1 true _ A2.out).mono ?_
          rintro e w' ⟨rfl, ⟨nd, rfl⟩⟩
          refine ⟨_, rfl, ?_⟩
          refine hK.out _ _ ⟨(blk_cell BK193.out 0).trans rfl, (blk_cell BK193.out 1).trans rfl, (blk_cell BK193.out 2).trans rfl, (blk_cell BK193.out 3).trans rfl, (blk_cell BK193.out 4).trans rfl, (blk_cell BK193.out 5).trans rfl⟩ (fun hHeld => ?_)
          clear hK K
          refine nm_ ?_
          refine pu_ HT_ 5 (some 8) (bA 39 63) ?_
          refine pu_ HT_ 6 (some 9) (bA 39 127) ?_
          refine pu_ HT_ 8 (some 11) (bA 39 383) ?_
          refine pu_ HT_ 10 (some 13) (bA 39 1407) ?_
          refine ta_ HT_ HW_ 7 (some 10) (bA 39 1535) hHeld ?_
          refine ta_ HT_ HW_ 9 (some 12) (bA 39 2047) hHeld ?_
          refine ta_ HT_ HW_ 11 (some 14) (bA 39 4095) hHeld ?_
          refine pu_ HT_ 12 (some 15) (bA 39 8191) ?_
          refine pu_ HT_ 13 (some 16) (bA 39 16383) ?_
          refine on_ HT_ 14 (some 17) (bA 39 32767) (fun K hK => ?_)
          refine go1_ Tryd.func77 #[.int .i64 a0_2, .int .i64 0, .int .i64 (wrap64 ((wrap64 (a0_0 + a0_1)) - 1))] ?_
          with_reducible refine (impl_within.calls a0_2 0 (wrap64 ((wrap64 (a0_0 + a0_1)) - 1)) true _ A4.out).mono ?_
          rintro e w' ⟨rfl, ⟨nd, rfl⟩⟩
          refine ⟨_, rfl, ?_⟩
          refine hK.out _ _ ⟨(blk_cell BK193.out 0).trans rfl, (blk_cell BK193.out 1).trans rfl, (blk_cell BK193.out 2).trans rfl, (blk_cell BK193.out 3).trans rfl, (blk_cell BK193.out 4).trans rfl, (blk_cell BK193.out 5).trans rfl⟩ (fun hHeld => ?_)
          clear hK K
          refine nm_ ?_
          refine pu_ HT_ 15 (some 18) (bA 39 65535) ?_
          refine pu_ HT_ 16 (some 19) (bA 39 131071) ?_
          refine pu_ HT_ 17 (some 20) (bA 39 262143) ?_
          refine ta_ HT_ HW_ 18 (some 21) (bA 39 524287) hHeld ?_
          refine on_ HT_ 19 (some 22) (bA 39 1048575) (fun K hK => ?_)
          refine go1_ Tryd.func77 #[.int .i64 a0_3, .int .i64 0, .int .i64 12000] ?_
          with_reducible refine (impl_within.calls a0_3 0 12000 true _ A6.out).mono ?_
          rintro e w' ⟨rfl, ⟨nd, rfl⟩⟩
          refine ⟨_, rfl, ?_⟩
          refine hK.out _ _ ⟨(blk_cell BK193.out 0).trans rfl, (blk_cell BK193.out 1).trans rfl, (blk_cell BK193.out 2).trans rfl, (blk_cell BK193.out 3).trans rfl, (blk_cell BK193.out 4).trans rfl, (blk_cell BK193.out 5).trans rfl⟩ (fun hHeld => ?_)
          clear hK K
          refine nm_ ?_
          refine pu_ HT_ 20 (some 23) (bA 39 2097151) ?_
          refine pu_ HT_ 21 (some 24) (bA 39 4194303) ?_
          refine pu_ HT_ 22 (some 25) (bA 39 8388607) ?_
          refine ta_ HT_ HW_ 23 (some 26) (bA 39 16777215) hHeld ?_
          refine pu_ HT_ 24 (some 27) (bA 39 33554431) ?_
          refine pu_ HT_ 25 (some 28) (bA 39 67108863) ?_
          refine pu_ HT_ 26 (some 29) (bA 39 134217727) ?_
          refine pu_ HT_ 27 (some 30) (bA 39 268435455) ?_
          refine pu_ HT_ 28 (some 31) (bA 39 536870911) ?_
          refine pu_ HT_ 29 (some 32) (bA 39 1073741823) ?_
          refine pu_ HT_ 30 (some 33) (bA 39 2147483647) ?_
          refine pu_ HT_ 31 (some 34) (bA 39 4294967295) ?_
          refine pu_ HT_ 32 (some 35) (bA 39 8589934591) ?_
          refine pu_ HT_ 33 (some 36) (bA 39 17179869183) ?_
          refine pu_ HT_ 34 (some 37) (bA 39 34359738367) ?_
          refine pu_ HT_ 35 (some 38) (bA 39 68719476735) ?_
          refine pu_ HT_ 36 (some 39) (bA 39 137438953471) ?_
          refine pu_ HT_ 37 (some 40) (bA 39 274877906943) ?_
          refine pu_ HT_ 38 (some 2) (bA 39 549755813887) ?_
          refine dn_ HT_ ?_
          try go_wp2
          go_ret
          exact ⟨ri_, bel_⟩
      · replace c7 := Bool.eq_false_iff.mpr c7
        subst c7
        rw [if_neg (show ¬ (false = true) by decide)] at H
        obtain rfl := Option.some.inj H
        go_enter Tryd.func45, Tryd.ntmps45
        try go_wp2_with (first | ((with_reducible refine gate_dst (N := 1) rfl ?_); (try (refine gate_guard (by rfl) ?_; dsimp only)); refine be_ 1 #[.int .i64 a0_0, .int .i64 a0_1, .int .i64 a0_2, .int .i64 a0_3, .string a0_4, .string a0_5] 28 ?_; intro gb193 hg w15 hbox hb; have BK193 := AM hbox; have GW193 := AM ((by rw [hg]; exact (below_size bel_) : w.heap.size ≤ gb193)); have GE193 := AM ((by rw [hg]; exact (below_size bel_) : w.heap.size ≤ gb193)); replace HB := AM (below_step bel_ hb); clear hb hbox hg))
        replace BK193 := AM (blk_drew BK193.out)
        replace HB := AM (below_drew1 HB.out)
        refine start_ (n := 39) (S := fun w' => w'.cell? ⟨gb193, 0, none⟩ = some (.int .i64 a0_0) ∧ w'.cell? ⟨gb193, 1, none⟩ = some (.int .i64 a0_1) ∧ w'.cell? ⟨gb193, 2, none⟩ = some (.int .i64 a0_2) ∧ w'.cell? ⟨gb193, 3, none⟩ = some (.int .i64 a0_3) ∧ w'.cell? ⟨gb193, 4, none⟩ = some (.string a0_4) ∧ w'.cell? ⟨gb193, 5, none⟩ = some (.string a0_5)) (ds := []) (Array.replicate 39 false) (by kernel_rfl) rfl rfl ⟨(blk_cell BK193.out 0).trans rfl, (blk_cell BK193.out 1).trans rfl, (blk_cell BK193.out 2).trans rfl, (blk_cell BK193.out 3).trans rfl, (blk_cell BK193.out 4).trans rfl, (blk_cell BK193.out 5).trans rfl⟩ (fun hHeld => ?_); refine with_tabW impl_FrameRight.tab1 impl_FrameRight.bits1 (fun HT_ HW_ => ?_)
        generalize w15.drew = w16 at BK193 HB hHeld ⊢
        refine pu_ HT_ 0 (some 3) (bA 39 1) ?_
        refine pu_ HT_ 2 (some 5) (bA 39 5) ?_
        refine ta_ HT_ HW_ 1 (some 4) (bA 39 7) hHeld ?_
        refine ta_ HT_ HW_ 3 (some 6) (bA 39 15) hHeld ?_
        refine on_ HT_ 4 (some 7) (bA 39 31) (fun K hK => ?_)
        refine go1_ Tryd.func93 #[.int .i64 a0_0, .int .i64 a0_1] ?_
        with_reducible refine (impl_CodeRight.calls a0_0 a0_1 true _ A2.out).mono ?_
        rintro e w' ⟨rfl, ⟨nd, rfl⟩⟩
        refine ⟨_, rfl, ?_⟩
        refine hK.out _ _ ⟨(blk_cell BK193.out 0).trans rfl, (blk_cell BK193.out 1).trans rfl, (blk_cell BK193.out 2).trans rfl, (blk_cell BK193.out 3).trans rfl, (blk_cell BK193.out 4).trans rfl, (blk_cell BK193.out 5).trans rfl⟩ (fun hHeld => ?_)
        clear hK K
        refine nm_ ?_
        refine pu_ HT_ 5 (some 8) (bA 39 63) ?_
        refine pu_ HT_ 6 (some 9) (bA 39 127) ?_
        refine pu_ HT_ 8 (some 11) (bA 39 383) ?_
        refine pu_ HT_ 10 (some 13) (bA 39 1407) ?_
        refine ta_ HT_ HW_ 7 (some 10) (bA 39 1535) hHeld ?_
        refine ta_ HT_ HW_ 9 (some 12) (bA 39 2047) hHeld ?_
        refine ta_ HT_ HW_ 11 (some 14) (bA 39 4095) hHeld ?_
        refine pu_ HT_ 12 (some 15) (bA 39 8191) ?_
        refine pu_ HT_ 13 (some 16) (bA 39 16383) ?_
        refine on_ HT_ 14 (some 17) (bA 39 32767) (fun K hK => ?_)
        refine go1_ Tryd.func77 #[.int .i64 a0_2, .int .i64 0, .int .i64 (wrap64 ((wrap64 (a0_0 + a0_1)) - 1))] ?_
        with_reducible refine (impl_within.calls a0_2 0 (wrap64 ((wrap64 (a0_0 + a0_1)) - 1)) true _ A4.out).mono ?_
        rintro e w' ⟨rfl, ⟨nd, rfl⟩⟩
        refine ⟨_, rfl, ?_⟩
        refine hK.out _ _ ⟨(blk_cell BK193.out 0).trans rfl, (blk_cell BK193.out 1).trans rfl, (blk_cell BK193.out 2).trans rfl, (blk_cell BK193.out 3).trans rfl, (blk_cell BK193.out 4).trans rfl, (blk_cell BK193.out 5).trans rfl⟩ (fun hHeld => ?_)
        clear hK K
        refine nm_ ?_
        refine pu_ HT_ 15 (some 18) (bA 39 65535) ?_
        refine pu_ HT_ 16 (some 19) (bA 39 131071) ?_
        refine pu_ HT_ 17 (some 20) (bA 39 262143) ?_
        refine ta_ HT_ HW_ 18 (some 21) (bA 39 524287) hHeld ?_
        refine on_ HT_ 19 (some 22) (bA 39 1048575) (fun K hK => ?_)
        refine go1_ Tryd.func77 #[.int .i64 a0_3, .int .i64 0, .int .i64 12000] ?_
        with_reducible refine (impl_within.calls a0_3 0 12000 false _ A6.out).mono ?_
        rintro e w' ⟨rfl, ⟨nd, rfl⟩⟩
        refine ⟨_, rfl, ?_⟩
        refine hK.out _ _ ⟨(blk_cell BK193.out 0).trans rfl, (blk_cell BK193.out 1).trans rfl, (blk_cell BK193.out 2).trans rfl, (blk_cell BK193.out 3).trans rfl, (blk_cell BK193.out 4).trans rfl, (blk_cell BK193.out 5).trans rfl⟩ (fun hHeld => ?_)
        clear hK K
        refine nm_ ?_
        refine pu_ HT_ 20 (some 23) (bA 39 2097151) ?_
        refine pu_ HT_ 21 (some 24) (bA 39 4194303) ?_
        refine pu_ HT_ 22 (some 25) (bA 39 8388607) ?_
        refine pu_ HT_ 23 (some 26) (bA 39 16777215) ?_
        refine pu_ HT_ 24 (some 27) (bA 39 33554431) ?_
        refine pu_ HT_ 25 (some 28) (bA 39 67108863) ?_
        refine pu_ HT_ 26 (some 29) (bA 39 134217727) ?_
        refine pu_ HT_ 27 (some 30) (bA 39 268435455) ?_
        refine pu_ HT_ 28 (some 31) (bA 39 536870911) ?_
        refine pu_ HT_ 29 (some 32) (bA 39 1073741823) ?_
        refine pu_ HT_ 30 (some 33) (bA 39 2147483647) ?_
        refine pu_ HT_ 31 (some 34) (bA 39 4294967295) ?_
        refine pu_ HT_ 32 (some 35) (bA 39 8589934591) ?_
        refine pu_ HT_ 33 (some 36) (bA 39 17179869183) ?_
        refine pu_ HT_ 34 (some 37) (bA 39 34359738367) ?_
        refine pu_ HT_ 35 (some 38) (bA 39 68719476735) ?_
        refine pu_ HT_ 36 (some 39) (bA 39 137438953471) ?_
        refine pu_ HT_ 37 (some 40) (bA 39 274877906943) ?_
        refine pu_ HT_ 38 (some 2) (bA 39 549755813887) ?_
        refine dn_ HT_ ?_
        try go_wp2
        go_ret
        exact ⟨ri_, bel_⟩
    · replace c5 := Bool.eq_false_iff.mpr c5
      subst c5
      rw [if_neg (show ¬ (false = true) by decide)] at H
      obtain rfl := Option.some.inj H
      go_enter Tryd.func45, Tryd.ntmps45
      try go_wp2_with (first | ((with_reducible refine gate_dst (N := 1) rfl ?_); (try (refine gate_guard (by rfl) ?_; dsimp only)); refine be_ 1 #[.int .i64 a0_0, .int .i64 a0_1, .int .i64 a0_2, .int .i64 a0_3, .string a0_4, .string a0_5] 28 ?_; intro gb193 hg w17 hbox hb; have BK193 := AM hbox; have GW193 := AM ((by rw [hg]; exact (below_size bel_) : w.heap.size ≤ gb193)); have GE193 := AM ((by rw [hg]; exact (below_size bel_) : w.heap.size ≤ gb193)); replace HB := AM (below_step bel_ hb); clear hb hbox hg))
      replace BK193 := AM (blk_drew BK193.out)
      replace HB := AM (below_drew1 HB.out)
      refine start_ (n := 39) (S := fun w' => w'.cell? ⟨gb193, 0, none⟩ = some (.int .i64 a0_0) ∧ w'.cell? ⟨gb193, 1, none⟩ = some (.int .i64 a0_1) ∧ w'.cell? ⟨gb193, 2, none⟩ = some (.int .i64 a0_2) ∧ w'.cell? ⟨gb193, 3, none⟩ = some (.int .i64 a0_3) ∧ w'.cell? ⟨gb193, 4, none⟩ = some (.string a0_4) ∧ w'.cell? ⟨gb193, 5, none⟩ = some (.string a0_5)) (ds := []) (Array.replicate 39 false) (by kernel_rfl) rfl rfl ⟨(blk_cell BK193.out 0).trans rfl, (blk_cell BK193.out 1).trans rfl, (blk_cell BK193.out 2).trans rfl, (blk_cell BK193.out 3).trans rfl, (blk_cell BK193.out 4).trans rfl, (blk_cell BK193.out 5).trans rfl⟩ (fun hHeld => ?_); refine with_tabW impl_FrameRight.tab1 impl_FrameRight.bits1 (fun HT_ HW_ => ?_)
      generalize w17.drew = w18 at BK193 HB hHeld ⊢
      refine pu_ HT_ 0 (some 3) (bA 39 1) ?_
      refine pu_ HT_ 2 (some 5) (bA 39 5) ?_
      refine ta_ HT_ HW_ 1 (some 4) (bA 39 7) hHeld ?_
      refine ta_ HT_ HW_ 3 (some 6) (bA 39 15) hHeld ?_
      refine on_ HT_ 4 (some 7) (bA 39 31) (fun K hK => ?_)
      refine go1_ Tryd.func93 #[.int .i64 a0_0, .int .i64 a0_1] ?_
      with_reducible refine (impl_CodeRight.calls a0_0 a0_1 true _ A2.out).mono ?_
      rintro e w' ⟨rfl, ⟨nd, rfl⟩⟩
      refine ⟨_, rfl, ?_⟩
      refine hK.out _ _ ⟨(blk_cell BK193.out 0).trans rfl, (blk_cell BK193.out 1).trans rfl, (blk_cell BK193.out 2).trans rfl, (blk_cell BK193.out 3).trans rfl, (blk_cell BK193.out 4).trans rfl, (blk_cell BK193.out 5).trans rfl⟩ (fun hHeld => ?_)
      clear hK K
      refine nm_ ?_
      refine pu_ HT_ 5 (some 8) (bA 39 63) ?_
      refine pu_ HT_ 6 (some 9) (bA 39 127) ?_
      refine pu_ HT_ 8 (some 11) (bA 39 383) ?_
      refine pu_ HT_ 10 (some 13) (bA 39 1407) ?_
      refine ta_ HT_ HW_ 7 (some 10) (bA 39 1535) hHeld ?_
      refine ta_ HT_ HW_ 9 (some 12) (bA 39 2047) hHeld ?_
      refine ta_ HT_ HW_ 11 (some 14) (bA 39 4095) hHeld ?_
      refine pu_ HT_ 12 (some 15) (bA 39 8191) ?_
      refine pu_ HT_ 13 (some 16) (bA 39 16383) ?_
      refine on_ HT_ 14 (some 17) (bA 39 32767) (fun K hK => ?_)
      refine go1_ Tryd.func77 #[.int .i64 a0_2, .int .i64 0, .int .i64 (wrap64 ((wrap64 (a0_0 + a0_1)) - 1))] ?_
      with_reducible refine (impl_within.calls a0_2 0 (wrap64 ((wrap64 (a0_0 + a0_1)) - 1)) false _ A4.out).mono ?_
      rintro e w' ⟨rfl, ⟨nd, rfl⟩⟩
      refine ⟨_, rfl, ?_⟩
      refine hK.out _ _ ⟨(blk_cell BK193.out 0).trans rfl, (blk_cell BK193.out 1).trans rfl, (blk_cell BK193.out 2).trans rfl, (blk_cell BK193.out 3).trans rfl, (blk_cell BK193.out 4).trans rfl, (blk_cell BK193.out 5).trans rfl⟩ (fun hHeld => ?_)
      clear hK K
      refine nm_ ?_
      refine pu_ HT_ 15 (some 18) (bA 39 65535) ?_
      refine pu_ HT_ 16 (some 19) (bA 39 131071) ?_
      refine pu_ HT_ 17 (some 20) (bA 39 262143) ?_
      refine pu_ HT_ 18 (some 21) (bA 39 524287) ?_
      refine pu_ HT_ 19 (some 22) (bA 39 1048575) ?_
      refine pu_ HT_ 20 (some 23) (bA 39 2097151) ?_
      refine pu_ HT_ 21 (some 24) (bA 39 4194303) ?_
      refine pu_ HT_ 22 (some 25) (bA 39 8388607) ?_
      refine pu_ HT_ 23 (some 26) (bA 39 16777215) ?_
      refine pu_ HT_ 24 (some 27) (bA 39 33554431) ?_
      refine pu_ HT_ 25 (some 28) (bA 39 67108863) ?_
      refine pu_ HT_ 26 (some 29) (bA 39 134217727) ?_
      refine pu_ HT_ 27 (some 30) (bA 39 268435455) ?_
      refine pu_ HT_ 28 (some 31) (bA 39 536870911) ?_
      refine pu_ HT_ 29 (some 32) (bA 39 1073741823) ?_
      refine pu_ HT_ 30 (some 33) (bA 39 2147483647) ?_
      refine pu_ HT_ 31 (some 34) (bA 39 4294967295) ?_
      refine pu_ HT_ 32 (some 35) (bA 39 8589934591) ?_
      refine pu_ HT_ 33 (some 36) (bA 39 17179869183) ?_
      refine pu_ HT_ 34 (some 37) (bA 39 34359738367) ?_
      refine pu_ HT_ 35 (some 38) (bA 39 68719476735) ?_
      refine pu_ HT_ 36 (some 39) (bA 39 137438953471) ?_
      refine pu_ HT_ 37 (some 40) (bA 39 274877906943) ?_
      refine pu_ HT_ 38 (some 2) (bA 39 549755813887) ?_
      refine dn_ HT_ ?_
      try go_wp2
      go_ret
      exact ⟨ri_, bel_⟩
  · replace c3 := Bool.eq_false_iff.mpr c3
    subst c3
    rw [if_neg (show ¬ (false = true) by decide)] at H
    obtain rfl := Option.some.inj H
    go_enter Tryd.func45, Tryd.ntmps45
    try go_wp2_with (first | ((with_reducible refine gate_dst (N := 1) rfl ?_); (try (refine gate_guard (by rfl) ?_; dsimp only)); refine be_ 1 #[.int .i64 a0_0, .int .i64 a0_1, .int .i64 a0_2, .int .i64 a0_3, .string a0_4, .string a0_5] 28 ?_; intro gb193 hg w19 hbox hb; have BK193 := AM hbox; have GW193 := AM ((by rw [hg]; exact (below_size bel_) : w.heap.size ≤ gb193)); have GE193 := AM ((by rw [hg]; exact (below_size bel_) : w.heap.size ≤ gb193)); replace HB := AM (below_step bel_ hb); clear hb hbox hg))
    replace BK193 := AM (blk_drew BK193.out)
    replace HB := AM (below_drew1 HB.out)
    refine start_ (n := 39) (S := fun w' => w'.cell? ⟨gb193, 0, none⟩ = some (.int .i64 a0_0) ∧ w'.cell? ⟨gb193, 1, none⟩ = some (.int .i64 a0_1) ∧ w'.cell? ⟨gb193, 2, none⟩ = some (.int .i64 a0_2) ∧ w'.cell? ⟨gb193, 3, none⟩ = some (.int .i64 a0_3) ∧ w'.cell? ⟨gb193, 4, none⟩ = some (.string a0_4) ∧ w'.cell? ⟨gb193, 5, none⟩ = some (.string a0_5)) (ds := []) (Array.replicate 39 false) (by kernel_rfl) rfl rfl ⟨(blk_cell BK193.out 0).trans rfl, (blk_cell BK193.out 1).trans rfl, (blk_cell BK193.out 2).trans rfl, (blk_cell BK193.out 3).trans rfl, (blk_cell BK193.out 4).trans rfl, (blk_cell BK193.out 5).trans rfl⟩ (fun hHeld => ?_); refine with_tabW impl_FrameRight.tab1 impl_FrameRight.bits1 (fun HT_ HW_ => ?_)
    generalize w19.drew = w20 at BK193 HB hHeld ⊢
    refine pu_ HT_ 0 (some 3) (bA 39 1) ?_
    refine pu_ HT_ 2 (some 5) (bA 39 5) ?_
    refine ta_ HT_ HW_ 1 (some 4) (bA 39 7) hHeld ?_
    refine ta_ HT_ HW_ 3 (some 6) (bA 39 15) hHeld ?_
    refine on_ HT_ 4 (some 7) (bA 39 31) (fun K hK => ?_)
    refine go1_ Tryd.func93 #[.int .i64 a0_0, .int .i64 a0_1] ?_
    with_reducible refine (impl_CodeRight.calls a0_0 a0_1 false _ A2.out).mono ?_
    rintro e w' ⟨rfl, ⟨nd, rfl⟩⟩
    refine ⟨_, rfl, ?_⟩
    refine hK.out _ _ ⟨(blk_cell BK193.out 0).trans rfl, (blk_cell BK193.out 1).trans rfl, (blk_cell BK193.out 2).trans rfl, (blk_cell BK193.out 3).trans rfl, (blk_cell BK193.out 4).trans rfl, (blk_cell BK193.out 5).trans rfl⟩ (fun hHeld => ?_)
    clear hK K
    refine nm_ ?_
    refine pu_ HT_ 5 (some 8) (bA 39 63) ?_
    refine pu_ HT_ 6 (some 9) (bA 39 127) ?_
    refine pu_ HT_ 7 (some 10) (bA 39 255) ?_
    refine pu_ HT_ 8 (some 11) (bA 39 511) ?_
    refine pu_ HT_ 9 (some 12) (bA 39 1023) ?_
    refine pu_ HT_ 10 (some 13) (bA 39 2047) ?_
    refine pu_ HT_ 11 (some 14) (bA 39 4095) ?_
    refine pu_ HT_ 12 (some 15) (bA 39 8191) ?_
    refine pu_ HT_ 13 (some 16) (bA 39 16383) ?_
    refine pu_ HT_ 14 (some 17) (bA 39 32767) ?_
    refine pu_ HT_ 15 (some 18) (bA 39 65535) ?_
    refine pu_ HT_ 16 (some 19) (bA 39 131071) ?_
    refine pu_ HT_ 17 (some 20) (bA 39 262143) ?_
    refine pu_ HT_ 18 (some 21) (bA 39 524287) ?_
    refine pu_ HT_ 19 (some 22) (bA 39 1048575) ?_
    refine pu_ HT_ 20 (some 23) (bA 39 2097151) ?_
    refine pu_ HT_ 21 (some 24) (bA 39 4194303) ?_
    refine pu_ HT_ 22 (some 25) (bA 39 8388607) ?_
    refine pu_ HT_ 23 (some 26) (bA 39 16777215) ?_
    refine pu_ HT_ 24 (some 27) (bA 39 33554431) ?_
    refine pu_ HT_ 25 (some 28) (bA 39 67108863) ?_
    refine pu_ HT_ 26 (some 29) (bA 39 134217727) ?_
    refine pu_ HT_ 27 (some 30) (bA 39 268435455) ?_
    refine pu_ HT_ 28 (some 31) (bA 39 536870911) ?_
    refine pu_ HT_ 29 (some 32) (bA 39 1073741823) ?_
    refine pu_ HT_ 30 (some 33) (bA 39 2147483647) ?_
    refine pu_ HT_ 31 (some 34) (bA 39 4294967295) ?_
    refine pu_ HT_ 32 (some 35) (bA 39 8589934591) ?_
    refine pu_ HT_ 33 (some 36) (bA 39 17179869183) ?_
    refine pu_ HT_ 34 (some 37) (bA 39 34359738367) ?_
    refine pu_ HT_ 35 (some 38) (bA 39 68719476735) ?_
    refine pu_ HT_ 36 (some 39) (bA 39 137438953471) ?_
    refine pu_ HT_ 37 (some 40) (bA 39 274877906943) ?_
    refine pu_ HT_ 38 (some 2) (bA 39 549755813887) ?_
    refine dn_ HT_ ?_
    try go_wp2
    go_ret
    exact ⟨ri_, bel_⟩

end Go.Proofs.YtddapeieolfolaaDoor.PFnFrame
