-- A program of this session wrote this text: a changed copy of the kit print, with given functions.
import Derived.Test.YtddapeieolfolaaDoorPFnScanx0
import Derived.Test.YtddapeieolfolaaDoorPFnScanx2
import Derived.Test.YtddapeieolfolaaDoorPFnScanx4
namespace Go.Proofs.YtddapeieolfolaaDoor.PFnScan
open Go.RowKit Go.Proofs.YtddapeieolfolaaDoorW.PrintWords Go.Proofs.YtddapeieolfolaaDoorW.PrintLast Go.Proofs.YtddapeieolfolaaDoorW.PrintMore Go.Proofs.YtddapeieolfolaaDoor.Aut
attribute [local go_sem] max2_int min2_int max_two min_two max_three min_three max_four min_four   -- for this text's walks alone
set_option linter.unusedVariables false
set_option linter.unusedSimpArgs false

/-! ### impl_packGet: function 91 -/
def impl_packGet.j0 : Nat → ByteArray → Bool → ByteArray → Int → Int → Int → Option (Int × ByteArray × Int)
  | 0, _, _, _, _, _, _ => none
  | k + 1, x0, x24, x386000, x386001, x386002, x386003 => if x24 = true then (some (0, (⟨#[]⟩ : ByteArray), 9)) else (if 0 ≤ x386002 then (if x386002 ≤ (wrap64 (x386002 + x386003)) then (if (wrap64 (x386002 + x386003)) ≤ (x0.size : Int) then ((impl_BlobRight.f x386001 (x0.extract (x386002 : Int).toNat ((wrap64 (x386002 + x386003)) : Int).toNat)).bind fun t390 => (if t390 = true then ((impl_Blob_key.f k x386001 (x0.extract (x386002 : Int).toNat ((wrap64 (x386002 + x386003)) : Int).toNat)).bind fun t391 => (if t391.toList = x386000.toList then (some (x386001, x0.extract (x386002 : Int).toNat ((wrap64 (x386002 + x386003)) : Int).toNat, 0)) else (some (0, (⟨#[]⟩ : ByteArray), 5)))) else (some (0, (⟨#[]⟩ : ByteArray), 5)))) else (none)) else (none)) else (none))
def impl_packGet.f (k : Nat) (a0 : ByteArray) (a1_0 : ByteArray) (a1_1 : Int) (a1_2 : Int) (a1_3 : Int) : Option (Int × ByteArray × Int) := if a1_2 < 0 then (impl_packGet.j0 k a0 true a1_0 a1_1 a1_2 a1_3) else ((impl_within.f a1_3 0 2000).bind fun t387 => (if t387 = true then ((impl_long.f a0).bind fun t388 => (impl_packGet.j0 k a0 (decide (a1_2 > (wrap64 (t388 - a1_3)))) a1_0 a1_1 a1_2 a1_3)) else (impl_packGet.j0 k a0 true a1_0 a1_1 a1_2 a1_3)))
theorem impl_packGet.mono_l : ∀ k, (∀ y0 y1 y2 y3 y4 y5, LeO (impl_packGet.j0 k y0 y1 y2 y3 y4 y5) (impl_packGet.j0 (k + 1) y0 y1 y2 y3 y4 y5))
  | 0 => fun _ _ _ _ _ _ r h => by simp [impl_packGet.j0] at h
  | k + 1 => by
    have ih0 := impl_packGet.mono_l k
    · intro y0 y1 y2 y3 y4 y5
      unfold impl_packGet.j0
      repeat' first
      | (with_reducible exact ih0 _ _ _ _ _ _)
      | (with_reducible exact impl_Blob_key.mono _ _ _)
      | (with_reducible exact LeO.refl _)
      | (with_reducible exact LeO.none _)
      | (with_reducible refine LeO.ite ?_ ?_)
      | (with_reducible refine LeO.bind ?_ (fun _ => ?_))
      | exact ih0 _ _ _ _ _ _
      | exact impl_Blob_key.mono _ _ _
      | exact LeO.none _
      | refine LeO.ite ?_ ?_
      | refine LeO.bind ?_ (fun _ => ?_)
theorem impl_packGet.mono : ∀ a0 a1 a2 a3 a4 k, LeO (impl_packGet.f k a0 a1 a2 a3 a4) (impl_packGet.f (k + 1) a0 a1 a2 a3 a4) := by
  intro a0 a1 a2 a3 a4 k
  have ih0 := impl_packGet.mono_l k
  unfold impl_packGet.f
  repeat' first
      | (with_reducible exact ih0 _ _ _ _ _ _)
      | (with_reducible exact impl_Blob_key.mono _ _ _)
      | (with_reducible exact LeO.refl _)
      | (with_reducible exact LeO.none _)
      | (with_reducible refine LeO.ite ?_ ?_)
      | (with_reducible refine LeO.bind ?_ (fun _ => ?_))
      | exact ih0 _ _ _ _ _ _
      | exact impl_Blob_key.mono _ _ _
      | exact LeO.none _
      | refine LeO.ite ?_ ?_
      | refine LeO.bind ?_ (fun _ => ?_)
def impl_packGet.T1 : Bool × List (List Nat × List Nat) := (true, [([], []), ([0], [0]), ([1], [1]), ([2], [2]), ([3], [3]), ([4, 3], [3, 4]), ([5, 3, 3], [3, 5]), ([6, 3], [3, 6]), ([3, 7], [3, 7]), ([8, 6], [8]), ([9], [9]), ([10, 9], [9, 10]), ([9], [9]), ([12, 9, 9], [9, 12]), ([9], [9]), ([14, 9], [9, 14]), ([13, 15, 9], [9, 13, 15]), ([11, 16, 9], [9, 11, 16]), ([9, 17], [9, 17])])
def impl_packGet.B1 : List Nat := [0, 1, 3, 7, 15, 31, 63, 127, 255, 511, 1023, 2047, 1023, 5119, 1023, 17407, 62463, 131071, 262143]
theorem impl_packGet.tab1 : rtab .any (opsOf Tryd.f91 1) = impl_packGet.T1 := by kernel_rfl
theorem impl_packGet.bits1 : waitsOk impl_packGet.T1.2 impl_packGet.B1 = true := by kernel_rfl
def impl_packGet.T3 : Bool × List (List Nat × List Nat) := (true, [([], []), ([0], [0]), ([], []), ([], []), ([3], [3]), ([], []), ([5], [5]), ([], []), ([7], [7]), ([6, 8], [6, 8]), ([2, 4, 9], [2, 4, 9]), ([1, 10], [1, 10]), ([], []), ([12, 11, 0, 1, 2, 3, 4, 5, 6, 7, 8, 9, 10, 11, 12], [11, 12])])
def impl_packGet.B3 : List Nat := [0, 1, 0, 0, 8, 0, 32, 0, 128, 480, 1020, 2047, 0, 8191]
theorem impl_packGet.tab3 : rtab .any (opsOf Tryd.f91 3) = impl_packGet.T3 := by kernel_rfl
theorem impl_packGet.bits3 : waitsOk impl_packGet.T3.2 impl_packGet.B3 = true := by kernel_rfl
def impl_packGet.T4 : Bool × List (List Nat × List Nat) := (true, [([], []), ([0], [0]), ([1], [1]), ([2, 1], [2]), ([3], [3]), ([4, 3, 3], [3, 4]), ([3], [3]), ([6, 3], [3, 6]), ([5, 7, 3], [3, 5, 7]), ([3, 8], [3, 8])])
def impl_packGet.B4 : List Nat := [0, 1, 3, 7, 15, 31, 15, 79, 255, 511]
theorem impl_packGet.tab4 : rtab .any (opsOf Tryd.f91 4) = impl_packGet.T4 := by kernel_rfl
theorem impl_packGet.bits4 : waitsOk impl_packGet.T4.2 impl_packGet.B4 = true := by kernel_rfl
set_option maxHeartbeats 8000000 in
set_option maxRecDepth 100000 in
theorem impl_packGet.calls (k : Nat) (a0 : ByteArray) (a1_0 : ByteArray) (a1_1 : Int) (a1_2 : Int) (a1_3 : Int) (r1 : Int) (r2 : ByteArray) (r3 : Int) (w : World) (h : impl_packGet.f k a0 a1_0 a1_1 a1_2 a1_3 = some (r1, r2, r3)) (hL : Hand.LaidG w := by first | exact hL | exact Hand.LaidG.below hL bel_) :
    Calls Tryd.prog 91 #[.string a0, .agg #[.string a1_0, .int .i64 a1_1, .int .i64 a1_2, .int .i64 a1_3]] w fun e w' => e = .returned (.agg #[.int .i64 r1, .string r2, .int .i64 r3]) ∧ Below w.heap.size w w' := by
  have hu61 := Tryd.underlying61
  have hu66 := Tryd.underlying66
  have hu64 := Tryd.underlying64
  have HB := AM (Below.refl w.heap.size w)
  have H : (if a1_2 < 0 then (impl_packGet.j0 k a0 true a1_0 a1_1 a1_2 a1_3) else ((impl_within.f a1_3 0 2000).bind fun t387 => (if t387 = true then ((impl_long.f a0).bind fun t388 => (impl_packGet.j0 k a0 (decide (a1_2 > (wrap64 (t388 - a1_3)))) a1_0 a1_1 a1_2 a1_3)) else (impl_packGet.j0 k a0 true a1_0 a1_1 a1_2 a1_3)))) = some (r1, r2, r3) := h
  clear h
  have HC3 := AM H
  clear H
  go_enter Tryd.func91, Tryd.ntmps91
  go_upto_region 1 with (first | ((with_reducible refine gate_dst (N := 3) rfl ?_); refine be_ 3 #[.string a1_0, .int .i64 a1_1, .int .i64 a1_2, .int .i64 a1_3] 61 ?_; intro gb385 hg w4 hbox hb; have BK385 := AM hbox; have GW385 := AM ((by rw [hg]; exact (below_size bel_) : w.heap.size ≤ gb385)); have GE385 := AM ((by rw [hg]; exact (below_size bel_) : w.heap.size ≤ gb385)); replace HB := AM (below_step bel_ hb); clear hb hbox hg) | ((with_reducible refine gate_dst (N := 4) rfl ?_); refine be_ 4 #[.int .i64 0, .string (⟨#[]⟩ : ByteArray), .int .i64 0] 66 ?_; intro gb386 hg w5 hbox hb; have BK386 := AM hbox; have GW386 := AM ((by rw [hg]; exact (below_size bel_) : w.heap.size ≤ gb386)); have GE386 := AM ((by rw [hg]; exact (below_size bel_) : w.heap.size ≤ gb386)); replace HB := AM (below_step bel_ hb); have NB385_386 := AM ((by rw [hg]; exact Nat.ne_of_lt (blk_lt (g := gb385) (o := .cells #[.string a1_0, .int .i64 a1_1, .int .i64 a1_2, .int .i64 a1_3] 61 (0, 0)) (bk_ BK385.out)) : gb385 ≠ gb386)); have NB386_385 := AM ((by rw [hg]; exact Nat.ne_of_gt (blk_lt (g := gb385) (o := .cells #[.string a1_0, .int .i64 a1_1, .int .i64 a1_2, .int .i64 a1_3] 61 (0, 0)) (bk_ BK385.out)) : gb386 ≠ gb385)); replace BK385 := AM (blk_below (g := gb385) (o := .cells #[.string a1_0, .int .i64 a1_1, .int .i64 a1_2, .int .i64 a1_3] 61 (0, 0)) (bk_ BK385.out) hb); clear hb hbox hg))
  (try simp only [Act.put, List.setIfInBounds_toArray, List.set_cons_zero, List.set_cons_succ])
  go_cut [24] (fun v24 wc => ∃ (kq : Nat) (x24_2 : Bool), v24 = .bool x24_2 ∧ Aside0 (impl_packGet.j0 kq a0 x24_2 a1_0 a1_1 a1_2 a1_3 = some (r1, r2, r3)) ∧ Aside0 (kq ≤ k) ∧ Aside0 (wc.heap[gb385]? = some (.cells #[.string a1_0, .int .i64 a1_1, .int .i64 a1_2, .int .i64 a1_3] 61 (0, 0))) ∧ Aside0 (wc.heap[gb386]? = some (.cells #[.int .i64 0, .string (⟨#[]⟩ : ByteArray), .int .i64 0] 66 (0, 0))) ∧ Aside0 (Below w.heap.size w wc))
  case first =>
    have H := HC3.out
    clear HC3
    by_cases c6 : a1_2 < 0
    · rw [if_pos c6] at H
      have c6b0 : decide (a1_2 < 0) = true := decide_eq_true c6
      clear c6
      (first | rw [c6b0] | (simp only [i64_w, i32_w]; rw [c6b0]) | skip)
      have H' := AM H
      clear H
      try go_wp2
      replace BK385 := AM (blk_drew BK385.out)
      replace BK386 := AM (blk_drew BK386.out)
      replace HB := AM (below_drew1 HB.out)
      refine start_ (n := 19) (S := fun w' => w'.cell? ⟨gb385, 0, none⟩ = some (.string a1_0) ∧ w'.cell? ⟨gb385, 1, none⟩ = some (.int .i64 a1_1) ∧ w'.cell? ⟨gb385, 2, none⟩ = some (.int .i64 a1_2) ∧ w'.cell? ⟨gb385, 3, none⟩ = some (.int .i64 a1_3)) (ds := []) #[false, false, false, false, false, false, false, false, false, false, false, false, false, false, false, false, false, false, false] (by kernel_rfl) rfl rfl ⟨(blk_cell BK385.out 0).trans rfl, (blk_cell BK385.out 1).trans rfl, (blk_cell BK385.out 2).trans rfl, (blk_cell BK385.out 3).trans rfl⟩ (fun hHeld => ?_); refine with_tabW impl_packGet.tab1 impl_packGet.bits1 (fun HT_ HW_ => ?_)
      generalize w5.drew = w7 at BK385 BK386 HB hHeld ⊢
      refine pu_ HT_ 0 (some 6) #[true, false, false, false, false, false, false, false, false, false, false, false, false, false, false, false, false, false, false] ?_
      refine ta_ HT_ HW_ 1 (some 7) #[true, true, false, false, false, false, false, false, false, false, false, false, false, false, false, false, false, false, false] hHeld ?_
      refine pu_ HT_ 2 (some 8) #[true, true, true, false, false, false, false, false, false, false, false, false, false, false, false, false, false, false, false] ?_
      refine pu_ HT_ 3 (some 9) #[true, true, true, true, false, false, false, false, false, false, false, false, false, false, false, false, false, false, false] ?_
      refine pu_ HT_ 4 (some 10) #[true, true, true, true, true, false, false, false, false, false, false, false, false, false, false, false, false, false, false] ?_
      refine pu_ HT_ 5 (some 11) #[true, true, true, true, true, true, false, false, false, false, false, false, false, false, false, false, false, false, false] ?_
      refine pu_ HT_ 6 (some 12) #[true, true, true, true, true, true, true, false, false, false, false, false, false, false, false, false, false, false, false] ?_
      refine pu_ HT_ 7 (some 13) #[true, true, true, true, true, true, true, true, false, false, false, false, false, false, false, false, false, false, false] ?_
      refine pu_ HT_ 8 (some 14) #[true, true, true, true, true, true, true, true, true, false, false, false, false, false, false, false, false, false, false] ?_
      refine pu_ HT_ 9 (some 15) #[true, true, true, true, true, true, true, true, true, true, false, false, false, false, false, false, false, false, false] ?_
      refine pu_ HT_ 10 (some 16) #[true, true, true, true, true, true, true, true, true, true, true, false, false, false, false, false, false, false, false] ?_
      refine pu_ HT_ 11 (some 17) #[true, true, true, true, true, true, true, true, true, true, true, true, false, false, false, false, false, false, false] ?_
      refine pu_ HT_ 12 (some 18) #[true, true, true, true, true, true, true, true, true, true, true, true, true, false, false, false, false, false, false] ?_
      refine pu_ HT_ 13 (some 19) #[true, true, true, true, true, true, true, true, true, true, true, true, true, true, false, false, false, false, false] ?_
      refine pu_ HT_ 14 (some 20) #[true, true, true, true, true, true, true, true, true, true, true, true, true, true, true, false, false, false, false] ?_
      refine pu_ HT_ 15 (some 21) #[true, true, true, true, true, true, true, true, true, true, true, true, true, true, true, true, false, false, false] ?_
      refine pu_ HT_ 16 (some 22) #[true, true, true, true, true, true, true, true, true, true, true, true, true, true, true, true, true, false, false] ?_
      refine pu_ HT_ 17 (some 23) #[true, true, true, true, true, true, true, true, true, true, true, true, true, true, true, true, true, true, false] ?_
      refine pu_ HT_ 18 (some 24) #[true, true, true, true, true, true, true, true, true, true, true, true, true, true, true, true, true, true, true] ?_
      refine dn_ HT_ ?_
      try go_wp2
      go_meet
      case rel => exact ⟨_, (true), (by first | rfl | (simp; done) | (simp [*]; done)), H', ⟨by first | omega | exact Nat.le_refl _⟩, ⟨bk_ BK385.out⟩, ⟨bk_ BK386.out⟩, ⟨bel_⟩⟩
    · rw [if_neg c6] at H
      have c6b0 : decide (a1_2 < 0) = false := decide_eq_false c6
      clear c6
      (first | rw [c6b0] | (simp only [i64_w, i32_w]; rw [c6b0]) | skip)
      obtain ⟨t387, A8, H⟩ := OB H
      try dsimp only at H
      replace A8 := AM A8
      by_cases c9 : t387 = true
      · subst c9
        rw [if_pos rfl] at H
        obtain ⟨t388, A10, H⟩ := OB H
        try dsimp only at H
        replace A10 := AM A10
        have H' := AM H
        clear H
        try go_wp2
        replace BK385 := AM (blk_drew BK385.out)
        replace BK386 := AM (blk_drew BK386.out)
        replace HB := AM (below_drew1 HB.out)
        refine start_ (n := 19) (S := fun w' => w'.cell? ⟨gb385, 0, none⟩ = some (.string a1_0) ∧ w'.cell? ⟨gb385, 1, none⟩ = some (.int .i64 a1_1) ∧ w'.cell? ⟨gb385, 2, none⟩ = some (.int .i64 a1_2) ∧ w'.cell? ⟨gb385, 3, none⟩ = some (.int .i64 a1_3)) (ds := []) #[false, false, false, false, false, false, false, false, false, false, false, false, false, false, false, false, false, false, false] (by kernel_rfl) rfl rfl ⟨(blk_cell BK385.out 0).trans rfl, (blk_cell BK385.out 1).trans rfl, (blk_cell BK385.out 2).trans rfl, (blk_cell BK385.out 3).trans rfl⟩ (fun hHeld => ?_); refine with_tabW impl_packGet.tab1 impl_packGet.bits1 (fun HT_ HW_ => ?_)
        generalize w5.drew = w11 at BK385 BK386 HB hHeld ⊢
        refine pu_ HT_ 0 (some 6) #[true, false, false, false, false, false, false, false, false, false, false, false, false, false, false, false, false, false, false] ?_
        refine ta_ HT_ HW_ 1 (some 7) #[true, true, false, false, false, false, false, false, false, false, false, false, false, false, false, false, false, false, false] hHeld ?_
        refine pu_ HT_ 2 (some 8) #[true, true, true, false, false, false, false, false, false, false, false, false, false, false, false, false, false, false, false] ?_
        refine pu_ HT_ 3 (some 9) #[true, true, true, true, false, false, false, false, false, false, false, false, false, false, false, false, false, false, false] ?_
        refine pu_ HT_ 4 (some 10) #[true, true, true, true, true, false, false, false, false, false, false, false, false, false, false, false, false, false, false] ?_
        refine ta_ HT_ HW_ 5 (some 11) #[true, true, true, true, true, true, false, false, false, false, false, false, false, false, false, false, false, false, false] hHeld ?_
        refine on_ HT_ 6 (some 12) #[true, true, true, true, true, true, true, false, false, false, false, false, false, false, false, false, false, false, false] (fun K hK => ?_)
        refine go1_ Tryd.func77 #[.int .i64 a1_3, .int .i64 0, .int .i64 2000] ?_
        with_reducible refine (impl_within.calls a1_3 0 2000 true _ A8.out).mono ?_
        rintro e w' ⟨rfl, ⟨nd, rfl⟩⟩
        refine ⟨_, rfl, ?_⟩
        refine hK.out _ _ ⟨(blk_cell BK385.out 0).trans rfl, (blk_cell BK385.out 1).trans rfl, (blk_cell BK385.out 2).trans rfl, (blk_cell BK385.out 3).trans rfl⟩ (fun hHeld => ?_)
        clear hK K
        refine nm_ ?_
        refine pu_ HT_ 7 (some 13) #[true, true, true, true, true, true, true, true, false, false, false, false, false, false, false, false, false, false, false] ?_
        refine pu_ HT_ 8 (some 14) #[true, true, true, true, true, true, true, true, true, false, false, false, false, false, false, false, false, false, false] ?_
        refine pu_ HT_ 9 (some 15) #[true, true, true, true, true, true, true, true, true, true, false, false, false, false, false, false, false, false, false] ?_
        refine pu_ HT_ 10 (some 16) #[true, true, true, true, true, true, true, true, true, true, true, false, false, false, false, false, false, false, false] ?_
        refine pu_ HT_ 12 (some 18) #[true, true, true, true, true, true, true, true, true, true, true, false, true, false, false, false, false, false, false] ?_
        refine pu_ HT_ 14 (some 20) #[true, true, true, true, true, true, true, true, true, true, true, false, true, false, true, false, false, false, false] ?_
        refine ta_ HT_ HW_ 11 (some 17) #[true, true, true, true, true, true, true, true, true, true, true, true, true, false, true, false, false, false, false] hHeld ?_
        refine ta_ HT_ HW_ 15 (some 21) #[true, true, true, true, true, true, true, true, true, true, true, true, true, false, true, true, false, false, false] hHeld ?_
        refine on_ HT_ 13 (some 19) #[true, true, true, true, true, true, true, true, true, true, true, true, true, true, true, true, false, false, false] (fun K hK => ?_)
        refine go1_ Tryd.func70 #[.string a0] ?_
        with_reducible refine (impl_long.calls a0 t388 _ A10.out).mono ?_
        rintro e w' ⟨rfl, ⟨nd, rfl⟩⟩
        refine ⟨_, rfl, ?_⟩
        refine hK.out _ _ ⟨(blk_cell BK385.out 0).trans rfl, (blk_cell BK385.out 1).trans rfl, (blk_cell BK385.out 2).trans rfl, (blk_cell BK385.out 3).trans rfl⟩ (fun hHeld => ?_)
        clear hK K
        refine nm_ ?_
        refine pu_ HT_ 16 (some 22) #[true, true, true, true, true, true, true, true, true, true, true, true, true, true, true, true, true, false, false] ?_
        refine pu_ HT_ 17 (some 23) #[true, true, true, true, true, true, true, true, true, true, true, true, true, true, true, true, true, true, false] ?_
        refine pu_ HT_ 18 (some 24) #[true, true, true, true, true, true, true, true, true, true, true, true, true, true, true, true, true, true, true] ?_
        refine dn_ HT_ ?_
        try go_wp2
        go_meet
        case rel => exact ⟨_, (decide (a1_2 > (wrap64 (t388 - a1_3)))), (by first | rfl | (simp; done) | (simp [*]; done)), H', ⟨by first | omega | exact Nat.le_refl _⟩, ⟨bk_ BK385.out⟩, ⟨bk_ BK386.out⟩, ⟨bel_⟩⟩
      · replace c9 := Bool.eq_false_iff.mpr c9
        subst c9
        rw [if_neg (show ¬ (false = true) by decide)] at H
        have H' := AM H
        clear H
        try go_wp2
        replace BK385 := AM (blk_drew BK385.out)
        replace BK386 := AM (blk_drew BK386.out)
        replace HB := AM (below_drew1 HB.out)
        refine start_ (n := 19) (S := fun w' => w'.cell? ⟨gb385, 0, none⟩ = some (.string a1_0) ∧ w'.cell? ⟨gb385, 1, none⟩ = some (.int .i64 a1_1) ∧ w'.cell? ⟨gb385, 2, none⟩ = some (.int .i64 a1_2) ∧ w'.cell? ⟨gb385, 3, none⟩ = some (.int .i64 a1_3)) (ds := []) #[false, false, false, false, false, false, false, false, false, false, false, false, false, false, false, false, false, false, false] (by kernel_rfl) rfl rfl ⟨(blk_cell BK385.out 0).trans rfl, (blk_cell BK385.out 1).trans rfl, (blk_cell BK385.out 2).trans rfl, (blk_cell BK385.out 3).trans rfl⟩ (fun hHeld => ?_); refine with_tabW impl_packGet.tab1 impl_packGet.bits1 (fun HT_ HW_ => ?_)
        generalize w5.drew = w12 at BK385 BK386 HB hHeld ⊢
        refine pu_ HT_ 0 (some 6) #[true, false, false, false, false, false, false, false, false, false, false, false, false, false, false, false, false, false, false] ?_
        refine ta_ HT_ HW_ 1 (some 7) #[true, true, false, false, false, false, false, false, false, false, false, false, false, false, false, false, false, false, false] hHeld ?_
        refine pu_ HT_ 2 (some 8) #[true, true, true, false, false, false, false, false, false, false, false, false, false, false, false, false, false, false, false] ?_
        refine pu_ HT_ 3 (some 9) #[true, true, true, true, false, false, false, false, false, false, false, false, false, false, false, false, false, false, false] ?_
        refine pu_ HT_ 4 (some 10) #[true, true, true, true, true, false, false, false, false, false, false, false, false, false, false, false, false, false, false] ?_
        refine ta_ HT_ HW_ 5 (some 11) #[true, true, true, true, true, true, false, false, false, false, false, false, false, false, false, false, false, false, false] hHeld ?_
        refine on_ HT_ 6 (some 12) #[true, true, true, true, true, true, true, false, false, false, false, false, false, false, false, false, false, false, false] (fun K hK => ?_)
        refine go1_ Tryd.func77 #[.int .i64 a1_3, .int .i64 0, .int .i64 2000] ?_
        with_reducible refine (impl_within.calls a1_3 0 2000 false _ A8.out).mono ?_
        rintro e w' ⟨rfl, ⟨nd, rfl⟩⟩
        refine ⟨_, rfl, ?_⟩
        refine hK.out _ _ ⟨(blk_cell BK385.out 0).trans rfl, (blk_cell BK385.out 1).trans rfl, (blk_cell BK385.out 2).trans rfl, (blk_cell BK385.out 3).trans rfl⟩ (fun hHeld => ?_)
        clear hK K
        refine nm_ ?_
        refine pu_ HT_ 7 (some 13) #[true, true, true, true, true, true, true, true, false, false, false, false, false, false, false, false, false, false, false] ?_
        refine pu_ HT_ 8 (some 14) #[true, true, true, true, true, true, true, true, true, false, false, false, false, false, false, false, false, false, false] ?_
        refine pu_ HT_ 9 (some 15) #[true, true, true, true, true, true, true, true, true, true, false, false, false, false, false, false, false, false, false] ?_
        refine pu_ HT_ 10 (some 16) #[true, true, true, true, true, true, true, true, true, true, true, false, false, false, false, false, false, false, false] ?_
        refine pu_ HT_ 11 (some 17) #[true, true, true, true, true, true, true, true, true, true, true, true, false, false, false, false, false, false, false] ?_
        refine pu_ HT_ 12 (some 18) #[true, true, true, true, true, true, true, true, true, true, true, true, true, false, false, false, false, false, false] ?_
        refine pu_ HT_ 13 (some 19) #[true, true, true, true, true, true, true, true, true, true, true, true, true, true, false, false, false, false, false] ?_
        refine pu_ HT_ 14 (some 20) #[true, true, true, true, true, true, true, true, true, true, true, true, true, true, true, false, false, false, false] ?_
        refine pu_ HT_ 15 (some 21) #[true, true, true, true, true, true, true, true, true, true, true, true, true, true, true, true, false, false, false] ?_
        refine pu_ HT_ 16 (some 22) #[true, true, true, true, true, true, true, true, true, true, true, true, true, true, true, true, true, false, false] ?_
        refine pu_ HT_ 17 (some 23) #[true, true, true, true, true, true, true, true, true, true, true, true, true, true, true, true, true, true, false] ?_
        refine pu_ HT_ 18 (some 24) #[true, true, true, true, true, true, true, true, true, true, true, true, true, true, true, true, true, true, true] ?_
        refine dn_ HT_ ?_
        try go_wp2
        go_meet
        case rel => exact ⟨_, (true), (by first | rfl | (simp; done) | (simp [*]; done)), H', ⟨by first | omega | exact Nat.le_refl _⟩, ⟨bk_ BK385.out⟩, ⟨bk_ BK386.out⟩, ⟨bel_⟩⟩
  case rest =>
    clear HC3
    try clear p2
    try clear c6
    try clear c6b0
    try clear p6
    try clear c7
    try clear c9
    obtain ⟨kq, x24_2, rfl, HA, HJ2, BK385, BK386, HB⟩ := hcut
    cases kq with
    | zero => exact absurd HA.out (by simp [impl_packGet.j0])
    | succ kj2 =>
      have H := HA.out
      clear HA
      simp only [impl_packGet.j0] at H
      by_cases c13 : x24_2 = true
      · subst c13
        rw [if_pos rfl] at H
        simp only [Option.some.injEq, Prod.mk.injEq] at H
        obtain ⟨rfl, rfl, rfl⟩ := H
        have hnb14 := NB386_385.out
        have hnc14 := NB385_386.out
        have hcz15_0 : wc.cell? ⟨gb386, 0, none⟩ = some (.int .i64 0) := (blk_cell BK386.out 0).trans rfl
        have hcz15_1 : wc.cell? ⟨gb386, 1, none⟩ = some (.string (⟨#[]⟩ : ByteArray)) := (blk_cell BK386.out 1).trans rfl
        have hcz15_2 : wc.cell? ⟨gb386, 2, none⟩ = some (.int .i64 0) := (blk_cell BK386.out 2).trans rfl
        have hfz15_0 := blk_frozen BK386.out 0
        have hfz15_1 := blk_frozen BK386.out 1
        have hfz15_2 := blk_frozen BK386.out 2
        go_wp2
        refine bodyPost_ret (results_cell_row rfl _ _ gb386 66 #[.int .i64 0, .string (⟨#[]⟩ : ByteArray), .int .i64 9] (0, 0) _ rfl bka_ Tryd.underlying66 rfl (by kernel_rfl)) rfl ?_
        exact ⟨ri_, bel_⟩
      · replace c13 := Bool.eq_false_iff.mpr c13
        subst c13
        rw [if_neg (show ¬ (false = true) by decide)] at H
        by_cases c16 : 0 ≤ a1_2
        · rw [if_pos c16] at H
          have c16b0 := eq_true c16
          have c16b1 : decide (0 ≤ a1_2) = true := decide_eq_true c16
          clear c16
          by_cases c17 : a1_2 ≤ (wrap64 (a1_2 + a1_3))
          · rw [if_pos c17] at H
            have c17b0 := eq_true c17
            have c17b1 : decide (a1_2 ≤ (wrap64 (a1_2 + a1_3))) = true := decide_eq_true c17
            by_cases c18 : (wrap64 (a1_2 + a1_3)) ≤ (a0.size : Int)
            · rw [if_pos c18] at H
              have c18b0 := eq_true c18
              have c18b1 : decide ((wrap64 (a1_2 + a1_3)) ≤ (a0.size : Int)) = true := decide_eq_true c18
              obtain ⟨t390, A19, H⟩ := OB H
              try dsimp only at H
              replace A19 := AM A19
              by_cases c20 : t390 = true
              · subst c20
                rw [if_pos rfl] at H
                obtain ⟨t391, A21, H⟩ := OB H
                try dsimp only at H
                replace A21 := AM A21
                by_cases c22 : t391.toList = a1_0.toList
                · rw [if_pos c22] at H
                  have c22b0 : (t391.toList == a1_0.toList) = true := beq_iff_eq.mpr c22
                  have c22b1 : (t391.toList != a1_0.toList) = false := bne_eq_false_iff_eq.mpr c22
                  clear c22
                  simp only [Option.some.injEq, Prod.mk.injEq] at H
                  obtain ⟨rfl, rfl, rfl⟩ := H
                  try go_wp2
                  replace BK385 := AM (blk_drew BK385.out)
                  replace BK386 := AM (blk_drew BK386.out)
                  replace HB := AM (below_drew1 HB.out)
                  refine start_ (n := 14) (S := fun w' => w'.cell? ⟨gb385, 0, none⟩ = some (.string a1_0) ∧ w'.cell? ⟨gb385, 1, none⟩ = some (.int .i64 a1_1) ∧ w'.cell? ⟨gb385, 2, none⟩ = some (.int .i64 a1_2) ∧ w'.cell? ⟨gb385, 3, none⟩ = some (.int .i64 a1_3)) (ds := []) #[false, false, false, false, false, false, false, false, false, false, false, false, false, false] (by kernel_rfl) rfl rfl ⟨(blk_cell BK385.out 0).trans rfl, (blk_cell BK385.out 1).trans rfl, (blk_cell BK385.out 2).trans rfl, (blk_cell BK385.out 3).trans rfl⟩ (fun hHeld => ?_); refine with_tabW impl_packGet.tab3 impl_packGet.bits3 (fun HT_ HW_ => ?_)
                  generalize wc.drew = w23 at BK385 BK386 HB hHeld ⊢
                  refine pu_ HT_ 0 (some 26) #[true, false, false, false, false, false, false, false, false, false, false, false, false, false] ?_
                  refine pu_ HT_ 2 (some 28) #[true, false, true, false, false, false, false, false, false, false, false, false, false, false] ?_
                  refine pu_ HT_ 3 (some 29) #[true, false, true, true, false, false, false, false, false, false, false, false, false, false] ?_
                  refine pu_ HT_ 5 (some 31) #[true, false, true, true, false, true, false, false, false, false, false, false, false, false] ?_
                  refine pu_ HT_ 7 (some 33) #[true, false, true, true, false, true, false, true, false, false, false, false, false, false] ?_
                  refine ta_ HT_ HW_ 1 (some 27) #[true, true, true, true, false, true, false, true, false, false, false, false, false, false] hHeld ?_
                  refine ta_ HT_ HW_ 4 (some 30) #[true, true, true, true, true, true, false, true, false, false, false, false, false, false] hHeld ?_
                  refine ta_ HT_ HW_ 6 (some 32) #[true, true, true, true, true, true, true, true, false, false, false, false, false, false] hHeld ?_
                  refine ta_ HT_ HW_ 8 (some 34) #[true, true, true, true, true, true, true, true, true, false, false, false, false, false] hHeld ?_
                  refine pu_ HT_ 9 (some 35) #[true, true, true, true, true, true, true, true, true, true, false, false, false, false] ?_
                  refine pu_ HT_ 10 (some 36) #[true, true, true, true, true, true, true, true, true, true, true, false, false, false] ?_
                  refine pu_ HT_ 11 (some 37) #[true, true, true, true, true, true, true, true, true, true, true, true, false, false] ?_
                  refine on_ HT_ 12 (some 5) #[true, true, true, true, true, true, true, true, true, true, true, true, true, false] (fun K hK => ?_)
                  refine bs_ 5 #[.int .i64 0, .string (⟨#[]⟩ : ByteArray)] 64 ?_
                  intro gb389 hg w24 hbox hb
                  have BK389 := AM hbox
                  have GW389 := AM ((by rw [hg]; exact (below_size bel_) : w.heap.size ≤ gb389))
                  have GE389 := AM ((by rw [hg]; exact (below_size bel_) : w.heap.size ≤ gb389))
                  replace HB := AM (below_step bel_ hb)
                  have NB385_389 := AM ((by rw [hg]; exact Nat.ne_of_lt (blk_lt (g := gb385) (o := .cells #[.string a1_0, .int .i64 a1_1, .int .i64 a1_2, .int .i64 a1_3] 61 (0, 0)) (bk_ BK385.out)) : gb385 ≠ gb389))
                  have NB389_385 := AM ((by rw [hg]; exact Nat.ne_of_gt (blk_lt (g := gb385) (o := .cells #[.string a1_0, .int .i64 a1_1, .int .i64 a1_2, .int .i64 a1_3] 61 (0, 0)) (bk_ BK385.out)) : gb389 ≠ gb385))
                  replace BK385 := AM (blk_below (g := gb385) (o := .cells #[.string a1_0, .int .i64 a1_1, .int .i64 a1_2, .int .i64 a1_3] 61 (0, 0)) (bk_ BK385.out) hb)
                  have NB386_389 := AM ((by rw [hg]; exact Nat.ne_of_lt (blk_lt (g := gb386) (o := .cells #[.int .i64 0, .string (⟨#[]⟩ : ByteArray), .int .i64 0] 66 (0, 0)) (bk_ BK386.out)) : gb386 ≠ gb389))
                  have NB389_386 := AM ((by rw [hg]; exact Nat.ne_of_gt (blk_lt (g := gb386) (o := .cells #[.int .i64 0, .string (⟨#[]⟩ : ByteArray), .int .i64 0] 66 (0, 0)) (bk_ BK386.out)) : gb389 ≠ gb386))
                  replace BK386 := AM (blk_below (g := gb386) (o := .cells #[.int .i64 0, .string (⟨#[]⟩ : ByteArray), .int .i64 0] 66 (0, 0)) (bk_ BK386.out) hb)
                  clear hb hbox hg
                  refine hK.out _ _ ⟨(blk_cell BK385.out 0).trans rfl, (blk_cell BK385.out 1).trans rfl, (blk_cell BK385.out 2).trans rfl, (blk_cell BK385.out 3).trans rfl⟩ (fun hHeld => ?_)
                  clear hK K
                  refine nm_ ?_
                  refine on_ HT_ 13 none #[true, true, true, true, true, true, true, true, true, true, true, true, true, true] (fun K hK => ?_)
                  have hs25 : w24.cell? ⟨gb389, 0, none⟩ = some (.int .i64 0) := (blk_cell BK389.out 0).trans rfl
                  have hfs25 := blk_frozen BK389.out 0
                  have hns25_0 := NB385_389.out
                  have hns25_1 := NB386_389.out
                  have hms25_0 := NB389_385.out
                  have hms25_1 := NB389_386.out
                  have hs26 : w24.cell? ⟨gb389, 1, none⟩ = some (.string (⟨#[]⟩ : ByteArray)) := (blk_cell BK389.out 1).trans rfl
                  have hfs26 := blk_frozen BK389.out 1
                  have hns26_0 := NB385_389.out
                  have hns26_1 := NB386_389.out
                  have hms26_0 := NB389_385.out
                  have hms26_1 := NB389_386.out
                  refine sk_ ?_
                  refine hK.out _ _ ⟨(by (rw [cell_far, cell_far]) <;> first | exact hHeld.1 | exact NB385_389.out), (by (rw [cell_far, cell_far]) <;> first | exact hHeld.2.1 | exact NB385_389.out), (by (rw [cell_far, cell_far]) <;> first | exact hHeld.2.2.1 | exact NB385_389.out), (by (rw [cell_far, cell_far]) <;> first | exact hHeld.2.2.2 | exact NB385_389.out)⟩ (fun hHeld => ?_)
                  clear hK K
                  refine dn_ HT_ ?_
                  try go_wp2
                  have n0_ : Aside0 (((w24.setCell ⟨gb389, 0, none⟩ (.int .i64 a1_1)).setCell ⟨gb389, 1, none⟩ (.string (a0.extract (a1_2 : Int).toNat ((wrap64 (a1_2 + a1_3)) : Int).toNat))).heap[gb385]? = some (.cells #[.string a1_0, .int .i64 a1_1, .int .i64 a1_2, .int .i64 a1_3] 61 (0, 0))) := ⟨bka_⟩
                  have n1_ : Aside0 (((w24.setCell ⟨gb389, 0, none⟩ (.int .i64 a1_1)).setCell ⟨gb389, 1, none⟩ (.string (a0.extract (a1_2 : Int).toNat ((wrap64 (a1_2 + a1_3)) : Int).toNat))).heap[gb386]? = some (.cells #[.int .i64 0, .string (⟨#[]⟩ : ByteArray), .int .i64 0] 66 (0, 0))) := ⟨bka_⟩
                  have n2_ : Aside0 (((w24.setCell ⟨gb389, 0, none⟩ (.int .i64 a1_1)).setCell ⟨gb389, 1, none⟩ (.string (a0.extract (a1_2 : Int).toNat ((wrap64 (a1_2 + a1_3)) : Int).toNat))).heap[gb389]? = some (.cells #[.int .i64 a1_1, .string (a0.extract (a1_2 : Int).toNat ((wrap64 (a1_2 + a1_3)) : Int).toNat)] 64 (0, 0))) := ⟨bka_⟩
                  have n3_ : Aside0 (Below w.heap.size w ((w24.setCell ⟨gb389, 0, none⟩ (.int .i64 a1_1)).setCell ⟨gb389, 1, none⟩ (.string (a0.extract (a1_2 : Int).toNat ((wrap64 (a1_2 + a1_3)) : Int).toNat)))) := ⟨bel_⟩
                  (try clear BK385)
                  (try clear BK386)
                  (try clear BK389)
                  (try clear HB)
                  generalize ((w24.setCell ⟨gb389, 0, none⟩ (.int .i64 a1_1)).setCell ⟨gb389, 1, none⟩ (.string (a0.extract (a1_2 : Int).toNat ((wrap64 (a1_2 + a1_3)) : Int).toNat))) = w27 at n0_ n1_ n2_ n3_ ⊢
                  have BK385 := n0_
                  have BK386 := n1_
                  have BK389 := n2_
                  have HB := n3_
                  clear n0_ n1_ n2_ n3_
                  replace BK385 := AM (blk_drew BK385.out)
                  replace BK386 := AM (blk_drew BK386.out)
                  replace BK389 := AM (blk_drew BK389.out)
                  replace HB := AM (below_drew1 HB.out)
                  refine start_ (n := 10) (S := fun w' => w'.cell? ⟨gb389, 0, none⟩ = some (.int .i64 a1_1) ∧ w'.cell? ⟨gb389, 1, none⟩ = some (.string (a0.extract (a1_2 : Int).toNat ((wrap64 (a1_2 + a1_3)) : Int).toNat)) ∧ w'.cell? ⟨gb385, 0, none⟩ = some (.string a1_0) ∧ w'.cell? ⟨gb385, 1, none⟩ = some (.int .i64 a1_1) ∧ w'.cell? ⟨gb385, 2, none⟩ = some (.int .i64 a1_2) ∧ w'.cell? ⟨gb385, 3, none⟩ = some (.int .i64 a1_3)) (ds := []) #[false, false, false, false, false, false, false, false, false, false] (by kernel_rfl) rfl rfl ⟨(blk_cell BK389.out 0).trans rfl, (blk_cell BK389.out 1).trans rfl, (blk_cell BK385.out 0).trans rfl, (blk_cell BK385.out 1).trans rfl, (blk_cell BK385.out 2).trans rfl, (blk_cell BK385.out 3).trans rfl⟩ (fun hHeld => ?_); refine with_tabW impl_packGet.tab4 impl_packGet.bits4 (fun HT_ HW_ => ?_)
                  generalize w27.drew = w28 at BK385 BK386 BK389 HB hHeld ⊢
                  refine ta_ HT_ HW_ 0 (some 38) #[true, false, false, false, false, false, false, false, false, false] hHeld ?_
                  refine on_ HT_ 1 (some 39) #[true, true, false, false, false, false, false, false, false, false] (fun K hK => ?_)
                  refine go1_ Tryd.func89 #[.agg #[.int .i64 a1_1, .string (a0.extract (a1_2 : Int).toNat ((wrap64 (a1_2 + a1_3)) : Int).toNat)]] ?_
                  with_reducible refine (impl_BlobRight.calls a1_1 (a0.extract (a1_2 : Int).toNat ((wrap64 (a1_2 + a1_3)) : Int).toNat) true _ A19.out).mono ?_
                  rintro e w29 ⟨rfl, hb⟩
                  refine ⟨_, rfl, ?_⟩
                  replace BK385 := AM (blk_below (g := gb385) (o := .cells #[.string a1_0, .int .i64 a1_1, .int .i64 a1_2, .int .i64 a1_3] 61 (0, 0)) (bk_ BK385.out) hb)
                  replace BK386 := AM (blk_below (g := gb386) (o := .cells #[.int .i64 0, .string (⟨#[]⟩ : ByteArray), .int .i64 0] 66 (0, 0)) (bk_ BK386.out) hb)
                  replace BK389 := AM (blk_below (g := gb389) (o := .cells #[.int .i64 a1_1, .string (a0.extract (a1_2 : Int).toNat ((wrap64 (a1_2 + a1_3)) : Int).toNat)] 64 (0, 0)) (bk_ BK389.out) hb)
                  replace HB := AM (below_step bel_ hb)
                  (try clear hb)
                  (try clear hb2)
                  (try clear hk)
                  (try clear hi)
                  refine hK.out _ _ ⟨(blk_cell BK389.out 0).trans rfl, (blk_cell BK389.out 1).trans rfl, (blk_cell BK385.out 0).trans rfl, (blk_cell BK385.out 1).trans rfl, (blk_cell BK385.out 2).trans rfl, (blk_cell BK385.out 3).trans rfl⟩ (fun hHeld => ?_)
                  clear hK K
                  refine nm_ ?_
                  refine pu_ HT_ 2 (some 40) #[true, true, true, false, false, false, false, false, false, false] ?_
                  refine pu_ HT_ 3 (some 41) #[true, true, true, true, false, false, false, false, false, false] ?_
                  refine pu_ HT_ 6 (some 44) #[true, true, true, true, false, false, true, false, false, false] ?_
                  refine ta_ HT_ HW_ 4 (some 42) #[true, true, true, true, true, false, true, false, false, false] hHeld ?_
                  refine ta_ HT_ HW_ 7 (some 45) #[true, true, true, true, true, false, true, true, false, false] hHeld ?_
                  refine on_ HT_ 5 (some 43) #[true, true, true, true, true, true, true, true, false, false] (fun K hK => ?_)
                  refine go1_ Tryd.func90 #[.agg #[.int .i64 a1_1, .string (a0.extract (a1_2 : Int).toNat ((wrap64 (a1_2 + a1_3)) : Int).toNat)]] ?_
                  with_reducible refine (impl_Blob_key.calls kj2 a1_1 (a0.extract (a1_2 : Int).toNat ((wrap64 (a1_2 + a1_3)) : Int).toNat) t391 _ A21.out).mono ?_
                  rintro e w30 ⟨rfl, hb⟩
                  refine ⟨_, rfl, ?_⟩
                  replace BK385 := AM (blk_below (g := gb385) (o := .cells #[.string a1_0, .int .i64 a1_1, .int .i64 a1_2, .int .i64 a1_3] 61 (0, 0)) (bk_ BK385.out) hb)
                  replace BK386 := AM (blk_below (g := gb386) (o := .cells #[.int .i64 0, .string (⟨#[]⟩ : ByteArray), .int .i64 0] 66 (0, 0)) (bk_ BK386.out) hb)
                  replace BK389 := AM (blk_below (g := gb389) (o := .cells #[.int .i64 a1_1, .string (a0.extract (a1_2 : Int).toNat ((wrap64 (a1_2 + a1_3)) : Int).toNat)] 64 (0, 0)) (bk_ BK389.out) hb)
                  replace HB := AM (below_step bel_ hb)
                  (try clear hb)
                  (try clear hb2)
                  (try clear hk)
                  (try clear hi)
                  refine hK.out _ _ ⟨(blk_cell BK389.out 0).trans rfl, (blk_cell BK389.out 1).trans rfl, (blk_cell BK385.out 0).trans rfl, (blk_cell BK385.out 1).trans rfl, (blk_cell BK385.out 2).trans rfl, (blk_cell BK385.out 3).trans rfl⟩ (fun hHeld => ?_)
                  clear hK K
                  refine nm_ ?_
                  refine pu_ HT_ 8 (some 46) #[true, true, true, true, true, true, true, true, true, false] ?_
                  refine pu_ HT_ 9 (some 47) #[true, true, true, true, true, true, true, true, true, true] ?_
                  refine dn_ HT_ ?_
                  have hnb31 := NB389_385.out
                  have hnc31 := NB385_389.out
                  have hnb32 := NB389_386.out
                  have hnc32 := NB386_389.out
                  have hcz33_0 : w30.cell? ⟨gb389, 0, none⟩ = some (.int .i64 a1_1) := (blk_cell BK389.out 0).trans rfl
                  have hcz33_1 : w30.cell? ⟨gb389, 1, none⟩ = some (.string (a0.extract (a1_2 : Int).toNat ((wrap64 (a1_2 + a1_3)) : Int).toNat)) := (blk_cell BK389.out 1).trans rfl
                  have hfz33_0 := blk_frozen BK389.out 0
                  have hfz33_1 := blk_frozen BK389.out 1
                  have hnb34 := NB386_385.out
                  have hnc34 := NB385_386.out
                  have hcz35_0 : w30.cell? ⟨gb386, 0, none⟩ = some (.int .i64 0) := (blk_cell BK386.out 0).trans rfl
                  have hcz35_1 : w30.cell? ⟨gb386, 1, none⟩ = some (.string (⟨#[]⟩ : ByteArray)) := (blk_cell BK386.out 1).trans rfl
                  have hcz35_2 : w30.cell? ⟨gb386, 2, none⟩ = some (.int .i64 0) := (blk_cell BK386.out 2).trans rfl
                  have hfz35_0 := blk_frozen BK386.out 0
                  have hfz35_1 := blk_frozen BK386.out 1
                  have hfz35_2 := blk_frozen BK386.out 2
                  try go_wp2
                  refine bodyPost_ret (results_cell_row rfl _ _ gb386 66 #[.int .i64 a1_1, .string (a0.extract (a1_2 : Int).toNat ((wrap64 (a1_2 + a1_3)) : Int).toNat), .int .i64 0] (0, 0) _ rfl bka_ Tryd.underlying66 rfl (by kernel_rfl)) rfl ?_
                  exact ⟨ri_, bel_⟩
                · rw [if_neg c22] at H
                  have c22b0 : (t391.toList == a1_0.toList) = false := beq_eq_false_iff_ne.mpr c22
                  have c22b1 : (t391.toList != a1_0.toList) = true := bne_iff_ne.mpr c22
                  simp only [Option.some.injEq, Prod.mk.injEq] at H
                  obtain ⟨rfl, rfl, rfl⟩ := H
                  try go_wp2
                  replace BK385 := AM (blk_drew BK385.out)
                  replace BK386 := AM (blk_drew BK386.out)
                  replace HB := AM (below_drew1 HB.out)
                  refine start_ (n := 14) (S := fun w' => w'.cell? ⟨gb385, 0, none⟩ = some (.string a1_0) ∧ w'.cell? ⟨gb385, 1, none⟩ = some (.int .i64 a1_1) ∧ w'.cell? ⟨gb385, 2, none⟩ = some (.int .i64 a1_2) ∧ w'.cell? ⟨gb385, 3, none⟩ = some (.int .i64 a1_3)) (ds := []) #[false, false, false, false, false, false, false, false, false, false, false, false, false, false] (by kernel_rfl) rfl rfl ⟨(blk_cell BK385.out 0).trans rfl, (blk_cell BK385.out 1).trans rfl, (blk_cell BK385.out 2).trans rfl, (blk_cell BK385.out 3).trans rfl⟩ (fun hHeld => ?_); refine with_tabW impl_packGet.tab3 impl_packGet.bits3 (fun HT_ HW_ => ?_)
                  generalize wc.drew = w36 at BK385 BK386 HB hHeld ⊢
                  refine pu_ HT_ 0 (some 26) #[true, false, false, false, false, false, false, false, false, false, false, false, false, false] ?_
                  refine pu_ HT_ 2 (some 28) #[true, false, true, false, false, false, false, false, false, false, false, false, false, false] ?_
                  refine pu_ HT_ 3 (some 29) #[true, false, true, true, false, false, false, false, false, false, false, false, false, false] ?_
                  refine pu_ HT_ 5 (some 31) #[true, false, true, true, false, true, false, false, false, false, false, false, false, false] ?_
                  refine pu_ HT_ 7 (some 33) #[true, false, true, true, false, true, false, true, false, false, false, false, false, false] ?_
                  refine ta_ HT_ HW_ 1 (some 27) #[true, true, true, true, false, true, false, true, false, false, false, false, false, false] hHeld ?_
                  refine ta_ HT_ HW_ 4 (some 30) #[true, true, true, true, true, true, false, true, false, false, false, false, false, false] hHeld ?_
                  refine ta_ HT_ HW_ 6 (some 32) #[true, true, true, true, true, true, true, true, false, false, false, false, false, false] hHeld ?_
                  refine ta_ HT_ HW_ 8 (some 34) #[true, true, true, true, true, true, true, true, true, false, false, false, false, false] hHeld ?_
                  refine pu_ HT_ 9 (some 35) #[true, true, true, true, true, true, true, true, true, true, false, false, false, false] ?_
                  refine pu_ HT_ 10 (some 36) #[true, true, true, true, true, true, true, true, true, true, true, false, false, false] ?_
                  refine pu_ HT_ 11 (some 37) #[true, true, true, true, true, true, true, true, true, true, true, true, false, false] ?_
                  refine on_ HT_ 12 (some 5) #[true, true, true, true, true, true, true, true, true, true, true, true, true, false] (fun K hK => ?_)
                  refine bs_ 5 #[.int .i64 0, .string (⟨#[]⟩ : ByteArray)] 64 ?_
                  intro gb389 hg w37 hbox hb
                  have BK389 := AM hbox
                  have GW389 := AM ((by rw [hg]; exact (below_size bel_) : w.heap.size ≤ gb389))
                  have GE389 := AM ((by rw [hg]; exact (below_size bel_) : w.heap.size ≤ gb389))
                  replace HB := AM (below_step bel_ hb)
                  have NB385_389 := AM ((by rw [hg]; exact Nat.ne_of_lt (blk_lt (g := gb385) (o := .cells #[.string a1_0, .int .i64 a1_1, .int .i64 a1_2, .int .i64 a1_3] 61 (0, 0)) (bk_ BK385.out)) : gb385 ≠ gb389))
                  have NB389_385 := AM ((by rw [hg]; exact Nat.ne_of_gt (blk_lt (g := gb385) (o := .cells #[.string a1_0, .int .i64 a1_1, .int .i64 a1_2, .int .i64 a1_3] 61 (0, 0)) (bk_ BK385.out)) : gb389 ≠ gb385))
                  replace BK385 := AM (blk_below (g := gb385) (o := .cells #[.string a1_0, .int .i64 a1_1, .int .i64 a1_2, .int .i64 a1_3] 61 (0, 0)) (bk_ BK385.out) hb)
                  have NB386_389 := AM ((by rw [hg]; exact Nat.ne_of_lt (blk_lt (g := gb386) (o := .cells #[.int .i64 0, .string (⟨#[]⟩ : ByteArray), .int .i64 0] 66 (0, 0)) (bk_ BK386.out)) : gb386 ≠ gb389))
                  have NB389_386 := AM ((by rw [hg]; exact Nat.ne_of_gt (blk_lt (g := gb386) (o := .cells #[.int .i64 0, .string (⟨#[]⟩ : ByteArray), .int .i64 0] 66 (0, 0)) (bk_ BK386.out)) : gb389 ≠ gb386))
                  replace BK386 := AM (blk_below (g := gb386) (o := .cells #[.int .i64 0, .string (⟨#[]⟩ : ByteArray), .int .i64 0] 66 (0, 0)) (bk_ BK386.out) hb)
                  clear hb hbox hg
                  refine hK.out _ _ ⟨(blk_cell BK385.out 0).trans rfl, (blk_cell BK385.out 1).trans rfl, (blk_cell BK385.out 2).trans rfl, (blk_cell BK385.out 3).trans rfl⟩ (fun hHeld => ?_)
                  clear hK K
                  refine nm_ ?_
                  refine on_ HT_ 13 none #[true, true, true, true, true, true, true, true, true, true, true, true, true, true] (fun K hK => ?_)
                  have hs38 : w37.cell? ⟨gb389, 0, none⟩ = some (.int .i64 0) := (blk_cell BK389.out 0).trans rfl
                  have hfs38 := blk_frozen BK389.out 0
                  have hns38_0 := NB385_389.out
                  have hns38_1 := NB386_389.out
                  have hms38_0 := NB389_385.out
                  have hms38_1 := NB389_386.out
                  have hs39 : w37.cell? ⟨gb389, 1, none⟩ = some (.string (⟨#[]⟩ : ByteArray)) := (blk_cell BK389.out 1).trans rfl
                  have hfs39 := blk_frozen BK389.out 1
                  have hns39_0 := NB385_389.out
                  have hns39_1 := NB386_389.out
                  have hms39_0 := NB389_385.out
                  have hms39_1 := NB389_386.out
                  refine sk_ ?_
                  refine hK.out _ _ ⟨(by (rw [cell_far, cell_far]) <;> first | exact hHeld.1 | exact NB385_389.out), (by (rw [cell_far, cell_far]) <;> first | exact hHeld.2.1 | exact NB385_389.out), (by (rw [cell_far, cell_far]) <;> first | exact hHeld.2.2.1 | exact NB385_389.out), (by (rw [cell_far, cell_far]) <;> first | exact hHeld.2.2.2 | exact NB385_389.out)⟩ (fun hHeld => ?_)
                  clear hK K
                  refine dn_ HT_ ?_
                  try go_wp2
                  have n0_ : Aside0 (((w37.setCell ⟨gb389, 0, none⟩ (.int .i64 a1_1)).setCell ⟨gb389, 1, none⟩ (.string (a0.extract (a1_2 : Int).toNat ((wrap64 (a1_2 + a1_3)) : Int).toNat))).heap[gb385]? = some (.cells #[.string a1_0, .int .i64 a1_1, .int .i64 a1_2, .int .i64 a1_3] 61 (0, 0))) := ⟨bka_⟩
                  have n1_ : Aside0 (((w37.setCell ⟨gb389, 0, none⟩ (.int .i64 a1_1)).setCell ⟨gb389, 1, none⟩ (.string (a0.extract (a1_2 : Int).toNat ((wrap64 (a1_2 + a1_3)) : Int).toNat))).heap[gb386]? = some (.cells #[.int .i64 0, .string (⟨#[]⟩ : ByteArray), .int .i64 0] 66 (0, 0))) := ⟨bka_⟩
                  have n2_ : Aside0 (((w37.setCell ⟨gb389, 0, none⟩ (.int .i64 a1_1)).setCell ⟨gb389, 1, none⟩ (.string (a0.extract (a1_2 : Int).toNat ((wrap64 (a1_2 + a1_3)) : Int).toNat))).heap[gb389]? = some (.cells #[.int .i64 a1_1, .string (a0.extract (a1_2 : Int).toNat ((wrap64 (a1_2 + a1_3)) : Int).toNat)] 64 (0, 0))) := ⟨bka_⟩
                  have n3_ : Aside0 (Below w.heap.size w ((w37.setCell ⟨gb389, 0, none⟩ (.int .i64 a1_1)).setCell ⟨gb389, 1, none⟩ (.string (a0.extract (a1_2 : Int).toNat ((wrap64 (a1_2 + a1_3)) : Int).toNat)))) := ⟨bel_⟩
                  (try clear BK385)
                  (try clear BK386)
                  (try clear BK389)
                  (try clear HB)
                  generalize ((w37.setCell ⟨gb389, 0, none⟩ (.int .i64 a1_1)).setCell ⟨gb389, 1, none⟩ (.string (a0.extract (a1_2 : Int).toNat ((wrap64 (a1_2 + a1_3)) : Int).toNat))) = w40 at n0_ n1_ n2_ n3_ ⊢
                  have BK385 := n0_
                  have BK386 := n1_
                  have BK389 := n2_
                  have HB := n3_
                  clear n0_ n1_ n2_ n3_
                  replace BK385 := AM (blk_drew BK385.out)
                  replace BK386 := AM (blk_drew BK386.out)
                  replace BK389 := AM (blk_drew BK389.out)
                  replace HB := AM (below_drew1 HB.out)
                  refine start_ (n := 10) (S := fun w' => w'.cell? ⟨gb389, 0, none⟩ = some (.int .i64 a1_1) ∧ w'.cell? ⟨gb389, 1, none⟩ = some (.string (a0.extract (a1_2 : Int).toNat ((wrap64 (a1_2 + a1_3)) : Int).toNat)) ∧ w'.cell? ⟨gb385, 0, none⟩ = some (.string a1_0) ∧ w'.cell? ⟨gb385, 1, none⟩ = some (.int .i64 a1_1) ∧ w'.cell? ⟨gb385, 2, none⟩ = some (.int .i64 a1_2) ∧ w'.cell? ⟨gb385, 3, none⟩ = some (.int .i64 a1_3)) (ds := []) #[false, false, false, false, false, false, false, false, false, false] (by kernel_rfl) rfl rfl ⟨(blk_cell BK389.out 0).trans rfl, (blk_cell BK389.out 1).trans rfl, (blk_cell BK385.out 0).trans rfl, (blk_cell BK385.out 1).trans rfl, (blk_cell BK385.out 2).trans rfl, (blk_cell BK385.out 3).trans rfl⟩ (fun hHeld => ?_); refine with_tabW impl_packGet.tab4 impl_packGet.bits4 (fun HT_ HW_ => ?_)
                  generalize w40.drew = w41 at BK385 BK386 BK389 HB hHeld ⊢
                  refine ta_ HT_ HW_ 0 (some 38) #[true, false, false, false, false, false, false, false, false, false] hHeld ?_
                  refine on_ HT_ 1 (some 39) #[true, true, false, false, false, false, false, false, false, false] (fun K hK => ?_)
                  refine go1_ Tryd.func89 #[.agg #[.int .i64 a1_1, .string (a0.extract (a1_2 : Int).toNat ((wrap64 (a1_2 + a1_3)) : Int).toNat)]] ?_
                  with_reducible refine (impl_BlobRight.calls a1_1 (a0.extract (a1_2 : Int).toNat ((wrap64 (a1_2 + a1_3)) : Int).toNat) true _ A19.out).mono ?_
                  rintro e w42 ⟨rfl, hb⟩
                  refine ⟨_, rfl, ?_⟩
                  replace BK385 := AM (blk_below (g := gb385) (o := .cells #[.string a1_0, .int .i64 a1_1, .int .i64 a1_2, .int .i64 a1_3] 61 (0, 0)) (bk_ BK385.out) hb)
                  replace BK386 := AM (blk_below (g := gb386) (o := .cells #[.int .i64 0, .string (⟨#[]⟩ : ByteArray), .int .i64 0] 66 (0, 0)) (bk_ BK386.out) hb)
                  replace BK389 := AM (blk_below (g := gb389) (o := .cells #[.int .i64 a1_1, .string (a0.extract (a1_2 : Int).toNat ((wrap64 (a1_2 + a1_3)) : Int).toNat)] 64 (0, 0)) (bk_ BK389.out) hb)
                  replace HB := AM (below_step bel_ hb)
                  (try clear hb)
                  (try clear hb2)
                  (try clear hk)
                  (try clear hi)
                  refine hK.out _ _ ⟨(blk_cell BK389.out 0).trans rfl, (blk_cell BK389.out 1).trans rfl, (blk_cell BK385.out 0).trans rfl, (blk_cell BK385.out 1).trans rfl, (blk_cell BK385.out 2).trans rfl, (blk_cell BK385.out 3).trans rfl⟩ (fun hHeld => ?_)
                  clear hK K
                  refine nm_ ?_
                  refine pu_ HT_ 2 (some 40) #[true, true, true, false, false, false, false, false, false, false] ?_
                  refine pu_ HT_ 3 (some 41) #[true, true, true, true, false, false, false, false, false, false] ?_
                  refine pu_ HT_ 6 (some 44) #[true, true, true, true, false, false, true, false, false, false] ?_
                  refine ta_ HT_ HW_ 4 (some 42) #[true, true, true, true, true, false, true, false, false, false] hHeld ?_
                  refine ta_ HT_ HW_ 7 (some 45) #[true, true, true, true, true, false, true, true, false, false] hHeld ?_
                  refine on_ HT_ 5 (some 43) #[true, true, true, true, true, true, true, true, false, false] (fun K hK => ?_)
                  refine go1_ Tryd.func90 #[.agg #[.int .i64 a1_1, .string (a0.extract (a1_2 : Int).toNat ((wrap64 (a1_2 + a1_3)) : Int).toNat)]] ?_
                  with_reducible refine (impl_Blob_key.calls kj2 a1_1 (a0.extract (a1_2 : Int).toNat ((wrap64 (a1_2 + a1_3)) : Int).toNat) t391 _ A21.out).mono ?_
                  rintro e w43 ⟨rfl, hb⟩
                  refine ⟨_, rfl, ?_⟩
                  replace BK385 := AM (blk_below (g := gb385) (o := .cells #[.string a1_0, .int .i64 a1_1, .int .i64 a1_2, .int .i64 a1_3] 61 (0, 0)) (bk_ BK385.out) hb)
                  replace BK386 := AM (blk_below (g := gb386) (o := .cells #[.int .i64 0, .string (⟨#[]⟩ : ByteArray), .int .i64 0] 66 (0, 0)) (bk_ BK386.out) hb)
                  replace BK389 := AM (blk_below (g := gb389) (o := .cells #[.int .i64 a1_1, .string (a0.extract (a1_2 : Int).toNat ((wrap64 (a1_2 + a1_3)) : Int).toNat)] 64 (0, 0)) (bk_ BK389.out) hb)
                  replace HB := AM (below_step bel_ hb)
                  (try clear hb)
                  (try clear hb2)
                  (try clear hk)
                  (try clear hi)
                  refine hK.out _ _ ⟨(blk_cell BK389.out 0).trans rfl, (blk_cell BK389.out 1).trans rfl, (blk_cell BK385.out 0).trans rfl, (blk_cell BK385.out 1).trans rfl, (blk_cell BK385.out 2).trans rfl, (blk_cell BK385.out 3).trans rfl⟩ (fun hHeld => ?_)
                  clear hK K
                  refine nm_ ?_
                  refine pu_ HT_ 8 (some 46) #[true, true, true, true, true, true, true, true, true, false] ?_
                  refine pu_ HT_ 9 (some 47) #[true, true, true, true, true, true, true, true, true, true] ?_
                  refine dn_ HT_ ?_
                  have hnb44 := NB386_385.out
                  have hnc44 := NB385_386.out
                  have hnb45 := NB386_389.out
                  have hnc45 := NB389_386.out
                  have hcz46_0 : w43.cell? ⟨gb386, 0, none⟩ = some (.int .i64 0) := (blk_cell BK386.out 0).trans rfl
                  have hcz46_1 : w43.cell? ⟨gb386, 1, none⟩ = some (.string (⟨#[]⟩ : ByteArray)) := (blk_cell BK386.out 1).trans rfl
                  have hcz46_2 : w43.cell? ⟨gb386, 2, none⟩ = some (.int .i64 0) := (blk_cell BK386.out 2).trans rfl
                  have hfz46_0 := blk_frozen BK386.out 0
                  have hfz46_1 := blk_frozen BK386.out 1
                  have hfz46_2 := blk_frozen BK386.out 2
                  try go_wp2
                  refine bodyPost_ret (results_cell_row rfl _ _ gb386 66 #[.int .i64 0, .string (⟨#[]⟩ : ByteArray), .int .i64 5] (0, 0) _ rfl bka_ Tryd.underlying66 rfl (by kernel_rfl)) rfl ?_
                  exact ⟨ri_, bel_⟩
              · replace c20 := Bool.eq_false_iff.mpr c20
                subst c20
                rw [if_neg (show ¬ (false = true) by decide)] at H
                simp only [Option.some.injEq, Prod.mk.injEq] at H
                obtain ⟨rfl, rfl, rfl⟩ := H
                try go_wp2
                replace BK385 := AM (blk_drew BK385.out)
                replace BK386 := AM (blk_drew BK386.out)
                replace HB := AM (below_drew1 HB.out)
                refine start_ (n := 14) (S := fun w' => w'.cell? ⟨gb385, 0, none⟩ = some (.string a1_0) ∧ w'.cell? ⟨gb385, 1, none⟩ = some (.int .i64 a1_1) ∧ w'.cell? ⟨gb385, 2, none⟩ = some (.int .i64 a1_2) ∧ w'.cell? ⟨gb385, 3, none⟩ = some (.int .i64 a1_3)) (ds := []) #[false, false, false, false, false, false, false, false, false, false, false, false, false, false] (by kernel_rfl) rfl rfl ⟨(blk_cell BK385.out 0).trans rfl, (blk_cell BK385.out 1).trans rfl, (blk_cell BK385.out 2).trans rfl, (blk_cell BK385.out 3).trans rfl⟩ (fun hHeld => ?_); refine with_tabW impl_packGet.tab3 impl_packGet.bits3 (fun HT_ HW_ => ?_)
                generalize wc.drew = w47 at BK385 BK386 HB hHeld ⊢
                refine pu_ HT_ 0 (some 26) #[true, false, false, false, false, false, false, false, false, false, false, false, false, false] ?_
                refine pu_ HT_ 2 (some 28) #[true, false, true, false, false, false, false, false, false, false, false, false, false, false] ?_
                refine pu_ HT_ 3 (some 29) #[true, false, true, true, false, false, false, false, false, false, false, false, false, false] ?_
                refine pu_ HT_ 5 (some 31) #[true, false, true, true, false, true, false, false, false, false, false, false, false, false] ?_
                refine pu_ HT_ 7 (some 33) #[true, false, true, true, false, true, false, true, false, false, false, false, false, false] ?_
                refine ta_ HT_ HW_ 1 (some 27) #[true, true, true, true, false, true, false, true, false, false, false, false, false, false] hHeld ?_
                refine ta_ HT_ HW_ 4 (some 30) #[true, true, true, true, true, true, false, true, false, false, false, false, false, false] hHeld ?_
                refine ta_ HT_ HW_ 6 (some 32) #[true, true, true, true, true, true, true, true, false, false, false, false, false, false] hHeld ?_
                refine ta_ HT_ HW_ 8 (some 34) #[true, true, true, true, true, true, true, true, true, false, false, false, false, false] hHeld ?_
                refine pu_ HT_ 9 (some 35) #[true, true, true, true, true, true, true, true, true, true, false, false, false, false] ?_
                refine pu_ HT_ 10 (some 36) #[true, true, true, true, true, true, true, true, true, true, true, false, false, false] ?_
                refine pu_ HT_ 11 (some 37) #[true, true, true, true, true, true, true, true, true, true, true, true, false, false] ?_
                refine on_ HT_ 12 (some 5) #[true, true, true, true, true, true, true, true, true, true, true, true, true, false] (fun K hK => ?_)
                refine bs_ 5 #[.int .i64 0, .string (⟨#[]⟩ : ByteArray)] 64 ?_
                intro gb389 hg w48 hbox hb
                have BK389 := AM hbox
                have GW389 := AM ((by rw [hg]; exact (below_size bel_) : w.heap.size ≤ gb389))
                have GE389 := AM ((by rw [hg]; exact (below_size bel_) : w.heap.size ≤ gb389))
                replace HB := AM (below_step bel_ hb)
                have NB385_389 := AM ((by rw [hg]; exact Nat.ne_of_lt (blk_lt (g := gb385) (o := .cells #[.string a1_0, .int .i64 a1_1, .int .i64 a1_2, .int .i64 a1_3] 61 (0, 0)) (bk_ BK385.out)) : gb385 ≠ gb389))
                have NB389_385 := AM ((by rw [hg]; exact Nat.ne_of_gt (blk_lt (g := gb385) (o := .cells #[.string a1_0, .int .i64 a1_1, .int .i64 a1_2, .int .i64 a1_3] 61 (0, 0)) (bk_ BK385.out)) : gb389 ≠ gb385))
                replace BK385 := AM (blk_below (g := gb385) (o := .cells #[.string a1_0, .int .i64 a1_1, .int .i64 a1_2, .int .i64 a1_3] 61 (0, 0)) (bk_ BK385.out) hb)
                have NB386_389 := AM ((by rw [hg]; exact Nat.ne_of_lt (blk_lt (g := gb386) (o := .cells #[.int .i64 0, .string (⟨#[]⟩ : ByteArray), .int .i64 0] 66 (0, 0)) (bk_ BK386.out)) : gb386 ≠ gb389))
                have NB389_386 := AM ((by rw [hg]; exact Nat.ne_of_gt (blk_lt (g := gb386) (o := .cells #[.int .i64 0, .string (⟨#[]⟩ : ByteArray), .int .i64 0] 66 (0, 0)) (bk_ BK386.out)) : gb389 ≠ gb386))
                replace BK386 := AM (blk_below (g := gb386) (o := .cells #[.int .i64 0, .string (⟨#[]⟩ : ByteArray), .int .i64 0] 66 (0, 0)) (bk_ BK386.out) hb)
                clear hb hbox hg
                refine hK.out _ _ ⟨(blk_cell BK385.out 0).trans rfl, (blk_cell BK385.out 1).trans rfl, (blk_cell BK385.out 2).trans rfl, (blk_cell BK385.out 3).trans rfl⟩ (fun hHeld => ?_)
                clear hK K
                refine nm_ ?_
                refine on_ HT_ 13 none #[true, true, true, true, true, true, true, true, true, true, true, true, true, true] (fun K hK => ?_)
                have hs49 : w48.cell? ⟨gb389, 0, none⟩ = some (.int .i64 0) := (blk_cell BK389.out 0).trans rfl
                have hfs49 := blk_frozen BK389.out 0
                have hns49_0 := NB385_389.out
                have hns49_1 := NB386_389.out
                have hms49_0 := NB389_385.out
                have hms49_1 := NB389_386.out
                have hs50 : w48.cell? ⟨gb389, 1, none⟩ = some (.string (⟨#[]⟩ : ByteArray)) := (blk_cell BK389.out 1).trans rfl
                have hfs50 := blk_frozen BK389.out 1
                have hns50_0 := NB385_389.out
                have hns50_1 := NB386_389.out
                have hms50_0 := NB389_385.out
                have hms50_1 := NB389_386.out
                refine sk_ ?_
                refine hK.out _ _ ⟨(by (rw [cell_far, cell_far]) <;> first | exact hHeld.1 | exact NB385_389.out), (by (rw [cell_far, cell_far]) <;> first | exact hHeld.2.1 | exact NB385_389.out), (by (rw [cell_far, cell_far]) <;> first | exact hHeld.2.2.1 | exact NB385_389.out), (by (rw [cell_far, cell_far]) <;> first | exact hHeld.2.2.2 | exact NB385_389.out)⟩ (fun hHeld => ?_)
                clear hK K
                refine dn_ HT_ ?_
                try go_wp2
                have n0_ : Aside0 (((w48.setCell ⟨gb389, 0, none⟩ (.int .i64 a1_1)).setCell ⟨gb389, 1, none⟩ (.string (a0.extract (a1_2 : Int).toNat ((wrap64 (a1_2 + a1_3)) : Int).toNat))).heap[gb385]? = some (.cells #[.string a1_0, .int .i64 a1_1, .int .i64 a1_2, .int .i64 a1_3] 61 (0, 0))) := ⟨bka_⟩
                have n1_ : Aside0 (((w48.setCell ⟨gb389, 0, none⟩ (.int .i64 a1_1)).setCell ⟨gb389, 1, none⟩ (.string (a0.extract (a1_2 : Int).toNat ((wrap64 (a1_2 + a1_3)) : Int).toNat))).heap[gb386]? = some (.cells #[.int .i64 0, .string (⟨#[]⟩ : ByteArray), .int .i64 0] 66 (0, 0))) := ⟨bka_⟩
                have n2_ : Aside0 (((w48.setCell ⟨gb389, 0, none⟩ (.int .i64 a1_1)).setCell ⟨gb389, 1, none⟩ (.string (a0.extract (a1_2 : Int).toNat ((wrap64 (a1_2 + a1_3)) : Int).toNat))).heap[gb389]? = some (.cells #[.int .i64 a1_1, .string (a0.extract (a1_2 : Int).toNat ((wrap64 (a1_2 + a1_3)) : Int).toNat)] 64 (0, 0))) := ⟨bka_⟩
                have n3_ : Aside0 (Below w.heap.size w ((w48.setCell ⟨gb389, 0, none⟩ (.int .i64 a1_1)).setCell ⟨gb389, 1, none⟩ (.string (a0.extract (a1_2 : Int).toNat ((wrap64 (a1_2 + a1_3)) : Int).toNat)))) := ⟨bel_⟩
                (try clear BK385)
                (try clear BK386)
                (try clear BK389)
                (try clear HB)
                generalize ((w48.setCell ⟨gb389, 0, none⟩ (.int .i64 a1_1)).setCell ⟨gb389, 1, none⟩ (.string (a0.extract (a1_2 : Int).toNat ((wrap64 (a1_2 + a1_3)) : Int).toNat))) = w51 at n0_ n1_ n2_ n3_ ⊢
                have BK385 := n0_
                have BK386 := n1_
                have BK389 := n2_
                have HB := n3_
                clear n0_ n1_ n2_ n3_
                replace BK385 := AM (blk_drew BK385.out)
                replace BK386 := AM (blk_drew BK386.out)
                replace BK389 := AM (blk_drew BK389.out)
                replace HB := AM (below_drew1 HB.out)
                refine start_ (n := 10) (S := fun w' => w'.cell? ⟨gb389, 0, none⟩ = some (.int .i64 a1_1) ∧ w'.cell? ⟨gb389, 1, none⟩ = some (.string (a0.extract (a1_2 : Int).toNat ((wrap64 (a1_2 + a1_3)) : Int).toNat))) (ds := []) #[false, false, false, false, false, false, false, false, false, false] (by kernel_rfl) rfl rfl ⟨(blk_cell BK389.out 0).trans rfl, (blk_cell BK389.out 1).trans rfl⟩ (fun hHeld => ?_); refine with_tabW impl_packGet.tab4 impl_packGet.bits4 (fun HT_ HW_ => ?_)
                generalize w51.drew = w52 at BK385 BK386 BK389 HB hHeld ⊢
                refine ta_ HT_ HW_ 0 (some 38) #[true, false, false, false, false, false, false, false, false, false] hHeld ?_
                refine on_ HT_ 1 (some 39) #[true, true, false, false, false, false, false, false, false, false] (fun K hK => ?_)
                refine go1_ Tryd.func89 #[.agg #[.int .i64 a1_1, .string (a0.extract (a1_2 : Int).toNat ((wrap64 (a1_2 + a1_3)) : Int).toNat)]] ?_
                with_reducible refine (impl_BlobRight.calls a1_1 (a0.extract (a1_2 : Int).toNat ((wrap64 (a1_2 + a1_3)) : Int).toNat) false _ A19.out).mono ?_
                rintro e w53 ⟨rfl, hb⟩
                refine ⟨_, rfl, ?_⟩
                replace BK385 := AM (blk_below (g := gb385) (o := .cells #[.string a1_0, .int .i64 a1_1, .int .i64 a1_2, .int .i64 a1_3] 61 (0, 0)) (bk_ BK385.out) hb)
                replace BK386 := AM (blk_below (g := gb386) (o := .cells #[.int .i64 0, .string (⟨#[]⟩ : ByteArray), .int .i64 0] 66 (0, 0)) (bk_ BK386.out) hb)
                replace BK389 := AM (blk_below (g := gb389) (o := .cells #[.int .i64 a1_1, .string (a0.extract (a1_2 : Int).toNat ((wrap64 (a1_2 + a1_3)) : Int).toNat)] 64 (0, 0)) (bk_ BK389.out) hb)
                replace HB := AM (below_step bel_ hb)
                (try clear hb)
                (try clear hb2)
                (try clear hk)
                (try clear hi)
                refine hK.out _ _ ⟨(blk_cell BK389.out 0).trans rfl, (blk_cell BK389.out 1).trans rfl⟩ (fun hHeld => ?_)
                clear hK K
                refine nm_ ?_
                refine pu_ HT_ 2 (some 40) #[true, true, true, false, false, false, false, false, false, false] ?_
                refine pu_ HT_ 3 (some 41) #[true, true, true, true, false, false, false, false, false, false] ?_
                refine pu_ HT_ 4 (some 42) #[true, true, true, true, true, false, false, false, false, false] ?_
                refine pu_ HT_ 5 (some 43) #[true, true, true, true, true, true, false, false, false, false] ?_
                refine pu_ HT_ 6 (some 44) #[true, true, true, true, true, true, true, false, false, false] ?_
                refine pu_ HT_ 7 (some 45) #[true, true, true, true, true, true, true, true, false, false] ?_
                refine pu_ HT_ 8 (some 46) #[true, true, true, true, true, true, true, true, true, false] ?_
                refine pu_ HT_ 9 (some 47) #[true, true, true, true, true, true, true, true, true, true] ?_
                refine dn_ HT_ ?_
                have hnb54 := NB386_385.out
                have hnc54 := NB385_386.out
                have hnb55 := NB386_389.out
                have hnc55 := NB389_386.out
                have hcz56_0 : w53.cell? ⟨gb386, 0, none⟩ = some (.int .i64 0) := (blk_cell BK386.out 0).trans rfl
                have hcz56_1 : w53.cell? ⟨gb386, 1, none⟩ = some (.string (⟨#[]⟩ : ByteArray)) := (blk_cell BK386.out 1).trans rfl
                have hcz56_2 : w53.cell? ⟨gb386, 2, none⟩ = some (.int .i64 0) := (blk_cell BK386.out 2).trans rfl
                have hfz56_0 := blk_frozen BK386.out 0
                have hfz56_1 := blk_frozen BK386.out 1
                have hfz56_2 := blk_frozen BK386.out 2
                try go_wp2
                refine bodyPost_ret (results_cell_row rfl _ _ gb386 66 #[.int .i64 0, .string (⟨#[]⟩ : ByteArray), .int .i64 5] (0, 0) _ rfl bka_ Tryd.underlying66 rfl (by kernel_rfl)) rfl ?_
                exact ⟨ri_, bel_⟩
            · rw [if_neg c18] at H
              exact absurd H (by simp)
          · rw [if_neg c17] at H
            exact absurd H (by simp)
        · rw [if_neg c16] at H
          exact absurd H (by simp)

end Go.Proofs.YtddapeieolfolaaDoor.PFnScan
