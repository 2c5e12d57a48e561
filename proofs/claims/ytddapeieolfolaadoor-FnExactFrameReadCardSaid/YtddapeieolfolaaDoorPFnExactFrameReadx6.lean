/- Functions of the law FnExactFrameRead: the print's, with walks of this session's own. No statement is proved here. -/
import Derived.WalkLawsBesides
import Derived.Test.YtddapeieolfolaaDoorVRegFnExactFrameRead
-- A program of this session wrote this text: a changed copy of the kit print, with given functions.
import Derived.Test.YtddapeieolfolaaDoorPFnExactFrameReadx0
import Derived.Test.YtddapeieolfolaaDoorPFnExactFrameReadx2
import Derived.Test.YtddapeieolfolaaDoorPFnExactFrameReadx4
import Derived.Test.YtddapeieolfolaaDoorPFnExactFrameReadx5
namespace Go.Proofs.YtddapeieolfolaaDoor.PFnExactFrameRead
open Go.RowKit Go.Proofs.YtddapeieolfolaaDoorW.PrintWords Go.Proofs.YtddapeieolfolaaDoorW.PrintLast Go.Proofs.YtddapeieolfolaaDoorW.PrintMore Go.Proofs.YtddapeieolfolaaDoor.Reg Go.Proofs.YtddapeieolfolaaDoor.Aut
attribute [local go_sem] max2_int min2_int max_two min_two max_three min_three max_four min_four   -- for this text's walks alone
set_option linter.unusedVariables false
set_option linter.unusedSimpArgs false

/-! ### spec_l09Frame: function 80 -/
mutual
def spec_l09Frame.j0 : Nat → ByteArray → Bool → Int → Int → Int → Int → ByteArray → ByteArray → Option (Int × Int × Int × Int × ByteArray × ByteArray × Bool)
  | 0, _, _, _, _, _, _, _, _ => none
  | k + 1, x0, x17, x173000, x173001, x173002, x173003, x173004, x173005 => if x17 = true then (some (x173000, x173001, x173002, x173003, x173004, x173005, false)) else (spec_l09Frame.l0 k x0 (([] : List Int)) 1 0 x173000 x173001 x173002 x173003 x173004 x173005)
def spec_l09Frame.l0 : Nat → ByteArray → List Int → Int → Int → Int → Int → Int → Int → ByteArray → ByteArray → Option (Int × Int × Int × Int × ByteArray × ByteArray × Bool)
  | 0, _, _, _, _, _, _, _, _, _, _ => none
  | k + 1, x0, x5, x6, x7, x173000, x173001, x173002, x173003, x173004, x173005 => if x7 < 4 then ((spec_GetNum.f k x0 x6).bind fun bt176 => (if bt176.2.2 = 0 then (if x5.length < 17592186044416 then (spec_l09Frame.l0 k x0 (x5 ++ [bt176.1]) bt176.2.1 (wrap64 (x7 + 1)) x173000 x173001 x173002 x173003 x173004 x173005) else (none)) else (some (x173000, x173001, x173002, x173003, x173004, x173005, false)))) else (if (wrap64 (x6 + 64)) > (x0.size : Int) then (some (x173000, x173001, x173002, x173003, x173004, x173005, false)) else (if 0 < (x5.length : Int) then (if 1 < (x5.length : Int) then (if 2 < (x5.length : Int) then (if 3 < (x5.length : Int) then (if 0 ≤ x6 then (if x6 ≤ (wrap64 (x6 + 32)) then (if (wrap64 (x6 + 32)) ≤ (x0.size : Int) then (if 0 ≤ (wrap64 (x6 + 64)) then (if (wrap64 (x6 + 64)) ≤ (x0.size : Int) then ((spec_FrameRight.f (rd x5 0) (rd x5 1) (rd x5 2) (rd x5 3) (x0.extract (x6 : Int).toNat ((wrap64 (x6 + 32)) : Int).toNat) (x0.extract ((wrap64 (x6 + 64)) : Int).toNat x0.size)).bind fun t187 => (if t187 = true then (if 0 ≤ (wrap64 (x6 + 32)) then ((spec_l09Digest.f k (x0.extract 0 ((wrap64 (x6 + 32)) : Int).toNat) (x0.extract ((wrap64 (x6 + 64)) : Int).toNat x0.size)).bind fun t188 => (if (wrap64 (x6 + 32)) ≤ (wrap64 (x6 + 64)) then (some (rd x5 0, rd x5 1, rd x5 2, rd x5 3, x0.extract (x6 : Int).toNat ((wrap64 (x6 + 32)) : Int).toNat, x0.extract ((wrap64 (x6 + 64)) : Int).toNat x0.size, (t188.toList == (x0.extract ((wrap64 (x6 + 32)) : Int).toNat ((wrap64 (x6 + 64)) : Int).toNat).toList))) else (none))) else (none)) else (some (rd x5 0, rd x5 1, rd x5 2, rd x5 3, x0.extract (x6 : Int).toNat ((wrap64 (x6 + 32)) : Int).toNat, x0.extract ((wrap64 (x6 + 64)) : Int).toNat x0.size, false)))) else (none)) else (none)) else (none)) else (none)) else (none)) else (none)) else (none)) else (none)) else (none)))
end
def spec_l09Frame.f (k : Nat) (a0 : ByteArray) : Option (Int × Int × Int × Int × ByteArray × ByteArray × Bool) := if (a0.size : Int) < 1 then (spec_l09Frame.j0 k a0 true 0 0 0 0 (⟨#[]⟩ : ByteArray) (⟨#[]⟩ : ByteArray)) else (if 0 < (a0.size : Int) then (spec_l09Frame.j0 k a0 ((bt a0 0) != 70) 0 0 0 0 (⟨#[]⟩ : ByteArray) (⟨#[]⟩ : ByteArray)) else (none))
theorem spec_l09Frame.mono_l : ∀ k, (∀ y0 y1 y2 y3 y4 y5 y6 y7, LeO (spec_l09Frame.j0 k y0 y1 y2 y3 y4 y5 y6 y7) (spec_l09Frame.j0 (k + 1) y0 y1 y2 y3 y4 y5 y6 y7)) ∧ (∀ y0 y1 y2 y3 y4 y5 y6 y7 y8 y9, LeO (spec_l09Frame.l0 k y0 y1 y2 y3 y4 y5 y6 y7 y8 y9) (spec_l09Frame.l0 (k + 1) y0 y1 y2 y3 y4 y5 y6 y7 y8 y9))
  | 0 => ⟨fun _ _ _ _ _ _ _ _ r h => by simp [spec_l09Frame.j0] at h, fun _ _ _ _ _ _ _ _ _ _ r h => by simp [spec_l09Frame.l0] at h⟩
  | k + 1 => by
    obtain ⟨ih0, ih1⟩ := spec_l09Frame.mono_l k
    refine ⟨?_, ?_⟩
    · intro y0 y1 y2 y3 y4 y5 y6 y7
      unfold spec_l09Frame.j0
      repeat' first
      | (with_reducible exact ih0 _ _ _ _ _ _ _ _)
      | (with_reducible exact ih1 _ _ _ _ _ _ _ _ _ _)
      | (with_reducible exact spec_GetNum.mono _ _ _)
      | (with_reducible exact spec_l09Digest.mono _ _ _)
      | (with_reducible exact LeO.refl _)
      | (with_reducible exact LeO.none _)
      | (with_reducible refine LeO.ite ?_ ?_)
      | (with_reducible refine LeO.bind ?_ (fun _ => ?_))
      | exact ih0 _ _ _ _ _ _ _ _
      | exact ih1 _ _ _ _ _ _ _ _ _ _
      | exact spec_GetNum.mono _ _ _
      | exact spec_l09Digest.mono _ _ _
      | exact LeO.none _
      | refine LeO.ite ?_ ?_
      | refine LeO.bind ?_ (fun _ => ?_)
    · intro y0 y1 y2 y3 y4 y5 y6 y7 y8 y9
      unfold spec_l09Frame.l0
      repeat' first
      | (with_reducible exact ih0 _ _ _ _ _ _ _ _)
      | (with_reducible exact ih1 _ _ _ _ _ _ _ _ _ _)
      | (with_reducible exact spec_GetNum.mono _ _ _)
      | (with_reducible exact spec_l09Digest.mono _ _ _)
      | (with_reducible exact LeO.refl _)
      | (with_reducible exact LeO.none _)
      | (with_reducible refine LeO.ite ?_ ?_)
      | (with_reducible refine LeO.bind ?_ (fun _ => ?_))
      | exact ih0 _ _ _ _ _ _ _ _
      | exact ih1 _ _ _ _ _ _ _ _ _ _
      | exact spec_GetNum.mono _ _ _
      | exact spec_l09Digest.mono _ _ _
      | exact LeO.none _
      | refine LeO.ite ?_ ?_
      | refine LeO.bind ?_ (fun _ => ?_)
theorem spec_l09Frame.mono : ∀ a0 k, LeO (spec_l09Frame.f k a0) (spec_l09Frame.f (k + 1) a0) := by
  intro a0 k
  obtain ⟨ih0, ih1⟩ := spec_l09Frame.mono_l k
  unfold spec_l09Frame.f
  repeat' first
      | (with_reducible exact ih0 _ _ _ _ _ _ _ _)
      | (with_reducible exact ih1 _ _ _ _ _ _ _ _ _ _)
      | (with_reducible exact spec_GetNum.mono _ _ _)
      | (with_reducible exact spec_l09Digest.mono _ _ _)
      | (with_reducible exact LeO.refl _)
      | (with_reducible exact LeO.none _)
      | (with_reducible refine LeO.ite ?_ ?_)
      | (with_reducible refine LeO.bind ?_ (fun _ => ?_))
      | exact ih0 _ _ _ _ _ _ _ _
      | exact ih1 _ _ _ _ _ _ _ _ _ _
      | exact spec_GetNum.mono _ _ _
      | exact spec_l09Digest.mono _ _ _
      | exact LeO.none _
      | refine LeO.ite ?_ ?_
      | refine LeO.bind ?_ (fun _ => ?_)
def spec_l09Frame.T16 : Bool × List (List Nat × List Nat) := (true, [([], []), ([0], [0]), ([1], [1]), ([], []), ([3], [3]), ([4], [4]), ([], []), ([6], [6]), ([7], [7]), ([], []), ([9], [9]), ([10], [10]), ([], []), ([], []), ([], []), ([14], [14]), ([12, 13, 15], [12, 13, 15]), ([], []), ([], []), ([18], [18]), ([17, 19], [17, 19]), ([2, 5, 8, 11, 16, 20], [2, 5, 8, 11, 16, 20]), ([21, 0, 1, 2, 3, 4, 5, 6, 7, 8, 9, 10, 11, 12, 13, 14, 15, 16, 17, 18, 19, 20, 21], [21])])
def spec_l09Frame.B16 : List Nat := [0, 1, 3, 0, 8, 24, 0, 64, 192, 0, 512, 1536, 0, 0, 0, 16384, 61440, 0, 0, 262144, 917504, 2097151, 4194303]
theorem spec_l09Frame.tab16 : rtab .any (opsOf Tryd.f80 16) = spec_l09Frame.T16 := by kernel_rfl
theorem spec_l09Frame.bits16 : waitsOk spec_l09Frame.T16.2 spec_l09Frame.B16 = true := by kernel_rfl
def spec_l09Frame.T17 : Bool × List (List Nat × List Nat) := (true, [([], []), ([], []), ([1], [1]), ([2, 2], [2]), ([3], [3]), ([3], [3]), ([5, 3], [3, 5]), ([4, 6, 3], [3, 4, 6]), ([3], [3]), ([8, 3], [3, 8]), ([7, 9, 3, 3], [3, 7, 9]), ([3], [3]), ([3], [3]), ([12, 3], [3, 12]), ([3], [3]), ([14, 3], [3, 14]), ([11, 13, 15, 3], [3, 11, 13, 15]), ([10, 16, 3], [3, 10, 16]), ([3, 17], [3, 17]), ([0, 10, 0], [0]), ([18, 19, 0, 1, 2, 3, 4, 5, 6, 7, 8, 9, 10, 11, 12, 13, 14, 15, 16, 17, 18, 19], [18])])
def spec_l09Frame.B17 : List Nat := [0, 0, 2, 6, 14, 14, 46, 126, 14, 270, 1022, 14, 14, 4110, 14, 16398, 63502, 131070, 262142, 2047, 1048575]
theorem spec_l09Frame.tab17 : rtab .any (opsOf Tryd.f80 17) = spec_l09Frame.T17 := by kernel_rfl
theorem spec_l09Frame.bits17 : waitsOk spec_l09Frame.T17.2 spec_l09Frame.B17 = true := by kernel_rfl
set_option maxHeartbeats 8000000 in
set_option maxRecDepth 100000 in
theorem spec_l09Frame.calls (k : Nat) (a0 : ByteArray) (r1 : Int) (r2 : Int) (r3 : Int) (r4 : Int) (r5 : ByteArray) (r6 : ByteArray) (r7 : Bool) (w : World) (h : spec_l09Frame.f k a0 = some (r1, r2, r3, r4, r5, r6, r7)) :
    Calls Tryd.prog 80 #[.string a0] w fun e w' => e = .returned (.tuple #[.agg #[.int .i64 r1, .int .i64 r2, .int .i64 r3, .int .i64 r4, .string r5, .string r6], .bool r7]) ∧ Below w.heap.size w w' := by
  have hu28 := Tryd.underlying28
  have hu130 := Tryd.underlying130
  have HB := AM (Below.refl w.heap.size w)
  have H : (if (a0.size : Int) < 1 then (spec_l09Frame.j0 k a0 true 0 0 0 0 (⟨#[]⟩ : ByteArray) (⟨#[]⟩ : ByteArray)) else (if 0 < (a0.size : Int) then (spec_l09Frame.j0 k a0 ((bt a0 0) != 70) 0 0 0 0 (⟨#[]⟩ : ByteArray) (⟨#[]⟩ : ByteArray)) else (none))) = some (r1, r2, r3, r4, r5, r6, r7) := h
  clear h
  have HC2 := AM H
  clear H
  go_enter Tryd.func80, Tryd.ntmps80
  go_upto_region 2 with (first | ((with_reducible refine gate_dst (N := 2) rfl ?_); refine be_ 2 #[.int .i64 0, .int .i64 0, .int .i64 0, .int .i64 0, .string (⟨#[]⟩ : ByteArray), .string (⟨#[]⟩ : ByteArray)] 28 ?_; intro gb171 hg w3 hbox hb; have BK171 := AM hbox; have GW171 := AM ((by rw [hg]; exact (below_size bel_) : w.heap.size ≤ gb171)); have GE171 := AM ((by rw [hg]; exact (below_size bel_) : w.heap.size ≤ gb171)); replace HB := AM (below_step bel_ hb); clear hb hbox hg) | ((with_reducible refine gate_dst (N := 4) rfl ?_); refine be_ 4 #[.int .i64 0, .int .i64 0, .int .i64 0, .int .i64 0, .string (⟨#[]⟩ : ByteArray), .string (⟨#[]⟩ : ByteArray)] 28 ?_; intro gb172 hg w4 hbox hb; have BK172 := AM hbox; have GW172 := AM ((by rw [hg]; exact (below_size bel_) : w.heap.size ≤ gb172)); have GE172 := AM ((by rw [hg]; exact (below_size bel_) : w.heap.size ≤ gb172)); replace HB := AM (below_step bel_ hb); have NB171_172 := AM ((by rw [hg]; exact Nat.ne_of_lt (blk_lt (g := gb171) (o := .cells #[.int .i64 0, .int .i64 0, .int .i64 0, .int .i64 0, .string (⟨#[]⟩ : ByteArray), .string (⟨#[]⟩ : ByteArray)] 28 (0, 0)) (bk_ BK171.out)) : gb171 ≠ gb172)); have NB172_171 := AM ((by rw [hg]; exact Nat.ne_of_gt (blk_lt (g := gb171) (o := .cells #[.int .i64 0, .int .i64 0, .int .i64 0, .int .i64 0, .string (⟨#[]⟩ : ByteArray), .string (⟨#[]⟩ : ByteArray)] 28 (0, 0)) (bk_ BK171.out)) : gb172 ≠ gb171)); replace BK171 := AM (blk_below (g := gb171) (o := .cells #[.int .i64 0, .int .i64 0, .int .i64 0, .int .i64 0, .string (⟨#[]⟩ : ByteArray), .string (⟨#[]⟩ : ByteArray)] 28 (0, 0)) (bk_ BK171.out) hb); clear hb hbox hg; have hnb5 := NB172_171.out; have hnc5 := NB171_172.out; have hcz6_0 : w4.cell? ⟨gb172, 0, none⟩ = some (.int .i64 0) := (blk_cell BK172.out 0).trans rfl; have hcz6_1 : w4.cell? ⟨gb172, 1, none⟩ = some (.int .i64 0) := (blk_cell BK172.out 1).trans rfl; have hcz6_2 : w4.cell? ⟨gb172, 2, none⟩ = some (.int .i64 0) := (blk_cell BK172.out 2).trans rfl; have hcz6_3 : w4.cell? ⟨gb172, 3, none⟩ = some (.int .i64 0) := (blk_cell BK172.out 3).trans rfl; have hcz6_4 : w4.cell? ⟨gb172, 4, none⟩ = some (.string (⟨#[]⟩ : ByteArray)) := (blk_cell BK172.out 4).trans rfl; have hcz6_5 : w4.cell? ⟨gb172, 5, none⟩ = some (.string (⟨#[]⟩ : ByteArray)) := (blk_cell BK172.out 5).trans rfl; have hfz6_0 := blk_frozen BK172.out 0; have hfz6_1 := blk_frozen BK172.out 1; have hfz6_2 := blk_frozen BK172.out 2; have hfz6_3 := blk_frozen BK172.out 3; have hfz6_4 := blk_frozen BK172.out 4; have hfz6_5 := blk_frozen BK172.out 5))
  (try simp only [Act.put, List.setIfInBounds_toArray, List.set_cons_zero, List.set_cons_succ])
  go_cut [17] (fun v17 wc => ∃ (kq : Nat) (x17_1 : Bool), v17 = .bool x17_1 ∧ Aside0 (spec_l09Frame.j0 kq a0 x17_1 0 0 0 0 (⟨#[]⟩ : ByteArray) (⟨#[]⟩ : ByteArray) = some (r1, r2, r3, r4, r5, r6, r7)) ∧ Aside0 (kq ≤ k) ∧ Aside0 (wc.heap[gb171]? = some (.cells #[.int .i64 0, .int .i64 0, .int .i64 0, .int .i64 0, .string (⟨#[]⟩ : ByteArray), .string (⟨#[]⟩ : ByteArray)] 28 (0, 0))) ∧ Aside0 (wc.heap[gb172]? = some (.cells #[.int .i64 0, .int .i64 0, .int .i64 0, .int .i64 0, .string (⟨#[]⟩ : ByteArray), .string (⟨#[]⟩ : ByteArray)] 28 (0, 0))) ∧ Aside0 (Below w.heap.size w wc))
  case first =>
    have H := HC2.out
    clear HC2
    by_cases c7 : (a0.size : Int) < 1
    · rw [if_pos c7] at H
      have c7b0 : decide ((a0.size : Int) < 1) = true := decide_eq_true c7
      have c7b1 : decide (a0.size < 1) = true := decide_eq_true (by omega)
      clear c7
      (first | rw [c7b0] | (simp only [i64_w, i32_w]; rw [c7b0]) | skip)
      have H' := AM H
      clear H
      go_wp2
      go_meet
      case rel => exact ⟨_, (true), (by first | rfl | (simp; done) | (simp [*]; done)), H', ⟨by first | omega | exact Nat.le_refl _⟩, ⟨bka_⟩, ⟨bka_⟩, ⟨bel_⟩⟩
    · rw [if_neg c7] at H
      have c7b0 : decide ((a0.size : Int) < 1) = false := decide_eq_false c7
      have c7b1 : decide (a0.size < 1) = false := decide_eq_false (by omega)
      clear c7
      (first | rw [c7b0] | (simp only [i64_w, i32_w]; rw [c7b0]) | skip)
      by_cases c8 : 0 < (a0.size : Int)
      · rw [if_pos c8] at H
        have c8b0 : decide (0 < (a0.size : Int)) = true := decide_eq_true c8
        have c8b1 : decide (0 < a0.size) = true := decide_eq_true (by omega)
        clear c8
        have H' := AM H
        clear H
        have p9 : 0 ≤ (0 : Int) := (by omega)
        have q9 : 0 < a0.size := (by have : (0 : Int) < (a0.size : Int) := of_decide_eq_true (by first | (with_reducible assumption) | assumption); omega)
        have hx9 : ∀ h : 0 < a0.size, ((a0[0]'h).toNat : Int) = bt a0 0 := bt_at a0 0
        clear p9
        have qi9 : (0 < (a0.size : Int)) = True := eq_true (of_decide_eq_true (by first | (with_reducible assumption) | assumption))
        replace q9 := eq_true q9
        go_wp2
        go_meet
        case rel => exact ⟨_, (((bt a0 0) != 70)), (by first | rfl | (simp; done) | (simp [*]; done)), H', ⟨by first | omega | exact Nat.le_refl _⟩, ⟨bka_⟩, ⟨bka_⟩, ⟨bel_⟩⟩
      · rw [if_neg c8] at H
        exact absurd H (by simp)
  case rest =>
    clear HC2
    try clear p2
    try clear c5
    try clear c7
    try clear c7b0
    try clear c7b1
    try clear c8
    try clear c8b0
    try clear c8b1
    try clear p9
    try clear q9
    try clear hx9
    try clear qi9
    try clear hcz6_0
    try clear hcz6_1
    try clear hcz6_2
    try clear hcz6_3
    try clear hcz6_4
    try clear hcz6_5
    try clear hfz6_0
    try clear hfz6_1
    try clear hfz6_2
    try clear hfz6_3
    try clear hfz6_4
    try clear hfz6_5
    try clear p9
    try clear q9
    obtain ⟨kq, x17_1, rfl, HA, HJ1, BK171, BK172, HB⟩ := hcut
    cases kq with
    | zero => exact absurd HA.out (by simp [spec_l09Frame.j0])
    | succ kj1 =>
      have H := HA.out
      clear HA
      simp only [spec_l09Frame.j0] at H
      by_cases c10 : x17_1 = true
      · subst c10
        rw [if_pos rfl] at H
        simp only [Option.some.injEq, Prod.mk.injEq] at H
        obtain ⟨rfl, rfl, rfl, rfl, rfl, rfl, rfl⟩ := H
        have hnb11 := NB172_171.out
        have hnc11 := NB171_172.out
        have hcz12_0 : wc.cell? ⟨gb172, 0, none⟩ = some (.int .i64 0) := (blk_cell BK172.out 0).trans rfl
        have hcz12_1 : wc.cell? ⟨gb172, 1, none⟩ = some (.int .i64 0) := (blk_cell BK172.out 1).trans rfl
        have hcz12_2 : wc.cell? ⟨gb172, 2, none⟩ = some (.int .i64 0) := (blk_cell BK172.out 2).trans rfl
        have hcz12_3 : wc.cell? ⟨gb172, 3, none⟩ = some (.int .i64 0) := (blk_cell BK172.out 3).trans rfl
        have hcz12_4 : wc.cell? ⟨gb172, 4, none⟩ = some (.string (⟨#[]⟩ : ByteArray)) := (blk_cell BK172.out 4).trans rfl
        have hcz12_5 : wc.cell? ⟨gb172, 5, none⟩ = some (.string (⟨#[]⟩ : ByteArray)) := (blk_cell BK172.out 5).trans rfl
        have hfz12_0 := blk_frozen BK172.out 0
        have hfz12_1 := blk_frozen BK172.out 1
        have hfz12_2 := blk_frozen BK172.out 2
        have hfz12_3 := blk_frozen BK172.out 3
        have hfz12_4 := blk_frozen BK172.out 4
        have hfz12_5 := blk_frozen BK172.out 5
        have hcz13_0 : wc.cell? ⟨gb171, 0, none⟩ = some (.int .i64 0) := (blk_cell BK171.out 0).trans rfl
        have hcz13_1 : wc.cell? ⟨gb171, 1, none⟩ = some (.int .i64 0) := (blk_cell BK171.out 1).trans rfl
        have hcz13_2 : wc.cell? ⟨gb171, 2, none⟩ = some (.int .i64 0) := (blk_cell BK171.out 2).trans rfl
        have hcz13_3 : wc.cell? ⟨gb171, 3, none⟩ = some (.int .i64 0) := (blk_cell BK171.out 3).trans rfl
        have hcz13_4 : wc.cell? ⟨gb171, 4, none⟩ = some (.string (⟨#[]⟩ : ByteArray)) := (blk_cell BK171.out 4).trans rfl
        have hcz13_5 : wc.cell? ⟨gb171, 5, none⟩ = some (.string (⟨#[]⟩ : ByteArray)) := (blk_cell BK171.out 5).trans rfl
        have hfz13_0 := blk_frozen BK171.out 0
        have hfz13_1 := blk_frozen BK171.out 1
        have hfz13_2 := blk_frozen BK171.out 2
        have hfz13_3 := blk_frozen BK171.out 3
        have hfz13_4 := blk_frozen BK171.out 4
        have hfz13_5 := blk_frozen BK171.out 5
        go_wp2
        refine bodyPost_ret (results_ct rfl _ _ gb171 28 #[.int .i64 0, .int .i64 0, .int .i64 0, .int .i64 0, .string (⟨#[]⟩ : ByteArray), .string (⟨#[]⟩ : ByteArray)] (0, 0) _ rfl bka_ Tryd.underlying28 rfl (by kernel_rfl)) rfl ?_
        exact ⟨ri_, bel_⟩
      · replace c10 := Bool.eq_false_iff.mpr c10
        subst c10
        rw [if_neg (show ¬ (false = true) by decide)] at H
        obtain ⟨y173, hy173⟩ : ∃ y_ : List Int, y_ = (([] : List Int)) := ⟨_, rfl⟩
        replace H : (spec_l09Frame.l0 kj1 a0 y173 1 0 0 0 0 0 (⟨#[]⟩ : ByteArray) (⟨#[]⟩ : ByteArray)) = some (r1, r2, r3, r4, r5, r6, r7) := by first | (rw [hy173]; with_reducible exact H) | (have H2_ := (Option.bind_some _ _).symm.trans H; rw [hy173]; with_reducible exact H2_) | (have H2_ := (Option.bind_some _ _).symm.trans H; with_reducible exact H2_) | with_reducible exact H | (rw [hy173]; exact H) | exact H
        have Ny173 := AM hy173
        clear hy173
        have H' := AM H
        clear H
        go_wp2_with (first | ((with_reducible refine gate_dst (N := 19) rfl ?_); refine Kd.R_lit (Kd.int .i64) _ 2 ?hg (N := 19) ?hd (xs := ([] : List Int)) (inner := []) (ok := fun _ => True) (okp := fun _ => True) ?hr ?hp (fun _ hk => hk) trivial (Below.refl _ _) (Nat.le_refl _) (by simp) ?_; (case hd => rfl); (case hg => rfl); (case hr => first | (go_simp; done) | (go_simp; rfl)); (case hp => exact (Reps.none _ _)); intro v174 w14 ho15 hb hg_ hnew_; clear hg_ hnew_; (first | rw [← Ny173.out] at ho15 | (simp only [Int.reduceToNat] at ho15; rw [← Ny173.out] at ho15)); have HO175 := AM (Kd.R_lower ho15 (below_size bel_)); replace BK171 := AM (blk_below (g := gb171) (o := .cells #[.int .i64 0, .int .i64 0, .int .i64 0, .int .i64 0, .string (⟨#[]⟩ : ByteArray), .string (⟨#[]⟩ : ByteArray)] 28 (0, 0)) (bk_ BK171.out) hb); replace BK172 := AM (blk_below (g := gb172) (o := .cells #[.int .i64 0, .int .i64 0, .int .i64 0, .int .i64 0, .string (⟨#[]⟩ : ByteArray), .string (⟨#[]⟩ : ByteArray)] 28 (0, 0)) (bk_ BK172.out) hb); replace HB := AM (below_step bel_ hb); clear hb ho15))
        go_loopg [5, 6, 7] kj1 (fun kq v5 v6 v7 w' => ∃ (x5_2 : List Int) (x6_2 : Int) (x7_2 : Int) (x172000_2 : Int) (x172001_2 : Int) (x172002_2 : Int) (x172003_2 : Int) (x172004_2 : ByteArray) (x172005_2 : ByteArray), v6 = .int .i64 x6_2 ∧ v7 = .int .i64 x7_2 ∧ Aside0 (spec_l09Frame.l0 kq a0 x5_2 x6_2 x7_2 0 0 0 0 (⟨#[]⟩ : ByteArray) (⟨#[]⟩ : ByteArray) = some (r1, r2, r3, r4, r5, r6, r7)) ∧ Aside0 (kq ≤ kj1) ∧ Aside0 (Kd.R (Kd.int .i64) 2 w' w.heap.size (fun _ => True) v5 x5_2) ∧ Aside0 (w'.heap[gb171]? = some (.cells #[.int .i64 x172000_2, .int .i64 x172001_2, .int .i64 x172002_2, .int .i64 x172003_2, .string x172004_2, .string x172005_2] 28 (0, 0))) ∧ Aside0 (w'.heap[gb172]? = some (.cells #[.int .i64 0, .int .i64 0, .int .i64 0, .int .i64 0, .string (⟨#[]⟩ : ByteArray), .string (⟨#[]⟩ : ByteArray)] 28 (0, 0))) ∧ Aside0 (Below w.heap.size w w'))
        case atStart => exact ⟨(y173), (1), (0), (0), (0), (0), (0), ((⟨#[]⟩ : ByteArray)), ((⟨#[]⟩ : ByteArray)), (by first | rfl | (simp; done) | (simp [*]; done)), (by first | rfl | (simp; done) | (simp [*]; done)), H', ⟨Nat.le_refl _⟩, ⟨ro_ HO175.out⟩, ⟨bk_ BK171.out⟩, ⟨bk_ BK172.out⟩, ⟨bel_⟩⟩
        case round =>
          clear H'
          try clear c1
          try clear p2
          try clear c5
          try clear c7
          try clear c7b0
          try clear c7b1
          try clear c8
          try clear c8b0
          try clear c8b1
          try clear p9
          try clear q9
          try clear hx9
          try clear qi9
          try clear c10
          try clear c11
          try clear hcz12_0
          try clear hcz12_1
          try clear hcz12_2
          try clear hcz12_3
          try clear hcz12_4
          try clear hcz12_5
          try clear hcz13_0
          try clear hcz13_1
          try clear hcz13_2
          try clear hcz13_3
          try clear hcz13_4
          try clear hcz13_5
          try clear hcz6_0
          try clear hcz6_1
          try clear hcz6_2
          try clear hcz6_3
          try clear hcz6_4
          try clear hcz6_5
          try clear hfz12_0
          try clear hfz12_1
          try clear hfz12_2
          try clear hfz12_3
          try clear hfz12_4
          try clear hfz12_5
          try clear hfz13_0
          try clear hfz13_1
          try clear hfz13_2
          try clear hfz13_3
          try clear hfz13_4
          try clear hfz13_5
          try clear hfz6_0
          try clear hfz6_1
          try clear hfz6_2
          try clear hfz6_3
          try clear hfz6_4
          try clear hfz6_5
          try clear p2
          try clear p9
          try clear q9
          obtain ⟨x5_2, x6_2, x7_2, x172000_2, x172001_2, x172002_2, x172003_2, x172004_2, x172005_2, rfl, rfl, HA, HK2, HO_5, BK171, BK172, HB⟩ := hrel
          cases gk with
          | zero => exact absurd HA.out (by simp [spec_l09Frame.l0])
          | succ k2 =>
            have H := HA.out
            clear HA
            simp only [spec_l09Frame.l0] at H
            by_cases c16 : x7_2 < 4
            · rw [if_pos c16] at H
              have c16b0 : decide (x7_2 < 4) = true := decide_eq_true c16
              clear c16
              obtain ⟨⟨t176, t177, t178⟩, A17, H⟩ := OB H
              try dsimp only at H
              replace A17 := AM A17
              by_cases c18 : t178 = 0
              · rw [if_pos c18] at H
                have c18b0 : (t178 == 0) = true := beq_iff_eq.mpr c18
                have c18b1 : (t178 != 0) = false := bne_eq_false_iff_eq.mpr c18
                clear c18
                by_cases c19 : x5_2.length < 17592186044416
                · rw [if_pos c19] at H
                  have LMc19 := AM c19
                  clear c19
                  obtain ⟨y180, hy180⟩ : ∃ y_ : List Int, y_ = (x5_2 ++ [t176]) := ⟨_, rfl⟩
                  replace H : (spec_l09Frame.l0 k2 a0 y180 t177 (wrap64 (x7_2 + 1)) 0 0 0 0 (⟨#[]⟩ : ByteArray) (⟨#[]⟩ : ByteArray)) = some (r1, r2, r3, r4, r5, r6, r7) := by first | (rw [hy180]; with_reducible exact H) | (have H2_ := (Option.bind_some _ _).symm.trans H; rw [hy180]; with_reducible exact H2_) | (have H2_ := (Option.bind_some _ _).symm.trans H; with_reducible exact H2_) | with_reducible exact H | (rw [hy180]; exact H) | exact H
                  have Ny180 := AM hy180
                  clear hy180
                  have H' := AM H
                  clear H
                  go_wp2_with (first | ((with_reducible refine gate_callee (f := 114) rfl ?_); refine gl_ (some 26) Tryd.func114 #[.string a0, .int .i64 x6_2] ?_; (with_reducible refine (spec_GetNum.calls k2 a0 x6_2 t176 t177 t178 _ A17.out).mono ?_); rintro e w20 ⟨rfl, hb⟩; refine ⟨_, rfl, ?_⟩; replace HO_5 := AM (Kd.R_below (ro_ HO_5.out) hb); replace BK171 := AM (blk_below (g := gb171) (o := .cells #[.int .i64 x172000_2, .int .i64 x172001_2, .int .i64 x172002_2, .int .i64 x172003_2, .string x172004_2, .string x172005_2] 28 (0, 0)) (bk_ BK171.out) hb); replace BK172 := AM (blk_below (g := gb172) (o := .cells #[.int .i64 0, .int .i64 0, .int .i64 0, .int .i64 0, .string (⟨#[]⟩ : ByteArray), .string (⟨#[]⟩ : ByteArray)] 28 (0, 0)) (bk_ BK172.out) hb); replace HB := AM (below_step bel_ hb); (try clear hb); (try clear hb2); (try clear hk); (try clear hi)) | ((with_reducible refine gate_dst (N := 8) rfl ?_); refine be_ 8 #[.int .i64 0, .int .i64 0, .int .i64 0] 130 ?_; intro gb179 hg w21 hbox hb; replace HO_5 := AM (Kd.R_below (ro_ HO_5.out) hb); have BK179 := AM hbox; have GW179 := AM ((by rw [hg]; exact (below_size bel_) : w.heap.size ≤ gb179)); have GE179 := AM ((by rw [hg]; exact (below_size bel_) : w.heap.size ≤ gb179)); replace HB := AM (below_step bel_ hb); have NB171_179 := AM ((by rw [hg]; exact Nat.ne_of_lt (blk_lt (g := gb171) (o := .cells #[.int .i64 x172000_2, .int .i64 x172001_2, .int .i64 x172002_2, .int .i64 x172003_2, .string x172004_2, .string x172005_2] 28 (0, 0)) (bk_ BK171.out)) : gb171 ≠ gb179)); have NB179_171 := AM ((by rw [hg]; exact Nat.ne_of_gt (blk_lt (g := gb171) (o := .cells #[.int .i64 x172000_2, .int .i64 x172001_2, .int .i64 x172002_2, .int .i64 x172003_2, .string x172004_2, .string x172005_2] 28 (0, 0)) (bk_ BK171.out)) : gb179 ≠ gb171)); replace BK171 := AM (blk_below (g := gb171) (o := .cells #[.int .i64 x172000_2, .int .i64 x172001_2, .int .i64 x172002_2, .int .i64 x172003_2, .string x172004_2, .string x172005_2] 28 (0, 0)) (bk_ BK171.out) hb); have NB172_179 := AM ((by rw [hg]; exact Nat.ne_of_lt (blk_lt (g := gb172) (o := .cells #[.int .i64 0, .int .i64 0, .int .i64 0, .int .i64 0, .string (⟨#[]⟩ : ByteArray), .string (⟨#[]⟩ : ByteArray)] 28 (0, 0)) (bk_ BK172.out)) : gb172 ≠ gb179)); have NB179_172 := AM ((by rw [hg]; exact Nat.ne_of_gt (blk_lt (g := gb172) (o := .cells #[.int .i64 0, .int .i64 0, .int .i64 0, .int .i64 0, .string (⟨#[]⟩ : ByteArray), .string (⟨#[]⟩ : ByteArray)] 28 (0, 0)) (bk_ BK172.out)) : gb179 ≠ gb172)); replace BK172 := AM (blk_below (g := gb172) (o := .cells #[.int .i64 0, .int .i64 0, .int .i64 0, .int .i64 0, .string (⟨#[]⟩ : ByteArray), .string (⟨#[]⟩ : ByteArray)] 28 (0, 0)) (bk_ BK172.out) hb); clear hb hbox hg; have hnb22 := NB179_171.out; have hnc22 := NB171_179.out; have hnb23 := NB179_172.out; have hnc23 := NB172_179.out; have hcz24_0 : w21.cell? ⟨gb179, 0, none⟩ = some (.int .i64 0) := (blk_cell BK179.out 0).trans rfl; have hcz24_1 : w21.cell? ⟨gb179, 1, none⟩ = some (.int .i64 0) := (blk_cell BK179.out 1).trans rfl; have hcz24_2 : w21.cell? ⟨gb179, 2, none⟩ = some (.int .i64 0) := (blk_cell BK179.out 2).trans rfl; have hfz24_0 := blk_frozen BK179.out 0; have hfz24_1 := blk_frozen BK179.out 1; have hfz24_2 := blk_frozen BK179.out 2) | ((with_reducible refine gate_builtin (b := .append) (xs := #[.tmp 31, .tmp 34]) rfl ?_); at_builtin; refine Kd.R_append (Kd.int .i64) (w0 := w) w.heap.size rfl (.tmp 31) (.tmp 34) 40 2 (.int .i64 0) 8 rfl Tryd.underlying40 info2 rfl (by decide) (by omega) u5 x5_2 t176 [.int .i64 t176] (fun _ => True) (fun _ => False) rfl (by first | (go_simp; done) | (go_simp; rfl)) ?aP (fun _ hk => hk.elim) ?aF ?aO ?aB ?aS ?aL ?_; (case aP => exact rfl); (case aB => exact bel_); (case aF => exact (fun _ _ => trivial)); (case aO => exact (by (with_reducible repeat (first | apply Kd.R_alloc | apply Kd.R_drewN | apply Kd.R_drew)); exact Kd.R_mono (Kd.R_far (p := ⟨gb179, 2, none⟩) (Kd.R_far (p := ⟨gb179, 1, none⟩) (Kd.R_far (p := ⟨gb179, 0, none⟩) (Kd.R_types HO_5.out BK179.out (by decide)) (fun _ hk => hk.2) (.int .i64 t176)) (fun _ hk => hk.2) (.int .i64 t177)) (fun _ hk => hk.2) (.int .i64 t178)) (fun _ hk => trivial))); (case aS => exact (below_size bel_)); (case aL => have := LMc19.out; omega); intro v181 w25 ho hb hg hat; rw [← Ny180.out] at ho; have n0_ := AM (blk_grown (g := gb171) (o := .cells #[.int .i64 x172000_2, .int .i64 x172001_2, .int .i64 x172002_2, .int .i64 x172003_2, .string x172004_2, .string x172005_2] 28 (0, 0)) bka_ hg (Kd.R_ne HO_5.out BK171.out (by decide))); have n1_ := AM (blk_grown (g := gb172) (o := .cells #[.int .i64 0, .int .i64 0, .int .i64 0, .int .i64 0, .string (⟨#[]⟩ : ByteArray), .string (⟨#[]⟩ : ByteArray)] 28 (0, 0)) bka_ hg (Kd.R_ne HO_5.out BK172.out (by decide))); have n2_ := AM (blk_grown (g := gb179) (o := .cells #[.int .i64 t176, .int .i64 t177, .int .i64 t178] 130 (0, 0)) bka_ hg (Kd.R_ne HO_5.out BK179.out (by decide))); have n3_ := AM hb; have n4_ := AM ho; clear BK171; clear BK172; clear BK179; clear HB; clear HO_5; have BK171 := n0_; have BK172 := n1_; have BK179 := n2_; have HB := n3_; have HO182 := n4_; clear n0_ n1_ n2_ n3_ n4_; clear ho hb hg hat; have hcz26_0 : w25.cell? ⟨gb179, 0, none⟩ = some (.int .i64 t176) := (blk_cell BK179.out 0).trans rfl; have hcz26_1 : w25.cell? ⟨gb179, 1, none⟩ = some (.int .i64 t177) := (blk_cell BK179.out 1).trans rfl; have hcz26_2 : w25.cell? ⟨gb179, 2, none⟩ = some (.int .i64 t178) := (blk_cell BK179.out 2).trans rfl; have hfz26_0 := blk_frozen BK179.out 0; have hfz26_1 := blk_frozen BK179.out 1; have hfz26_2 := blk_frozen BK179.out 2))
                  go_roundg k2
                  case measure => have := HJ1.out; have := HK2.out; omega
                  case rel => exact ⟨(y180), (t177), (wrap64 (x7_2 + 1)), (x172000_2), (x172001_2), (x172002_2), (x172003_2), (x172004_2), (x172005_2), (by first | rfl | (simp; done) | (simp [*]; done)), (by first | rfl | (simp; done) | (simp [*]; done)), H', ⟨by have := HJ1.out; have := HK2.out; omega⟩, ⟨ro_ HO182.out⟩, ⟨bk_ BK171.out⟩, ⟨bk_ BK172.out⟩, ⟨bel_⟩⟩
                · rw [if_neg c19] at H
                  exact absurd H (by simp)
              · rw [if_neg c18] at H
                have c18b0 : (t178 == 0) = false := beq_eq_false_iff_ne.mpr c18
                have c18b1 : (t178 != 0) = true := bne_iff_ne.mpr c18
                simp only [Option.some.injEq, Prod.mk.injEq] at H
                obtain ⟨rfl, rfl, rfl, rfl, rfl, rfl, rfl⟩ := H
                go_wp2_with (first | ((with_reducible refine gate_callee (f := 114) rfl ?_); refine gl_ (some 26) Tryd.func114 #[.string a0, .int .i64 x6_2] ?_; (with_reducible refine (spec_GetNum.calls k2 a0 x6_2 t176 t177 t178 _ A17.out).mono ?_); rintro e w27 ⟨rfl, hb⟩; refine ⟨_, rfl, ?_⟩; replace HO_5 := AM (Kd.R_below (ro_ HO_5.out) hb); replace BK171 := AM (blk_below (g := gb171) (o := .cells #[.int .i64 x172000_2, .int .i64 x172001_2, .int .i64 x172002_2, .int .i64 x172003_2, .string x172004_2, .string x172005_2] 28 (0, 0)) (bk_ BK171.out) hb); replace BK172 := AM (blk_below (g := gb172) (o := .cells #[.int .i64 0, .int .i64 0, .int .i64 0, .int .i64 0, .string (⟨#[]⟩ : ByteArray), .string (⟨#[]⟩ : ByteArray)] 28 (0, 0)) (bk_ BK172.out) hb); replace HB := AM (below_step bel_ hb); (try clear hb); (try clear hb2); (try clear hk); (try clear hi)) | ((with_reducible refine gate_dst (N := 8) rfl ?_); refine be_ 8 #[.int .i64 0, .int .i64 0, .int .i64 0] 130 ?_; intro gb179 hg w28 hbox hb; replace HO_5 := AM (Kd.R_below (ro_ HO_5.out) hb); have BK179 := AM hbox; have GW179 := AM ((by rw [hg]; exact (below_size bel_) : w.heap.size ≤ gb179)); have GE179 := AM ((by rw [hg]; exact (below_size bel_) : w.heap.size ≤ gb179)); replace HB := AM (below_step bel_ hb); have NB171_179 := AM ((by rw [hg]; exact Nat.ne_of_lt (blk_lt (g := gb171) (o := .cells #[.int .i64 x172000_2, .int .i64 x172001_2, .int .i64 x172002_2, .int .i64 x172003_2, .string x172004_2, .string x172005_2] 28 (0, 0)) (bk_ BK171.out)) : gb171 ≠ gb179)); have NB179_171 := AM ((by rw [hg]; exact Nat.ne_of_gt (blk_lt (g := gb171) (o := .cells #[.int .i64 x172000_2, .int .i64 x172001_2, .int .i64 x172002_2, .int .i64 x172003_2, .string x172004_2, .string x172005_2] 28 (0, 0)) (bk_ BK171.out)) : gb179 ≠ gb171)); replace BK171 := AM (blk_below (g := gb171) (o := .cells #[.int .i64 x172000_2, .int .i64 x172001_2, .int .i64 x172002_2, .int .i64 x172003_2, .string x172004_2, .string x172005_2] 28 (0, 0)) (bk_ BK171.out) hb); have NB172_179 := AM ((by rw [hg]; exact Nat.ne_of_lt (blk_lt (g := gb172) (o := .cells #[.int .i64 0, .int .i64 0, .int .i64 0, .int .i64 0, .string (⟨#[]⟩ : ByteArray), .string (⟨#[]⟩ : ByteArray)] 28 (0, 0)) (bk_ BK172.out)) : gb172 ≠ gb179)); have NB179_172 := AM ((by rw [hg]; exact Nat.ne_of_gt (blk_lt (g := gb172) (o := .cells #[.int .i64 0, .int .i64 0, .int .i64 0, .int .i64 0, .string (⟨#[]⟩ : ByteArray), .string (⟨#[]⟩ : ByteArray)] 28 (0, 0)) (bk_ BK172.out)) : gb179 ≠ gb172)); replace BK172 := AM (blk_below (g := gb172) (o := .cells #[.int .i64 0, .int .i64 0, .int .i64 0, .int .i64 0, .string (⟨#[]⟩ : ByteArray), .string (⟨#[]⟩ : ByteArray)] 28 (0, 0)) (bk_ BK172.out) hb); clear hb hbox hg; have hnb29 := NB179_171.out; have hnc29 := NB171_179.out; have hnb30 := NB179_172.out; have hnc30 := NB172_179.out; have hcz31_0 : w28.cell? ⟨gb179, 0, none⟩ = some (.int .i64 0) := (blk_cell BK179.out 0).trans rfl; have hcz31_1 : w28.cell? ⟨gb179, 1, none⟩ = some (.int .i64 0) := (blk_cell BK179.out 1).trans rfl; have hcz31_2 : w28.cell? ⟨gb179, 2, none⟩ = some (.int .i64 0) := (blk_cell BK179.out 2).trans rfl; have hfz31_0 := blk_frozen BK179.out 0; have hfz31_1 := blk_frozen BK179.out 1; have hfz31_2 := blk_frozen BK179.out 2; have hnb32 := NB172_171.out; have hnc32 := NB171_172.out; have hcz33_0 : w28.cell? ⟨gb172, 0, none⟩ = some (.int .i64 0) := (blk_cell BK172.out 0).trans rfl; have hcz33_1 : w28.cell? ⟨gb172, 1, none⟩ = some (.int .i64 0) := (blk_cell BK172.out 1).trans rfl; have hcz33_2 : w28.cell? ⟨gb172, 2, none⟩ = some (.int .i64 0) := (blk_cell BK172.out 2).trans rfl; have hcz33_3 : w28.cell? ⟨gb172, 3, none⟩ = some (.int .i64 0) := (blk_cell BK172.out 3).trans rfl; have hcz33_4 : w28.cell? ⟨gb172, 4, none⟩ = some (.string (⟨#[]⟩ : ByteArray)) := (blk_cell BK172.out 4).trans rfl; have hcz33_5 : w28.cell? ⟨gb172, 5, none⟩ = some (.string (⟨#[]⟩ : ByteArray)) := (blk_cell BK172.out 5).trans rfl; have hfz33_0 := blk_frozen BK172.out 0; have hfz33_1 := blk_frozen BK172.out 1; have hfz33_2 := blk_frozen BK172.out 2; have hfz33_3 := blk_frozen BK172.out 3; have hfz33_4 := blk_frozen BK172.out 4; have hfz33_5 := blk_frozen BK172.out 5; have hcz34_0 : w28.cell? ⟨gb171, 0, none⟩ = some (.int .i64 x172000_2) := (blk_cell BK171.out 0).trans rfl; have hcz34_1 : w28.cell? ⟨gb171, 1, none⟩ = some (.int .i64 x172001_2) := (blk_cell BK171.out 1).trans rfl; have hcz34_2 : w28.cell? ⟨gb171, 2, none⟩ = some (.int .i64 x172002_2) := (blk_cell BK171.out 2).trans rfl; have hcz34_3 : w28.cell? ⟨gb171, 3, none⟩ = some (.int .i64 x172003_2) := (blk_cell BK171.out 3).trans rfl; have hcz34_4 : w28.cell? ⟨gb171, 4, none⟩ = some (.string x172004_2) := (blk_cell BK171.out 4).trans rfl; have hcz34_5 : w28.cell? ⟨gb171, 5, none⟩ = some (.string x172005_2) := (blk_cell BK171.out 5).trans rfl; have hfz34_0 := blk_frozen BK171.out 0; have hfz34_1 := blk_frozen BK171.out 1; have hfz34_2 := blk_frozen BK171.out 2; have hfz34_3 := blk_frozen BK171.out 3; have hfz34_4 := blk_frozen BK171.out 4; have hfz34_5 := blk_frozen BK171.out 5))
                refine bodyPost_ret (results_ct rfl _ _ gb171 28 #[.int .i64 0, .int .i64 0, .int .i64 0, .int .i64 0, .string (⟨#[]⟩ : ByteArray), .string (⟨#[]⟩ : ByteArray)] (0, 0) _ rfl bka_ Tryd.underlying28 rfl (by kernel_rfl)) rfl ?_
                exact ⟨ri_, bel_⟩
            · rw [if_neg c16] at H
              have c16b0 : decide (x7_2 < 4) = false := decide_eq_false c16
              clear c16
              by_cases c35 : (wrap64 (x6_2 + 64)) > (a0.size : Int)
              · rw [if_pos c35] at H
                have c35b0 : decide ((a0.size : Int) < (wrap64 (x6_2 + 64))) = true := decide_eq_true c35
                try have c35b9 : (decide ((a0.size : Int) < ((x6_2 + 64)))) = true := (by have hw0 : wrap64 (x6_2 + 64) = x6_2 + 64 := (by unfold wrap64; omega); have z_ := c35b0; simp only [hw0] at z_; exact z_)
                clear c35
                simp only [Option.some.injEq, Prod.mk.injEq] at H
                obtain ⟨rfl, rfl, rfl, rfl, rfl, rfl, rfl⟩ := H
                have hnb36 := NB172_171.out
                have hnc36 := NB171_172.out
                have hcz37_0 : wr.cell? ⟨gb172, 0, none⟩ = some (.int .i64 0) := (blk_cell BK172.out 0).trans rfl
                have hcz37_1 : wr.cell? ⟨gb172, 1, none⟩ = some (.int .i64 0) := (blk_cell BK172.out 1).trans rfl
                have hcz37_2 : wr.cell? ⟨gb172, 2, none⟩ = some (.int .i64 0) := (blk_cell BK172.out 2).trans rfl
                have hcz37_3 : wr.cell? ⟨gb172, 3, none⟩ = some (.int .i64 0) := (blk_cell BK172.out 3).trans rfl
                have hcz37_4 : wr.cell? ⟨gb172, 4, none⟩ = some (.string (⟨#[]⟩ : ByteArray)) := (blk_cell BK172.out 4).trans rfl
                have hcz37_5 : wr.cell? ⟨gb172, 5, none⟩ = some (.string (⟨#[]⟩ : ByteArray)) := (blk_cell BK172.out 5).trans rfl
                have hfz37_0 := blk_frozen BK172.out 0
                have hfz37_1 := blk_frozen BK172.out 1
                have hfz37_2 := blk_frozen BK172.out 2
                have hfz37_3 := blk_frozen BK172.out 3
                have hfz37_4 := blk_frozen BK172.out 4
                have hfz37_5 := blk_frozen BK172.out 5
                have hcz38_0 : wr.cell? ⟨gb171, 0, none⟩ = some (.int .i64 x172000_2) := (blk_cell BK171.out 0).trans rfl
                have hcz38_1 : wr.cell? ⟨gb171, 1, none⟩ = some (.int .i64 x172001_2) := (blk_cell BK171.out 1).trans rfl
                have hcz38_2 : wr.cell? ⟨gb171, 2, none⟩ = some (.int .i64 x172002_2) := (blk_cell BK171.out 2).trans rfl
                have hcz38_3 : wr.cell? ⟨gb171, 3, none⟩ = some (.int .i64 x172003_2) := (blk_cell BK171.out 3).trans rfl
                have hcz38_4 : wr.cell? ⟨gb171, 4, none⟩ = some (.string x172004_2) := (blk_cell BK171.out 4).trans rfl
                have hcz38_5 : wr.cell? ⟨gb171, 5, none⟩ = some (.string x172005_2) := (blk_cell BK171.out 5).trans rfl
                have hfz38_0 := blk_frozen BK171.out 0
                have hfz38_1 := blk_frozen BK171.out 1
                have hfz38_2 := blk_frozen BK171.out 2
                have hfz38_3 := blk_frozen BK171.out 3
                have hfz38_4 := blk_frozen BK171.out 4
                have hfz38_5 := blk_frozen BK171.out 5
                go_wp2
                refine bodyPost_ret (results_ct rfl _ _ gb171 28 #[.int .i64 0, .int .i64 0, .int .i64 0, .int .i64 0, .string (⟨#[]⟩ : ByteArray), .string (⟨#[]⟩ : ByteArray)] (0, 0) _ rfl bka_ Tryd.underlying28 rfl (by kernel_rfl)) rfl ?_
                exact ⟨ri_, bel_⟩
              · rw [if_neg c35] at H
                have c35b0 : decide ((a0.size : Int) < (wrap64 (x6_2 + 64))) = false := decide_eq_false c35
                try have c35b9 : (decide ((a0.size : Int) < ((x6_2 + 64)))) = false := (by have hw0 : wrap64 (x6_2 + 64) = x6_2 + 64 := (by unfold wrap64; omega); have z_ := c35b0; simp only [hw0] at z_; exact z_)
                clear c35
                by_cases c39 : 0 < (x5_2.length : Int)
                · rw [if_pos c39] at H
                  have c39b0 : decide (0 < (x5_2.length : Int)) = true := decide_eq_true c39
                  have c39b1 : decide (0 < x5_2.length) = true := decide_eq_true (by omega)
                  clear c39
                  by_cases c40 : 1 < (x5_2.length : Int)
                  · rw [if_pos c40] at H
                    have c40b0 : decide (1 < (x5_2.length : Int)) = true := decide_eq_true c40
                    have c40b1 : decide (1 < x5_2.length) = true := decide_eq_true (by omega)
                    clear c40
                    by_cases c41 : 2 < (x5_2.length : Int)
                    · rw [if_pos c41] at H
                      have c41b0 : decide (2 < (x5_2.length : Int)) = true := decide_eq_true c41
                      have c41b1 : decide (2 < x5_2.length) = true := decide_eq_true (by omega)
                      clear c41
                      by_cases c42 : 3 < (x5_2.length : Int)
                      · rw [if_pos c42] at H
                        have c42b0 : decide (3 < (x5_2.length : Int)) = true := decide_eq_true c42
                        have c42b1 : decide (3 < x5_2.length) = true := decide_eq_true (by omega)
                        clear c42
                        by_cases c43 : 0 ≤ x6_2
                        · rw [if_pos c43] at H
                          have c43b0 := eq_true c43
                          have c43b1 : decide (0 ≤ x6_2) = true := decide_eq_true c43
                          clear c43
                          by_cases c44 : x6_2 ≤ (wrap64 (x6_2 + 32))
                          · rw [if_pos c44] at H
                            have c44b0 := eq_true c44
                            have c44b1 : decide (x6_2 ≤ (wrap64 (x6_2 + 32))) = true := decide_eq_true c44
                            by_cases c45 : (wrap64 (x6_2 + 32)) ≤ (a0.size : Int)
                            · rw [if_pos c45] at H
                              have c45b0 := eq_true c45
                              have c45b1 : decide ((wrap64 (x6_2 + 32)) ≤ (a0.size : Int)) = true := decide_eq_true c45
                              obtain ⟨ji46, hji46⟩ : ∃ j_ : Int, (wrap64 (x6_2 + 64)) = j_ := ⟨_, rfl⟩
                              replace H : (if 0 ≤ (ji46) then (if (ji46) ≤ (a0.size : Int) then ((spec_FrameRight.f (rd x5_2 0) (rd x5_2 1) (rd x5_2 2) (rd x5_2 3) (a0.extract (x6_2 : Int).toNat ((wrap64 (x6_2 + 32)) : Int).toNat) (a0.extract ((ji46) : Int).toNat a0.size)).bind fun t187 => (if t187 = true then (if 0 ≤ (wrap64 (x6_2 + 32)) then ((spec_l09Digest.f k2 (a0.extract 0 ((wrap64 (x6_2 + 32)) : Int).toNat) (a0.extract ((ji46) : Int).toNat a0.size)).bind fun t188 => (if (wrap64 (x6_2 + 32)) ≤ (ji46) then (some (rd x5_2 0, rd x5_2 1, rd x5_2 2, rd x5_2 3, a0.extract (x6_2 : Int).toNat ((wrap64 (x6_2 + 32)) : Int).toNat, a0.extract ((ji46) : Int).toNat a0.size, (t188.toList == (a0.extract ((wrap64 (x6_2 + 32)) : Int).toNat ((ji46) : Int).toNat).toList))) else (none))) else (none)) else (some (rd x5_2 0, rd x5_2 1, rd x5_2 2, rd x5_2 3, a0.extract (x6_2 : Int).toNat ((wrap64 (x6_2 + 32)) : Int).toNat, a0.extract ((ji46) : Int).toNat a0.size, false)))) else (none)) else (none)) = some (r1, r2, r3, r4, r5, r6, r7) := by first | (rw [hji46] at H; exact H) | (simp only [hji46] at H ⊢; exact H)
                              (try rw [hji46] at c35b0)
                              have hji46w : (IntKind.i64.wrap (x6_2 + 64)) = ji46 := (i64_w _).trans hji46
                              by_cases c47 : 0 ≤ (ji46)
                              · rw [if_pos c47] at H
                                have c47b0 := eq_true c47
                                have c47b1 : decide (0 ≤ (ji46)) = true := decide_eq_true c47
                                clear c47
                                by_cases c48 : (ji46) ≤ (a0.size : Int)
                                · rw [if_pos c48] at H
                                  have c48b0 := eq_true c48
                                  have c48b1 : decide ((ji46) ≤ (a0.size : Int)) = true := decide_eq_true c48
                                  clear c48
                                  obtain ⟨t187, A49, H⟩ := OB H
                                  try dsimp only at H
                                  replace A49 := AM A49
                                  by_cases c50 : t187 = true
                                  · subst c50
                                    rw [if_pos rfl] at H
                                    obtain ⟨ji51, hji51⟩ : ∃ j_ : Int, (wrap64 (x6_2 + 32)) = j_ := ⟨_, rfl⟩
                                    replace H : (if 0 ≤ (ji51) then ((spec_l09Digest.f k2 (a0.extract 0 ((ji51) : Int).toNat) (a0.extract ((ji46) : Int).toNat a0.size)).bind fun t188 => (if (ji51) ≤ (ji46) then (some (rd x5_2 0, rd x5_2 1, rd x5_2 2, rd x5_2 3, a0.extract (x6_2 : Int).toNat ((ji51) : Int).toNat, a0.extract ((ji46) : Int).toNat a0.size, (t188.toList == (a0.extract ((ji51) : Int).toNat ((ji46) : Int).toNat).toList))) else (none))) else (none)) = some (r1, r2, r3, r4, r5, r6, r7) := by first | (rw [hji51] at H; exact H) | (simp only [hji51] at H ⊢; exact H)
                                    (try rw [hji51] at c44b0)
                                    (try rw [hji51] at c44b1)
                                    (try rw [hji51] at c44)
                                    (try rw [hji51] at c45b0)
                                    (try rw [hji51] at c45b1)
                                    (try rw [hji51] at c45)
                                    (try rw [hji51] at A49)
                                    have hji51w : (IntKind.i64.wrap (x6_2 + 32)) = ji51 := (i64_w _).trans hji51
                                    by_cases c52 : 0 ≤ (ji51)
                                    · rw [if_pos c52] at H
                                      have c52b0 := eq_true c52
                                      have c52b1 : decide (0 ≤ (ji51)) = true := decide_eq_true c52
                                      clear c52
                                      have c53b0 := eq_true (of_decide_eq_true (by first | (with_reducible assumption) | assumption) : (ji51) ≤ (a0.size : Int))
                                      obtain ⟨t188, A54, H⟩ := OB H
                                      try dsimp only at H
                                      replace A54 := AM A54
                                      have c55b0 := eq_true (of_decide_eq_true (by first | (with_reducible assumption) | assumption) : 0 ≤ (ji51))
                                      by_cases c56 : (ji51) ≤ (ji46)
                                      · rw [if_pos c56] at H
                                        have c56b0 := eq_true c56
                                        have c56b1 : decide ((ji51) ≤ (ji46)) = true := decide_eq_true c56
                                        clear c56
                                        have c57b0 := eq_true (of_decide_eq_true (by first | (with_reducible assumption) | assumption) : (ji46) ≤ (a0.size : Int))
                                        simp only [Option.some.injEq, Prod.mk.injEq] at H
                                        obtain ⟨rfl, rfl, rfl, rfl, rfl, rfl, rfl⟩ := H
                                        try go_wp2
                                        replace HO_5 := AM (Kd.R_drew HO_5.out)
                                        replace BK171 := AM (blk_drew BK171.out)
                                        replace BK172 := AM (blk_drew BK172.out)
                                        replace HB := AM (below_drew1 HB.out)
                                        obtain ⟨Ao59, co59, eo59⟩ := Kd.R_slice HO_5.out
                                        (first | subst eo59 | (injection eo59 with f1_ f2_ f3_; have f4_ := f1_.symm; have f5_ := f3_.symm; clear f1_ f2_ f3_; subst f4_; subst f5_))
                                        have p183 : 0 ≤ (0 : Int) := (by omega)
                                        have q183 : 0 < (x5_2.length : Int) := of_decide_eq_true (by first | (with_reducible assumption) | assumption)
                                        obtain ⟨ad183, e183, hx183_0⟩ := Kd.at_int (Kd.R_reads' HO_5.out).2.2 0 p183 q183
                                        cases e183
                                        have qi183 : (0 < x5_2.length) = True := eq_true (by omega)
                                        (try rw [show ((0 : Int)).toNat = 0 from rfl] at hx183_0)
                                        (try rw [Addr.add_zero'] at hx183_0)
                                        replace p183 := eq_true p183
                                        replace q183 := eq_true q183
                                        have p184 : 0 ≤ (1 : Int) := (by omega)
                                        have q184 : 1 < (x5_2.length : Int) := of_decide_eq_true (by first | (with_reducible assumption) | assumption)
                                        obtain ⟨ad184, e184, hx184_0⟩ := Kd.at_int (Kd.R_reads' HO_5.out).2.2 1 p184 q184
                                        obtain rfl : ad183 = ad184 := (by injection e184)
                                        (try simp only [show (1 : Int).toNat = 1 from rfl, Nat.reduceMul, Nat.reduceEqDiff, Go.Addr.add, ↓reduceIte] at hx184_0)
                                        have qi184 : (1 < x5_2.length) = True := eq_true (by omega)
                                        (try rw [show ((1 : Int)).toNat = 1 from rfl] at hx184_0)
                                        replace p184 := eq_true p184
                                        replace q184 := eq_true q184
                                        have p185 : 0 ≤ (2 : Int) := (by omega)
                                        have q185 : 2 < (x5_2.length : Int) := of_decide_eq_true (by first | (with_reducible assumption) | assumption)
                                        obtain ⟨ad185, e185, hx185_0⟩ := Kd.at_int (Kd.R_reads' HO_5.out).2.2 2 p185 q185
                                        obtain rfl : ad183 = ad185 := (by injection e185)
                                        (try simp only [show (2 : Int).toNat = 2 from rfl, Nat.reduceMul, Nat.reduceEqDiff, Go.Addr.add, ↓reduceIte] at hx185_0)
                                        have qi185 : (2 < x5_2.length) = True := eq_true (by omega)
                                        (try rw [show ((2 : Int)).toNat = 2 from rfl] at hx185_0)
                                        replace p185 := eq_true p185
                                        replace q185 := eq_true q185
                                        have p186 : 0 ≤ (3 : Int) := (by omega)
                                        have q186 : 3 < (x5_2.length : Int) := of_decide_eq_true (by first | (with_reducible assumption) | assumption)
                                        obtain ⟨ad186, e186, hx186_0⟩ := Kd.at_int (Kd.R_reads' HO_5.out).2.2 3 p186 q186
                                        obtain rfl : ad183 = ad186 := (by injection e186)
                                        (try simp only [show (3 : Int).toNat = 3 from rfl, Nat.reduceMul, Nat.reduceEqDiff, Go.Addr.add, ↓reduceIte] at hx186_0)
                                        have qi186 : (3 < x5_2.length) = True := eq_true (by omega)
                                        (try rw [show ((3 : Int)).toNat = 3 from rfl] at hx186_0)
                                        replace p186 := eq_true p186
                                        replace q186 := eq_true q186
                                        refine start_ (n := 23) (S := fun w' => w'.cell? ad183 = some (.int .i64 (rd x5_2 0)) ∧ w'.cell? ⟨ad183.block, ad183.off + 1, none⟩ = some (.int .i64 (rd x5_2 1)) ∧ w'.cell? ⟨ad183.block, ad183.off + 2, none⟩ = some (.int .i64 (rd x5_2 2)) ∧ w'.cell? ⟨ad183.block, ad183.off + 3, none⟩ = some (.int .i64 (rd x5_2 3))) (ds := []) #[false, false, false, false, false, false, false, false, false, false, false, false, false, false, false, false, false, false, false, false, false, false, false] (by kernel_rfl) rfl rfl ⟨hx183_0, hx184_0, hx185_0, hx186_0⟩ (fun hHeld => ?_); refine with_tabW spec_l09Frame.tab16 spec_l09Frame.bits16 (fun HT_ HW_ => ?_)
                                        generalize wr.drew = w58 at HO_5 BK171 BK172 HB hx183_0 hx184_0 hx185_0 hx186_0 hHeld ⊢
                                        refine pu_ HT_ 0 (some 44) #[true, false, false, false, false, false, false, false, false, false, false, false, false, false, false, false, false, false, false, false, false, false, false] ?_
                                        refine pu_ HT_ 1 (some 45) #[true, true, false, false, false, false, false, false, false, false, false, false, false, false, false, false, false, false, false, false, false, false, false] ?_
                                        refine pu_ HT_ 3 (some 47) #[true, true, false, true, false, false, false, false, false, false, false, false, false, false, false, false, false, false, false, false, false, false, false] ?_
                                        refine pu_ HT_ 4 (some 48) #[true, true, false, true, true, false, false, false, false, false, false, false, false, false, false, false, false, false, false, false, false, false, false] ?_
                                        refine pu_ HT_ 6 (some 50) #[true, true, false, true, true, false, true, false, false, false, false, false, false, false, false, false, false, false, false, false, false, false, false] ?_
                                        refine pu_ HT_ 7 (some 51) #[true, true, false, true, true, false, true, true, false, false, false, false, false, false, false, false, false, false, false, false, false, false, false] ?_
                                        refine pu_ HT_ 9 (some 53) #[true, true, false, true, true, false, true, true, false, true, false, false, false, false, false, false, false, false, false, false, false, false, false] ?_
                                        refine pu_ HT_ 10 (some 54) #[true, true, false, true, true, false, true, true, false, true, true, false, false, false, false, false, false, false, false, false, false, false, false] ?_
                                        refine pu_ HT_ 12 (some 56) #[true, true, false, true, true, false, true, true, false, true, true, false, true, false, false, false, false, false, false, false, false, false, false] ?_
                                        refine pu_ HT_ 13 (some 57) #[true, true, false, true, true, false, true, true, false, true, true, false, true, true, false, false, false, false, false, false, false, false, false] ?_
                                        refine pu_ HT_ 14 (some 58) #[true, true, false, true, true, false, true, true, false, true, true, false, true, true, true, false, false, false, false, false, false, false, false] ?_
                                        refine pu_ HT_ 15 (some 59) #[true, true, false, true, true, false, true, true, false, true, true, false, true, true, true, true, false, false, false, false, false, false, false] ?_
                                        refine pu_ HT_ 16 (some 60) #[true, true, false, true, true, false, true, true, false, true, true, false, true, true, true, true, true, false, false, false, false, false, false] ?_
                                        refine pu_ HT_ 17 (some 61) #[true, true, false, true, true, false, true, true, false, true, true, false, true, true, true, true, true, true, false, false, false, false, false] ?_
                                        refine pu_ HT_ 18 (some 62) #[true, true, false, true, true, false, true, true, false, true, true, false, true, true, true, true, true, true, true, false, false, false, false] ?_
                                        refine pu_ HT_ 19 (some 63) #[true, true, false, true, true, false, true, true, false, true, true, false, true, true, true, true, true, true, true, true, false, false, false] ?_
                                        refine pu_ HT_ 20 (some 64) #[true, true, false, true, true, false, true, true, false, true, true, false, true, true, true, true, true, true, true, true, true, false, false] ?_
                                        refine ta_ HT_ HW_ 2 (some 46) #[true, true, true, true, true, false, true, true, false, true, true, false, true, true, true, true, true, true, true, true, true, false, false] hHeld ?_
                                        refine ta_ HT_ HW_ 5 (some 49) #[true, true, true, true, true, true, true, true, false, true, true, false, true, true, true, true, true, true, true, true, true, false, false] hHeld ?_
                                        refine ta_ HT_ HW_ 8 (some 52) #[true, true, true, true, true, true, true, true, true, true, true, false, true, true, true, true, true, true, true, true, true, false, false] hHeld ?_
                                        refine ta_ HT_ HW_ 11 (some 55) #[true, true, true, true, true, true, true, true, true, true, true, true, true, true, true, true, true, true, true, true, true, false, false] hHeld ?_
                                        refine pu_ HT_ 21 (some 65) #[true, true, true, true, true, true, true, true, true, true, true, true, true, true, true, true, true, true, true, true, true, true, false] ?_
                                        refine on_ HT_ 22 none #[true, true, true, true, true, true, true, true, true, true, true, true, true, true, true, true, true, true, true, true, true, true, true] (fun K hK => ?_)
                                        have hs60 : w58.cell? ⟨gb172, 0, none⟩ = some (.int .i64 0) := (blk_cell BK172.out 0).trans rfl
                                        have hfs60 := blk_frozen BK172.out 0
                                        have hns60_0 := NB171_172.out
                                        have hms60_0 := NB172_171.out
                                        have hs61 : w58.cell? ⟨gb172, 1, none⟩ = some (.int .i64 0) := (blk_cell BK172.out 1).trans rfl
                                        have hfs61 := blk_frozen BK172.out 1
                                        have hns61_0 := NB171_172.out
                                        have hms61_0 := NB172_171.out
                                        have hs62 : w58.cell? ⟨gb172, 2, none⟩ = some (.int .i64 0) := (blk_cell BK172.out 2).trans rfl
                                        have hfs62 := blk_frozen BK172.out 2
                                        have hns62_0 := NB171_172.out
                                        have hms62_0 := NB172_171.out
                                        have hs63 : w58.cell? ⟨gb172, 3, none⟩ = some (.int .i64 0) := (blk_cell BK172.out 3).trans rfl
                                        have hfs63 := blk_frozen BK172.out 3
                                        have hns63_0 := NB171_172.out
                                        have hms63_0 := NB172_171.out
                                        have hs64 : w58.cell? ⟨gb172, 4, none⟩ = some (.string (⟨#[]⟩ : ByteArray)) := (blk_cell BK172.out 4).trans rfl
                                        have hfs64 := blk_frozen BK172.out 4
                                        have hns64_0 := NB171_172.out
                                        have hms64_0 := NB172_171.out
                                        have hs65 : w58.cell? ⟨gb172, 5, none⟩ = some (.string (⟨#[]⟩ : ByteArray)) := (blk_cell BK172.out 5).trans rfl
                                        have hfs65 := blk_frozen BK172.out 5
                                        have hns65_0 := NB171_172.out
                                        have hms65_0 := NB172_171.out
                                        refine sk_ ?_
                                        have far0_ := Kd.own_blk (Kd.R_ne HO_5.out BK172.out (by decide))
                                        refine hK.out _ _ ⟨(by (rw [cell_far, cell_far, cell_far, cell_far, cell_far, cell_far]) <;> first | exact hHeld.1 | exact far0_), (by (rw [cell_far, cell_far, cell_far, cell_far, cell_far, cell_far]) <;> first | exact hHeld.2.1 | exact far0_), (by (rw [cell_far, cell_far, cell_far, cell_far, cell_far, cell_far]) <;> first | exact hHeld.2.2.1 | exact far0_), (by (rw [cell_far, cell_far, cell_far, cell_far, cell_far, cell_far]) <;> first | exact hHeld.2.2.2 | exact far0_)⟩ (fun hHeld => ?_)
                                        clear hK K
                                        refine dn_ HT_ ?_
                                        try go_wp2
                                        have n0_ : Aside0 (Kd.R (Kd.int .i64) 2 ((((((w58.setCell ⟨gb172, 0, none⟩ (.int .i64 (rd x5_2 0))).setCell ⟨gb172, 1, none⟩ (.int .i64 (rd x5_2 1))).setCell ⟨gb172, 2, none⟩ (.int .i64 (rd x5_2 2))).setCell ⟨gb172, 3, none⟩ (.int .i64 (rd x5_2 3))).setCell ⟨gb172, 4, none⟩ (.string (a0.extract (x6_2 : Int).toNat ((ji51) : Int).toNat))).setCell ⟨gb172, 5, none⟩ (.string (a0.extract ((ji46) : Int).toNat a0.size))) w.heap.size (fun _ => True) (.slice (some ad183) x5_2.length co59) x5_2) := ⟨by (with_reducible repeat (first | apply Kd.R_alloc | apply Kd.R_drewN | apply Kd.R_drew)); exact Kd.R_mono (Kd.R_far (p := ⟨gb172, 5, none⟩) (Kd.R_far (p := ⟨gb172, 4, none⟩) (Kd.R_far (p := ⟨gb172, 3, none⟩) (Kd.R_far (p := ⟨gb172, 2, none⟩) (Kd.R_far (p := ⟨gb172, 1, none⟩) (Kd.R_far (p := ⟨gb172, 0, none⟩) (Kd.R_types HO_5.out BK172.out (by decide)) (fun _ hk => hk.2) (.int .i64 (rd x5_2 0))) (fun _ hk => hk.2) (.int .i64 (rd x5_2 1))) (fun _ hk => hk.2) (.int .i64 (rd x5_2 2))) (fun _ hk => hk.2) (.int .i64 (rd x5_2 3))) (fun _ hk => hk.2) (.string (a0.extract (x6_2 : Int).toNat ((ji51) : Int).toNat))) (fun _ hk => hk.2) (.string (a0.extract ((ji46) : Int).toNat a0.size))) (fun _ hk => trivial)⟩
                                        have n1_ : Aside0 (((((((w58.setCell ⟨gb172, 0, none⟩ (.int .i64 (rd x5_2 0))).setCell ⟨gb172, 1, none⟩ (.int .i64 (rd x5_2 1))).setCell ⟨gb172, 2, none⟩ (.int .i64 (rd x5_2 2))).setCell ⟨gb172, 3, none⟩ (.int .i64 (rd x5_2 3))).setCell ⟨gb172, 4, none⟩ (.string (a0.extract (x6_2 : Int).toNat ((ji51) : Int).toNat))).setCell ⟨gb172, 5, none⟩ (.string (a0.extract ((ji46) : Int).toNat a0.size))).heap[gb171]? = some (.cells #[.int .i64 x172000_2, .int .i64 x172001_2, .int .i64 x172002_2, .int .i64 x172003_2, .string x172004_2, .string x172005_2] 28 (0, 0))) := ⟨bka_⟩
                                        have n2_ : Aside0 (((((((w58.setCell ⟨gb172, 0, none⟩ (.int .i64 (rd x5_2 0))).setCell ⟨gb172, 1, none⟩ (.int .i64 (rd x5_2 1))).setCell ⟨gb172, 2, none⟩ (.int .i64 (rd x5_2 2))).setCell ⟨gb172, 3, none⟩ (.int .i64 (rd x5_2 3))).setCell ⟨gb172, 4, none⟩ (.string (a0.extract (x6_2 : Int).toNat ((ji51) : Int).toNat))).setCell ⟨gb172, 5, none⟩ (.string (a0.extract ((ji46) : Int).toNat a0.size))).heap[gb172]? = some (.cells #[.int .i64 (rd x5_2 0), .int .i64 (rd x5_2 1), .int .i64 (rd x5_2 2), .int .i64 (rd x5_2 3), .string (a0.extract (x6_2 : Int).toNat ((ji51) : Int).toNat), .string (a0.extract ((ji46) : Int).toNat a0.size)] 28 (0, 0))) := ⟨bka_⟩
                                        have n3_ : Aside0 (Below w.heap.size w ((((((w58.setCell ⟨gb172, 0, none⟩ (.int .i64 (rd x5_2 0))).setCell ⟨gb172, 1, none⟩ (.int .i64 (rd x5_2 1))).setCell ⟨gb172, 2, none⟩ (.int .i64 (rd x5_2 2))).setCell ⟨gb172, 3, none⟩ (.int .i64 (rd x5_2 3))).setCell ⟨gb172, 4, none⟩ (.string (a0.extract (x6_2 : Int).toNat ((ji51) : Int).toNat))).setCell ⟨gb172, 5, none⟩ (.string (a0.extract ((ji46) : Int).toNat a0.size)))) := ⟨bel_⟩
                                        (try clear HO_5)
                                        (try clear BK171)
                                        (try clear BK172)
                                        (try clear HB)
                                        generalize ((((((w58.setCell ⟨gb172, 0, none⟩ (.int .i64 (rd x5_2 0))).setCell ⟨gb172, 1, none⟩ (.int .i64 (rd x5_2 1))).setCell ⟨gb172, 2, none⟩ (.int .i64 (rd x5_2 2))).setCell ⟨gb172, 3, none⟩ (.int .i64 (rd x5_2 3))).setCell ⟨gb172, 4, none⟩ (.string (a0.extract (x6_2 : Int).toNat ((ji51) : Int).toNat))).setCell ⟨gb172, 5, none⟩ (.string (a0.extract ((ji46) : Int).toNat a0.size))) = w66 at n0_ n1_ n2_ n3_ ⊢
                                        have HO_5 := n0_
                                        have BK171 := n1_
                                        have BK172 := n2_
                                        have HB := n3_
                                        clear n0_ n1_ n2_ n3_
                                        replace HO_5 := AM (Kd.R_drew HO_5.out)
                                        replace BK171 := AM (blk_drew BK171.out)
                                        replace BK172 := AM (blk_drew BK172.out)
                                        replace HB := AM (below_drew1 HB.out)
                                        refine start_ (n := 21) (S := fun w' => w'.cell? ⟨gb172, 0, none⟩ = some (.int .i64 (rd x5_2 0)) ∧ w'.cell? ⟨gb172, 1, none⟩ = some (.int .i64 (rd x5_2 1)) ∧ w'.cell? ⟨gb172, 2, none⟩ = some (.int .i64 (rd x5_2 2)) ∧ w'.cell? ⟨gb172, 3, none⟩ = some (.int .i64 (rd x5_2 3)) ∧ w'.cell? ⟨gb172, 4, none⟩ = some (.string (a0.extract (x6_2 : Int).toNat ((ji51) : Int).toNat)) ∧ w'.cell? ⟨gb172, 5, none⟩ = some (.string (a0.extract ((ji46) : Int).toNat a0.size))) (ds := []) #[false, false, false, false, false, false, false, false, false, false, false, false, false, false, false, false, false, false, false, false, false] (by kernel_rfl) rfl rfl ⟨(blk_cell BK172.out 0).trans rfl, (blk_cell BK172.out 1).trans rfl, (blk_cell BK172.out 2).trans rfl, (blk_cell BK172.out 3).trans rfl, (blk_cell BK172.out 4).trans rfl, (blk_cell BK172.out 5).trans rfl⟩ (fun hHeld => ?_); refine with_tabW spec_l09Frame.tab17 spec_l09Frame.bits17 (fun HT_ HW_ => ?_)
                                        generalize w66.drew = w67 at HO_5 BK171 BK172 HB hHeld ⊢
                                        refine ta_ HT_ HW_ 0 (some 66) #[true, false, false, false, false, false, false, false, false, false, false, false, false, false, false, false, false, false, false, false, false] hHeld ?_
                                        refine ta_ HT_ HW_ 1 (some 67) #[true, true, false, false, false, false, false, false, false, false, false, false, false, false, false, false, false, false, false, false, false] hHeld ?_
                                        refine on_ HT_ 2 (some 68) #[true, true, true, false, false, false, false, false, false, false, false, false, false, false, false, false, false, false, false, false, false] (fun K hK => ?_)
                                        refine goes_ Tryd.func50 (by kernel_rfl) rfl #[.agg #[.int .i64 (rd x5_2 0), .int .i64 (rd x5_2 1), .int .i64 (rd x5_2 2), .int .i64 (rd x5_2 3), .string (a0.extract (x6_2 : Int).toNat ((ji51) : Int).toNat), .string (a0.extract ((ji46) : Int).toNat a0.size)]] (by rfl) rfl rfl (by (try simp only [List.map_toArray, List.map_cons, List.map_nil]); first | done | (simp only [hji46, hji51]; rfl) | rfl | (simp only [List.length_drop, List.length_take]; rfl)) ?_
                                        with_reducible refine (spec_FrameRight.calls (rd x5_2 0) (rd x5_2 1) (rd x5_2 2) (rd x5_2 3) (a0.extract (x6_2 : Int).toNat ((ji51) : Int).toNat) (a0.extract ((ji46) : Int).toNat a0.size) true _ A49.out).mono ?_
                                        rintro e w68 ⟨rfl, hb⟩
                                        refine ⟨_, rfl, ?_⟩
                                        replace HO_5 := AM (Kd.R_below (ro_ HO_5.out) hb)
                                        replace BK171 := AM (blk_below (g := gb171) (o := .cells #[.int .i64 x172000_2, .int .i64 x172001_2, .int .i64 x172002_2, .int .i64 x172003_2, .string x172004_2, .string x172005_2] 28 (0, 0)) (bk_ BK171.out) hb)
                                        replace BK172 := AM (blk_below (g := gb172) (o := .cells #[.int .i64 (rd x5_2 0), .int .i64 (rd x5_2 1), .int .i64 (rd x5_2 2), .int .i64 (rd x5_2 3), .string (a0.extract (x6_2 : Int).toNat ((ji51) : Int).toNat), .string (a0.extract ((ji46) : Int).toNat a0.size)] 28 (0, 0)) (bk_ BK172.out) hb)
                                        replace HB := AM (below_step bel_ hb)
                                        (try clear hb)
                                        (try clear hb2)
                                        (try clear hk)
                                        (try clear hi)
                                        refine hK.out _ _ ⟨(blk_cell BK172.out 0).trans rfl, (blk_cell BK172.out 1).trans rfl, (blk_cell BK172.out 2).trans rfl, (blk_cell BK172.out 3).trans rfl, (blk_cell BK172.out 4).trans rfl, (blk_cell BK172.out 5).trans rfl⟩ (fun hHeld => ?_)
                                        clear hK K
                                        refine nm_ ?_
                                        refine pu_ HT_ 3 (some 69) #[true, true, true, true, false, false, false, false, false, false, false, false, false, false, false, false, false, false, false, false, false] ?_
                                        refine pu_ HT_ 4 (some 70) #[true, true, true, true, true, false, false, false, false, false, false, false, false, false, false, false, false, false, false, false, false] ?_
                                        refine pu_ HT_ 5 (some 71) #[true, true, true, true, true, true, false, false, false, false, false, false, false, false, false, false, false, false, false, false, false] ?_
                                        refine pu_ HT_ 6 (some 72) #[true, true, true, true, true, true, true, false, false, false, false, false, false, false, false, false, false, false, false, false, false] ?_
                                        refine pu_ HT_ 7 (some 73) #[true, true, true, true, true, true, true, true, false, false, false, false, false, false, false, false, false, false, false, false, false] ?_
                                        refine pu_ HT_ 8 (some 74) #[true, true, true, true, true, true, true, true, true, false, false, false, false, false, false, false, false, false, false, false, false] ?_
                                        refine pu_ HT_ 11 (some 77) #[true, true, true, true, true, true, true, true, true, false, false, true, false, false, false, false, false, false, false, false, false] ?_
                                        refine pu_ HT_ 12 (some 78) #[true, true, true, true, true, true, true, true, true, false, false, true, true, false, false, false, false, false, false, false, false] ?_
                                        refine pu_ HT_ 13 (some 79) #[true, true, true, true, true, true, true, true, true, false, false, true, true, true, false, false, false, false, false, false, false] ?_
                                        refine pu_ HT_ 14 (some 80) #[true, true, true, true, true, true, true, true, true, false, false, true, true, true, true, false, false, false, false, false, false] ?_
                                        refine pu_ HT_ 15 (some 81) #[true, true, true, true, true, true, true, true, true, false, false, true, true, true, true, true, false, false, false, false, false] ?_
                                        refine pu_ HT_ 16 (some 82) #[true, true, true, true, true, true, true, true, true, false, false, true, true, true, true, true, true, false, false, false, false] ?_
                                        refine ta_ HT_ HW_ 9 (some 75) #[true, true, true, true, true, true, true, true, true, true, false, true, true, true, true, true, true, false, false, false, false] hHeld ?_
                                        refine on_ HT_ 10 (some 76) #[true, true, true, true, true, true, true, true, true, true, true, true, true, true, true, true, true, false, false, false, false] (fun K hK => ?_)
                                        refine goes_ Tryd.func52 (by kernel_rfl) rfl #[.string (a0.extract 0 ((ji51) : Int).toNat), .string (a0.extract ((ji46) : Int).toNat a0.size)] (by rfl) rfl rfl (by (try simp only [List.map_toArray, List.map_cons, List.map_nil]); first | done | (simp only [hji46, hji51]; rfl) | rfl | (simp only [List.length_drop, List.length_take]; rfl)) ?_
                                        with_reducible refine (spec_l09Digest.calls k2 (a0.extract 0 ((ji51) : Int).toNat) (a0.extract ((ji46) : Int).toNat a0.size) t188 _ A54.out).mono ?_
                                        rintro e w69 ⟨rfl, hb⟩
                                        refine ⟨_, rfl, ?_⟩
                                        replace HO_5 := AM (Kd.R_below (ro_ HO_5.out) hb)
                                        replace BK171 := AM (blk_below (g := gb171) (o := .cells #[.int .i64 x172000_2, .int .i64 x172001_2, .int .i64 x172002_2, .int .i64 x172003_2, .string x172004_2, .string x172005_2] 28 (0, 0)) (bk_ BK171.out) hb)
                                        replace BK172 := AM (blk_below (g := gb172) (o := .cells #[.int .i64 (rd x5_2 0), .int .i64 (rd x5_2 1), .int .i64 (rd x5_2 2), .int .i64 (rd x5_2 3), .string (a0.extract (x6_2 : Int).toNat ((ji51) : Int).toNat), .string (a0.extract ((ji46) : Int).toNat a0.size)] 28 (0, 0)) (bk_ BK172.out) hb)
                                        replace HB := AM (below_step bel_ hb)
                                        (try clear hb)
                                        (try clear hb2)
                                        (try clear hk)
                                        (try clear hi)
                                        refine hK.out _ _ ⟨(blk_cell BK172.out 0).trans rfl, (blk_cell BK172.out 1).trans rfl, (blk_cell BK172.out 2).trans rfl, (blk_cell BK172.out 3).trans rfl, (blk_cell BK172.out 4).trans rfl, (blk_cell BK172.out 5).trans rfl⟩ (fun hHeld => ?_)
                                        clear hK K
                                        refine nm_ ?_
                                        refine pu_ HT_ 17 (some 83) #[true, true, true, true, true, true, true, true, true, true, true, true, true, true, true, true, true, true, false, false, false] ?_
                                        refine pu_ HT_ 18 (some 84) #[true, true, true, true, true, true, true, true, true, true, true, true, true, true, true, true, true, true, true, false, false] ?_
                                        refine on_ HT_ 19 none #[true, true, true, true, true, true, true, true, true, true, true, true, true, true, true, true, true, true, true, true, false] (fun K hK => ?_)
                                        have hs70 : w69.cell? ⟨gb171, 0, none⟩ = some (.int .i64 x172000_2) := (blk_cell BK171.out 0).trans rfl
                                        have hfs70 := blk_frozen BK171.out 0
                                        have hns70_1 := NB172_171.out
                                        have hms70_1 := NB171_172.out
                                        have hs71 : w69.cell? ⟨gb171, 1, none⟩ = some (.int .i64 x172001_2) := (blk_cell BK171.out 1).trans rfl
                                        have hfs71 := blk_frozen BK171.out 1
                                        have hns71_1 := NB172_171.out
                                        have hms71_1 := NB171_172.out
                                        have hs72 : w69.cell? ⟨gb171, 2, none⟩ = some (.int .i64 x172002_2) := (blk_cell BK171.out 2).trans rfl
                                        have hfs72 := blk_frozen BK171.out 2
                                        have hns72_1 := NB172_171.out
                                        have hms72_1 := NB171_172.out
                                        have hs73 : w69.cell? ⟨gb171, 3, none⟩ = some (.int .i64 x172003_2) := (blk_cell BK171.out 3).trans rfl
                                        have hfs73 := blk_frozen BK171.out 3
                                        have hns73_1 := NB172_171.out
                                        have hms73_1 := NB171_172.out
                                        have hs74 : w69.cell? ⟨gb171, 4, none⟩ = some (.string x172004_2) := (blk_cell BK171.out 4).trans rfl
                                        have hfs74 := blk_frozen BK171.out 4
                                        have hns74_1 := NB172_171.out
                                        have hms74_1 := NB171_172.out
                                        have hs75 : w69.cell? ⟨gb171, 5, none⟩ = some (.string x172005_2) := (blk_cell BK171.out 5).trans rfl
                                        have hfs75 := blk_frozen BK171.out 5
                                        have hns75_1 := NB172_171.out
                                        have hms75_1 := NB171_172.out
                                        refine sk_ ?_
                                        refine hK.out _ _ ⟨(by (rw [cell_far, cell_far, cell_far, cell_far, cell_far, cell_far]) <;> first | exact hHeld.1 | exact NB172_171.out), (by (rw [cell_far, cell_far, cell_far, cell_far, cell_far, cell_far]) <;> first | exact hHeld.2.1 | exact NB172_171.out), (by (rw [cell_far, cell_far, cell_far, cell_far, cell_far, cell_far]) <;> first | exact hHeld.2.2.1 | exact NB172_171.out), (by (rw [cell_far, cell_far, cell_far, cell_far, cell_far, cell_far]) <;> first | exact hHeld.2.2.2.1 | exact NB172_171.out), (by (rw [cell_far, cell_far, cell_far, cell_far, cell_far, cell_far]) <;> first | exact hHeld.2.2.2.2.1 | exact NB172_171.out), (by (rw [cell_far, cell_far, cell_far, cell_far, cell_far, cell_far]) <;> first | exact hHeld.2.2.2.2.2 | exact NB172_171.out)⟩ (fun hHeld => ?_)
                                        clear hK K
                                        refine pu_ HT_ 20 (some 3) #[true, true, true, true, true, true, true, true, true, true, true, true, true, true, true, true, true, true, true, true, true] ?_
                                        refine dn_ HT_ ?_
                                        try go_wp2
                                        refine bodyPost_ret (results_ct rfl _ _ gb171 28 #[.int .i64 (rd x5_2 0), .int .i64 (rd x5_2 1), .int .i64 (rd x5_2 2), .int .i64 (rd x5_2 3), .string (a0.extract (x6_2 : Int).toNat ((ji51) : Int).toNat), .string (a0.extract ((ji46) : Int).toNat a0.size)] (0, 0) _ rfl bka_ Tryd.underlying28 rfl (by kernel_rfl)) rfl ?_
                                        exact ⟨by first | rfl | (simp [errW_none, errW_some] <;> rfl) | (simp only [← hji46, ← hji51]; first | rfl | (simp [errW_none, errW_some] <;> rfl)) | (simp [*, errW_none, errW_some] <;> rfl), bel_⟩
                                      · rw [if_neg c56] at H
                                        exact absurd H (by simp)
                                    · rw [if_neg c52] at H
                                      exact absurd H (by simp)
                                  · replace c50 := Bool.eq_false_iff.mpr c50
                                    subst c50
                                    rw [if_neg (show ¬ (false = true) by decide)] at H
                                    simp only [Option.some.injEq, Prod.mk.injEq] at H
                                    obtain ⟨rfl, rfl, rfl, rfl, rfl, rfl, rfl⟩ := H
                                    try go_wp2
                                    replace HO_5 := AM (Kd.R_drew HO_5.out)
                                    replace BK171 := AM (blk_drew BK171.out)
                                    replace BK172 := AM (blk_drew BK172.out)
                                    replace HB := AM (below_drew1 HB.out)
                                    obtain ⟨Ao77, co77, eo77⟩ := Kd.R_slice HO_5.out
                                    (first | subst eo77 | (injection eo77 with f1_ f2_ f3_; have f4_ := f1_.symm; have f5_ := f3_.symm; clear f1_ f2_ f3_; subst f4_; subst f5_))
                                    have p183 : 0 ≤ (0 : Int) := (by omega)
                                    have q183 : 0 < (x5_2.length : Int) := of_decide_eq_true (by first | (with_reducible assumption) | assumption)
                                    obtain ⟨ad183, e183, hx183_0⟩ := Kd.at_int (Kd.R_reads' HO_5.out).2.2 0 p183 q183
                                    cases e183
                                    have qi183 : (0 < x5_2.length) = True := eq_true (by omega)
                                    (try rw [show ((0 : Int)).toNat = 0 from rfl] at hx183_0)
                                    (try rw [Addr.add_zero'] at hx183_0)
                                    replace p183 := eq_true p183
                                    replace q183 := eq_true q183
                                    have p184 : 0 ≤ (1 : Int) := (by omega)
                                    have q184 : 1 < (x5_2.length : Int) := of_decide_eq_true (by first | (with_reducible assumption) | assumption)
                                    obtain ⟨ad184, e184, hx184_0⟩ := Kd.at_int (Kd.R_reads' HO_5.out).2.2 1 p184 q184
                                    obtain rfl : ad183 = ad184 := (by injection e184)
                                    (try simp only [show (1 : Int).toNat = 1 from rfl, Nat.reduceMul, Nat.reduceEqDiff, Go.Addr.add, ↓reduceIte] at hx184_0)
                                    have qi184 : (1 < x5_2.length) = True := eq_true (by omega)
                                    (try rw [show ((1 : Int)).toNat = 1 from rfl] at hx184_0)
                                    replace p184 := eq_true p184
                                    replace q184 := eq_true q184
                                    have p185 : 0 ≤ (2 : Int) := (by omega)
                                    have q185 : 2 < (x5_2.length : Int) := of_decide_eq_true (by first | (with_reducible assumption) | assumption)
                                    obtain ⟨ad185, e185, hx185_0⟩ := Kd.at_int (Kd.R_reads' HO_5.out).2.2 2 p185 q185
                                    obtain rfl : ad183 = ad185 := (by injection e185)
                                    (try simp only [show (2 : Int).toNat = 2 from rfl, Nat.reduceMul, Nat.reduceEqDiff, Go.Addr.add, ↓reduceIte] at hx185_0)
                                    have qi185 : (2 < x5_2.length) = True := eq_true (by omega)
                                    (try rw [show ((2 : Int)).toNat = 2 from rfl] at hx185_0)
                                    replace p185 := eq_true p185
                                    replace q185 := eq_true q185
                                    have p186 : 0 ≤ (3 : Int) := (by omega)
                                    have q186 : 3 < (x5_2.length : Int) := of_decide_eq_true (by first | (with_reducible assumption) | assumption)
                                    obtain ⟨ad186, e186, hx186_0⟩ := Kd.at_int (Kd.R_reads' HO_5.out).2.2 3 p186 q186
                                    obtain rfl : ad183 = ad186 := (by injection e186)
                                    (try simp only [show (3 : Int).toNat = 3 from rfl, Nat.reduceMul, Nat.reduceEqDiff, Go.Addr.add, ↓reduceIte] at hx186_0)
                                    have qi186 : (3 < x5_2.length) = True := eq_true (by omega)
                                    (try rw [show ((3 : Int)).toNat = 3 from rfl] at hx186_0)
                                    replace p186 := eq_true p186
                                    replace q186 := eq_true q186
                                    refine start_ (n := 23) (S := fun w' => w'.cell? ad183 = some (.int .i64 (rd x5_2 0)) ∧ w'.cell? ⟨ad183.block, ad183.off + 1, none⟩ = some (.int .i64 (rd x5_2 1)) ∧ w'.cell? ⟨ad183.block, ad183.off + 2, none⟩ = some (.int .i64 (rd x5_2 2)) ∧ w'.cell? ⟨ad183.block, ad183.off + 3, none⟩ = some (.int .i64 (rd x5_2 3))) (ds := []) #[false, false, false, false, false, false, false, false, false, false, false, false, false, false, false, false, false, false, false, false, false, false, false] (by kernel_rfl) rfl rfl ⟨hx183_0, hx184_0, hx185_0, hx186_0⟩ (fun hHeld => ?_); refine with_tabW spec_l09Frame.tab16 spec_l09Frame.bits16 (fun HT_ HW_ => ?_)
                                    generalize wr.drew = w76 at HO_5 BK171 BK172 HB hx183_0 hx184_0 hx185_0 hx186_0 hHeld ⊢
                                    refine pu_ HT_ 0 (some 44) #[true, false, false, false, false, false, false, false, false, false, false, false, false, false, false, false, false, false, false, false, false, false, false] ?_
                                    refine pu_ HT_ 1 (some 45) #[true, true, false, false, false, false, false, false, false, false, false, false, false, false, false, false, false, false, false, false, false, false, false] ?_
                                    refine pu_ HT_ 3 (some 47) #[true, true, false, true, false, false, false, false, false, false, false, false, false, false, false, false, false, false, false, false, false, false, false] ?_
                                    refine pu_ HT_ 4 (some 48) #[true, true, false, true, true, false, false, false, false, false, false, false, false, false, false, false, false, false, false, false, false, false, false] ?_
                                    refine pu_ HT_ 6 (some 50) #[true, true, false, true, true, false, true, false, false, false, false, false, false, false, false, false, false, false, false, false, false, false, false] ?_
                                    refine pu_ HT_ 7 (some 51) #[true, true, false, true, true, false, true, true, false, false, false, false, false, false, false, false, false, false, false, false, false, false, false] ?_
                                    refine pu_ HT_ 9 (some 53) #[true, true, false, true, true, false, true, true, false, true, false, false, false, false, false, false, false, false, false, false, false, false, false] ?_
                                    refine pu_ HT_ 10 (some 54) #[true, true, false, true, true, false, true, true, false, true, true, false, false, false, false, false, false, false, false, false, false, false, false] ?_
                                    refine pu_ HT_ 12 (some 56) #[true, true, false, true, true, false, true, true, false, true, true, false, true, false, false, false, false, false, false, false, false, false, false] ?_
                                    refine pu_ HT_ 13 (some 57) #[true, true, false, true, true, false, true, true, false, true, true, false, true, true, false, false, false, false, false, false, false, false, false] ?_
                                    refine pu_ HT_ 14 (some 58) #[true, true, false, true, true, false, true, true, false, true, true, false, true, true, true, false, false, false, false, false, false, false, false] ?_
                                    refine pu_ HT_ 15 (some 59) #[true, true, false, true, true, false, true, true, false, true, true, false, true, true, true, true, false, false, false, false, false, false, false] ?_
                                    refine pu_ HT_ 16 (some 60) #[true, true, false, true, true, false, true, true, false, true, true, false, true, true, true, true, true, false, false, false, false, false, false] ?_
                                    refine pu_ HT_ 17 (some 61) #[true, true, false, true, true, false, true, true, false, true, true, false, true, true, true, true, true, true, false, false, false, false, false] ?_
                                    refine pu_ HT_ 18 (some 62) #[true, true, false, true, true, false, true, true, false, true, true, false, true, true, true, true, true, true, true, false, false, false, false] ?_
                                    refine pu_ HT_ 19 (some 63) #[true, true, false, true, true, false, true, true, false, true, true, false, true, true, true, true, true, true, true, true, false, false, false] ?_
                                    refine pu_ HT_ 20 (some 64) #[true, true, false, true, true, false, true, true, false, true, true, false, true, true, true, true, true, true, true, true, true, false, false] ?_
                                    refine ta_ HT_ HW_ 2 (some 46) #[true, true, true, true, true, false, true, true, false, true, true, false, true, true, true, true, true, true, true, true, true, false, false] hHeld ?_
                                    refine ta_ HT_ HW_ 5 (some 49) #[true, true, true, true, true, true, true, true, false, true, true, false, true, true, true, true, true, true, true, true, true, false, false] hHeld ?_
                                    refine ta_ HT_ HW_ 8 (some 52) #[true, true, true, true, true, true, true, true, true, true, true, false, true, true, true, true, true, true, true, true, true, false, false] hHeld ?_
                                    refine ta_ HT_ HW_ 11 (some 55) #[true, true, true, true, true, true, true, true, true, true, true, true, true, true, true, true, true, true, true, true, true, false, false] hHeld ?_
                                    refine pu_ HT_ 21 (some 65) #[true, true, true, true, true, true, true, true, true, true, true, true, true, true, true, true, true, true, true, true, true, true, false] ?_
                                    refine on_ HT_ 22 none #[true, true, true, true, true, true, true, true, true, true, true, true, true, true, true, true, true, true, true, true, true, true, true] (fun K hK => ?_)
                                    have hs78 : w76.cell? ⟨gb172, 0, none⟩ = some (.int .i64 0) := (blk_cell BK172.out 0).trans rfl
                                    have hfs78 := blk_frozen BK172.out 0
                                    have hns78_0 := NB171_172.out
                                    have hms78_0 := NB172_171.out
                                    have hs79 : w76.cell? ⟨gb172, 1, none⟩ = some (.int .i64 0) := (blk_cell BK172.out 1).trans rfl
                                    have hfs79 := blk_frozen BK172.out 1
                                    have hns79_0 := NB171_172.out
                                    have hms79_0 := NB172_171.out
                                    have hs80 : w76.cell? ⟨gb172, 2, none⟩ = some (.int .i64 0) := (blk_cell BK172.out 2).trans rfl
                                    have hfs80 := blk_frozen BK172.out 2
                                    have hns80_0 := NB171_172.out
                                    have hms80_0 := NB172_171.out
                                    have hs81 : w76.cell? ⟨gb172, 3, none⟩ = some (.int .i64 0) := (blk_cell BK172.out 3).trans rfl
                                    have hfs81 := blk_frozen BK172.out 3
                                    have hns81_0 := NB171_172.out
                                    have hms81_0 := NB172_171.out
                                    have hs82 : w76.cell? ⟨gb172, 4, none⟩ = some (.string (⟨#[]⟩ : ByteArray)) := (blk_cell BK172.out 4).trans rfl
                                    have hfs82 := blk_frozen BK172.out 4
                                    have hns82_0 := NB171_172.out
                                    have hms82_0 := NB172_171.out
                                    have hs83 : w76.cell? ⟨gb172, 5, none⟩ = some (.string (⟨#[]⟩ : ByteArray)) := (blk_cell BK172.out 5).trans rfl
                                    have hfs83 := blk_frozen BK172.out 5
                                    have hns83_0 := NB171_172.out
                                    have hms83_0 := NB172_171.out
                                    refine sk_ ?_
                                    have far0_ := Kd.own_blk (Kd.R_ne HO_5.out BK172.out (by decide))
                                    refine hK.out _ _ ⟨(by (rw [cell_far, cell_far, cell_far, cell_far, cell_far, cell_far]) <;> first | exact hHeld.1 | exact far0_), (by (rw [cell_far, cell_far, cell_far, cell_far, cell_far, cell_far]) <;> first | exact hHeld.2.1 | exact far0_), (by (rw [cell_far, cell_far, cell_far, cell_far, cell_far, cell_far]) <;> first | exact hHeld.2.2.1 | exact far0_), (by (rw [cell_far, cell_far, cell_far, cell_far, cell_far, cell_far]) <;> first | exact hHeld.2.2.2 | exact far0_)⟩ (fun hHeld => ?_)
                                    clear hK K
                                    refine dn_ HT_ ?_
                                    try go_wp2
                                    have n0_ : Aside0 (Kd.R (Kd.int .i64) 2 ((((((w76.setCell ⟨gb172, 0, none⟩ (.int .i64 (rd x5_2 0))).setCell ⟨gb172, 1, none⟩ (.int .i64 (rd x5_2 1))).setCell ⟨gb172, 2, none⟩ (.int .i64 (rd x5_2 2))).setCell ⟨gb172, 3, none⟩ (.int .i64 (rd x5_2 3))).setCell ⟨gb172, 4, none⟩ (.string (a0.extract (x6_2 : Int).toNat ((wrap64 (x6_2 + 32)) : Int).toNat))).setCell ⟨gb172, 5, none⟩ (.string (a0.extract ((ji46) : Int).toNat a0.size))) w.heap.size (fun _ => True) (.slice (some ad183) x5_2.length co77) x5_2) := ⟨by (with_reducible repeat (first | apply Kd.R_alloc | apply Kd.R_drewN | apply Kd.R_drew)); exact Kd.R_mono (Kd.R_far (p := ⟨gb172, 5, none⟩) (Kd.R_far (p := ⟨gb172, 4, none⟩) (Kd.R_far (p := ⟨gb172, 3, none⟩) (Kd.R_far (p := ⟨gb172, 2, none⟩) (Kd.R_far (p := ⟨gb172, 1, none⟩) (Kd.R_far (p := ⟨gb172, 0, none⟩) (Kd.R_types HO_5.out BK172.out (by decide)) (fun _ hk => hk.2) (.int .i64 (rd x5_2 0))) (fun _ hk => hk.2) (.int .i64 (rd x5_2 1))) (fun _ hk => hk.2) (.int .i64 (rd x5_2 2))) (fun _ hk => hk.2) (.int .i64 (rd x5_2 3))) (fun _ hk => hk.2) (.string (a0.extract (x6_2 : Int).toNat ((wrap64 (x6_2 + 32)) : Int).toNat))) (fun _ hk => hk.2) (.string (a0.extract ((ji46) : Int).toNat a0.size))) (fun _ hk => trivial)⟩
                                    have n1_ : Aside0 (((((((w76.setCell ⟨gb172, 0, none⟩ (.int .i64 (rd x5_2 0))).setCell ⟨gb172, 1, none⟩ (.int .i64 (rd x5_2 1))).setCell ⟨gb172, 2, none⟩ (.int .i64 (rd x5_2 2))).setCell ⟨gb172, 3, none⟩ (.int .i64 (rd x5_2 3))).setCell ⟨gb172, 4, none⟩ (.string (a0.extract (x6_2 : Int).toNat ((wrap64 (x6_2 + 32)) : Int).toNat))).setCell ⟨gb172, 5, none⟩ (.string (a0.extract ((ji46) : Int).toNat a0.size))).heap[gb171]? = some (.cells #[.int .i64 x172000_2, .int .i64 x172001_2, .int .i64 x172002_2, .int .i64 x172003_2, .string x172004_2, .string x172005_2] 28 (0, 0))) := ⟨bka_⟩
                                    have n2_ : Aside0 (((((((w76.setCell ⟨gb172, 0, none⟩ (.int .i64 (rd x5_2 0))).setCell ⟨gb172, 1, none⟩ (.int .i64 (rd x5_2 1))).setCell ⟨gb172, 2, none⟩ (.int .i64 (rd x5_2 2))).setCell ⟨gb172, 3, none⟩ (.int .i64 (rd x5_2 3))).setCell ⟨gb172, 4, none⟩ (.string (a0.extract (x6_2 : Int).toNat ((wrap64 (x6_2 + 32)) : Int).toNat))).setCell ⟨gb172, 5, none⟩ (.string (a0.extract ((ji46) : Int).toNat a0.size))).heap[gb172]? = some (.cells #[.int .i64 (rd x5_2 0), .int .i64 (rd x5_2 1), .int .i64 (rd x5_2 2), .int .i64 (rd x5_2 3), .string (a0.extract (x6_2 : Int).toNat ((wrap64 (x6_2 + 32)) : Int).toNat), .string (a0.extract ((ji46) : Int).toNat a0.size)] 28 (0, 0))) := ⟨bka_⟩
                                    have n3_ : Aside0 (Below w.heap.size w ((((((w76.setCell ⟨gb172, 0, none⟩ (.int .i64 (rd x5_2 0))).setCell ⟨gb172, 1, none⟩ (.int .i64 (rd x5_2 1))).setCell ⟨gb172, 2, none⟩ (.int .i64 (rd x5_2 2))).setCell ⟨gb172, 3, none⟩ (.int .i64 (rd x5_2 3))).setCell ⟨gb172, 4, none⟩ (.string (a0.extract (x6_2 : Int).toNat ((wrap64 (x6_2 + 32)) : Int).toNat))).setCell ⟨gb172, 5, none⟩ (.string (a0.extract ((ji46) : Int).toNat a0.size)))) := ⟨bel_⟩
                                    (try clear HO_5)
                                    (try clear BK171)
                                    (try clear BK172)
                                    (try clear HB)
                                    generalize ((((((w76.setCell ⟨gb172, 0, none⟩ (.int .i64 (rd x5_2 0))).setCell ⟨gb172, 1, none⟩ (.int .i64 (rd x5_2 1))).setCell ⟨gb172, 2, none⟩ (.int .i64 (rd x5_2 2))).setCell ⟨gb172, 3, none⟩ (.int .i64 (rd x5_2 3))).setCell ⟨gb172, 4, none⟩ (.string (a0.extract (x6_2 : Int).toNat ((wrap64 (x6_2 + 32)) : Int).toNat))).setCell ⟨gb172, 5, none⟩ (.string (a0.extract ((ji46) : Int).toNat a0.size))) = w84 at n0_ n1_ n2_ n3_ ⊢
                                    have HO_5 := n0_
                                    have BK171 := n1_
                                    have BK172 := n2_
                                    have HB := n3_
                                    clear n0_ n1_ n2_ n3_
                                    replace HO_5 := AM (Kd.R_drew HO_5.out)
                                    replace BK171 := AM (blk_drew BK171.out)
                                    replace BK172 := AM (blk_drew BK172.out)
                                    replace HB := AM (below_drew1 HB.out)
                                    refine start_ (n := 21) (S := fun w' => w'.cell? ⟨gb172, 0, none⟩ = some (.int .i64 (rd x5_2 0)) ∧ w'.cell? ⟨gb172, 1, none⟩ = some (.int .i64 (rd x5_2 1)) ∧ w'.cell? ⟨gb172, 2, none⟩ = some (.int .i64 (rd x5_2 2)) ∧ w'.cell? ⟨gb172, 3, none⟩ = some (.int .i64 (rd x5_2 3)) ∧ w'.cell? ⟨gb172, 4, none⟩ = some (.string (a0.extract (x6_2 : Int).toNat ((wrap64 (x6_2 + 32)) : Int).toNat)) ∧ w'.cell? ⟨gb172, 5, none⟩ = some (.string (a0.extract ((ji46) : Int).toNat a0.size))) (ds := []) #[false, false, false, false, false, false, false, false, false, false, false, false, false, false, false, false, false, false, false, false, false] (by kernel_rfl) rfl rfl ⟨(blk_cell BK172.out 0).trans rfl, (blk_cell BK172.out 1).trans rfl, (blk_cell BK172.out 2).trans rfl, (blk_cell BK172.out 3).trans rfl, (blk_cell BK172.out 4).trans rfl, (blk_cell BK172.out 5).trans rfl⟩ (fun hHeld => ?_); refine with_tabW spec_l09Frame.tab17 spec_l09Frame.bits17 (fun HT_ HW_ => ?_)
                                    generalize w84.drew = w85 at HO_5 BK171 BK172 HB hHeld ⊢
                                    refine ta_ HT_ HW_ 0 (some 66) #[true, false, false, false, false, false, false, false, false, false, false, false, false, false, false, false, false, false, false, false, false] hHeld ?_
                                    refine ta_ HT_ HW_ 1 (some 67) #[true, true, false, false, false, false, false, false, false, false, false, false, false, false, false, false, false, false, false, false, false] hHeld ?_
                                    refine on_ HT_ 2 (some 68) #[true, true, true, false, false, false, false, false, false, false, false, false, false, false, false, false, false, false, false, false, false] (fun K hK => ?_)
                                    refine goes_ Tryd.func50 (by kernel_rfl) rfl #[.agg #[.int .i64 (rd x5_2 0), .int .i64 (rd x5_2 1), .int .i64 (rd x5_2 2), .int .i64 (rd x5_2 3), .string (a0.extract (x6_2 : Int).toNat ((wrap64 (x6_2 + 32)) : Int).toNat), .string (a0.extract ((ji46) : Int).toNat a0.size)]] (by rfl) rfl rfl (by (try simp only [List.map_toArray, List.map_cons, List.map_nil]); first | done | (simp only [hji46]; rfl) | rfl | (simp only [List.length_drop, List.length_take]; rfl)) ?_
                                    with_reducible refine (spec_FrameRight.calls (rd x5_2 0) (rd x5_2 1) (rd x5_2 2) (rd x5_2 3) (a0.extract (x6_2 : Int).toNat ((wrap64 (x6_2 + 32)) : Int).toNat) (a0.extract ((ji46) : Int).toNat a0.size) false _ A49.out).mono ?_
                                    rintro e w86 ⟨rfl, hb⟩
                                    refine ⟨_, rfl, ?_⟩
                                    replace HO_5 := AM (Kd.R_below (ro_ HO_5.out) hb)
                                    replace BK171 := AM (blk_below (g := gb171) (o := .cells #[.int .i64 x172000_2, .int .i64 x172001_2, .int .i64 x172002_2, .int .i64 x172003_2, .string x172004_2, .string x172005_2] 28 (0, 0)) (bk_ BK171.out) hb)
                                    replace BK172 := AM (blk_below (g := gb172) (o := .cells #[.int .i64 (rd x5_2 0), .int .i64 (rd x5_2 1), .int .i64 (rd x5_2 2), .int .i64 (rd x5_2 3), .string (a0.extract (x6_2 : Int).toNat ((wrap64 (x6_2 + 32)) : Int).toNat), .string (a0.extract ((ji46) : Int).toNat a0.size)] 28 (0, 0)) (bk_ BK172.out) hb)
                                    replace HB := AM (below_step bel_ hb)
                                    (try clear hb)
                                    (try clear hb2)
                                    (try clear hk)
                                    (try clear hi)
                                    refine hK.out _ _ ⟨(blk_cell BK172.out 0).trans rfl, (blk_cell BK172.out 1).trans rfl, (blk_cell BK172.out 2).trans rfl, (blk_cell BK172.out 3).trans rfl, (blk_cell BK172.out 4).trans rfl, (blk_cell BK172.out 5).trans rfl⟩ (fun hHeld => ?_)
                                    clear hK K
                                    refine nm_ ?_
                                    refine pu_ HT_ 3 (some 69) #[true, true, true, true, false, false, false, false, false, false, false, false, false, false, false, false, false, false, false, false, false] ?_
                                    refine pu_ HT_ 4 (some 70) #[true, true, true, true, true, false, false, false, false, false, false, false, false, false, false, false, false, false, false, false, false] ?_
                                    refine pu_ HT_ 5 (some 71) #[true, true, true, true, true, true, false, false, false, false, false, false, false, false, false, false, false, false, false, false, false] ?_
                                    refine pu_ HT_ 6 (some 72) #[true, true, true, true, true, true, true, false, false, false, false, false, false, false, false, false, false, false, false, false, false] ?_
                                    refine pu_ HT_ 7 (some 73) #[true, true, true, true, true, true, true, true, false, false, false, false, false, false, false, false, false, false, false, false, false] ?_
                                    refine pu_ HT_ 8 (some 74) #[true, true, true, true, true, true, true, true, true, false, false, false, false, false, false, false, false, false, false, false, false] ?_
                                    refine pu_ HT_ 9 (some 75) #[true, true, true, true, true, true, true, true, true, true, false, false, false, false, false, false, false, false, false, false, false] ?_
                                    refine pu_ HT_ 10 (some 76) #[true, true, true, true, true, true, true, true, true, true, true, false, false, false, false, false, false, false, false, false, false] ?_
                                    refine pu_ HT_ 11 (some 77) #[true, true, true, true, true, true, true, true, true, true, true, true, false, false, false, false, false, false, false, false, false] ?_
                                    refine pu_ HT_ 12 (some 78) #[true, true, true, true, true, true, true, true, true, true, true, true, true, false, false, false, false, false, false, false, false] ?_
                                    refine pu_ HT_ 13 (some 79) #[true, true, true, true, true, true, true, true, true, true, true, true, true, true, false, false, false, false, false, false, false] ?_
                                    refine pu_ HT_ 14 (some 80) #[true, true, true, true, true, true, true, true, true, true, true, true, true, true, true, false, false, false, false, false, false] ?_
                                    refine pu_ HT_ 15 (some 81) #[true, true, true, true, true, true, true, true, true, true, true, true, true, true, true, true, false, false, false, false, false] ?_
                                    refine pu_ HT_ 16 (some 82) #[true, true, true, true, true, true, true, true, true, true, true, true, true, true, true, true, true, false, false, false, false] ?_
                                    refine pu_ HT_ 17 (some 83) #[true, true, true, true, true, true, true, true, true, true, true, true, true, true, true, true, true, true, false, false, false] ?_
                                    refine pu_ HT_ 18 (some 84) #[true, true, true, true, true, true, true, true, true, true, true, true, true, true, true, true, true, true, true, false, false] ?_
                                    refine on_ HT_ 19 none #[true, true, true, true, true, true, true, true, true, true, true, true, true, true, true, true, true, true, true, true, false] (fun K hK => ?_)
                                    have hs87 : w86.cell? ⟨gb171, 0, none⟩ = some (.int .i64 x172000_2) := (blk_cell BK171.out 0).trans rfl
                                    have hfs87 := blk_frozen BK171.out 0
                                    have hns87_1 := NB172_171.out
                                    have hms87_1 := NB171_172.out
                                    have hs88 : w86.cell? ⟨gb171, 1, none⟩ = some (.int .i64 x172001_2) := (blk_cell BK171.out 1).trans rfl
                                    have hfs88 := blk_frozen BK171.out 1
                                    have hns88_1 := NB172_171.out
                                    have hms88_1 := NB171_172.out
                                    have hs89 : w86.cell? ⟨gb171, 2, none⟩ = some (.int .i64 x172002_2) := (blk_cell BK171.out 2).trans rfl
                                    have hfs89 := blk_frozen BK171.out 2
                                    have hns89_1 := NB172_171.out
                                    have hms89_1 := NB171_172.out
                                    have hs90 : w86.cell? ⟨gb171, 3, none⟩ = some (.int .i64 x172003_2) := (blk_cell BK171.out 3).trans rfl
                                    have hfs90 := blk_frozen BK171.out 3
                                    have hns90_1 := NB172_171.out
                                    have hms90_1 := NB171_172.out
                                    have hs91 : w86.cell? ⟨gb171, 4, none⟩ = some (.string x172004_2) := (blk_cell BK171.out 4).trans rfl
                                    have hfs91 := blk_frozen BK171.out 4
                                    have hns91_1 := NB172_171.out
                                    have hms91_1 := NB171_172.out
                                    have hs92 : w86.cell? ⟨gb171, 5, none⟩ = some (.string x172005_2) := (blk_cell BK171.out 5).trans rfl
                                    have hfs92 := blk_frozen BK171.out 5
                                    have hns92_1 := NB172_171.out
                                    have hms92_1 := NB171_172.out
                                    refine sk_ ?_
                                    refine hK.out _ _ ⟨(by (rw [cell_far, cell_far, cell_far, cell_far, cell_far, cell_far]) <;> first | exact hHeld.1 | exact NB172_171.out), (by (rw [cell_far, cell_far, cell_far, cell_far, cell_far, cell_far]) <;> first | exact hHeld.2.1 | exact NB172_171.out), (by (rw [cell_far, cell_far, cell_far, cell_far, cell_far, cell_far]) <;> first | exact hHeld.2.2.1 | exact NB172_171.out), (by (rw [cell_far, cell_far, cell_far, cell_far, cell_far, cell_far]) <;> first | exact hHeld.2.2.2.1 | exact NB172_171.out), (by (rw [cell_far, cell_far, cell_far, cell_far, cell_far, cell_far]) <;> first | exact hHeld.2.2.2.2.1 | exact NB172_171.out), (by (rw [cell_far, cell_far, cell_far, cell_far, cell_far, cell_far]) <;> first | exact hHeld.2.2.2.2.2 | exact NB172_171.out)⟩ (fun hHeld => ?_)
                                    clear hK K
                                    refine pu_ HT_ 20 (some 3) #[true, true, true, true, true, true, true, true, true, true, true, true, true, true, true, true, true, true, true, true, true] ?_
                                    refine dn_ HT_ ?_
                                    try go_wp2
                                    refine bodyPost_ret (results_ct rfl _ _ gb171 28 #[.int .i64 (rd x5_2 0), .int .i64 (rd x5_2 1), .int .i64 (rd x5_2 2), .int .i64 (rd x5_2 3), .string (a0.extract (x6_2 : Int).toNat ((wrap64 (x6_2 + 32)) : Int).toNat), .string (a0.extract ((ji46) : Int).toNat a0.size)] (0, 0) _ rfl bka_ Tryd.underlying28 rfl (by kernel_rfl)) rfl ?_
                                    exact ⟨by first | rfl | (simp [errW_none, errW_some] <;> rfl) | (simp only [← hji46]; first | rfl | (simp [errW_none, errW_some] <;> rfl)) | (simp [*, errW_none, errW_some] <;> rfl), bel_⟩
                                · rw [if_neg c48] at H
                                  exact absurd H (by simp)
                              · rw [if_neg c47] at H
                                exact absurd H (by simp)
                            · rw [if_neg c45] at H
                              exact absurd H (by simp)
                          · rw [if_neg c44] at H
                            exact absurd H (by simp)
                        · rw [if_neg c43] at H
                          exact absurd H (by simp)
                      · rw [if_neg c42] at H
                        exact absurd H (by simp)
                    · rw [if_neg c41] at H
                      exact absurd H (by simp)
                  · rw [if_neg c40] at H
                    exact absurd H (by simp)
                · rw [if_neg c39] at H
                  exact absurd H (by simp)

end Go.Proofs.YtddapeieolfolaaDoor.PFnExactFrameRead
