/- Functions of the law FnFrame: the print's, with walks of this session's own. No statement is proved here. -/
import Derived.WalkLawsBesides
import Derived.Test.YtddapeieolfolaaDoorVRegFnFrame
-- A program of this session wrote this text: a changed copy of the kit print, with given functions.
import Derived.Test.YtddapeieolfolaaDoorPFnFramex0
import Derived.Test.YtddapeieolfolaaDoorPFnFramex3
import Derived.Test.YtddapeieolfolaaDoorPFnFramex6
import Derived.Test.YtddapeieolfolaaDoorPFnFramex9
namespace Go.Proofs.YtddapeieolfolaaDoor.PFnFrame
open Go.RowKit Go.Proofs.YtddapeieolfolaaDoorW.PrintWords Go.Proofs.YtddapeieolfolaaDoorW.PrintLast Go.Proofs.YtddapeieolfolaaDoorW.PrintMore Go.Proofs.YtddapeieolfolaaDoor.Reg Go.Proofs.YtddapeieolfolaaDoor.Aut
attribute [local go_sem] max2_int min2_int max_two min_two max_three min_three max_four min_four   -- for this text's walks alone
set_option linter.unusedVariables false
set_option linter.unusedSimpArgs false

/-! ### spec_l09Frame: function 80 -/
mutual
def spec_l09Frame.j0 : Nat → ByteArray → Bool → Int → Int → Int → Int → ByteArray → ByteArray → Option (Int × Int × Int × Int × ByteArray × ByteArray × Bool)
  | 0, _, _, _, _, _, _, _, _ => none
  | k + 1, x0, x17, x224000, x224001, x224002, x224003, x224004, x224005 => if x17 = true then (some (x224000, x224001, x224002, x224003, x224004, x224005, false)) else (spec_l09Frame.l0 k x0 (([] : List Int)) 1 0 x224000 x224001 x224002 x224003 x224004 x224005)
def spec_l09Frame.l0 : Nat → ByteArray → List Int → Int → Int → Int → Int → Int → Int → ByteArray → ByteArray → Option (Int × Int × Int × Int × ByteArray × ByteArray × Bool)
  | 0, _, _, _, _, _, _, _, _, _, _ => none
  | k + 1, x0, x5, x6, x7, x224000, x224001, x224002, x224003, x224004, x224005 => if x7 < 4 then ((spec_GetNum.f k x0 x6).bind fun bt227 => (if bt227.2.2 = 0 then (if x5.length < 17592186044416 then (spec_l09Frame.l0 k x0 (x5 ++ [bt227.1]) bt227.2.1 (wrap64 (x7 + 1)) x224000 x224001 x224002 x224003 x224004 x224005) else (none)) else (some (x224000, x224001, x224002, x224003, x224004, x224005, false)))) else (if (wrap64 (x6 + 64)) > (x0.size : Int) then (some (x224000, x224001, x224002, x224003, x224004, x224005, false)) else (if 0 < (x5.length : Int) then (if 1 < (x5.length : Int) then (if 2 < (x5.length : Int) then (if 3 < (x5.length : Int) then (if 0 ≤ x6 then (if x6 ≤ (wrap64 (x6 + 32)) then (if (wrap64 (x6 + 32)) ≤ (x0.size : Int) then (if 0 ≤ (wrap64 (x6 + 64)) then (if (wrap64 (x6 + 64)) ≤ (x0.size : Int) then ((spec_FrameRight.f (rd x5 0) (rd x5 1) (rd x5 2) (rd x5 3) (x0.extract (x6 : Int).toNat ((wrap64 (x6 + 32)) : Int).toNat) (x0.extract ((wrap64 (x6 + 64)) : Int).toNat x0.size)).bind fun t238 => (if t238 = true then (if 0 ≤ (wrap64 (x6 + 32)) then ((spec_l09Digest.f k (x0.extract 0 ((wrap64 (x6 + 32)) : Int).toNat) (x0.extract ((wrap64 (x6 + 64)) : Int).toNat x0.size)).bind fun t239 => (if (wrap64 (x6 + 32)) ≤ (wrap64 (x6 + 64)) then (some (rd x5 0, rd x5 1, rd x5 2, rd x5 3, x0.extract (x6 : Int).toNat ((wrap64 (x6 + 32)) : Int).toNat, x0.extract ((wrap64 (x6 + 64)) : Int).toNat x0.size, (t239.toList == (x0.extract ((wrap64 (x6 + 32)) : Int).toNat ((wrap64 (x6 + 64)) : Int).toNat).toList))) else (none))) else (none)) else (some (rd x5 0, rd x5 1, rd x5 2, rd x5 3, x0.extract (x6 : Int).toNat ((wrap64 (x6 + 32)) : Int).toNat, x0.extract ((wrap64 (x6 + 64)) : Int).toNat x0.size, false)))) else (none)) else (none)) else (none)) else (none)) else (none)) else (none)) else (none)) else (none)) else (none)))
end
def spec_l09Frame.f (k : Nat) (a0 : ByteArray) : Option (Int × Int × Int × Int × ByteArray × ByteArray × Bool) := if (a0.size : Int) < 1 then (spec_l09Frame.j0 k a0 true 0 0 0 0 (⟨#[]⟩ : ByteArray) (⟨#[]⟩ : ByteArray)) else (if 0 < (a0.size : Int) then (spec_l09Frame.j0 k a0 ((bt a0 0) != 70) 0 0 0 0 (⟨#[]⟩ : ByteArray) (⟨#[]⟩ : ByteArray)) else (none))
theorem spec_l09Frame.mono_l : ∀ k, (∀ y0 y1 y2 y3 y4 y5 y6 y7, LeO (spec_l09Frame.j0 k y0 y1 y2 y3 y4 y5 y6 y7) (spec_l09Frame.j0 (k + 1) y0 y1 y2 y3 y4 y5 y6 y7)) ∧ (∀ y0 y1 y2 y3 y4 y5 y6 y7 y8 y9, LeO (spec_l09Frame.l0 k y0 y1 y2 y3 y4 y5 y6 y7 y8 y9) (spec_l09Frame.l0 (k + 1) y0 y1 y2 y3 y4 y5 y6 y7 y8 y9))
  | 0 => ⟨fun _ _ _ _ _ _ _ _ r h => by simp [spec_l09Frame.j0] at h, fun _ _ _ _ _ _ _ _ _ _ r h => by simp [spec_l09Frame.l0] at h⟩
  | k + 1 => by
    obtain ⟨ih0, ih1⟩ := spec_l09Frame.mono_l k
    refine ⟨?_, ?_⟩
    · intro y0 y1 y2 y3 y4 y5 y6 y7
      unfold spec_l09Frame.j0
      repeat' first
      | (with_reducible exact ih0 _ _ _ _ _ _ _ _)
      | (with_reducible exact ih1 _ _ _ _ _ _ _ _ _ _)
      | (with_reducible exact spec_GetNum.mono _ _ _)
      | (with_reducible exact spec_l09Digest.mono _ _ _)
      | (with_reducible exact LeO.refl _)
      | (with_reducible exact LeO.none _)
      | (with_reducible refine LeO.ite ?_ ?_)
      | (with_reducible refine LeO.bind ?_ (fun _ => ?_))
      | exact ih0 _ _ _ _ _ _ _ _
      | exact ih1 _ _ _ _ _ _ _ _ _ _
      | exact spec_GetNum.mono _ _ _
      | exact spec_l09Digest.mono _ _ _
      | exact LeO.none _
      | refine LeO.ite ?_ ?_
      | refine LeO.bind ?_ (fun _ => ?_)
    · intro y0 y1 y2 y3 y4 y5 y6 y7 y8 y9
      unfold spec_l09Frame.l0
      repeat' first
      | (with_reducible exact ih0 _ _ _ _ _ _ _ _)
      | (with_reducible exact ih1 _ _ _ _ _ _ _ _ _ _)
      | (with_reducible exact spec_GetNum.mono _ _ _)
      | (with_reducible exact spec_l09Digest.mono _ _ _)
      | (with_reducible exact LeO.refl _)
      | (with_reducible exact LeO.none _)
      | (with_reducible refine LeO.ite ?_ ?_)
      | (with_reducible refine LeO.bind ?_ (fun _ => ?_))
      | exact ih0 _ _ _ _ _ _ _ _
      | exact ih1 _ _ _ _ _ _ _ _ _ _
      | exact spec_GetNum.mono _ _ _
      | exact spec_l09Digest.mono _ _ _
      | exact LeO.none _
      | refine LeO.ite ?_ ?_
      | refine LeO.bind ?_ (fun _ => ?_)
theorem spec_l09Frame.mono : ∀ a0 k, LeO (spec_l09Frame.f k a0) (spec_l09Frame.f (k + 1) a0) := by
  intro a0 k
  obtain ⟨ih0, ih1⟩ := spec_l09Frame.mono_l k
  unfold spec_l09Frame.f
  repeat' first
      | (with_reducible exact ih0 _ _ _ _ _ _ _ _)
      | (with_reducible exact ih1 _ _ _ _ _ _ _ _ _ _)
      | (with_reducible exact spec_GetNum.mono _ _ _)
      | (with_reducible exact spec_l09Digest.mono _ _ _)
      | (with_reducible exact LeO.refl _)
      | (with_reducible exact LeO.none _)
      | (with_reducible refine LeO.ite ?_ ?_)
      | (with_reducible refine LeO.bind ?_ (fun _ => ?_))
      | exact ih0 _ _ _ _ _ _ _ _
      | exact ih1 _ _ _ _ _ _ _ _ _ _
      | exact spec_GetNum.mono _ _ _
      | exact spec_l09Digest.mono _ _ _
      | exact LeO.none _
      | refine LeO.ite ?_ ?_
      | refine LeO.bind ?_ (fun _ => ?_)
def spec_l09Frame.T16 : Bool × List (List Nat × List Nat) := (true, [([], []), ([0], [0]), ([1], [1]), ([], []), ([3], [3]), ([4], [4]), ([], []), ([6], [6]), ([7], [7]), ([], []), ([9], [9]), ([10], [10]), ([], []), ([], []), ([], []), ([14], [14]), ([12, 13, 15], [12, 13, 15]), ([], []), ([], []), ([18], [18]), ([17, 19], [17, 19]), ([2, 5, 8, 11, 16, 20], [2, 5, 8, 11, 16, 20]), ([21, 0, 1, 2, 3, 4, 5, 6, 7, 8, 9, 10, 11, 12, 13, 14, 15, 16, 17, 18, 19, 20, 21], [21])])
def spec_l09Frame.B16 : List Nat := [0, 1, 3, 0, 8, 24, 0, 64, 192, 0, 512, 1536, 0, 0, 0, 16384, 61440, 0, 0, 262144, 917504, 2097151, 4194303]
theorem spec_l09Frame.tab16 : rtab .any (opsOf Tryd.f80 16) = spec_l09Frame.T16 := by kernel_rfl
theorem spec_l09Frame.bits16 : waitsOk spec_l09Frame.T16.2 spec_l09Frame.B16 = true := by kernel_rfl
def spec_l09Frame.T17 : Bool × List (List Nat × List Nat) := (true, [([], []), ([], []), ([1], [1]), ([2, 2], [2]), ([3], [3]), ([3], [3]), ([5, 3], [3, 5]), ([4, 6, 3], [3, 4, 6]), ([3], [3]), ([8, 3], [3, 8]), ([7, 9, 3, 3], [3, 7, 9]), ([3], [3]), ([3], [3]), ([12, 3], [3, 12]), ([3], [3]), ([14, 3], [3, 14]), ([11, 13, 15, 3], [3, 11, 13, 15]), ([10, 16, 3], [3, 10, 16]), ([3, 17], [3, 17]), ([0, 10, 0], [0]), ([18, 19, 0, 1, 2, 3, 4, 5, 6, 7, 8, 9, 10, 11, 12, 13, 14, 15, 16, 17, 18, 19], [18])])
def spec_l09Frame.B17 : List Nat := [0, 0, 2, 6, 14, 14, 46, 126, 14, 270, 1022, 14, 14, 4110, 14, 16398, 63502, 131070, 262142, 2047, 1048575]
theorem spec_l09Frame.tab17 : rtab .any (opsOf Tryd.f80 17) = spec_l09Frame.T17 := by kernel_rfl
theorem spec_l09Frame.bits17 : waitsOk spec_l09Frame.T17.2 spec_l09Frame.B17 = true := by kernel_rfl
set_option maxHeartbeats 8000000 in
set_option maxRecDepth 100000 in
theorem spec_l09Frame.calls (k : Nat) (a0 : ByteArray) (r1 : Int) (r2 : Int) (r3 : Int) (r4 : Int) (r5 : ByteArray) (r6 : ByteArray) (r7 : Bool) (w : World) (h : spec_l09Frame.f k a0 = some (r1, r2, r3, r4, r5, r6, r7)) :
    Calls Tryd.prog 80 #[.string a0] w fun e w' => e = .returned (.tuple #[.agg #[.int .i64 r1, .int .i64 r2, .int .i64 r3, .int .i64 r4, .string r5, .string r6], .bool r7]) ∧ Below w.heap.size w w' := by
  have hu28 := Tryd.underlying28
  have hu130 := Tryd.underlying130
  have HB := AM (Below.refl w.heap.size w)
  have H : (if (a0.size : Int) < 1 then (spec_l09Frame.j0 k a0 true 0 0 0 0 (⟨#[]⟩ : ByteArray) (⟨#[]⟩ : ByteArray)) else (if 0 < (a0.size : Int) then (spec_l09Frame.j0 k a0 ((bt a0 0) != 70) 0 0 0 0 (⟨#[]⟩ : ByteArray) (⟨#[]⟩ : ByteArray)) else (none))) = some (r1, r2, r3, r4, r5, r6, r7) := h
  clear h
  have HC2 := AM H
  clear H
  go_enter Tryd.func80, Tryd.ntmps80
  go_upto_region 2 with (first | ((with_reducible refine gate_dst (N := 2) rfl ?_); refine be_ 2 #[.int .i64 0, .int .i64 0, .int .i64 0, .int .i64 0, .string (⟨#[]⟩ : ByteArray), .string (⟨#[]⟩ : ByteArray)] 28 ?_; intro gb222 hg w3 hbox hb; have BK222 := AM hbox; have GW222 := AM ((by rw [hg]; exact (below_size bel_) : w.heap.size ≤ gb222)); have GE222 := AM ((by rw [hg]; exact (below_size bel_) : w.heap.size ≤ gb222)); replace HB := AM (below_step bel_ hb); clear hb hbox hg) | ((with_reducible refine gate_dst (N := 4) rfl ?_); refine be_ 4 #[.int .i64 0, .int .i64 0, .int .i64 0, .int .i64 0, .string (⟨#[]⟩ : ByteArray), .string (⟨#[]⟩ : ByteArray)] 28 ?_; intro gb223 hg w4 hbox hb; have BK223 := AM hbox; have GW223 := AM ((by rw [hg]; exact (below_size bel_) : w.heap.size ≤ gb223)); have GE223 := AM ((by rw [hg]; exact (below_size bel_) : w.heap.size ≤ gb223)); replace HB := AM (below_step bel_ hb); have NB222_223 := AM ((by rw [hg]; exact Nat.ne_of_lt (blk_lt (g := gb222) (o := .cells #[.int .i64 0, .int .i64 0, .int .i64 0, .int .i64 0, .string (⟨#[]⟩ : ByteArray), .string (⟨#[]⟩ : ByteArray)] 28 (0, 0)) (bk_ BK222.out)) : gb222 ≠ gb223)); have NB223_222 := AM ((by rw [hg]; exact Nat.ne_of_gt (blk_lt (g := gb222) (o := .cells #[.int .i64 0, .int .i64 0, .int .i64 0, .int .i64 0, .string (⟨#[]⟩ : ByteArray), .string (⟨#[]⟩ : ByteArray)] 28 (0, 0)) (bk_ BK222.out)) : gb223 ≠ gb222)); replace BK222 := AM (blk_below (g := gb222) (o := .cells #[.int .i64 0, .int .i64 0, .int .i64 0, .int .i64 0, .string (⟨#[]⟩ : ByteArray), .string (⟨#[]⟩ : ByteArray)] 28 (0, 0)) (bk_ BK222.out) hb); clear hb hbox hg; have hnb5 := NB223_222.out; have hnc5 := NB222_223.out; have hcz6_0 : w4.cell? ⟨gb223, 0, none⟩ = some (.int .i64 0) := (blk_cell BK223.out 0).trans rfl; have hcz6_1 : w4.cell? ⟨gb223, 1, none⟩ = some (.int .i64 0) := (blk_cell BK223.out 1).trans rfl; have hcz6_2 : w4.cell? ⟨gb223, 2, none⟩ = some (.int .i64 0) := (blk_cell BK223.out 2).trans rfl; have hcz6_3 : w4.cell? ⟨gb223, 3, none⟩ = some (.int .i64 0) := (blk_cell BK223.out 3).trans rfl; have hcz6_4 : w4.cell? ⟨gb223, 4, none⟩ = some (.string (⟨#[]⟩ : ByteArray)) := (blk_cell BK223.out 4).trans rfl; have hcz6_5 : w4.cell? ⟨gb223, 5, none⟩ = some (.string (⟨#[]⟩ : ByteArray)) := (blk_cell BK223.out 5).trans rfl; have hfz6_0 := blk_frozen BK223.out 0; have hfz6_1 := blk_frozen BK223.out 1; have hfz6_2 := blk_frozen BK223.out 2; have hfz6_3 := blk_frozen BK223.out 3; have hfz6_4 := blk_frozen BK223.out 4; have hfz6_5 := blk_frozen BK223.out 5))
  (try simp only [Act.put, List.setIfInBounds_toArray, List.set_cons_zero, List.set_cons_succ])
  go_cut [17] (fun v17 wc => ∃ (kq : Nat) (x17_1 : Bool), v17 = .bool x17_1 ∧ Aside0 (spec_l09Frame.j0 kq a0 x17_1 0 0 0 0 (⟨#[]⟩ : ByteArray) (⟨#[]⟩ : ByteArray) = some (r1, r2, r3, r4, r5, r6, r7)) ∧ Aside0 (kq ≤ k) ∧ Aside0 (wc.heap[gb222]? = some (.cells #[.int .i64 0, .int .i64 0, .int .i64 0, .int .i64 0, .string (⟨#[]⟩ : ByteArray), .string (⟨#[]⟩ : ByteArray)] 28 (0, 0))) ∧ Aside0 (wc.heap[gb223]? = some (.cells #[.int .i64 0, .int .i64 0, .int .i64 0, .int .i64 0, .string (⟨#[]⟩ : ByteArray), .string (⟨#[]⟩ : ByteArray)] 28 (0, 0))) ∧ Aside0 (Below w.heap.size w wc))
  case first =>
    have H := HC2.out
    clear HC2
    by_cases c7 : (a0.size : Int) < 1
    · rw [if_pos c7] at H
      have c7b0 : decide ((a0.size : Int) < 1) = true := decide_eq_true c7
      have c7b1 : decide (a0.size < 1) = true := decide_eq_true (by omega)
      clear c7
      (first | rw [c7b0] | (simp only [i64_w, i32_w]; rw [c7b0]) | skip)
      have H' := AM H
      clear H
      go_wp2
      go_meet
      case rel => exact ⟨_, (true), (by first | rfl | (simp; done) | (simp [*]; done)), H', ⟨by first | omega | exact Nat.le_refl _⟩, ⟨bka_⟩, ⟨bka_⟩, ⟨bel_⟩⟩
    · rw [if_neg c7] at H
      have c7b0 : decide ((a0.size : Int) < 1) = false := decide_eq_false c7
      have c7b1 : decide (a0.size < 1) = false := decide_eq_false (by omega)
      clear c7
      (first | rw [c7b0] | (simp only [i64_w, i32_w]; rw [c7b0]) | skip)
      by_cases c8 : 0 < (a0.size : Int)
      · rw [if_pos c8] at H
        have c8b0 : decide (0 < (a0.size : Int)) = true := decide_eq_true c8
        have c8b1 : decide (0 < a0.size) = true := decide_eq_true (by omega)
        clear c8
        have H' := AM H
        clear H
        have p9 : 0 ≤ (0 : Int) := (by omega)
        have q9 : 0 < a0.size := (by have : (0 : Int) < (a0.size : Int) := of_decide_eq_true (by first | (with_reducible assumption) | assumption); omega)
        have hx9 : ∀ h : 0 < a0.size, ((a0[0]'h).toNat : Int) = bt a0 0 := bt_at a0 0
        clear p9
        have qi9 : (0 < (a0.size : Int)) = True := eq_true (of_decide_eq_true (by first | (with_reducible assumption) | assumption))
        replace q9 := eq_true q9
        go_wp2
        go_meet
        case rel => exact ⟨_, (((bt a0 0) != 70)), (by first | rfl | (simp; done) | (simp [*]; done)), H', ⟨by first | omega | exact Nat.le_refl _⟩, ⟨bka_⟩, ⟨bka_⟩, ⟨bel_⟩⟩
      · rw [if_neg c8] at H
        exact absurd H (by simp)
  case rest =>
    clear HC2
    (try clear p2); (try clear c5); (try clear c7); (try clear c7b0); (try clear c7b1); (try clear c8); (try clear c8b0); (try clear c8b1); (try clear p9); (try clear q9); (try clear hx9); (try clear qi9); (try clear hcz6_0); (try clear hcz6_1); (try clear hcz6_2); (try clear hcz6_3); (try clear hcz6_4); (try clear hcz6_5); (try clear hfz6_0); (try clear hfz6_1); (try clear hfz6_2); (try clear hfz6_3); (try clear hfz6_4); (try clear hfz6_5); (try clear p9); (try clear q9)
    obtain ⟨kq, x17_1, rfl, HA, HJ1, BK222, BK223, HB⟩ := hcut
    cases kq with
    | zero => exact absurd HA.out (by simp [spec_l09Frame.j0])
    | succ kj1 =>
      have H := HA.out
      clear HA
      simp only [spec_l09Frame.j0] at H
      by_cases c10 : x17_1 = true
      · subst c10
        rw [if_pos rfl] at H
        simp only [Option.some.injEq, Prod.mk.injEq] at H
        obtain ⟨rfl, rfl, rfl, rfl, rfl, rfl, rfl⟩ := H
        have hnb11 := NB223_222.out
        have hnc11 := NB222_223.out
        have hcz12_0 : wc.cell? ⟨gb223, 0, none⟩ = some (.int .i64 0) := (blk_cell BK223.out 0).trans rfl
        have hcz12_1 : wc.cell? ⟨gb223, 1, none⟩ = some (.int .i64 0) := (blk_cell BK223.out 1).trans rfl
        have hcz12_2 : wc.cell? ⟨gb223, 2, none⟩ = some (.int .i64 0) := (blk_cell BK223.out 2).trans rfl
        have hcz12_3 : wc.cell? ⟨gb223, 3, none⟩ = some (.int .i64 0) := (blk_cell BK223.out 3).trans rfl
        have hcz12_4 : wc.cell? ⟨gb223, 4, none⟩ = some (.string (⟨#[]⟩ : ByteArray)) := (blk_cell BK223.out 4).trans rfl
        have hcz12_5 : wc.cell? ⟨gb223, 5, none⟩ = some (.string (⟨#[]⟩ : ByteArray)) := (blk_cell BK223.out 5).trans rfl
        have hfz12_0 := blk_frozen BK223.out 0
        have hfz12_1 := blk_frozen BK223.out 1
        have hfz12_2 := blk_frozen BK223.out 2
        have hfz12_3 := blk_frozen BK223.out 3
        have hfz12_4 := blk_frozen BK223.out 4
        have hfz12_5 := blk_frozen BK223.out 5
        have hcz13_0 : wc.cell? ⟨gb222, 0, none⟩ = some (.int .i64 0) := (blk_cell BK222.out 0).trans rfl
        have hcz13_1 : wc.cell? ⟨gb222, 1, none⟩ = some (.int .i64 0) := (blk_cell BK222.out 1).trans rfl
        have hcz13_2 : wc.cell? ⟨gb222, 2, none⟩ = some (.int .i64 0) := (blk_cell BK222.out 2).trans rfl
        have hcz13_3 : wc.cell? ⟨gb222, 3, none⟩ = some (.int .i64 0) := (blk_cell BK222.out 3).trans rfl
        have hcz13_4 : wc.cell? ⟨gb222, 4, none⟩ = some (.string (⟨#[]⟩ : ByteArray)) := (blk_cell BK222.out 4).trans rfl
        have hcz13_5 : wc.cell? ⟨gb222, 5, none⟩ = some (.string (⟨#[]⟩ : ByteArray)) := (blk_cell BK222.out 5).trans rfl
        have hfz13_0 := blk_frozen BK222.out 0
        have hfz13_1 := blk_frozen BK222.out 1
        have hfz13_2 := blk_frozen BK222.out 2
        have hfz13_3 := blk_frozen BK222.out 3
        have hfz13_4 := blk_frozen BK222.out 4
        have hfz13_5 := blk_frozen BK222.out 5
        go_wp2
        refine bodyPost_ret (results_ct rfl _ _ gb222 28 #[.int .i64 0, .int .i64 0, .int .i64 0, .int .i64 0, .string (⟨#[]⟩ : ByteArray), .string (⟨#[]⟩ : ByteArray)] (0, 0) _ rfl bka_ Tryd.underlying28 rfl (by kernel_rfl)) rfl ?_
        exact ⟨ri_, bel_⟩
      · replace c10 := Bool.eq_false_iff.mpr c10
        subst c10
        rw [if_neg (show ¬ (false = true) by decide)] at H
        obtain ⟨y224, hy224⟩ : ∃ y_ : List Int, y_ = (([] : List Int)) := ⟨_, rfl⟩
        replace H : (spec_l09Frame.l0 kj1 a0 y224 1 0 0 0 0 0 (⟨#[]⟩ : ByteArray) (⟨#[]⟩ : ByteArray)) = some (r1, r2, r3, r4, r5, r6, r7) := by first | (rw [hy224]; with_reducible exact H) | (have H2_ := (Option.bind_some _ _).symm.trans H; rw [hy224]; with_reducible exact H2_) | (have H2_ := (Option.bind_some _ _).symm.trans H; with_reducible exact H2_) | with_reducible exact H | (rw [hy224]; exact H) | exact H
        have Ny224 := AM hy224
        clear hy224
        have H' := AM H
        clear H
        go_wp2_with (first | ((with_reducible refine gate_dst (N := 19) rfl ?_); refine Kd.R_lit (Kd.int .i64) _ 2 ?hgL1 (N := 19) ?hdL1 (xs := ([] : List Int)) (inner := []) (ok := fun _ => True) (okp := fun _ => True) ?hrL1 ?hpL1 (fun _ hk => hk) trivial (Below.refl _ _) (Nat.le_refl _) (by simp) ?_; (case hdL1 => rfl); (case hgL1 => rfl); (case hrL1 => first | (go_simp; done) | (go_simp; rfl)); (case hpL1 => exact (Reps.none _ _)); intro v225 w14 ho15 hb hg_ hnew_; clear hg_ hnew_; (first | rw [← Ny224.out] at ho15 | (simp only [Int.reduceToNat] at ho15; rw [← Ny224.out] at ho15)); have HO226 := AM (Kd.R_lower ho15 (below_size bel_)); replace BK222 := AM (blk_below (g := gb222) (o := .cells #[.int .i64 0, .int .i64 0, .int .i64 0, .int .i64 0, .string (⟨#[]⟩ : ByteArray), .string (⟨#[]⟩ : ByteArray)] 28 (0, 0)) (bk_ BK222.out) hb); replace BK223 := AM (blk_below (g := gb223) (o := .cells #[.int .i64 0, .int .i64 0, .int .i64 0, .int .i64 0, .string (⟨#[]⟩ : ByteArray), .string (⟨#[]⟩ : ByteArray)] 28 (0, 0)) (bk_ BK223.out) hb); replace HB := AM (below_step bel_ hb); clear hb ho15))
        go_loopg [5, 6, 7] kj1 (fun kq v5 v6 v7 w' => ∃ (x5_2 : List Int) (x6_2 : Int) (x7_2 : Int) (x223000_2 : Int) (x223001_2 : Int) (x223002_2 : Int) (x223003_2 : Int) (x223004_2 : ByteArray) (x223005_2 : ByteArray), v6 = .int .i64 x6_2 ∧ v7 = .int .i64 x7_2 ∧ Aside0 (spec_l09Frame.l0 kq a0 x5_2 x6_2 x7_2 0 0 0 0 (⟨#[]⟩ : ByteArray) (⟨#[]⟩ : ByteArray) = some (r1, r2, r3, r4, r5, r6, r7)) ∧ Aside0 (kq ≤ kj1) ∧ Aside0 (Kd.R (Kd.int .i64) 2 w' w.heap.size (fun _ => True) v5 x5_2) ∧ Aside0 (w'.heap[gb222]? = some (.cells #[.int .i64 x223000_2, .int .i64 x223001_2, .int .i64 x223002_2, .int .i64 x223003_2, .string x223004_2, .string x223005_2] 28 (0, 0))) ∧ Aside0 (w'.heap[gb223]? = some (.cells #[.int .i64 0, .int .i64 0, .int .i64 0, .int .i64 0, .string (⟨#[]⟩ : ByteArray), .string (⟨#[]⟩ : ByteArray)] 28 (0, 0))) ∧ Aside0 (Below w.heap.size w w'))
        case atStart => exact ⟨(y224), (1), (0), (0), (0), (0), (0), ((⟨#[]⟩ : ByteArray)), ((⟨#[]⟩ : ByteArray)), (by first | rfl | (simp; done) | (simp [*]; done)), (by first | rfl | (simp; done) | (simp [*]; done)), H', ⟨Nat.le_refl _⟩, ⟨ro_ HO226.out⟩, ⟨bk_ BK222.out⟩, ⟨bk_ BK223.out⟩, ⟨bel_⟩⟩
        case round =>
          clear H'
          (try clear c1); (try clear p2); (try clear c5); (try clear c7); (try clear c7b0); (try clear c7b1); (try clear c8); (try clear c8b0); (try clear c8b1); (try clear p9); (try clear q9); (try clear hx9); (try clear qi9); (try clear c10); (try clear c11); (try clear hcz12_0); (try clear hcz12_1); (try clear hcz12_2); (try clear hcz12_3); (try clear hcz12_4); (try clear hcz12_5); (try clear hcz13_0); (try clear hcz13_1); (try clear hcz13_2); (try clear hcz13_3); (try clear hcz13_4); (try clear hcz13_5); (try clear hcz6_0); (try clear hcz6_1); (try clear hcz6_2); (try clear hcz6_3); (try clear hcz6_4); (try clear hcz6_5); (try clear hfz12_0); (try clear hfz12_1); (try clear hfz12_2); (try clear hfz12_3); (try clear hfz12_4); (try clear hfz12_5); (try clear hfz13_0); (try clear hfz13_1); (try clear hfz13_2); (try clear hfz13_3); (try clear hfz13_4); (try clear hfz13_5); (try clear hfz6_0); (try clear hfz6_1); (try clear hfz6_2); (try clear hfz6_3); (try clear hfz6_4); (try clear hfz6_5); (try clear p2); (try clear p9); (try clear q9)
          obtain ⟨x5_2, x6_2, x7_2, x223000_2, x223001_2, x223002_2, x223003_2, x223004_2, x223005_2, rfl, rfl, HA, HK2, HO_5, BK222, BK223, HB⟩ := hrel
          cases gk with
          | zero => exact absurd HA.out (by simp [spec_l09Frame.l0])
          | succ k2 =>
            have H := HA.out
            clear HA
            simp only [spec_l09Frame.l0] at H
            by_cases c16 : x7_2 < 4
            · rw [if_pos c16] at H
              have c16b0 : decide (x7_2 < 4) = true := decide_eq_true c16
              clear c16
              obtain ⟨⟨t227, t228, t229⟩, A17, H⟩ := OB H
              try dsimp only at H
              replace A17 := AM A17
              by_cases c18 : t229 = 0
              · rw [if_pos c18] at H
                have c18b0 : (t229 == 0) = true := beq_iff_eq.mpr c18
                have c18b1 : (t229 != 0) = false := bne_eq_false_iff_eq.mpr c18
                clear c18
                by_cases c19 : x5_2.length < 17592186044416
                · rw [if_pos c19] at H
                  have LMc19 := AM c19
                  clear c19
                  obtain ⟨y231, hy231⟩ : ∃ y_ : List Int, y_ = (x5_2 ++ [t227]) := ⟨_, rfl⟩
                  replace H : (spec_l09Frame.l0 k2 a0 y231 t228 (wrap64 (x7_2 + 1)) 0 0 0 0 (⟨#[]⟩ : ByteArray) (⟨#[]⟩ : ByteArray)) = some (r1, r2, r3, r4, r5, r6, r7) := by first | (rw [hy231]; with_reducible exact H) | (have H2_ := (Option.bind_some _ _).symm.trans H; rw [hy231]; with_reducible exact H2_) | (have H2_ := (Option.bind_some _ _).symm.trans H; with_reducible exact H2_) | with_reducible exact H | (rw [hy231]; exact H) | exact H
                  have Ny231 := AM hy231
                  clear hy231
                  have H' := AM H
                  clear H
                  go_wp2_with (first | ((with_reducible refine gate_callee (f := 114) rfl ?_); refine gl_ (some 26) Tryd.func114 #[.string a0, .int .i64 x6_2] ?_; (with_reducible refine (spec_GetNum.calls k2 a0 x6_2 t227 t228 t229 _ A17.out).mono ?_); rintro e w20 ⟨rfl, hb⟩; refine ⟨_, rfl, ?_⟩; replace HO_5 := AM (Kd.R_below (ro_ HO_5.out) hb); replace BK222 := AM (blk_below (g := gb222) (o := .cells #[.int .i64 x223000_2, .int .i64 x223001_2, .int .i64 x223002_2, .int .i64 x223003_2, .string x223004_2, .string x223005_2] 28 (0, 0)) (bk_ BK222.out) hb); replace BK223 := AM (blk_below (g := gb223) (o := .cells #[.int .i64 0, .int .i64 0, .int .i64 0, .int .i64 0, .string (⟨#[]⟩ : ByteArray), .string (⟨#[]⟩ : ByteArray)] 28 (0, 0)) (bk_ BK223.out) hb); replace HB := AM (below_step bel_ hb); (try clear hb); (try clear hb2); (try clear hk); (try clear hi)) | ((with_reducible refine gate_dst (N := 8) rfl ?_); refine be_ 8 #[.int .i64 0, .int .i64 0, .int .i64 0] 130 ?_; intro gb230 hg w21 hbox hb; replace HO_5 := AM (Kd.R_below (ro_ HO_5.out) hb); have BK230 := AM hbox; have GW230 := AM ((by rw [hg]; exact (below_size bel_) : w.heap.size ≤ gb230)); have GE230 := AM ((by rw [hg]; exact (below_size bel_) : w.heap.size ≤ gb230)); replace HB := AM (below_step bel_ hb); have NB222_230 := AM ((by rw [hg]; exact Nat.ne_of_lt (blk_lt (g := gb222) (o := .cells #[.int .i64 x223000_2, .int .i64 x223001_2, .int .i64 x223002_2, .int .i64 x223003_2, .string x223004_2, .string x223005_2] 28 (0, 0)) (bk_ BK222.out)) : gb222 ≠ gb230)); have NB230_222 := AM ((by rw [hg]; exact Nat.ne_of_gt (blk_lt (g := gb222) (o := .cells #[.int .i64 x223000_2, .int .i64 x223001_2, .int .i64 x223002_2, .int .i64 x223003_2, .string x223004_2, .string x223005_2] 28 (0, 0)) (bk_ BK222.out)) : gb230 ≠ gb222)); replace BK222 := AM (blk_below (g := gb222) (o := .cells #[.int .i64 x223000_2, .int .i64 x223001_2, .int .i64 x223002_2, .int .i64 x223003_2, .string x223004_2, .string x223005_2] 28 (0, 0)) (bk_ BK222.out) hb); have NB223_230 := AM ((by rw [hg]; exact Nat.ne_of_lt (blk_lt (g := gb223) (o := .cells #[.int .i64 0, .int .i64 0, .int .i64 0, .int .i64 0, .string (⟨#[]⟩ : ByteArray), .string (⟨#[]⟩ : ByteArray)] 28 (0, 0)) (bk_ BK223.out)) : gb223 ≠ gb230)); have NB230_223 := AM ((by rw [hg]; exact Nat.ne_of_gt (blk_lt (g := gb223) (o := .cells #[.int .i64 0, .int .i64 0, .int .i64 0, .int .i64 0, .string (⟨#[]⟩ : ByteArray), .string (⟨#[]⟩ : ByteArray)] 28 (0, 0)) (bk_ BK223.out)) : gb230 ≠ gb223)); replace BK223 := AM (blk_below (g := gb223) (o := .cells #[.int .i64 0, .int .i64 0, .int .i64 0, .int .i64 0, .string (⟨#[]⟩ : ByteArray), .string (⟨#[]⟩ : ByteArray)] 28 (0, 0)) (bk_ BK223.out) hb); clear hb hbox hg; have hnb22 := NB230_222.out; have hnc22 := NB222_230.out; have hnb23 := NB230_223.out; have hnc23 := NB223_230.out; have hcz24_0 : w21.cell? ⟨gb230, 0, none⟩ = some (.int .i64 0) := (blk_cell BK230.out 0).trans rfl; have hcz24_1 : w21.cell? ⟨gb230, 1, none⟩ = some (.int .i64 0) := (blk_cell BK230.out 1).trans rfl; have hcz24_2 : w21.cell? ⟨gb230, 2, none⟩ = some (.int .i64 0) := (blk_cell BK230.out 2).trans rfl; have hfz24_0 := blk_frozen BK230.out 0; have hfz24_1 := blk_frozen BK230.out 1; have hfz24_2 := blk_frozen BK230.out 2) | ((with_reducible refine gate_builtin (b := .append) (xs := #[.tmp 31, .tmp 34]) rfl ?_); at_builtin; refine Kd.R_append (Kd.int .i64) (w0 := w) w.heap.size rfl (.tmp 31) (.tmp 34) 40 2 (.int .i64 0) 8 rfl Tryd.underlying40 info2 rfl (by decide) (by omega) u5 x5_2 t227 [.int .i64 t227] (fun _ => True) (fun _ => False) rfl (by first | (go_simp; done) | (go_simp; rfl)) ?aP (fun _ hk => hk.elim) ?aF ?aO ?aB ?aS ?aL ?_; (case aP => exact rfl); (case aB => exact bel_); (case aF => exact (fun _ _ => trivial)); (case aO => exact (by (with_reducible repeat (first | apply Kd.R_alloc | apply Kd.R_drewN | apply Kd.R_drew)); exact Kd.R_mono (Kd.R_far (p := ⟨gb230, 2, none⟩) (Kd.R_far (p := ⟨gb230, 1, none⟩) (Kd.R_far (p := ⟨gb230, 0, none⟩) (Kd.R_types HO_5.out BK230.out (by decide)) (fun _ hk => hk.2) (.int .i64 t227)) (fun _ hk => hk.2) (.int .i64 t228)) (fun _ hk => hk.2) (.int .i64 t229)) (fun _ hk => trivial))); (case aS => exact (below_size bel_)); (case aL => have := LMc19.out; omega); intro v232 w25 ho hb hg hat; rw [← Ny231.out] at ho; have n0_ := AM (blk_grown (g := gb222) (o := .cells #[.int .i64 x223000_2, .int .i64 x223001_2, .int .i64 x223002_2, .int .i64 x223003_2, .string x223004_2, .string x223005_2] 28 (0, 0)) bka_ hg (Kd.R_ne HO_5.out BK222.out (by decide))); have n1_ := AM (blk_grown (g := gb223) (o := .cells #[.int .i64 0, .int .i64 0, .int .i64 0, .int .i64 0, .string (⟨#[]⟩ : ByteArray), .string (⟨#[]⟩ : ByteArray)] 28 (0, 0)) bka_ hg (Kd.R_ne HO_5.out BK223.out (by decide))); have n2_ := AM (blk_grown (g := gb230) (o := .cells #[.int .i64 t227, .int .i64 t228, .int .i64 t229] 130 (0, 0)) bka_ hg (Kd.R_ne HO_5.out BK230.out (by decide))); have n3_ := AM hb; have n4_ := AM ho; clear BK222; clear BK223; clear BK230; clear HB; clear HO_5; have BK222 := n0_; have BK223 := n1_; have BK230 := n2_; have HB := n3_; have HO233 := n4_; clear n0_ n1_ n2_ n3_ n4_; clear ho hb hg hat; have hcz26_0 : w25.cell? ⟨gb230, 0, none⟩ = some (.int .i64 t227) := (blk_cell BK230.out 0).trans rfl; have hcz26_1 : w25.cell? ⟨gb230, 1, none⟩ = some (.int .i64 t228) := (blk_cell BK230.out 1).trans rfl; have hcz26_2 : w25.cell? ⟨gb230, 2, none⟩ = some (.int .i64 t229) := (blk_cell BK230.out 2).trans rfl; have hfz26_0 := blk_frozen BK230.out 0; have hfz26_1 := blk_frozen BK230.out 1; have hfz26_2 := blk_frozen BK230.out 2))
                  go_roundg k2
                  case measure => have := HJ1.out; have := HK2.out; omega
                  case rel => exact ⟨(y231), (t228), (wrap64 (x7_2 + 1)), (x223000_2), (x223001_2), (x223002_2), (x223003_2), (x223004_2), (x223005_2), (by first | rfl | (simp; done) | (simp [*]; done)), (by first | rfl | (simp; done) | (simp [*]; done)), H', ⟨by have := HJ1.out; have := HK2.out; omega⟩, ⟨ro_ HO233.out⟩, ⟨bk_ BK222.out⟩, ⟨bk_ BK223.out⟩, ⟨bel_⟩⟩
                · rw [if_neg c19] at H
                  exact absurd H (by simp)
              · rw [if_neg c18] at H
                have c18b0 : (t229 == 0) = false := beq_eq_false_iff_ne.mpr c18
                have c18b1 : (t229 != 0) = true := bne_iff_ne.mpr c18
                simp only [Option.some.injEq, Prod.mk.injEq] at H
                obtain ⟨rfl, rfl, rfl, rfl, rfl, rfl, rfl⟩ := H
                go_wp2_with (first | ((with_reducible refine gate_callee (f := 114) rfl ?_); refine gl_ (some 26) Tryd.func114 #[.string a0, .int .i64 x6_2] ?_; (with_reducible refine (spec_GetNum.calls k2 a0 x6_2 t227 t228 t229 _ A17.out).mono ?_); rintro e w27 ⟨rfl, hb⟩; refine ⟨_, rfl, ?_⟩; replace HO_5 := AM (Kd.R_below (ro_ HO_5.out) hb); replace BK222 := AM (blk_below (g := gb222) (o := .cells #[.int .i64 x223000_2, .int .i64 x223001_2, .int .i64 x223002_2, .int .i64 x223003_2, .string x223004_2, .string x223005_2] 28 (0, 0)) (bk_ BK222.out) hb); replace BK223 := AM (blk_below (g := gb223) (o := .cells #[.int .i64 0, .int .i64 0, .int .i64 0, .int .i64 0, .string (⟨#[]⟩ : ByteArray), .string (⟨#[]⟩ : ByteArray)] 28 (0, 0)) (bk_ BK223.out) hb); replace HB := AM (below_step bel_ hb); (try clear hb); (try clear hb2); (try clear hk); (try clear hi)) | ((with_reducible refine gate_dst (N := 8) rfl ?_); refine be_ 8 #[.int .i64 0, .int .i64 0, .int .i64 0] 130 ?_; intro gb230 hg w28 hbox hb; replace HO_5 := AM (Kd.R_below (ro_ HO_5.out) hb); have BK230 := AM hbox; have GW230 := AM ((by rw [hg]; exact (below_size bel_) : w.heap.size ≤ gb230)); have GE230 := AM ((by rw [hg]; exact (below_size bel_) : w.heap.size ≤ gb230)); replace HB := AM (below_step bel_ hb); have NB222_230 := AM ((by rw [hg]; exact Nat.ne_of_lt (blk_lt (g := gb222) (o := .cells #[.int .i64 x223000_2, .int .i64 x223001_2, .int .i64 x223002_2, .int .i64 x223003_2, .string x223004_2, .string x223005_2] 28 (0, 0)) (bk_ BK222.out)) : gb222 ≠ gb230)); have NB230_222 := AM ((by rw [hg]; exact Nat.ne_of_gt (blk_lt (g := gb222) (o := .cells #[.int .i64 x223000_2, .int .i64 x223001_2, .int .i64 x223002_2, .int .i64 x223003_2, .string x223004_2, .string x223005_2] 28 (0, 0)) (bk_ BK222.out)) : gb230 ≠ gb222)); replace BK222 := AM (blk_below (g := gb222) (o := .cells #[.int .i64 x223000_2, .int .i64 x223001_2, .int .i64 x223002_2, .int .i64 x223003_2, .string x223004_2, .string x223005_2] 28 (0, 0)) (bk_ BK222.out) hb); have NB223_230 := AM ((by rw [hg]; exact Nat.ne_of_lt (blk_lt (g := gb223) (o := .cells #[.int .i64 0, .int .i64 0, .int .i64 0, .int .i64 0, .string (⟨#[]⟩ : ByteArray), .string (⟨#[]⟩ : ByteArray)] 28 (0, 0)) (bk_ BK223.out)) : gb223 ≠ gb230)); have NB230_223 := AM ((by rw [hg]; exact Nat.ne_of_gt (blk_lt (g := gb223) (o := .cells #[.int .i64 0, .int .i64 0, .int .i64 0, .int .i64 0, .string (⟨#[]⟩ : ByteArray), .string (⟨#[]⟩ : ByteArray)] 28 (0, 0)) (bk_ BK223.out)) : gb230 ≠ gb223)); replace BK223 := AM (blk_below (g := gb223) (o := .cells #[.int .i64 0, .int .i64 0, .int .i64 0, .int .i64 0, .string (⟨#[]⟩ : ByteArray), .string (⟨#[]⟩ : ByteArray)] 28 (0, 0)) (bk_ BK223.out) hb); clear hb hbox hg; have hnb29 := NB230_222.out; have hnc29 := NB222_230.out; have hnb30 := NB230_223.out; have hnc30 := NB223_230.out; have hcz31_0 : w28.cell? ⟨gb230, 0, none⟩ = some (.int .i64 0) := (blk_cell BK230.out 0).trans rfl; have hcz31_1 : w28.cell? ⟨gb230, 1, none⟩ = some (.int .i64 0) := (blk_cell BK230.out 1).trans rfl; have hcz31_2 : w28.cell? ⟨gb230, 2, none⟩ = some (.int .i64 0) := (blk_cell BK230.out 2).trans rfl; have hfz31_0 := blk_frozen BK230.out 0; have hfz31_1 := blk_frozen BK230.out 1; have hfz31_2 := blk_frozen BK230.out 2; have hnb32 := NB223_222.out; have hnc32 := NB222_223.out; have hcz33_0 : w28.cell? ⟨gb223, 0, none⟩ = some (.int .i64 0) := (blk_cell BK223.out 0).trans rfl; have hcz33_1 : w28.cell? ⟨gb223, 1, none⟩ = some (.int .i64 0) := (blk_cell BK223.out 1).trans rfl; have hcz33_2 : w28.cell? ⟨gb223, 2, none⟩ = some (.int .i64 0) := (blk_cell BK223.out 2).trans rfl; have hcz33_3 : w28.cell? ⟨gb223, 3, none⟩ = some (.int .i64 0) := (blk_cell BK223.out 3).trans rfl; have hcz33_4 : w28.cell? ⟨gb223, 4, none⟩ = some (.string (⟨#[]⟩ : ByteArray)) := (blk_cell BK223.out 4).trans rfl; have hcz33_5 : w28.cell? ⟨gb223, 5, none⟩ = some (.string (⟨#[]⟩ : ByteArray)) := (blk_cell BK223.out 5).trans rfl; have hfz33_0 := blk_frozen BK223.out 0; have hfz33_1 := blk_frozen BK223.out 1; have hfz33_2 := blk_frozen BK223.out 2; have hfz33_3 := blk_frozen BK223.out 3; have hfz33_4 := blk_frozen BK223.out 4; have hfz33_5 := blk_frozen BK223.out 5; have hcz34_0 : w28.cell? ⟨gb222, 0, none⟩ = some (.int .i64 x223000_2) := (blk_cell BK222.out 0).trans rfl; have hcz34_1 : w28.cell? ⟨gb222, 1, none⟩ = some (.int .i64 x223001_2) := (blk_cell BK222.out 1).trans rfl; have hcz34_2 : w28.cell? ⟨gb222, 2, none⟩ = some (.int .i64 x223002_2) := (blk_cell BK222.out 2).trans rfl; have hcz34_3 : w28.cell? ⟨gb222, 3, none⟩ = some (.int .i64 x223003_2) := (blk_cell BK222.out 3).trans rfl; have hcz34_4 : w28.cell? ⟨gb222, 4, none⟩ = some (.string x223004_2) := (blk_cell BK222.out 4).trans rfl; have hcz34_5 : w28.cell? ⟨gb222, 5, none⟩ = some (.string x223005_2) := (blk_cell BK222.out 5).trans rfl; have hfz34_0 := blk_frozen BK222.out 0; have hfz34_1 := blk_frozen BK222.out 1; have hfz34_2 := blk_frozen BK222.out 2; have hfz34_3 := blk_frozen BK222.out 3; have hfz34_4 := blk_frozen BK222.out 4; have hfz34_5 := blk_frozen BK222.out 5))
                refine bodyPost_ret (results_ct rfl _ _ gb222 28 #[.int .i64 0, .int .i64 0, .int .i64 0, .int .i64 0, .string (⟨#[]⟩ : ByteArray), .string (⟨#[]⟩ : ByteArray)] (0, 0) _ rfl bka_ Tryd.underlying28 rfl (by kernel_rfl)) rfl ?_
                exact ⟨ri_, bel_⟩
            · rw [if_neg c16] at H
              have c16b0 : decide (x7_2 < 4) = false := decide_eq_false c16
              clear c16
              by_cases c35 : (wrap64 (x6_2 + 64)) > (a0.size : Int)
              · rw [if_pos c35] at H
                have c35b0 : decide ((a0.size : Int) < (wrap64 (x6_2 + 64))) = true := decide_eq_true c35
                try have c35b9 : (decide ((a0.size : Int) < ((x6_2 + 64)))) = true := (by have hw0 : wrap64 (x6_2 + 64) = x6_2 + 64 := (by unfold wrap64; omega); have z_ := c35b0; simp only [hw0] at z_; exact z_)
                clear c35
                simp only [Option.some.injEq, Prod.mk.injEq] at H
                obtain ⟨rfl, rfl, rfl, rfl, rfl, rfl, rfl⟩ := H
                have hnb36 := NB223_222.out
                have hnc36 := NB222_223.out
                have hcz37_0 : wr.cell? ⟨gb223, 0, none⟩ = some (.int .i64 0) := (blk_cell BK223.out 0).trans rfl
                have hcz37_1 : wr.cell? ⟨gb223, 1, none⟩ = some (.int .i64 0) := (blk_cell BK223.out 1).trans rfl
                have hcz37_2 : wr.cell? ⟨gb223, 2, none⟩ = some (.int .i64 0) := (blk_cell BK223.out 2).trans rfl
                have hcz37_3 : wr.cell? ⟨gb223, 3, none⟩ = some (.int .i64 0) := (blk_cell BK223.out 3).trans rfl
                have hcz37_4 : wr.cell? ⟨gb223, 4, none⟩ = some (.string (⟨#[]⟩ : ByteArray)) := (blk_cell BK223.out 4).trans rfl
                have hcz37_5 : wr.cell? ⟨gb223, 5, none⟩ = some (.string (⟨#[]⟩ : ByteArray)) := (blk_cell BK223.out 5).trans rfl
                have hfz37_0 := blk_frozen BK223.out 0
                have hfz37_1 := blk_frozen BK223.out 1
                have hfz37_2 := blk_frozen BK223.out 2
                have hfz37_3 := blk_frozen BK223.out 3
                have hfz37_4 := blk_frozen BK223.out 4
                have hfz37_5 := blk_frozen BK223.out 5
                have hcz38_0 : wr.cell? ⟨gb222, 0, none⟩ = some (.int .i64 x223000_2) := (blk_cell BK222.out 0).trans rfl
                have hcz38_1 : wr.cell? ⟨gb222, 1, none⟩ = some (.int .i64 x223001_2) := (blk_cell BK222.out 1).trans rfl
                have hcz38_2 : wr.cell? ⟨gb222, 2, none⟩ = some (.int .i64 x223002_2) := (blk_cell BK222.out 2).trans rfl
                have hcz38_3 : wr.cell? ⟨gb222, 3, none⟩ = some (.int .i64 x223003_2) := (blk_cell BK222.out 3).trans rfl
                have hcz38_4 : wr.cell? ⟨gb222, 4, none⟩ = some (.string x223004_2) := (blk_cell BK222.out 4).trans rfl
                have hcz38_5 : wr.cell? ⟨gb222, 5, none⟩ = some (.string x223005_2) := (blk_cell BK222.out 5).trans rfl
                have hfz38_0 := blk_frozen BK222.out 0
                have hfz38_1 := blk_frozen BK222.out 1
                have hfz38_2 := blk_frozen BK222.out 2
                have hfz38_3 := blk_frozen BK222.out 3
                have hfz38_4 := blk_frozen BK222.out 4
                have hfz38_5 := blk_frozen BK222.out 5
                go_wp2
                refine bodyPost_ret (results_ct rfl _ _ gb222 28 #[.int .i64 0, .int .i64 0, .int .i64 0, .int .i64 0, .string (⟨#[]⟩ : ByteArray), .string (⟨#[]⟩ : ByteArray)] (0, 0) _ rfl bka_ Tryd.underlying28 rfl (by kernel_rfl)) rfl ?_
                exact ⟨ri_, bel_⟩
              · rw [if_neg c35] at H
                have c35b0 : decide ((a0.size : Int) < (wrap64 (x6_2 + 64))) = false := decide_eq_false c35
                try have c35b9 : (decide ((a0.size : Int) < ((x6_2 + 64)))) = false := (by have hw0 : wrap64 (x6_2 + 64) = x6_2 + 64 := (by unfold wrap64; omega); have z_ := c35b0; simp only [hw0] at z_; exact z_)
                clear c35
                by_cases c39 : 0 < (x5_2.length : Int)
                · rw [if_pos c39] at H
                  have c39b0 : decide (0 < (x5_2.length : Int)) = true := decide_eq_true c39
                  have c39b1 : decide (0 < x5_2.length) = true := decide_eq_true (by omega)
                  clear c39
                  by_cases c40 : 1 < (x5_2.length : Int)
                  · rw [if_pos c40] at H
                    have c40b0 : decide (1 < (x5_2.length : Int)) = true := decide_eq_true c40
                    have c40b1 : decide (1 < x5_2.length) = true := decide_eq_true (by omega)
                    clear c40
                    by_cases c41 : 2 < (x5_2.length : Int)
                    · rw [if_pos c41] at H
                      have c41b0 : decide (2 < (x5_2.length : Int)) = true := decide_eq_true c41
                      have c41b1 : decide (2 < x5_2.length) = true := decide_eq_true (by omega)
                      clear c41
                      by_cases c42 : 3 < (x5_2.length : Int)
                      · rw [if_pos c42] at H
                        have c42b0 : decide (3 < (x5_2.length : Int)) = true := decide_eq_true c42
                        have c42b1 : decide (3 < x5_2.length) = true := decide_eq_true (by omega)
                        clear c42
                        by_cases c43 : 0 ≤ x6_2
                        · rw [if_pos c43] at H
                          have c43b0 := eq_true c43
                          have c43b1 : decide (0 ≤ x6_2) = true := decide_eq_true c43
                          clear c43
                          by_cases c44 : x6_2 ≤ (wrap64 (x6_2 + 32))
                          · rw [if_pos c44] at H
                            have c44b0 := eq_true c44
                            have c44b1 : decide (x6_2 ≤ (wrap64 (x6_2 + 32))) = true := decide_eq_true c44
                            by_cases c45 : (wrap64 (x6_2 + 32)) ≤ (a0.size : Int)
                            · rw [if_pos c45] at H
                              have c45b0 := eq_true c45
                              have c45b1 : decide ((wrap64 (x6_2 + 32)) ≤ (a0.size : Int)) = true := decide_eq_true c45
                              obtain ⟨ji46, hji46⟩ : ∃ j_ : Int, (wrap64 (x6_2 + 64)) = j_ := ⟨_, rfl⟩
                              replace H : (if 0 ≤ (ji46) then (if (ji46) ≤ (a0.size : Int) then ((spec_FrameRight.f (rd x5_2 0) (rd x5_2 1) (rd x5_2 2) (rd x5_2 3) (a0.extract (x6_2 : Int).toNat ((wrap64 (x6_2 + 32)) : Int).toNat) (a0.extract ((ji46) : Int).toNat a0.size)).bind fun t238 => (if t238 = true then (if 0 ≤ (wrap64 (x6_2 + 32)) then ((spec_l09Digest.f k2 (a0.extract 0 ((wrap64 (x6_2 + 32)) : Int).toNat) (a0.extract ((ji46) : Int).toNat a0.size)).bind fun t239 => (if (wrap64 (x6_2 + 32)) ≤ (ji46) then (some (rd x5_2 0, rd x5_2 1, rd x5_2 2, rd x5_2 3, a0.extract (x6_2 : Int).toNat ((wrap64 (x6_2 + 32)) : Int).toNat, a0.extract ((ji46) : Int).toNat a0.size, (t239.toList == (a0.extract ((wrap64 (x6_2 + 32)) : Int).toNat ((ji46) : Int).toNat).toList))) else (none))) else (none)) else (some (rd x5_2 0, rd x5_2 1, rd x5_2 2, rd x5_2 3, a0.extract (x6_2 : Int).toNat ((wrap64 (x6_2 + 32)) : Int).toNat, a0.extract ((ji46) : Int).toNat a0.size, false)))) else (none)) else (none)) = some (r1, r2, r3, r4, r5, r6, r7) := by first | (rw [hji46] at H; exact H) | (simp only [hji46] at H ⊢; exact H)
                              (try rw [hji46] at c35b0)
                              have hji46w : (IntKind.i64.wrap (x6_2 + 64)) = ji46 := (i64_w _).trans hji46
                              by_cases c47 : 0 ≤ (ji46)
                              · rw [if_pos c47] at H
                                have c47b0 := eq_true c47
                                have c47b1 : decide (0 ≤ (ji46)) = true := decide_eq_true c47
                                clear c47
                                by_cases c48 : (ji46) ≤ (a0.size : Int)
                                · rw [if_pos c48] at H
                                  have c48b0 := eq_true c48
                                  have c48b1 : decide ((ji46) ≤ (a0.size : Int)) = true := decide_eq_true c48
                                  clear c48
                                  obtain ⟨t238, A49, H⟩ := OB H
                                  try dsimp only at H
                                  replace A49 := AM A49
                                  by_cases c50 : t238 = true
                                  · subst c50
                                    rw [if_pos rfl] at H
                                    obtain ⟨ji51, hji51⟩ : ∃ j_ : Int, (wrap64 (x6_2 + 32)) = j_ := ⟨_, rfl⟩
                                    replace H : (if 0 ≤ (ji51) then ((spec_l09Digest.f k2 (a0.extract 0 ((ji51) : Int).toNat) (a0.extract ((ji46) : Int).toNat a0.size)).bind fun t239 => (if (ji51) ≤ (ji46) then (some (rd x5_2 0, rd x5_2 1, rd x5_2 2, rd x5_2 3, a0.extract (x6_2 : Int).toNat ((ji51) : Int).toNat, a0.extract ((ji46) : Int).toNat a0.size, (t239.toList == (a0.extract ((ji51) : Int).toNat ((ji46) : Int).toNat).toList))) else (none))) else (none)) = some (r1, r2, r3, r4, r5, r6, r7) := by first | (rw [hji51] at H; exact H) | (simp only [hji51] at H ⊢; exact H)
                                    (try rw [hji51] at c44b0)
                                    (try rw [hji51] at c44b1)
                                    (try rw [hji51] at c44)
                                    (try rw [hji51] at c45b0)
                                    (try rw [hji51] at c45b1)
                                    (try rw [hji51] at c45)
                                    (try rw [hji51] at A49)
                                    have hji51w : (IntKind.i64.wrap (x6_2 + 32)) = ji51 := (i64_w _).trans hji51
                                    by_cases c52 : 0 ≤ (ji51)
                                    · rw [if_pos c52] at H
                                      have c52b0 := eq_true c52
                                      have c52b1 : decide (0 ≤ (ji51)) = true := decide_eq_true c52
                                      clear c52
                                      have c53b0 := eq_true (of_decide_eq_true (by first | (with_reducible assumption) | assumption) : (ji51) ≤ (a0.size : Int))
                                      obtain ⟨t239, A54, H⟩ := OB H
                                      try dsimp only at H
                                      replace A54 := AM A54
                                      have c55b0 := eq_true (of_decide_eq_true (by first | (with_reducible assumption) | assumption) : 0 ≤ (ji51))
                                      by_cases c56 : (ji51) ≤ (ji46)
                                      · rw [if_pos c56] at H
                                        have c56b0 := eq_true c56
                                        have c56b1 : decide ((ji51) ≤ (ji46)) = true := decide_eq_true c56
                                        clear c56
                                        have c57b0 := eq_true (of_decide_eq_true (by first | (with_reducible assumption) | assumption) : (ji46) ≤ (a0.size : Int))
                                        simp only [Option.some.injEq, Prod.mk.injEq] at H
                                        obtain ⟨rfl, rfl, rfl, rfl, rfl, rfl, rfl⟩ := H
                                        try go_wp2
                                        replace HO_5 := AM (Kd.R_drew HO_5.out)
                                        replace BK222 := AM (blk_drew BK222.out)
                                        replace BK223 := AM (blk_drew BK223.out)
                                        replace HB := AM (below_drew1 HB.out)
                                        obtain ⟨Ao59, co59, eo59⟩ := Kd.R_slice HO_5.out
                                        (first | subst eo59 | (injection eo59 with f1_ f2_ f3_; have f4_ := f1_.symm; have f5_ := f3_.symm; clear f1_ f2_ f3_; subst f4_; subst f5_))
                                        have p234 : 0 ≤ (0 : Int) := (by omega)
                                        have q234 : 0 < (x5_2.length : Int) := of_decide_eq_true (by first | (with_reducible assumption) | assumption)
                                        obtain ⟨ad234, e234, hx234_0⟩ := Kd.at_int (Kd.R_reads' HO_5.out).2.2 0 p234 q234
                                        cases e234
                                        have qi234 : (0 < x5_2.length) = True := eq_true (by omega)
                                        (try rw [show ((0 : Int)).toNat = 0 from rfl] at hx234_0)
                                        (try rw [Addr.add_zero'] at hx234_0)
                                        replace p234 := eq_true p234
                                        replace q234 := eq_true q234
                                        have p235 : 0 ≤ (1 : Int) := (by omega)
                                        have q235 : 1 < (x5_2.length : Int) := of_decide_eq_true (by first | (with_reducible assumption) | assumption)
                                        obtain ⟨ad235, e235, hx235_0⟩ := Kd.at_int (Kd.R_reads' HO_5.out).2.2 1 p235 q235
                                        obtain rfl : ad234 = ad235 := (by injection e235)
                                        (try simp only [show (1 : Int).toNat = 1 from rfl, Nat.reduceMul, Nat.reduceEqDiff, Go.Addr.add, ↓reduceIte] at hx235_0)
                                        have qi235 : (1 < x5_2.length) = True := eq_true (by omega)
                                        (try rw [show ((1 : Int)).toNat = 1 from rfl] at hx235_0)
                                        replace p235 := eq_true p235
                                        replace q235 := eq_true q235
                                        have p236 : 0 ≤ (2 : Int) := (by omega)
                                        have q236 : 2 < (x5_2.length : Int) := of_decide_eq_true (by first | (with_reducible assumption) | assumption)
                                        obtain ⟨ad236, e236, hx236_0⟩ := Kd.at_int (Kd.R_reads' HO_5.out).2.2 2 p236 q236
                                        obtain rfl : ad234 = ad236 := (by injection e236)
                                        (try simp only [show (2 : Int).toNat = 2 from rfl, Nat.reduceMul, Nat.reduceEqDiff, Go.Addr.add, ↓reduceIte] at hx236_0)
                                        have qi236 : (2 < x5_2.length) = True := eq_true (by omega)
                                        (try rw [show ((2 : Int)).toNat = 2 from rfl] at hx236_0)
                                        replace p236 := eq_true p236
                                        replace q236 := eq_true q236
                                        have p237 : 0 ≤ (3 : Int) := (by omega)
                                        have q237 : 3 < (x5_2.length : Int) := of_decide_eq_true (by first | (with_reducible assumption) | assumption)
                                        obtain ⟨ad237, e237, hx237_0⟩ := Kd.at_int (Kd.R_reads' HO_5.out).2.2 3 p237 q237
                                        obtain rfl : ad234 = ad237 := (by injection e237)
                                        (try simp only [show (3 : Int).toNat = 3 from rfl, Nat.reduceMul, Nat.reduceEqDiff, Go.Addr.add, ↓reduceIte] at hx237_0)
                                        have qi237 : (3 < x5_2.length) = True := eq_true (by omega)
                                        (try rw [show ((3 : Int)).toNat = 3 from rfl] at hx237_0)
                                        replace p237 := eq_true p237
                                        replace q237 := eq_true q237
                                        refine start_ (n := 23) (S := fun w' => w'.cell? ad234 = some (.int .i64 (rd x5_2 0)) ∧ w'.cell? ⟨ad234.block, ad234.off + 1, none⟩ = some (.int .i64 (rd x5_2 1)) ∧ w'.cell? ⟨ad234.block, ad234.off + 2, none⟩ = some (.int .i64 (rd x5_2 2)) ∧ w'.cell? ⟨ad234.block, ad234.off + 3, none⟩ = some (.int .i64 (rd x5_2 3))) (ds := []) (Array.replicate 23 false) (by kernel_rfl) rfl rfl ⟨hx234_0, hx235_0, hx236_0, hx237_0⟩ (fun hHeld => ?_); refine with_tabW spec_l09Frame.tab16 spec_l09Frame.bits16 (fun HT_ HW_ => ?_)
                                        generalize wr.drew = w58 at HO_5 BK222 BK223 HB hx234_0 hx235_0 hx236_0 hx237_0 hHeld ⊢
                                        refine pu_ HT_ 0 (some 44) (bA 23 1) ?_
                                        refine pu_ HT_ 1 (some 45) (bA 23 3) ?_
                                        refine pu_ HT_ 3 (some 47) (bA 23 11) ?_
                                        refine pu_ HT_ 4 (some 48) (bA 23 27) ?_
                                        refine pu_ HT_ 6 (some 50) (bA 23 91) ?_
                                        refine pu_ HT_ 7 (some 51) (bA 23 219) ?_
                                        refine pu_ HT_ 9 (some 53) (bA 23 731) ?_
                                        refine pu_ HT_ 10 (some 54) (bA 23 1755) ?_
                                        refine pu_ HT_ 12 (some 56) (bA 23 5851) ?_
                                        refine pu_ HT_ 13 (some 57) (bA 23 14043) ?_
                                        refine pu_ HT_ 14 (some 58) (bA 23 30427) ?_
                                        refine pu_ HT_ 15 (some 59) (bA 23 63195) ?_
                                        refine pu_ HT_ 16 (some 60) (bA 23 128731) ?_
                                        refine pu_ HT_ 17 (some 61) (bA 23 259803) ?_
                                        refine pu_ HT_ 18 (some 62) (bA 23 521947) ?_
                                        refine pu_ HT_ 19 (some 63) (bA 23 1046235) ?_
                                        refine pu_ HT_ 20 (some 64) (bA 23 2094811) ?_
                                        refine ta_ HT_ HW_ 2 (some 46) (bA 23 2094815) hHeld ?_
                                        refine ta_ HT_ HW_ 5 (some 49) (bA 23 2094847) hHeld ?_
                                        refine ta_ HT_ HW_ 8 (some 52) (bA 23 2095103) hHeld ?_
                                        refine ta_ HT_ HW_ 11 (some 55) (bA 23 2097151) hHeld ?_
                                        refine pu_ HT_ 21 (some 65) (bA 23 4194303) ?_
                                        refine on_ HT_ 22 none (bA 23 8388607) (fun K hK => ?_)
                                        have hs60 : w58.cell? ⟨gb223, 0, none⟩ = some (.int .i64 0) := (blk_cell BK223.out 0).trans rfl
                                        have hfs60 := blk_frozen BK223.out 0
                                        have hns60_0 := NB222_223.out
                                        have hms60_0 := NB223_222.out
                                        have hs61 : w58.cell? ⟨gb223, 1, none⟩ = some (.int .i64 0) := (blk_cell BK223.out 1).trans rfl
                                        have hfs61 := blk_frozen BK223.out 1
                                        have hns61_0 := NB222_223.out
                                        have hms61_0 := NB223_222.out
                                        have hs62 : w58.cell? ⟨gb223, 2, none⟩ = some (.int .i64 0) := (blk_cell BK223.out 2).trans rfl
                                        have hfs62 := blk_frozen BK223.out 2
                                        have hns62_0 := NB222_223.out
                                        have hms62_0 := NB223_222.out
                                        have hs63 : w58.cell? ⟨gb223, 3, none⟩ = some (.int .i64 0) := (blk_cell BK223.out 3).trans rfl
                                        have hfs63 := blk_frozen BK223.out 3
                                        have hns63_0 := NB222_223.out
                                        have hms63_0 := NB223_222.out
                                        have hs64 : w58.cell? ⟨gb223, 4, none⟩ = some (.string (⟨#[]⟩ : ByteArray)) := (blk_cell BK223.out 4).trans rfl
                                        have hfs64 := blk_frozen BK223.out 4
                                        have hns64_0 := NB222_223.out
                                        have hms64_0 := NB223_222.out
                                        have hs65 : w58.cell? ⟨gb223, 5, none⟩ = some (.string (⟨#[]⟩ : ByteArray)) := (blk_cell BK223.out 5).trans rfl
                                        have hfs65 := blk_frozen BK223.out 5
                                        have hns65_0 := NB222_223.out
                                        have hms65_0 := NB223_222.out
                                        refine sk_ ?_
                                        have far0_ := Kd.own_blk (Kd.R_ne HO_5.out BK223.out (by decide))
                                        refine hK.out _ _ ⟨(by (rw [cell_far, cell_far, cell_far, cell_far, cell_far, cell_far]) <;> first | exact hHeld.1 | exact far0_), (by (rw [cell_far, cell_far, cell_far, cell_far, cell_far, cell_far]) <;> first | exact hHeld.2.1 | exact far0_), (by (rw [cell_far, cell_far, cell_far, cell_far, cell_far, cell_far]) <;> first | exact hHeld.2.2.1 | exact far0_), (by (rw [cell_far, cell_far, cell_far, cell_far, cell_far, cell_far]) <;> first | exact hHeld.2.2.2 | exact far0_)⟩ (fun hHeld => ?_)
                                        clear hK K
                                        refine dn_ HT_ ?_
                                        try go_wp2
                                        have n0_ : Aside0 (Kd.R (Kd.int .i64) 2 ((((((w58.setCell ⟨gb223, 0, none⟩ (.int .i64 (rd x5_2 0))).setCell ⟨gb223, 1, none⟩ (.int .i64 (rd x5_2 1))).setCell ⟨gb223, 2, none⟩ (.int .i64 (rd x5_2 2))).setCell ⟨gb223, 3, none⟩ (.int .i64 (rd x5_2 3))).setCell ⟨gb223, 4, none⟩ (.string (a0.extract (x6_2 : Int).toNat ((ji51) : Int).toNat))).setCell ⟨gb223, 5, none⟩ (.string (a0.extract ((ji46) : Int).toNat a0.size))) w.heap.size (fun _ => True) (.slice (some ad234) x5_2.length co59) x5_2) := ⟨by (with_reducible repeat (first | apply Kd.R_alloc | apply Kd.R_drewN | apply Kd.R_drew)); exact Kd.R_mono (Kd.R_far (p := ⟨gb223, 5, none⟩) (Kd.R_far (p := ⟨gb223, 4, none⟩) (Kd.R_far (p := ⟨gb223, 3, none⟩) (Kd.R_far (p := ⟨gb223, 2, none⟩) (Kd.R_far (p := ⟨gb223, 1, none⟩) (Kd.R_far (p := ⟨gb223, 0, none⟩) (Kd.R_types HO_5.out BK223.out (by decide)) (fun _ hk => hk.2) (.int .i64 (rd x5_2 0))) (fun _ hk => hk.2) (.int .i64 (rd x5_2 1))) (fun _ hk => hk.2) (.int .i64 (rd x5_2 2))) (fun _ hk => hk.2) (.int .i64 (rd x5_2 3))) (fun _ hk => hk.2) (.string (a0.extract (x6_2 : Int).toNat ((ji51) : Int).toNat))) (fun _ hk => hk.2) (.string (a0.extract ((ji46) : Int).toNat a0.size))) (fun _ hk => trivial)⟩
                                        have n1_ : Aside0 (((((((w58.setCell ⟨gb223, 0, none⟩ (.int .i64 (rd x5_2 0))).setCell ⟨gb223, 1, none⟩ (.int .i64 (rd x5_2 1))).setCell ⟨gb223, 2, none⟩ (.int .i64 (rd x5_2 2))).setCell ⟨gb223, 3, none⟩ (.int .i64 (rd x5_2 3))).setCell ⟨gb223, 4, none⟩ (.string (a0.extract (x6_2 : Int).toNat ((ji51) : Int).toNat))).setCell ⟨gb223, 5, none⟩ (.string (a0.extract ((ji46) : Int).toNat a0.size))).heap[gb222]? = some (.cells #[.int .i64 x223000_2, .int .i64 x223001_2, .int .i64 x223002_2, .int .i64 x223003_2, .string x223004_2, .string x223005_2] 28 (0, 0))) := ⟨bka_⟩
                                        have n2_ : Aside0 (((((((w58.setCell ⟨gb223, 0, none⟩ (.int .i64 (rd x5_2 0))).setCell ⟨gb223, 1, none⟩ (.int .i64 (rd x5_2 1))).setCell ⟨gb223, 2, none⟩ (.int .i64 (rd x5_2 2))).setCell ⟨gb223, 3, none⟩ (.int .i64 (rd x5_2 3))).setCell ⟨gb223, 4, none⟩ (.string (a0.extract (x6_2 : Int).toNat ((ji51) : Int).toNat))).setCell ⟨gb223, 5, none⟩ (.string (a0.extract ((ji46) : Int).toNat a0.size))).heap[gb223]? = some (.cells #[.int .i64 (rd x5_2 0), .int .i64 (rd x5_2 1), .int .i64 (rd x5_2 2), .int .i64 (rd x5_2 3), .string (a0.extract (x6_2 : Int).toNat ((ji51) : Int).toNat), .string (a0.extract ((ji46) : Int).toNat a0.size)] 28 (0, 0))) := ⟨bka_⟩
                                        have n3_ : Aside0 (Below w.heap.size w ((((((w58.setCell ⟨gb223, 0, none⟩ (.int .i64 (rd x5_2 0))).setCell ⟨gb223, 1, none⟩ (.int .i64 (rd x5_2 1))).setCell ⟨gb223, 2, none⟩ (.int .i64 (rd x5_2 2))).setCell ⟨gb223, 3, none⟩ (.int .i64 (rd x5_2 3))).setCell ⟨gb223, 4, none⟩ (.string (a0.extract (x6_2 : Int).toNat ((ji51) : Int).toNat))).setCell ⟨gb223, 5, none⟩ (.string (a0.extract ((ji46) : Int).toNat a0.size)))) := ⟨bel_⟩
                                        (try clear HO_5); (try clear BK222); (try clear BK223); (try clear HB)
                                        generalize ((((((w58.setCell ⟨gb223, 0, none⟩ (.int .i64 (rd x5_2 0))).setCell ⟨gb223, 1, none⟩ (.int .i64 (rd x5_2 1))).setCell ⟨gb223, 2, none⟩ (.int .i64 (rd x5_2 2))).setCell ⟨gb223, 3, none⟩ (.int .i64 (rd x5_2 3))).setCell ⟨gb223, 4, none⟩ (.string (a0.extract (x6_2 : Int).toNat ((ji51) : Int).toNat))).setCell ⟨gb223, 5, none⟩ (.string (a0.extract ((ji46) : Int).toNat a0.size))) = w66 at n0_ n1_ n2_ n3_ ⊢
                                        have HO_5 := n0_
                                        have BK222 := n1_
                                        have BK223 := n2_
                                        have HB := n3_
                                        clear n0_ n1_ n2_ n3_
                                        replace HO_5 := AM (Kd.R_drew HO_5.out)
                                        replace BK222 := AM (blk_drew BK222.out)
                                        replace BK223 := AM (blk_drew BK223.out)
                                        replace HB := AM (below_drew1 HB.out)
                                        refine start_ (n := 21) (S := fun w' => w'.cell? ⟨gb223, 0, none⟩ = some (.int .i64 (rd x5_2 0)) ∧ w'.cell? ⟨gb223, 1, none⟩ = some (.int .i64 (rd x5_2 1)) ∧ w'.cell? ⟨gb223, 2, none⟩ = some (.int .i64 (rd x5_2 2)) ∧ w'.cell? ⟨gb223, 3, none⟩ = some (.int .i64 (rd x5_2 3)) ∧ w'.cell? ⟨gb223, 4, none⟩ = some (.string (a0.extract (x6_2 : Int).toNat ((ji51) : Int).toNat)) ∧ w'.cell? ⟨gb223, 5, none⟩ = some (.string (a0.extract ((ji46) : Int).toNat a0.size))) (ds := []) (Array.replicate 21 false) (by kernel_rfl) rfl rfl ⟨(blk_cell BK223.out 0).trans rfl, (blk_cell BK223.out 1).trans rfl, (blk_cell BK223.out 2).trans rfl, (blk_cell BK223.out 3).trans rfl, (blk_cell BK223.out 4).trans rfl, (blk_cell BK223.out 5).trans rfl⟩ (fun hHeld => ?_); refine with_tabW spec_l09Frame.tab17 spec_l09Frame.bits17 (fun HT_ HW_ => ?_)
                                        generalize w66.drew = w67 at HO_5 BK222 BK223 HB hHeld ⊢
                                        refine ta_ HT_ HW_ 0 (some 66) (bA 21 1) hHeld ?_
                                        refine ta_ HT_ HW_ 1 (some 67) (bA 21 3) hHeld ?_
                                        refine on_ HT_ 2 (some 68) (bA 21 7) (fun K hK => ?_)
                                        refine goes_ Tryd.func50 (by kernel_rfl) rfl #[.agg #[.int .i64 (rd x5_2 0), .int .i64 (rd x5_2 1), .int .i64 (rd x5_2 2), .int .i64 (rd x5_2 3), .string (a0.extract (x6_2 : Int).toNat ((ji51) : Int).toNat), .string (a0.extract ((ji46) : Int).toNat a0.size)]] (by rfl) rfl rfl (by (try simp only [List.map_toArray, List.map_cons, List.map_nil]); first | done | (simp only [hji46, hji51]; rfl) | rfl | (simp only [List.length_drop, List.length_take]; rfl)) ?_
                                        with_reducible refine (spec_FrameRight.calls (rd x5_2 0) (rd x5_2 1) (rd x5_2 2) (rd x5_2 3) (a0.extract (x6_2 : Int).toNat ((ji51) : Int).toNat) (a0.extract ((ji46) : Int).toNat a0.size) true _ A49.out).mono ?_
                                        rintro e w68 ⟨rfl, hb⟩
                                        refine ⟨_, rfl, ?_⟩
                                        replace HO_5 := AM (Kd.R_below (ro_ HO_5.out) hb)
                                        replace BK222 := AM (blk_below (g := gb222) (o := .cells #[.int .i64 x223000_2, .int .i64 x223001_2, .int .i64 x223002_2, .int .i64 x223003_2, .string x223004_2, .string x223005_2] 28 (0, 0)) (bk_ BK222.out) hb)
                                        replace BK223 := AM (blk_below (g := gb223) (o := .cells #[.int .i64 (rd x5_2 0), .int .i64 (rd x5_2 1), .int .i64 (rd x5_2 2), .int .i64 (rd x5_2 3), .string (a0.extract (x6_2 : Int).toNat ((ji51) : Int).toNat), .string (a0.extract ((ji46) : Int).toNat a0.size)] 28 (0, 0)) (bk_ BK223.out) hb)
                                        replace HB := AM (below_step bel_ hb)
                                        (try clear hb); (try clear hb2); (try clear hk); (try clear hi)
                                        refine hK.out _ _ ⟨(blk_cell BK223.out 0).trans rfl, (blk_cell BK223.out 1).trans rfl, (blk_cell BK223.out 2).trans rfl, (blk_cell BK223.out 3).trans rfl, (blk_cell BK223.out 4).trans rfl, (blk_cell BK223.out 5).trans rfl⟩ (fun hHeld => ?_)
                                        clear hK K
                                        refine nm_ ?_
                                        refine pu_ HT_ 3 (some 69) (bA 21 15) ?_
                                        refine pu_ HT_ 4 (some 70) (bA 21 31) ?_
                                        refine pu_ HT_ 5 (some 71) (bA 21 63) ?_
                                        refine pu_ HT_ 6 (some 72) (bA 21 127) ?_
                                        refine pu_ HT_ 7 (some 73) (bA 21 255) ?_
                                        refine pu_ HT_ 8 (some 74) (bA 21 511) ?_
                                        refine pu_ HT_ 11 (some 77) (bA 21 2559) ?_
                                        refine pu_ HT_ 12 (some 78) (bA 21 6655) ?_
                                        refine pu_ HT_ 13 (some 79) (bA 21 14847) ?_
                                        refine pu_ HT_ 14 (some 80) (bA 21 31231) ?_
                                        refine pu_ HT_ 15 (some 81) (bA 21 63999) ?_
                                        refine pu_ HT_ 16 (some 82) (bA 21 129535) ?_
                                        refine ta_ HT_ HW_ 9 (some 75) (bA 21 130047) hHeld ?_
                                        refine on_ HT_ 10 (some 76) (bA 21 131071) (fun K hK => ?_)
                                        refine goes_ Tryd.func52 (by kernel_rfl) rfl #[.string (a0.extract 0 ((ji51) : Int).toNat), .string (a0.extract ((ji46) : Int).toNat a0.size)] (by rfl) rfl rfl (by (try simp only [List.map_toArray, List.map_cons, List.map_nil]); first | done | (simp only [hji46, hji51]; rfl) | rfl | (simp only [List.length_drop, List.length_take]; rfl)) ?_
                                        with_reducible refine (spec_l09Digest.calls k2 (a0.extract 0 ((ji51) : Int).toNat) (a0.extract ((ji46) : Int).toNat a0.size) t239 _ A54.out).mono ?_
                                        rintro e w69 ⟨rfl, hb⟩
                                        refine ⟨_, rfl, ?_⟩
                                        replace HO_5 := AM (Kd.R_below (ro_ HO_5.out) hb)
                                        replace BK222 := AM (blk_below (g := gb222) (o := .cells #[.int .i64 x223000_2, .int .i64 x223001_2, .int .i64 x223002_2, .int .i64 x223003_2, .string x223004_2, .string x223005_2] 28 (0, 0)) (bk_ BK222.out) hb)
                                        replace BK223 := AM (blk_below (g := gb223) (o := .cells #[.int .i64 (rd x5_2 0), .int .i64 (rd x5_2 1), .int .i64 (rd x5_2 2), .int .i64 (rd x5_2 3), .string (a0.extract (x6_2 : Int).toNat ((ji51) : Int).toNat), .string (a0.extract ((ji46) : Int).toNat a0.size)] 28 (0, 0)) (bk_ BK223.out) hb)
                                        replace HB := AM (below_step bel_ hb)
                                        (try clear hb); (try clear hb2); (try clear hk); (try clear hi)
                                        refine hK.out _ _ ⟨(blk_cell BK223.out 0).trans rfl, (blk_cell BK223.out 1).trans rfl, (blk_cell BK223.out 2).trans rfl, (blk_cell BK223.out 3).trans rfl, (blk_cell BK223.out 4).trans rfl, (blk_cell BK223.out 5).trans rfl⟩ (fun hHeld => ?_)
                                        clear hK K
                                        refine nm_ ?_
                                        refine pu_ HT_ 17 (some 83) (bA 21 262143) ?_
                                        refine pu_ HT_ 18 (some 84) (bA 21 524287) ?_
                                        refine on_ HT_ 19 none (bA 21 1048575) (fun K hK => ?_)
                                        have hs70 : w69.cell? ⟨gb222, 0, none⟩ = some (.int .i64 x223000_2) := (blk_cell BK222.out 0).trans rfl
                                        have hfs70 := blk_frozen BK222.out 0
                                        have hns70_1 := NB223_222.out
                                        have hms70_1 := NB222_223.out
                                        have hs71 : w69.cell? ⟨gb222, 1, none⟩ = some (.int .i64 x223001_2) := (blk_cell BK222.out 1).trans rfl
                                        have hfs71 := blk_frozen BK222.out 1
                                        have hns71_1 := NB223_222.out
                                        have hms71_1 := NB222_223.out
                                        have hs72 : w69.cell? ⟨gb222, 2, none⟩ = some (.int .i64 x223002_2) := (blk_cell BK222.out 2).trans rfl
                                        have hfs72 := blk_frozen BK222.out 2
                                        have hns72_1 := NB223_222.out
                                        have hms72_1 := NB222_223.out
                                        have hs73 : w69.cell? ⟨gb222, 3, none⟩ = some (.int .i64 x223003_2) := (blk_cell BK222.out 3).trans rfl
                                        have hfs73 := blk_frozen BK222.out 3
                                        have hns73_1 := NB223_222.out
                                        have hms73_1 := NB222_223.out
                                        have hs74 : w69.cell? ⟨gb222, 4, none⟩ = some (.string x223004_2) := (blk_cell BK222.out 4).trans rfl
                                        have hfs74 := blk_frozen BK222.out 4
                                        have hns74_1 := NB223_222.out
                                        have hms74_1 := NB222_223.out
                                        have hs75 : w69.cell? ⟨gb222, 5, none⟩ = some (.string x223005_2) := (blk_cell BK222.out 5).trans rfl
                                        have hfs75 := blk_frozen BK222.out 5
                                        have hns75_1 := NB223_222.out
                                        have hms75_1 := NB222_223.out
                                        refine sk_ ?_
                                        refine hK.out _ _ ⟨(by (rw [cell_far, cell_far, cell_far, cell_far, cell_far, cell_far]) <;> first | exact hHeld.1 | exact NB223_222.out), (by (rw [cell_far, cell_far, cell_far, cell_far, cell_far, cell_far]) <;> first | exact hHeld.2.1 | exact NB223_222.out), (by (rw [cell_far, cell_far, cell_far, cell_far, cell_far, cell_far]) <;> first | exact hHeld.2.2.1 | exact NB223_222.out), (by (rw [cell_far, cell_far, cell_far, cell_far, cell_far, cell_far]) <;> first | exact hHeld.2.2.2.1 | exact NB223_222.out), (by (rw [cell_far, cell_far, cell_far, cell_far, cell_far, cell_far]) <;> first | exact hHeld.2.2.2.2.1 | exact NB223_222.out), (by (rw [cell_far, cell_far, cell_far, cell_far, cell_far, cell_far]) <;> first | exact hHeld.2.2.2.2.2 | exact NB223_222.out)⟩ (fun hHeld => ?_)
                                        clear hK K
                                        refine pu_ HT_ 20 (some 3) (bA 21 2097151) ?_
                                        refine dn_ HT_ ?_
                                        try go_wp2
                                        refine bodyPost_ret (results_ct rfl _ _ gb222 28 #[.int .i64 (rd x5_2 0), .int .i64 (rd x5_2 1), .int .i64 (rd x5_2 2), .int .i64 (rd x5_2 3), .string (a0.extract (x6_2 : Int).toNat ((ji51) : Int).toNat), .string (a0.extract ((ji46) : Int).toNat a0.size)] (0, 0) _ rfl bka_ Tryd.underlying28 rfl (by kernel_rfl)) rfl ?_
                                        exact ⟨by first | rfl | (simp [errW_none, errW_some] <;> rfl) | (simp only [← hji46, ← hji51]; first | rfl | (simp [errW_none, errW_some] <;> rfl)) | (simp [*, errW_none, errW_some] <;> rfl), bel_⟩
                                      · rw [if_neg c56] at H
                                        exact absurd H (by simp)
                                    · rw [if_neg c52] at H
                                      exact absurd H (by simp)
                                  · replace c50 := Bool.eq_false_iff.mpr c50
                                    subst c50
                                    rw [if_neg (show ¬ (false = true) by decide)] at H
                                    simp only [Option.some.injEq, Prod.mk.injEq] at H
                                    obtain ⟨rfl, rfl, rfl, rfl, rfl, rfl, rfl⟩ := H
                                    try go_wp2
                                    replace HO_5 := AM (Kd.R_drew HO_5.out)
                                    replace BK222 := AM (blk_drew BK222.out)
                                    replace BK223 := AM (blk_drew BK223.out)
                                    replace HB := AM (below_drew1 HB.out)
                                    obtain ⟨Ao77, co77, eo77⟩ := Kd.R_slice HO_5.out
                                    (first | subst eo77 | (injection eo77 with f1_ f2_ f3_; have f4_ := f1_.symm; have f5_ := f3_.symm; clear f1_ f2_ f3_; subst f4_; subst f5_))
                                    have p234 : 0 ≤ (0 : Int) := (by omega)
                                    have q234 : 0 < (x5_2.length : Int) := of_decide_eq_true (by first | (with_reducible assumption) | assumption)
                                    obtain ⟨ad234, e234, hx234_0⟩ := Kd.at_int (Kd.R_reads' HO_5.out).2.2 0 p234 q234
                                    cases e234
                                    have qi234 : (0 < x5_2.length) = True := eq_true (by omega)
                                    (try rw [show ((0 : Int)).toNat = 0 from rfl] at hx234_0)
                                    (try rw [Addr.add_zero'] at hx234_0)
                                    replace p234 := eq_true p234
                                    replace q234 := eq_true q234
                                    have p235 : 0 ≤ (1 : Int) := (by omega)
                                    have q235 : 1 < (x5_2.length : Int) := of_decide_eq_true (by first | (with_reducible assumption) | assumption)
                                    obtain ⟨ad235, e235, hx235_0⟩ := Kd.at_int (Kd.R_reads' HO_5.out).2.2 1 p235 q235
                                    obtain rfl : ad234 = ad235 := (by injection e235)
                                    (try simp only [show (1 : Int).toNat = 1 from rfl, Nat.reduceMul, Nat.reduceEqDiff, Go.Addr.add, ↓reduceIte] at hx235_0)
                                    have qi235 : (1 < x5_2.length) = True := eq_true (by omega)
                                    (try rw [show ((1 : Int)).toNat = 1 from rfl] at hx235_0)
                                    replace p235 := eq_true p235
                                    replace q235 := eq_true q235
                                    have p236 : 0 ≤ (2 : Int) := (by omega)
                                    have q236 : 2 < (x5_2.length : Int) := of_decide_eq_true (by first | (with_reducible assumption) | assumption)
                                    obtain ⟨ad236, e236, hx236_0⟩ := Kd.at_int (Kd.R_reads' HO_5.out).2.2 2 p236 q236
                                    obtain rfl : ad234 = ad236 := (by injection e236)
                                    (try simp only [show (2 : Int).toNat = 2 from rfl, Nat.reduceMul, Nat.reduceEqDiff, Go.Addr.add, ↓reduceIte] at hx236_0)
                                    have qi236 : (2 < x5_2.length) = True := eq_true (by omega)
                                    (try rw [show ((2 : Int)).toNat = 2 from rfl] at hx236_0)
                                    replace p236 := eq_true p236
                                    replace q236 := eq_true q236
                                    have p237 : 0 ≤ (3 : Int) := (by omega)
                                    have q237 : 3 < (x5_2.length : Int) := of_decide_eq_true (by first | (with_reducible assumption) | assumption)
                                    obtain ⟨ad237, e237, hx237_0⟩ := Kd.at_int (Kd.R_reads' HO_5.out).2.2 3 p237 q237
                                    obtain rfl : ad234 = ad237 := (by injection e237)
                                    (try simp only [show (3 : Int).toNat = 3 from rfl, Nat.reduceMul, Nat.reduceEqDiff, Go.Addr.add, ↓reduceIte] at hx237_0)
                                    have qi237 : (3 < x5_2.length) = True := eq_true (by omega)
                                    (try rw [show ((3 : Int)).toNat = 3 from rfl] at hx237_0)
                                    replace p237 := eq_true p237
                                    replace q237 := eq_true q237
                                    refine start_ (n := 23) (S := fun w' => w'.cell? ad234 = some (.int .i64 (rd x5_2 0)) ∧ w'.cell? ⟨ad234.block, ad234.off + 1, none⟩ = some (.int .i64 (rd x5_2 1)) ∧ w'.cell? ⟨ad234.block, ad234.off + 2, none⟩ = some (.int .i64 (rd x5_2 2)) ∧ w'.cell? ⟨ad234.block, ad234.off + 3, none⟩ = some (.int .i64 (rd x5_2 3))) (ds := []) (Array.replicate 23 false) (by kernel_rfl) rfl rfl ⟨hx234_0, hx235_0, hx236_0, hx237_0⟩ (fun hHeld => ?_); refine with_tabW spec_l09Frame.tab16 spec_l09Frame.bits16 (fun HT_ HW_ => ?_)
                                    generalize wr.drew = w76 at HO_5 BK222 BK223 HB hx234_0 hx235_0 hx236_0 hx237_0 hHeld ⊢
                                    refine pu_ HT_ 0 (some 44) (bA 23 1) ?_
                                    refine pu_ HT_ 1 (some 45) (bA 23 3) ?_
                                    refine pu_ HT_ 3 (some 47) (bA 23 11) ?_
                                    refine pu_ HT_ 4 (some 48) (bA 23 27) ?_
                                    refine pu_ HT_ 6 (some 50) (bA 23 91) ?_
                                    refine pu_ HT_ 7 (some 51) (bA 23 219) ?_
                                    refine pu_ HT_ 9 (some 53) (bA 23 731) ?_
                                    refine pu_ HT_ 10 (some 54) (bA 23 1755) ?_
                                    refine pu_ HT_ 12 (some 56) (bA 23 5851) ?_
                                    refine pu_ HT_ 13 (some 57) (bA 23 14043) ?_
                                    refine pu_ HT_ 14 (some 58) (bA 23 30427) ?_
                                    refine pu_ HT_ 15 (some 59) (bA 23 63195) ?_
                                    refine pu_ HT_ 16 (some 60) (bA 23 128731) ?_
                                    refine pu_ HT_ 17 (some 61) (bA 23 259803) ?_
                                    refine pu_ HT_ 18 (some 62) (bA 23 521947) ?_
                                    refine pu_ HT_ 19 (some 63) (bA 23 1046235) ?_
                                    refine pu_ HT_ 20 (some 64) (bA 23 2094811) ?_
                                    refine ta_ HT_ HW_ 2 (some 46) (bA 23 2094815) hHeld ?_
                                    refine ta_ HT_ HW_ 5 (some 49) (bA 23 2094847) hHeld ?_
                                    refine ta_ HT_ HW_ 8 (some 52) (bA 23 2095103) hHeld ?_
                                    refine ta_ HT_ HW_ 11 (some 55) (bA 23 2097151) hHeld ?_
                                    refine pu_ HT_ 21 (some 65) (bA 23 4194303) ?_
                                    refine on_ HT_ 22 none (bA 23 8388607) (fun K hK => ?_)
                                    have hs78 : w76.cell? ⟨gb223, 0, none⟩ = some (.int .i64 0) := (blk_cell BK223.out 0).trans rfl
                                    have hfs78 := blk_frozen BK223.out 0
                                    have hns78_0 := NB222_223.out
                                    have hms78_0 := NB223_222.out
                                    have hs79 : w76.cell? ⟨gb223, 1, none⟩ = some (.int .i64 0) := (blk_cell BK223.out 1).trans rfl
                                    have hfs79 := blk_frozen BK223.out 1
                                    have hns79_0 := NB222_223.out
                                    have hms79_0 := NB223_222.out
                                    have hs80 : w76.cell? ⟨gb223, 2, none⟩ = some (.int .i64 0) := (blk_cell BK223.out 2).trans rfl
                                    have hfs80 := blk_frozen BK223.out 2
                                    have hns80_0 := NB222_223.out
                                    have hms80_0 := NB223_222.out
                                    have hs81 : w76.cell? ⟨gb223, 3, none⟩ = some (.int .i64 0) := (blk_cell BK223.out 3).trans rfl
                                    have hfs81 := blk_frozen BK223.out 3
                                    have hns81_0 := NB222_223.out
                                    have hms81_0 := NB223_222.out
                                    have hs82 : w76.cell? ⟨gb223, 4, none⟩ = some (.string (⟨#[]⟩ : ByteArray)) := (blk_cell BK223.out 4).trans rfl
                                    have hfs82 := blk_frozen BK223.out 4
                                    have hns82_0 := NB222_223.out
                                    have hms82_0 := NB223_222.out
                                    have hs83 : w76.cell? ⟨gb223, 5, none⟩ = some (.string (⟨#[]⟩ : ByteArray)) := (blk_cell BK223.out 5).trans rfl
                                    have hfs83 := blk_frozen BK223.out 5
                                    have hns83_0 := NB222_223.out
                                    have hms83_0 := NB223_222.out
                                    refine sk_ ?_
                                    have far0_ := Kd.own_blk (Kd.R_ne HO_5.out BK223.out (by decide))
                                    refine hK.out _ _ ⟨(by (rw [cell_far, cell_far, cell_far, cell_far, cell_far, cell_far]) <;> first | exact hHeld.1 | exact far0_), (by (rw [cell_far, cell_far, cell_far, cell_far, cell_far, cell_far]) <;> first | exact hHeld.2.1 | exact far0_), (by (rw [cell_far, cell_far, cell_far, cell_far, cell_far, cell_far]) <;> first | exact hHeld.2.2.1 | exact far0_), (by (rw [cell_far, cell_far, cell_far, cell_far, cell_far, cell_far]) <;> first | exact hHeld.2.2.2 | exact far0_)⟩ (fun hHeld => ?_)
                                    clear hK K
                                    refine dn_ HT_ ?_
                                    try go_wp2
                                    have n0_ : Aside0 (Kd.R (Kd.int .i64) 2 ((((((w76.setCell ⟨gb223, 0, none⟩ (.int .i64 (rd x5_2 0))).setCell ⟨gb223, 1, none⟩ (.int .i64 (rd x5_2 1))).setCell ⟨gb223, 2, none⟩ (.int .i64 (rd x5_2 2))).setCell ⟨gb223, 3, none⟩ (.int .i64 (rd x5_2 3))).setCell ⟨gb223, 4, none⟩ (.string (a0.extract (x6_2 : Int).toNat ((wrap64 (x6_2 + 32)) : Int).toNat))).setCell ⟨gb223, 5, none⟩ (.string (a0.extract ((ji46) : Int).toNat a0.size))) w.heap.size (fun _ => True) (.slice (some ad234) x5_2.length co77) x5_2) := ⟨by (with_reducible repeat (first | apply Kd.R_alloc | apply Kd.R_drewN | apply Kd.R_drew)); exact Kd.R_mono (Kd.R_far (p := ⟨gb223, 5, none⟩) (Kd.R_far (p := ⟨gb223, 4, none⟩) (Kd.R_far (p := ⟨gb223, 3, none⟩) (Kd.R_far (p := ⟨gb223, 2, none⟩) (Kd.R_far (p := ⟨gb223, 1, none⟩) (Kd.R_far (p := ⟨gb223, 0, none⟩) (Kd.R_types HO_5.out BK223.out (by decide)) (fun _ hk => hk.2) (.int .i64 (rd x5_2 0))) (fun _ hk => hk.2) (.int .i64 (rd x5_2 1))) (fun _ hk => hk.2) (.int .i64 (rd x5_2 2))) (fun _ hk => hk.2) (.int .i64 (rd x5_2 3))) (fun _ hk => hk.2) (.string (a0.extract (x6_2 : Int).toNat ((wrap64 (x6_2 + 32)) : Int).toNat))) (fun _ hk => hk.2) (.string (a0.extract ((ji46) : Int).toNat a0.size))) (fun _ hk => trivial)⟩
                                    have n1_ : Aside0 (((((((w76.setCell ⟨gb223, 0, none⟩ (.int .i64 (rd x5_2 0))).setCell ⟨gb223, 1, none⟩ (.int .i64 (rd x5_2 1))).setCell ⟨gb223, 2, none⟩ (.int .i64 (rd x5_2 2))).setCell ⟨gb223, 3, none⟩ (.int .i64 (rd x5_2 3))).setCell ⟨gb223, 4, none⟩ (.string (a0.extract (x6_2 : Int).toNat ((wrap64 (x6_2 + 32)) : Int).toNat))).setCell ⟨gb223, 5, none⟩ (.string (a0.extract ((ji46) : Int).toNat a0.size))).heap[gb222]? = some (.cells #[.int .i64 x223000_2, .int .i64 x223001_2, .int .i64 x223002_2, .int .i64 x223003_2, .string x223004_2, .string x223005_2] 28 (0, 0))) := ⟨bka_⟩
                                    have n2_ : Aside0 (((((((w76.setCell ⟨gb223, 0, none⟩ (.int .i64 (rd x5_2 0))).setCell ⟨gb223, 1, none⟩ (.int .i64 (rd x5_2 1))).setCell ⟨gb223, 2, none⟩ (.int .i64 (rd x5_2 2))).setCell ⟨gb223, 3, none⟩ (.int .i64 (rd x5_2 3))).setCell ⟨gb223, 4, none⟩ (.string (a0.extract (x6_2 : Int).toNat ((wrap64 (x6_2 + 32)) : Int).toNat))).setCell ⟨gb223, 5, none⟩ (.string (a0.extract ((ji46) : Int).toNat a0.size))).heap[gb223]? = some (.cells #[.int .i64 (rd x5_2 0), .int .i64 (rd x5_2 1), .int .i64 (rd x5_2 2), .int .i64 (rd x5_2 3), .string (a0.extract (x6_2 : Int).toNat ((wrap64 (x6_2 + 32)) : Int).toNat), .string (a0.extract ((ji46) : Int).toNat a0.size)] 28 (0, 0))) := ⟨bka_⟩
                                    have n3_ : Aside0 (Below w.heap.size w ((((((w76.setCell ⟨gb223, 0, none⟩ (.int .i64 (rd x5_2 0))).setCell ⟨gb223, 1, none⟩ (.int .i64 (rd x5_2 1))).setCell ⟨gb223, 2, none⟩ (.int .i64 (rd x5_2 2))).setCell ⟨gb223, 3, none⟩ (.int .i64 (rd x5_2 3))).setCell ⟨gb223, 4, none⟩ (.string (a0.extract (x6_2 : Int).toNat ((wrap64 (x6_2 + 32)) : Int).toNat))).setCell ⟨gb223, 5, none⟩ (.string (a0.extract ((ji46) : Int).toNat a0.size)))) := ⟨bel_⟩
                                    (try clear HO_5); (try clear BK222); (try clear BK223); (try clear HB)
                                    generalize ((((((w76.setCell ⟨gb223, 0, none⟩ (.int .i64 (rd x5_2 0))).setCell ⟨gb223, 1, none⟩ (.int .i64 (rd x5_2 1))).setCell ⟨gb223, 2, none⟩ (.int .i64 (rd x5_2 2))).setCell ⟨gb223, 3, none⟩ (.int .i64 (rd x5_2 3))).setCell ⟨gb223, 4, none⟩ (.string (a0.extract (x6_2 : Int).toNat ((wrap64 (x6_2 + 32)) : Int).toNat))).setCell ⟨gb223, 5, none⟩ (.string (a0.extract ((ji46) : Int).toNat a0.size))) = w84 at n0_ n1_ n2_ n3_ ⊢
                                    have HO_5 := n0_
                                    have BK222 := n1_
                                    have BK223 := n2_
                                    have HB := n3_
                                    clear n0_ n1_ n2_ n3_
                                    replace HO_5 := AM (Kd.R_drew HO_5.out)
                                    replace BK222 := AM (blk_drew BK222.out)
                                    replace BK223 := AM (blk_drew BK223.out)
                                    replace HB := AM (below_drew1 HB.out)
                                    refine start_ (n := 21) (S := fun w' => w'.cell? ⟨gb223, 0, none⟩ = some (.int .i64 (rd x5_2 0)) ∧ w'.cell? ⟨gb223, 1, none⟩ = some (.int .i64 (rd x5_2 1)) ∧ w'.cell? ⟨gb223, 2, none⟩ = some (.int .i64 (rd x5_2 2)) ∧ w'.cell? ⟨gb223, 3, none⟩ = some (.int .i64 (rd x5_2 3)) ∧ w'.cell? ⟨gb223, 4, none⟩ = some (.string (a0.extract (x6_2 : Int).toNat ((wrap64 (x6_2 + 32)) : Int).toNat)) ∧ w'.cell? ⟨gb223, 5, none⟩ = some (.string (a0.extract ((ji46) : Int).toNat a0.size))) (ds := []) (Array.replicate 21 false) (by kernel_rfl) rfl rfl ⟨(blk_cell BK223.out 0).trans rfl, (blk_cell BK223.out 1).trans rfl, (blk_cell BK223.out 2).trans rfl, (blk_cell BK223.out 3).trans rfl, (blk_cell BK223.out 4).trans rfl, (blk_cell BK223.out 5).trans rfl⟩ (fun hHeld => ?_); refine with_tabW spec_l09Frame.tab17 spec_l09Frame.bits17 (fun HT_ HW_ => ?_)
                                    generalize w84.drew = w85 at HO_5 BK222 BK223 HB hHeld ⊢
                                    refine ta_ HT_ HW_ 0 (some 66) (bA 21 1) hHeld ?_
                                    refine ta_ HT_ HW_ 1 (some 67) (bA 21 3) hHeld ?_
                                    refine on_ HT_ 2 (some 68) (bA 21 7) (fun K hK => ?_)
                                    refine goes_ Tryd.func50 (by kernel_rfl) rfl #[.agg #[.int .i64 (rd x5_2 0), .int .i64 (rd x5_2 1), .int .i64 (rd x5_2 2), .int .i64 (rd x5_2 3), .string (a0.extract (x6_2 : Int).toNat ((wrap64 (x6_2 + 32)) : Int).toNat), .string (a0.extract ((ji46) : Int).toNat a0.size)]] (by rfl) rfl rfl (by (try simp only [List.map_toArray, List.map_cons, List.map_nil]); first | done | (simp only [hji46]; rfl) | rfl | (simp only [List.length_drop, List.length_take]; rfl)) ?_
                                    with_reducible refine (spec_FrameRight.calls (rd x5_2 0) (rd x5_2 1) (rd x5_2 2) (rd x5_2 3) (a0.extract (x6_2 : Int).toNat ((wrap64 (x6_2 + 32)) : Int).toNat) (a0.extract ((ji46) : Int).toNat a0.size) false _ A49.out).mono ?_
                                    rintro e w86 ⟨rfl, hb⟩
                                    refine ⟨_, rfl, ?_⟩
                                    replace HO_5 := AM (Kd.R_below (ro_ HO_5.out) hb)
                                    replace BK222 := AM (blk_below (g := gb222) (o := .cells #[.int .i64 x223000_2, .int .i64 x223001_2, .int .i64 x223002_2, .int .i64 x223003_2, .string x223004_2, .string x223005_2] 28 (0, 0)) (bk_ BK222.out) hb)
                                    replace BK223 := AM (blk_below (g := gb223) (o := .cells #[.int .i64 (rd x5_2 0), .int .i64 (rd x5_2 1), .int .i64 (rd x5_2 2), .int .i64 (rd x5_2 3), .string (a0.extract (x6_2 : Int).toNat ((wrap64 (x6_2 + 32)) : Int).toNat), .string (a0.extract ((ji46) : Int).toNat a0.size)] 28 (0, 0)) (bk_ BK223.out) hb)
                                    replace HB := AM (below_step bel_ hb)
                                    (try clear hb); (try clear hb2); (try clear hk); (try clear hi)
                                    refine hK.out _ _ ⟨(blk_cell BK223.out 0).trans rfl, (blk_cell BK223.out 1).trans rfl, (blk_cell BK223.out 2).trans rfl, (blk_cell BK223.out 3).trans rfl, (blk_cell BK223.out 4).trans rfl, (blk_cell BK223.out 5).trans rfl⟩ (fun hHeld => ?_)
                                    clear hK K
                                    refine nm_ ?_
                                    refine pu_ HT_ 3 (some 69) (bA 21 15) ?_
                                    refine pu_ HT_ 4 (some 70) (bA 21 31) ?_
                                    refine pu_ HT_ 5 (some 71) (bA 21 63) ?_
                                    refine pu_ HT_ 6 (some 72) (bA 21 127) ?_
                                    refine pu_ HT_ 7 (some 73) (bA 21 255) ?_
                                    refine pu_ HT_ 8 (some 74) (bA 21 511) ?_
                                    refine pu_ HT_ 9 (some 75) (bA 21 1023) ?_
                                    refine pu_ HT_ 10 (some 76) (bA 21 2047) ?_
                                    refine pu_ HT_ 11 (some 77) (bA 21 4095) ?_
                                    refine pu_ HT_ 12 (some 78) (bA 21 8191) ?_
                                    refine pu_ HT_ 13 (some 79) (bA 21 16383) ?_
                                    refine pu_ HT_ 14 (some 80) (bA 21 32767) ?_
                                    refine pu_ HT_ 15 (some 81) (bA 21 65535) ?_
                                    refine pu_ HT_ 16 (some 82) (bA 21 131071) ?_
                                    refine pu_ HT_ 17 (some 83) (bA 21 262143) ?_
                                    refine pu_ HT_ 18 (some 84) (bA 21 524287) ?_
                                    refine on_ HT_ 19 none (bA 21 1048575) (fun K hK => ?_)
                                    have hs87 : w86.cell? ⟨gb222, 0, none⟩ = some (.int .i64 x223000_2) := (blk_cell BK222.out 0).trans rfl
                                    have hfs87 := blk_frozen BK222.out 0
                                    have hns87_1 := NB223_222.out
                                    have hms87_1 := NB222_223.out
                                    have hs88 : w86.cell? ⟨gb222, 1, none⟩ = some (.int .i64 x223001_2) := (blk_cell BK222.out 1).trans rfl
                                    have hfs88 := blk_frozen BK222.out 1
                                    have hns88_1 := NB223_222.out
                                    have hms88_1 := NB222_223.out
                                    have hs89 : w86.cell? ⟨gb222, 2, none⟩ = some (.int .i64 x223002_2) := (blk_cell BK222.out 2).trans rfl
                                    have hfs89 := blk_frozen BK222.out 2
                                    have hns89_1 := NB223_222.out
                                    have hms89_1 := NB222_223.out
                                    have hs90 : w86.cell? ⟨gb222, 3, none⟩ = some (.int .i64 x223003_2) := (blk_cell BK222.out 3).trans rfl
                                    have hfs90 := blk_frozen BK222.out 3
                                    have hns90_1 := NB223_222.out
                                    have hms90_1 := NB222_223.out
                                    have hs91 : w86.cell? ⟨gb222, 4, none⟩ = some (.string x223004_2) := (blk_cell BK222.out 4).trans rfl
                                    have hfs91 := blk_frozen BK222.out 4
                                    have hns91_1 := NB223_222.out
                                    have hms91_1 := NB222_223.out
                                    have hs92 : w86.cell? ⟨gb222, 5, none⟩ = some (.string x223005_2) := (blk_cell BK222.out 5).trans rfl
                                    have hfs92 := blk_frozen BK222.out 5
                                    have hns92_1 := NB223_222.out
                                    have hms92_1 := NB222_223.out
                                    refine sk_ ?_
                                    refine hK.out _ _ ⟨(by (rw [cell_far, cell_far, cell_far, cell_far, cell_far, cell_far]) <;> first | exact hHeld.1 | exact NB223_222.out), (by (rw [cell_far, cell_far, cell_far, cell_far, cell_far, cell_far]) <;> first | exact hHeld.2.1 | exact NB223_222.out), (by (rw [cell_far, cell_far, cell_far, cell_far, cell_far, cell_far]) <;> first | exact hHeld.2.2.1 | exact NB223_222.out), (by (rw [cell_far, cell_far, cell_far, cell_far, cell_far, cell_far]) <;> first | exact hHeld.2.2.2.1 | exact NB223_222.out), (by (rw [cell_far, cell_far, cell_far, cell_far, cell_far, cell_far]) <;> first | exact hHeld.2.2.2.2.1 | exact NB223_222.out), (by (rw [cell_far, cell_far, cell_far, cell_far, cell_far, cell_far]) <;> first | exact hHeld.2.2.2.2.2 | exact NB223_222.out)⟩ (fun hHeld => ?_)
                                    clear hK K
                                    refine pu_ HT_ 20 (some 3) (bA 21 2097151) ?_
                                    refine dn_ HT_ ?_
                                    try go_wp2
                                    refine bodyPost_ret (results_ct rfl _ _ gb222 28 #[.int .i64 (rd x5_2 0), .int .i64 (rd x5_2 1), .int .i64 (rd x5_2 2), .int .i64 (rd x5_2 3), .string (a0.extract (x6_2 : Int).toNat ((wrap64 (x6_2 + 32)) : Int).toNat), .string (a0.extract ((ji46) : Int).toNat a0.size)] (0, 0) _ rfl bka_ Tryd.underlying28 rfl (by kernel_rfl)) rfl ?_
                                    exact ⟨by first | rfl | (simp [errW_none, errW_some] <;> rfl) | (simp only [← hji46]; first | rfl | (simp [errW_none, errW_some] <;> rfl)) | (simp [*, errW_none, errW_some] <;> rfl), bel_⟩
                                · rw [if_neg c48] at H
                                  exact absurd H (by simp)
                              · rw [if_neg c47] at H
                                exact absurd H (by simp)
                            · rw [if_neg c45] at H
                              exact absurd H (by simp)
                          · rw [if_neg c44] at H
                            exact absurd H (by simp)
                        · rw [if_neg c43] at H
                          exact absurd H (by simp)
                      · rw [if_neg c42] at H
                        exact absurd H (by simp)
                    · rw [if_neg c41] at H
                      exact absurd H (by simp)
                  · rw [if_neg c40] at H
                    exact absurd H (by simp)
                · rw [if_neg c39] at H
                  exact absurd H (by simp)

end Go.Proofs.YtddapeieolfolaaDoor.PFnFrame
