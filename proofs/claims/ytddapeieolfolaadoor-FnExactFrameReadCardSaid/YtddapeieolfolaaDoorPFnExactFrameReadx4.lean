/- Functions of the law FnExactFrameRead: the print's, with walks of this session's own. No statement is proved here. -/
import Derived.WalkLawsBesides
import Derived.Test.YtddapeieolfolaaDoorVRegFnExactFrameRead
-- A program of this session wrote this text: a changed copy of the kit print, with given functions.
import Derived.Test.YtddapeieolfolaaDoorPFnExactFrameReadx0
import Derived.Test.YtddapeieolfolaaDoorPFnExactFrameReadx3
namespace Go.Proofs.YtddapeieolfolaaDoor.PFnExactFrameRead
open Go.RowKit Go.Proofs.YtddapeieolfolaaDoorW.PrintWords Go.Proofs.YtddapeieolfolaaDoorW.PrintLast Go.Proofs.YtddapeieolfolaaDoorW.PrintMore Go.Proofs.YtddapeieolfolaaDoor.Reg Go.Proofs.YtddapeieolfolaaDoor.Aut
attribute [local go_sem] max2_int min2_int max_two min_two max_three min_three max_four min_four   -- for this text's walks alone
set_option linter.unusedVariables false
set_option linter.unusedSimpArgs false

/-! ### spec_l05End: function 66 -/
mutual
def spec_l05End.l0 : Nat → List Int → List Int → ByteArray → Int → Option (ByteArray)
  | 0, _, _, _, _ => none
  | k + 1, x3, x122000, x122001, x122002 => if (Int.tmod (wrap64 (x122002 + (x3.length : Int))) 64) = 56 then (spec_l05End.l1 k x3 (IntKind.u64.wrap (wrap64 (8 * x122002))) 56 x122000 x122001 x122002) else (if x3.length < 140737488355328 then (spec_l05End.l0 k (x3 ++ [0]) x122000 x122001 x122002) else (none))
def spec_l05End.l1 : Nat → List Int → Int → Int → List Int → ByteArray → Int → Option (ByteArray)
  | 0, _, _, _, _, _, _ => none
  | k + 1, x3, x4, x5, x122000, x122001, x122002 => if x5 ≥ 0 then (if 0 ≤ (IntKind.u64.wrap (x5)) then (if x3.length < 140737488355328 then (spec_l05End.l1 k (x3 ++ [(shr .u64 x4 (IntKind.u64.wrap (x5))) % 256]) x4 (wrap64 (x5 - 8)) x122000 x122001 x122002) else (none)) else (none)) else ((spec_l05More.f k x122000 x122001 x122002 (strOfNums x3)).bind fun bt131 => (spec_l05End.l2 k (([] : List Int)) 0 bt131.1 bt131.2.1 bt131.2.2))
def spec_l05End.l2 : Nat → List Int → Int → List Int → ByteArray → Int → Option (ByteArray)
  | 0, _, _, _, _, _ => none
  | k + 1, x7, x8, x137000, x137001, x137002 => if x8 < 8 then (if 0 ≤ x8 then (if x8 < (x137000.length : Int) then ((some (([((rd x137000 x8) / 16777216) % 256, ((rd x137000 x8) / 65536) % 256, ((rd x137000 x8) / 256) % 256, (rd x137000 x8) % 256] : List Int) : List Int)).bind fun y141 => (if x7.length + y141.length < 140737488355328 then (spec_l05End.l2 k (x7 ++ y141) (wrap64 (x8 + 1)) x137000 x137001 x137002) else (none))) else (none)) else (none)) else (some (strOfNums x7))
end
def spec_l05End.f (k : Nat) (l0_0 : List Int) (a0_1 : ByteArray) (a0_2 : Int) : Option (ByteArray) := spec_l05End.l0 k (([128] : List Int)) l0_0 a0_1 a0_2
theorem spec_l05End.mono_l : ∀ k, (∀ y0 y1 y2 y3, LeO (spec_l05End.l0 k y0 y1 y2 y3) (spec_l05End.l0 (k + 1) y0 y1 y2 y3)) ∧ (∀ y0 y1 y2 y3 y4 y5, LeO (spec_l05End.l1 k y0 y1 y2 y3 y4 y5) (spec_l05End.l1 (k + 1) y0 y1 y2 y3 y4 y5)) ∧ (∀ y0 y1 y2 y3 y4, LeO (spec_l05End.l2 k y0 y1 y2 y3 y4) (spec_l05End.l2 (k + 1) y0 y1 y2 y3 y4))
  | 0 => ⟨fun _ _ _ _ r h => by simp [spec_l05End.l0] at h, fun _ _ _ _ _ _ r h => by simp [spec_l05End.l1] at h, fun _ _ _ _ _ r h => by simp [spec_l05End.l2] at h⟩
  | k + 1 => by
    obtain ⟨ih0, ih1, ih2⟩ := spec_l05End.mono_l k
    refine ⟨?_, ?_, ?_⟩
    · intro y0 y1 y2 y3
      unfold spec_l05End.l0
      repeat' first
      | (with_reducible exact ih0 _ _ _ _)
      | (with_reducible exact ih1 _ _ _ _ _ _)
      | (with_reducible exact ih2 _ _ _ _ _)
      | (with_reducible exact spec_l05More.mono _ _ _ _ _)
      | (with_reducible exact LeO.refl _)
      | (with_reducible exact LeO.none _)
      | (with_reducible refine LeO.ite ?_ ?_)
      | (with_reducible refine LeO.bind ?_ (fun _ => ?_))
      | exact ih0 _ _ _ _
      | exact ih1 _ _ _ _ _ _
      | exact ih2 _ _ _ _ _
      | exact spec_l05More.mono _ _ _ _ _
      | exact LeO.none _
      | refine LeO.ite ?_ ?_
      | refine LeO.bind ?_ (fun _ => ?_)
    · intro y0 y1 y2 y3 y4 y5
      unfold spec_l05End.l1
      repeat' first
      | (with_reducible exact ih0 _ _ _ _)
      | (with_reducible exact ih1 _ _ _ _ _ _)
      | (with_reducible exact ih2 _ _ _ _ _)
      | (with_reducible exact spec_l05More.mono _ _ _ _ _)
      | (with_reducible exact LeO.refl _)
      | (with_reducible exact LeO.none _)
      | (with_reducible refine LeO.ite ?_ ?_)
      | (with_reducible refine LeO.bind ?_ (fun _ => ?_))
      | exact ih0 _ _ _ _
      | exact ih1 _ _ _ _ _ _
      | exact ih2 _ _ _ _ _
      | exact spec_l05More.mono _ _ _ _ _
      | exact LeO.none _
      | refine LeO.ite ?_ ?_
      | refine LeO.bind ?_ (fun _ => ?_)
    · intro y0 y1 y2 y3 y4
      unfold spec_l05End.l2
      repeat' first
      | (with_reducible exact ih0 _ _ _ _)
      | (with_reducible exact ih1 _ _ _ _ _ _)
      | (with_reducible exact ih2 _ _ _ _ _)
      | (with_reducible exact spec_l05More.mono _ _ _ _ _)
      | (with_reducible exact LeO.refl _)
      | (with_reducible exact LeO.none _)
      | (with_reducible refine LeO.ite ?_ ?_)
      | (with_reducible refine LeO.bind ?_ (fun _ => ?_))
      | exact ih0 _ _ _ _
      | exact ih1 _ _ _ _ _ _
      | exact ih2 _ _ _ _ _
      | exact spec_l05More.mono _ _ _ _ _
      | exact LeO.none _
      | refine LeO.ite ?_ ?_
      | refine LeO.bind ?_ (fun _ => ?_)
theorem spec_l05End.mono : ∀ a0 a1 a2 k, LeO (spec_l05End.f k a0 a1 a2) (spec_l05End.f (k + 1) a0 a1 a2) := by
  intro a0 a1 a2 k
  obtain ⟨ih0, ih1, ih2⟩ := spec_l05End.mono_l k
  unfold spec_l05End.f
  repeat' first
      | (with_reducible exact ih0 _ _ _ _)
      | (with_reducible exact ih1 _ _ _ _ _ _)
      | (with_reducible exact ih2 _ _ _ _ _)
      | (with_reducible exact spec_l05More.mono _ _ _ _ _)
      | (with_reducible exact LeO.refl _)
      | (with_reducible exact LeO.none _)
      | (with_reducible refine LeO.ite ?_ ?_)
      | (with_reducible refine LeO.bind ?_ (fun _ => ?_))
      | exact ih0 _ _ _ _
      | exact ih1 _ _ _ _ _ _
      | exact ih2 _ _ _ _ _
      | exact spec_l05More.mono _ _ _ _ _
      | exact LeO.none _
      | refine LeO.ite ?_ ?_
      | refine LeO.bind ?_ (fun _ => ?_)
set_option maxHeartbeats 8000000 in
set_option maxRecDepth 100000 in
theorem spec_l05End.calls (k : Nat) (A0_0 : Option Addr) (c0_0 : Nat) (l0_0 : List Int) (a0_1 : ByteArray) (a0_2 : Int) (r : ByteArray) (w : World) (hr0_0 : Kd.C (Kd.int .i64) w A0_0 l0_0.length l0_0) (hc0_0 : l0_0.length ≤ c0_0) (h : spec_l05End.f k l0_0 a0_1 a0_2 = some r) :
    Calls Tryd.prog 66 #[.agg #[.slice A0_0 l0_0.length c0_0, .string a0_1, .int .i64 a0_2]] w fun e w' => e = .returned (.string r) ∧ Below w.heap.size w w' := by
  have hu42 := Tryd.underlying42
  have HR0_0 := AM hr0_0
  have HC0_0 := AM hc0_0
  clear hr0_0 hc0_0
  have HB := AM (Below.refl w.heap.size w)
  have H : (spec_l05End.l0 k (([128] : List Int)) l0_0 a0_1 a0_2) = some r := h
  clear h
  obtain ⟨y122, hy122⟩ : ∃ y_ : List Int, y_ = (([128] : List Int)) := ⟨_, rfl⟩
  replace H : (spec_l05End.l0 k y122 l0_0 a0_1 a0_2) = some r := by first | (rw [hy122]; with_reducible exact H) | (have H2_ := (Option.bind_some _ _).symm.trans H; rw [hy122]; with_reducible exact H2_) | (have H2_ := (Option.bind_some _ _).symm.trans H; with_reducible exact H2_) | with_reducible exact H | (rw [hy122]; exact H) | exact H
  have Ny122 := AM hy122
  clear hy122
  have H' := AM H
  clear H
  go_enter Tryd.func66, Tryd.ntmps66
  go_wp2_with (first | ((with_reducible refine gate_dst (N := 1) rfl ?_); refine be_ 1 #[.slice A0_0 l0_0.length c0_0, .string a0_1, .int .i64 a0_2] 42 ?_; intro gb121 hg w2 hbox hb; have BK121 := AM hbox; have GW121 := AM ((by rw [hg]; exact (below_size bel_) : w.heap.size ≤ gb121)); have GE121 := AM ((by rw [hg]; exact (below_size bel_) : w.heap.size ≤ gb121)); replace HB := AM (below_step bel_ hb); clear hb hbox hg) | ((with_reducible refine gate_dst (N := 10) rfl ?_); refine Kd.R_lit (Kd.int .u8) _ 5 ?hg (N := 10) ?hd (xs := ([128] : List Int)) (inner := [.int .u8 128]) (ok := fun _ => True) (okp := fun _ => True) ?hr ?hp (fun _ hk => hk) trivial (Below.refl _ _) (Nat.le_refl _) (by simp) ?_; (case hd => rfl); (case hg => rfl); (case hr => first | (go_simp; done) | (go_simp; rfl)); (case hp => exact (Reps.one (show Kd.M (Kd.int .u8) _ _ _ 128 [.int .u8 128] from rfl) (Reps.none _ _))); intro v123 w3 ho4 hb hg_ hnew_; clear hg_ hnew_; (first | rw [← Ny122.out] at ho4 | (simp only [Int.reduceToNat] at ho4; rw [← Ny122.out] at ho4)); have HO124 := AM (Kd.R_lower ho4 (below_size bel_)); replace BK121 := AM (blk_below (g := gb121) (o := .cells #[.slice A0_0 l0_0.length c0_0, .string a0_1, .int .i64 a0_2] 42 (0, 0)) (bk_ BK121.out) hb); replace HB := AM (below_step bel_ hb); clear hb ho4))
  go_loopg [3] k (fun kq v3 w' => ∃ (x3_1 : List Int), Aside0 (spec_l05End.l0 kq x3_1 l0_0 a0_1 a0_2 = some r) ∧ Aside0 (kq ≤ k) ∧ Aside0 (Kd.R (Kd.int .u8) 5 w' w.heap.size (fun _ => True) v3 x3_1) ∧ Aside0 (w'.heap[gb121]? = some (.cells #[(.slice A0_0 l0_0.length c0_0), .string a0_1, .int .i64 a0_2] 42 (0, 0))) ∧ Aside0 (Below w.heap.size w w'))
  case atStart => exact ⟨(y122), H', ⟨Nat.le_refl _⟩, ⟨ro_ HO124.out⟩, ⟨bk_ BK121.out⟩, ⟨bel_⟩⟩
  case round =>
    clear H'
    try clear p2
    obtain ⟨x3_1, HA, HK1, HO_3, BK121, HB⟩ := hrel
    cases gk with
    | zero => exact absurd HA.out (by simp [spec_l05End.l0])
    | succ k1 =>
      have H := HA.out
      clear HA
      simp only [spec_l05End.l0] at H
      by_cases c5 : (Int.tmod (wrap64 (a0_2 + (x3_1.length : Int))) 64) = 56
      · rw [if_pos c5] at H
        have c5b0 : ((Int.tmod (wrap64 (a0_2 + (x3_1.length : Int))) 64) == 56) = true := beq_iff_eq.mpr c5
        try have c5b9 : (((Int.tmod ((a0_2 + (x3_1.length : Int))) 64) == 56)) = true := (by have hw0 : wrap64 (a0_2 + (x3_1.length : Int)) = a0_2 + (x3_1.length : Int) := (by unfold wrap64; omega); have z_ := c5b0; simp only [hw0] at z_; exact z_)
        have c5b1 : ((Int.tmod (wrap64 (a0_2 + (x3_1.length : Int))) 64) != 56) = false := bne_eq_false_iff_eq.mpr c5
        clear c5
        have H' := AM H
        clear H
        have hcz6_0 : wr.cell? ⟨gb121, 0, none⟩ = some (.slice A0_0 l0_0.length c0_0) := (blk_cell BK121.out 0).trans rfl
        have hcz6_1 : wr.cell? ⟨gb121, 1, none⟩ = some (.string a0_1) := (blk_cell BK121.out 1).trans rfl
        have hcz6_2 : wr.cell? ⟨gb121, 2, none⟩ = some (.int .i64 a0_2) := (blk_cell BK121.out 2).trans rfl
        have hfz6_0 := blk_frozen BK121.out 0
        have hfz6_1 := blk_frozen BK121.out 1
        have hfz6_2 := blk_frozen BK121.out 2
        obtain ⟨Ao7, co7, eo7⟩ := Kd.R_slice HO_3.out
        subst eo7
        go_wp2
        go_loopg [3, 5] k1 (fun kq v3 v5 w' => ∃ (x3_2 : List Int) (x5_2 : Int), v5 = .int .i64 x5_2 ∧ Aside0 (spec_l05End.l1 kq x3_2 (IntKind.u64.wrap (wrap64 (8 * a0_2))) x5_2 l0_0 a0_1 a0_2 = some r) ∧ Aside0 (kq ≤ k1) ∧ Aside0 (Kd.R (Kd.int .u8) 5 w' w.heap.size (fun _ => True) v3 x3_2) ∧ Aside0 (w'.heap[gb121]? = some (.cells #[(.slice A0_0 l0_0.length c0_0), .string a0_1, .int .i64 a0_2] 42 (0, 0))) ∧ Aside0 (Below w.heap.size w w'))
        case atStart => exact ⟨(x3_1), (56), (by first | rfl | (simp; done) | (simp [*]; done)), H', ⟨Nat.le_refl _⟩, ⟨ro_ HO_3.out⟩, ⟨bk_ BK121.out⟩, ⟨bel_⟩⟩
        case round =>
          clear H'
          try clear p2
          try clear c5
          try clear c5b0
          try clear c5b1
          try clear c6
          try clear p6
          try clear hcz6_0
          try clear hcz6_1
          try clear hcz6_2
          try clear hfz6_0
          try clear hfz6_1
          try clear hfz6_2
          try clear p2
          obtain ⟨x3_2, x5_2, rfl, HA, HK2, HO_3, BK121, HB⟩ := hrel
          cases gk with
          | zero => exact absurd HA.out (by simp [spec_l05End.l1])
          | succ k2 =>
            have H := HA.out
            clear HA
            simp only [spec_l05End.l1] at H
            by_cases c8 : x5_2 ≥ 0
            · rw [if_pos c8] at H
              have c8b0 : decide (0 ≤ x5_2) = true := decide_eq_true c8
              clear c8
              obtain ⟨ji9, hji9⟩ : ∃ j_ : Int, (IntKind.u64.wrap (x5_2)) = j_ := ⟨_, rfl⟩
              replace H : (if 0 ≤ (ji9) then (if x3_2.length < 140737488355328 then (spec_l05End.l1 k2 (x3_2 ++ [(shr .u64 (IntKind.u64.wrap (wrap64 (8 * a0_2))) (ji9)) % 256]) (IntKind.u64.wrap (wrap64 (8 * a0_2))) (wrap64 (x5_2 - 8)) l0_0 a0_1 a0_2) else (none)) else (none)) = some r := by first | (rw [hji9] at H; exact H) | (simp only [hji9] at H ⊢; exact H)
              by_cases c10 : 0 ≤ (ji9)
              · rw [if_pos c10] at H
                have c10b0 := eq_true c10
                have c10b1 : decide (0 ≤ (ji9)) = true := decide_eq_true c10
                clear c10
                obtain ⟨ji11, hji11⟩ : ∃ j_ : Int, (shr .u64 (IntKind.u64.wrap (wrap64 (8 * a0_2))) (ji9)) = j_ := ⟨_, rfl⟩
                replace H : (if x3_2.length < 140737488355328 then (spec_l05End.l1 k2 (x3_2 ++ [(ji11) % 256]) (IntKind.u64.wrap (wrap64 (8 * a0_2))) (wrap64 (x5_2 - 8)) l0_0 a0_1 a0_2) else (none)) = some r := by first | (rw [hji11] at H; exact H) | (simp only [hji11] at H ⊢; exact H)
                have hji11_ : ((IntKind.u64.wrap (wrap64 (8 * a0_2))) / 2 ^ min (ji9).toNat 64) = ji11 := hji11
                have hji11z : (ji9) ≤ 64 → ((IntKind.u64.wrap (wrap64 (8 * a0_2))) / 2 ^ (ji9).toNat) = ji11 := shr_small hji11
                by_cases c12 : x3_2.length < 140737488355328
                · rw [if_pos c12] at H
                  have LMc12 := AM c12
                  clear c12
                  obtain ⟨y128, hy128⟩ : ∃ y_ : List Int, y_ = (x3_2 ++ [(ji11) % 256]) := ⟨_, rfl⟩
                  replace H : (spec_l05End.l1 k2 y128 (IntKind.u64.wrap (wrap64 (8 * a0_2))) (wrap64 (x5_2 - 8)) l0_0 a0_1 a0_2) = some r := by first | (rw [hy128]; with_reducible exact H) | (have H2_ := (Option.bind_some _ _).symm.trans H; rw [hy128]; with_reducible exact H2_) | (have H2_ := (Option.bind_some _ _).symm.trans H; with_reducible exact H2_) | with_reducible exact H | (rw [hy128]; exact H) | exact H
                  have Ny128 := AM hy128
                  clear hy128
                  have H' := AM H
                  clear H
                  go_wp2_with (first | ((with_reducible refine gate_builtin (b := .append) (xs := #[.tmp 29, .tmp 35]) rfl ?_); at_builtin; refine Kd.R_append (Kd.int .u8) (w0 := w) w.heap.size rfl (.tmp 29) (.tmp 35) 38 5 (.int .u8 0) 1 rfl Tryd.underlying38 info5 rfl (by decide) (by omega) u3 x3_2 ((ji11) % 256) [.int .u8 ((ji11) % 256)] (fun _ => True) (fun _ => False) rfl rfl ?aP (fun _ hk => hk.elim) ?aF ?aO ?aB ?aS ?aL ?_; (case aP => exact rfl); (case aB => exact bel_); (case aF => exact (fun _ _ => trivial)); (case aO => exact (ro_ HO_3.out)); (case aS => exact (below_size bel_)); (case aL => have := LMc12.out; omega); intro v129 w13 ho hb hg hat; rw [← Ny128.out] at ho; have n0_ := AM (blk_grown (g := gb121) (o := .cells #[.slice A0_0 l0_0.length c0_0, .string a0_1, .int .i64 a0_2] 42 (0, 0)) (bk_ BK121.out) hg (Kd.R_ne HO_3.out BK121.out (by decide))); have n1_ := AM hb; have n2_ := AM ho; clear BK121; clear HB; clear HO_3; have BK121 := n0_; have HB := n1_; have HO130 := n2_; clear n0_ n1_ n2_; clear ho hb hg hat))
                  go_roundg k2
                  case measure => have := HK1.out; have := HK2.out; omega
                  case rel => exact ⟨(y128), (wrap64 (x5_2 - 8)), (by first | rfl | (simp; done) | (simp [*]; done)), H', ⟨by have := HK1.out; have := HK2.out; omega⟩, ⟨ro_ HO130.out⟩, ⟨bk_ BK121.out⟩, ⟨bel_⟩⟩
                · rw [if_neg c12] at H
                  exact absurd H (by simp)
              · rw [if_neg c10] at H
                exact absurd H (by simp)
            · rw [if_neg c8] at H
              have c8b0 : decide (0 ≤ x5_2) = false := decide_eq_false c8
              clear c8
              obtain ⟨⟨t131, t134, t135⟩, A14, H⟩ := OB H
              try dsimp only at H
              replace A14 := AM A14
              obtain ⟨y137, hy137⟩ : ∃ y_ : List Int, y_ = (([] : List Int)) := ⟨_, rfl⟩
              replace H : (spec_l05End.l2 k2 y137 0 t131 t134 t135) = some r := by first | (rw [hy137]; with_reducible exact H) | (have H2_ := (Option.bind_some _ _).symm.trans H; rw [hy137]; with_reducible exact H2_) | (have H2_ := (Option.bind_some _ _).symm.trans H; with_reducible exact H2_) | with_reducible exact H | (rw [hy137]; exact H) | exact H
              have Ny137 := AM hy137
              clear hy137
              have H' := AM H
              clear H
              have hcz15_0 : wr.cell? ⟨gb121, 0, none⟩ = some (.slice A0_0 l0_0.length c0_0) := (blk_cell BK121.out 0).trans rfl
              have hcz15_1 : wr.cell? ⟨gb121, 1, none⟩ = some (.string a0_1) := (blk_cell BK121.out 1).trans rfl
              have hcz15_2 : wr.cell? ⟨gb121, 2, none⟩ = some (.int .i64 a0_2) := (blk_cell BK121.out 2).trans rfl
              have hfz15_0 := blk_frozen BK121.out 0
              have hfz15_1 := blk_frozen BK121.out 1
              have hfz15_2 := blk_frozen BK121.out 2
              have hcv16 := own_string (P := Tryd.prog) Tryd.underlying38 Tryd.underlying5 Tryd.underlying9 (Kd.own_of_R HO_3.out)
              go_wp2_with (first | ((with_reducible refine gate_callee (f := 67) rfl ?_); refine gl_ (some 40) Tryd.func67 #[.agg #[.slice A0_0 l0_0.length c0_0, .string a0_1, .int .i64 a0_2], .string (strOfNums x3_2)] ?_; (with_reducible refine (spec_l05More.calls k2 _ _ l0_0 a0_1 a0_2 (strOfNums x3_2) t131 t134 t135 _ ?side1 ?side2 A14.out).mono ?_); (case side1 => repeat (first | exact (Kd.C_below HR0_0.out HB.out) | (with_reducible refine Kd.C_alloc ?_ _) | (with_reducible refine Kd.C_drewN ?_ _) | (with_reducible refine Kd.C_drew ?_))); (case side2 => exact HC0_0.out); rintro e w17 ⟨v132, rfl, ho0, hb⟩; refine ⟨_, rfl, ?_⟩; replace HO_3 := AM (Kd.R_below (ro_ HO_3.out) hb); have HO133 := AM (Kd.R_lower ho0 (below_size bel_)); replace BK121 := AM (blk_below (g := gb121) (o := .cells #[.slice A0_0 l0_0.length c0_0, .string a0_1, .int .i64 a0_2] 42 (0, 0)) (bk_ BK121.out) hb); replace HB := AM (below_step bel_ hb); (try clear hb); (try clear hb2); (try clear hk); (try clear hi); (try clear ho0)) | ((with_reducible refine gate_dst (N := 6) rfl ?_); refine be_ 6 #[.slice none 0 0, .string (⟨#[]⟩ : ByteArray), .int .i64 0] 42 ?_; intro gb136 hg w18 hbox hb; replace HO_3 := AM (Kd.R_below (ro_ HO_3.out) hb); replace HO133 := AM (Kd.R_below (ro_ HO133.out) hb); have BK136 := AM hbox; have GW136 := AM ((by rw [hg]; exact (below_size bel_) : w.heap.size ≤ gb136)); have GE136 := AM ((by rw [hg]; exact (below_size bel_) : w.heap.size ≤ gb136)); replace HB := AM (below_step bel_ hb); have NB121_136 := AM ((by rw [hg]; exact Nat.ne_of_lt (blk_lt (g := gb121) (o := .cells #[.slice A0_0 l0_0.length c0_0, .string a0_1, .int .i64 a0_2] 42 (0, 0)) (bk_ BK121.out)) : gb121 ≠ gb136)); have NB136_121 := AM ((by rw [hg]; exact Nat.ne_of_gt (blk_lt (g := gb121) (o := .cells #[.slice A0_0 l0_0.length c0_0, .string a0_1, .int .i64 a0_2] 42 (0, 0)) (bk_ BK121.out)) : gb136 ≠ gb121)); replace BK121 := AM (blk_below (g := gb121) (o := .cells #[.slice A0_0 l0_0.length c0_0, .string a0_1, .int .i64 a0_2] 42 (0, 0)) (bk_ BK121.out) hb); clear hb hbox hg; obtain ⟨Ao19, co19, eo19⟩ := Kd.R_slice HO133.out; subst eo19; have hnb20 := NB136_121.out; have hnc20 := NB121_136.out; have hcz21_0 : w18.cell? ⟨gb136, 0, none⟩ = some (.slice none 0 0) := (blk_cell BK136.out 0).trans rfl; have hcz21_1 : w18.cell? ⟨gb136, 1, none⟩ = some (.string (⟨#[]⟩ : ByteArray)) := (blk_cell BK136.out 1).trans rfl; have hcz21_2 : w18.cell? ⟨gb136, 2, none⟩ = some (.int .i64 0) := (blk_cell BK136.out 2).trans rfl; have hfz21_0 := blk_frozen BK136.out 0; have hfz21_1 := blk_frozen BK136.out 1; have hfz21_2 := blk_frozen BK136.out 2) | ((with_reducible refine gate_dst (N := 41) rfl ?_); refine Kd.R_lit (Kd.int .u8) _ 5 ?hg (N := 41) ?hd (xs := ([] : List Int)) (inner := []) (ok := fun _ => True) (okp := fun _ => True) ?hr ?hp (fun _ hk => hk) trivial (Below.refl _ _) (Nat.le_refl _) (by simp) ?_; (case hd => rfl); (case hg => rfl); (case hr => first | (go_simp; done) | (go_simp; rfl)); (case hp => exact (Reps.none _ _)); intro v138 w22 ho23 hb hg_ hnew_; clear hg_ hnew_; (first | rw [← Ny137.out] at ho23 | (simp only [Int.reduceToNat] at ho23; rw [← Ny137.out] at ho23)); have n0_ := AM (Kd.R_elder' (by (with_reducible repeat (first | apply Kd.R_alloc | apply Kd.R_drewN | apply Kd.R_drew)); exact (Kd.R_mono (Kd.R_far (p := ⟨gb136, 2, none⟩) (Kd.R_far (p := ⟨gb136, 1, none⟩) (Kd.R_far (p := ⟨gb136, 0, none⟩) (Kd.R_types HO_3.out BK136.out (by decide)) (fun _ hk => hk.2) (.slice Ao19 t131.length co19)) (fun _ hk => hk.2) (.string t134)) (fun _ hk => hk.2) (.int .i64 t135)) (fun _ h_ => h_.1))) (Kd.R_base ho23) hb); have n1_ := AM (Kd.R_below (by (with_reducible repeat (first | apply Kd.R_alloc | apply Kd.R_drewN | apply Kd.R_drew)); exact (Kd.R_mono (Kd.R_far (p := ⟨gb136, 2, none⟩) (Kd.R_far (p := ⟨gb136, 1, none⟩) (Kd.R_far (p := ⟨gb136, 0, none⟩) (Kd.R_types HO133.out BK136.out (by decide)) (fun _ hk => hk.2) (.slice Ao19 t131.length co19)) (fun _ hk => hk.2) (.string t134)) (fun _ hk => hk.2) (.int .i64 t135)) (fun _ h_ => h_.1))) hb); have n2_ := AM (Kd.R_lower (Kd.R_new' ho23 (Kd.R_lt (by (with_reducible repeat (first | apply Kd.R_alloc | apply Kd.R_drewN | apply Kd.R_drew)); exact (Kd.R_mono (Kd.R_far (p := ⟨gb136, 2, none⟩) (Kd.R_far (p := ⟨gb136, 1, none⟩) (Kd.R_far (p := ⟨gb136, 0, none⟩) (Kd.R_types HO_3.out BK136.out (by decide)) (fun _ hk => hk.2) (.slice Ao19 t131.length co19)) (fun _ hk => hk.2) (.string t134)) (fun _ hk => hk.2) (.int .i64 t135)) (fun _ h_ => h_.1))))) (below_size bel_)); have n3_ := AM (blk_below (g := gb121) (o := .cells #[.slice A0_0 l0_0.length c0_0, .string a0_1, .int .i64 a0_2] 42 (0, 0)) bka_ hb); have n4_ := AM (blk_below (g := gb136) (o := .cells #[.slice Ao19 t131.length co19, .string t134, .int .i64 t135] 42 (0, 0)) bka_ hb); have n5_ := AM (below_step bel_ hb); clear HO_3; clear HO133; clear BK121; clear BK136; clear HB; have HO_3 := n0_; have HO133 := n1_; have HO139 := n2_; have BK121 := n3_; have BK136 := n4_; have HB := n5_; clear n0_ n1_ n2_ n3_ n4_ n5_; clear hb ho23))
              go_loopg [7, 8] k2 (fun kq v7 v8 w' => ∃ (x7_3 : List Int) (x8_3 : Int), v8 = .int .i64 x8_3 ∧ Aside0 (spec_l05End.l2 kq x7_3 x8_3 t131 t134 t135 = some r) ∧ Aside0 (kq ≤ k2) ∧ Aside0 (Kd.R (Kd.int .u8) 5 w' w.heap.size (fun _ => True) v7 x7_3) ∧ Aside0 (Kd.R (Kd.int .i64) 2 w' w.heap.size (fun _ => True) (.slice Ao19 t131.length co19) t131) ∧ Aside0 (w'.heap[gb121]? = some (.cells #[(.slice A0_0 l0_0.length c0_0), .string a0_1, .int .i64 a0_2] 42 (0, 0))) ∧ Aside0 (w'.heap[gb136]? = some (.cells #[(.slice Ao19 t131.length co19), .string t134, .int .i64 t135] 42 (0, 0))) ∧ Aside0 (Below w.heap.size w w'))
              case atStart => exact ⟨(y137), (0), (by first | rfl | (simp; done) | (simp [*]; done)), H', ⟨Nat.le_refl _⟩, ⟨by (with_reducible repeat (first | apply Kd.R_alloc | apply Kd.R_drewN | apply Kd.R_drew)); exact Kd.R_mono HO139.out (fun _ hk => trivial)⟩, ⟨ro_ HO133.out⟩, ⟨bk_ BK121.out⟩, ⟨bk_ BK136.out⟩, ⟨bel_⟩⟩
              case round =>
                clear H'
                try clear c1
                try clear hcv1
                try clear c2
                try clear p2
                try clear c5
                try clear c5b0
                try clear c5b1
                try clear c6
                try clear p6
                try clear c8
                try clear c8b0
                try clear c10
                try clear c10b0
                try clear c10b1
                try clear c12
                try clear hcv16
                try clear c20
                try clear hcz15_0
                try clear hcz15_1
                try clear hcz15_2
                try clear hcz21_0
                try clear hcz21_1
                try clear hcz21_2
                try clear hcz6_0
                try clear hcz6_1
                try clear hcz6_2
                try clear hfz15_0
                try clear hfz15_1
                try clear hfz15_2
                try clear hfz21_0
                try clear hfz21_1
                try clear hfz21_2
                try clear hfz6_0
                try clear hfz6_1
                try clear hfz6_2
                try clear p2
                try clear p6
                obtain ⟨x7_3, x8_3, rfl, HA, HK3, HO_7, HO_137000, BK121, BK136, HB⟩ := hrel
                cases gk with
                | zero => exact absurd HA.out (by simp [spec_l05End.l2])
                | succ k3 =>
                  have H := HA.out
                  clear HA
                  simp only [spec_l05End.l2] at H
                  by_cases c24 : x8_3 < 8
                  · rw [if_pos c24] at H
                    have c24b0 : decide (x8_3 < 8) = true := decide_eq_true c24
                    clear c24
                    by_cases c25 : 0 ≤ x8_3
                    · rw [if_pos c25] at H
                      have c25b0 : decide (0 ≤ x8_3) = true := decide_eq_true c25
                      clear c25
                      by_cases c26 : x8_3 < (t131.length : Int)
                      · rw [if_pos c26] at H
                        have c26b0 : decide (x8_3 < (t131.length : Int)) = true := decide_eq_true c26
                        clear c26
                        obtain ⟨y141, hy141⟩ : ∃ y_ : List Int, y_ = (([((rd t131 x8_3) / 16777216) % 256, ((rd t131 x8_3) / 65536) % 256, ((rd t131 x8_3) / 256) % 256, (rd t131 x8_3) % 256] : List Int)) := ⟨_, rfl⟩
                        replace H : (if x7_3.length + y141.length < 140737488355328 then (spec_l05End.l2 k3 (x7_3 ++ y141) (wrap64 (x8_3 + 1)) t131 t134 t135) else (none)) = some r := by first | (rw [hy141]; with_reducible exact H) | (have H2_ := (Option.bind_some _ _).symm.trans H; rw [hy141]; with_reducible exact H2_) | (have H2_ := (Option.bind_some _ _).symm.trans H; with_reducible exact H2_) | with_reducible exact H | (rw [hy141]; exact H) | exact H
                        have Ny141 := AM hy141
                        clear hy141
                        by_cases c27 : x7_3.length + y141.length < 140737488355328
                        · rw [if_pos c27] at H
                          have LMc27 := AM c27
                          clear c27
                          obtain ⟨y144, hy144⟩ : ∃ y_ : List Int, y_ = (x7_3 ++ y141) := ⟨_, rfl⟩
                          replace H : (spec_l05End.l2 k3 y144 (wrap64 (x8_3 + 1)) t131 t134 t135) = some r := by first | (rw [hy144]; with_reducible exact H) | (have H2_ := (Option.bind_some _ _).symm.trans H; rw [hy144]; with_reducible exact H2_) | (have H2_ := (Option.bind_some _ _).symm.trans H; with_reducible exact H2_) | with_reducible exact H | (rw [hy144]; exact H) | exact H
                          have Ny144 := AM hy144
                          clear hy144
                          have H' := AM H
                          clear H
                          have hnb28 := NB136_121.out
                          have hnc28 := NB121_136.out
                          have hcz29_0 : wr.cell? ⟨gb136, 0, none⟩ = some (.slice Ao19 t131.length co19) := (blk_cell BK136.out 0).trans rfl
                          have hcz29_1 : wr.cell? ⟨gb136, 1, none⟩ = some (.string t134) := (blk_cell BK136.out 1).trans rfl
                          have hcz29_2 : wr.cell? ⟨gb136, 2, none⟩ = some (.int .i64 t135) := (blk_cell BK136.out 2).trans rfl
                          have hfz29_0 := blk_frozen BK136.out 0
                          have hfz29_1 := blk_frozen BK136.out 1
                          have hfz29_2 := blk_frozen BK136.out 2
                          have p140 : 0 ≤ (x8_3 : Int) := of_decide_eq_true (by first | (with_reducible assumption) | assumption)
                          have q140 : x8_3 < (t131.length : Int) := of_decide_eq_true (by first | (with_reducible assumption) | assumption)
                          obtain ⟨ad140, e140, hx140_0⟩ := Kd.at_int (Kd.R_reads' HO_137000.out).2.2 x8_3 p140 q140
                          cases e140
                          replace p140 := eq_true p140
                          replace q140 := eq_true q140
                          go_wp2_with (first | ((with_reducible refine gate_dst (N := 63) rfl ?_); refine Kd.R_lit (Kd.int .u8) _ 5 ?hg (N := 63) ?hd (xs := ([((rd t131 x8_3) / 16777216) % 256, ((rd t131 x8_3) / 65536) % 256, ((rd t131 x8_3) / 256) % 256, (rd t131 x8_3) % 256] : List Int)) (inner := [.int .u8 (((rd t131 x8_3) / 16777216) % 256), .int .u8 (((rd t131 x8_3) / 65536) % 256), .int .u8 (((rd t131 x8_3) / 256) % 256), .int .u8 ((rd t131 x8_3) % 256)]) (ok := fun _ => True) (okp := fun _ => True) ?hr ?hp (fun _ hk => hk) trivial (Below.refl _ _) (Nat.le_refl _) (by simp) ?_; (case hd => rfl); (case hg => rfl); (case hr => first | (go_simp; done) | (go_simp; rfl)); (case hp => exact (Reps.one (show Kd.M (Kd.int .u8) _ _ _ (((rd t131 x8_3) / 16777216) % 256) [.int .u8 (((rd t131 x8_3) / 16777216) % 256)] from rfl) (Reps.one (show Kd.M (Kd.int .u8) _ _ _ (((rd t131 x8_3) / 65536) % 256) [.int .u8 (((rd t131 x8_3) / 65536) % 256)] from rfl) (Reps.one (show Kd.M (Kd.int .u8) _ _ _ (((rd t131 x8_3) / 256) % 256) [.int .u8 (((rd t131 x8_3) / 256) % 256)] from rfl) (Reps.one (show Kd.M (Kd.int .u8) _ _ _ ((rd t131 x8_3) % 256) [.int .u8 ((rd t131 x8_3) % 256)] from rfl) (Reps.none _ _)))))); intro v142 w30 ho31 hb hg_ hnew_; clear hg_ hnew_; (first | rw [← Ny141.out] at ho31 | (simp only [Int.reduceToNat] at ho31; rw [← Ny141.out] at ho31)); replace HO_137000 := AM (Kd.R_below (ro_ HO_137000.out) hb); have HO143 := AM (Kd.R_lower (Kd.R_new' ho31 (Kd.R_lt (ro_ HO_7.out))) (below_size bel_)); replace HO_7 := AM (Kd.R_elder' (ro_ HO_7.out) (Kd.R_base ho31) hb); replace BK121 := AM (blk_below (g := gb121) (o := .cells #[.slice A0_0 l0_0.length c0_0, .string a0_1, .int .i64 a0_2] 42 (0, 0)) (bk_ BK121.out) hb); replace BK136 := AM (blk_below (g := gb136) (o := .cells #[.slice (some ad140) t131.length co19, .string t134, .int .i64 t135] 42 (0, 0)) (bk_ BK136.out) hb); replace HB := AM (below_step bel_ hb); clear hb ho31; obtain ⟨Ao33, co33, eo33⟩ := Kd.R_slice HO143.out; subst eo33) | ((with_reducible refine gate_builtin (b := .append) (xs := #[.tmp 51, .tmp 63]) rfl ?_); at_builtin; refine Kd.R_append_rows (Kd.int .u8) (w0 := w) w.heap.size rfl (.tmp 51) (.tmp 63) 38 5 (.int .u8 0) 1 rfl Tryd.underlying38 info5 rfl (by decide) (by omega) u7 x7_3 y141 _ _ _ (fun k_ => some k_ ≠ (.slice Ao33 y141.length co33 : Value).ownBlock) (fun _ => False) rfl rfl ?aO ?aR (fun _ _ h => h) (fun _ h => h.elim) ?aF ?aB ?aS ?aL ?_; (case aR => repeat (first | exact (Kd.R_reads' HO143.out).2.2 | (with_reducible refine Kd.C_alloc ?_ _) | (with_reducible refine Kd.C_drewN ?_ _) | (with_reducible refine Kd.C_drew ?_))); (case aB => exact bel_); (case aF => exact (fun k_ hk => Kd.fresh' (Kd.R_lt (ro_ HO143.out)) k_ hk)); (case aO => exact (by (with_reducible repeat (first | apply Kd.R_alloc | apply Kd.R_drewN | apply Kd.R_drew)); exact Kd.R_mono HO_7.out (fun _ hk => hk.2))); (case aS => exact (below_size bel_)); (case aL => have := LMc27.out; omega); intro v145 w32 ho hb hg hat; rw [← Ny144.out] at ho; have n0_ := AM (Kd.R_over' (ro_ HO_137000.out) (Kd.R_typed (ro_ HO_7.out)) (by decide) hg); have n1_ := AM (blk_grown (g := gb121) (o := .cells #[.slice A0_0 l0_0.length c0_0, .string a0_1, .int .i64 a0_2] 42 (0, 0)) (bk_ BK121.out) hg (Kd.R_ne HO_7.out BK121.out (by decide))); have n2_ := AM (blk_grown (g := gb136) (o := .cells #[.slice (some ad140) t131.length co19, .string t134, .int .i64 t135] 42 (0, 0)) (bk_ BK136.out) hg (Kd.R_ne HO_7.out BK136.out (by decide))); have n3_ := AM (Kd.R_after (ok := (fun _ => True)) (ro_ HO143.out) hg hat); have n4_ := AM hb; have n5_ := AM ho; clear HO_137000; clear BK121; clear BK136; clear HO143; clear HB; clear HO_7; have HO_137000 := n0_; have BK121 := n1_; have BK136 := n2_; have HO143 := n3_; have HB := n4_; have HO146 := n5_; clear n0_ n1_ n2_ n3_ n4_ n5_; clear ho hb hg hat))
                          go_roundg k3
                          case measure => have := HK1.out; have := HK2.out; have := HK3.out; omega
                          case rel => exact ⟨(y144), (wrap64 (x8_3 + 1)), (by first | rfl | (simp; done) | (simp [*]; done)), H', ⟨by have := HK1.out; have := HK2.out; have := HK3.out; omega⟩, ⟨by (with_reducible repeat (first | apply Kd.R_alloc | apply Kd.R_drewN | apply Kd.R_drew)); exact Kd.R_mono HO146.out (fun _ hk => trivial)⟩, ⟨ro_ HO_137000.out⟩, ⟨bk_ BK121.out⟩, ⟨bk_ BK136.out⟩, ⟨bel_⟩⟩
                        · rw [if_neg c27] at H
                          exact absurd H (by simp)
                      · rw [if_neg c26] at H
                        exact absurd H (by simp)
                    · rw [if_neg c25] at H
                      exact absurd H (by simp)
                  · rw [if_neg c24] at H
                    have c24b0 : decide (x8_3 < 8) = false := decide_eq_false c24
                    clear c24
                    obtain rfl := Option.some.inj H
                    have hcv34 := own_string (P := Tryd.prog) Tryd.underlying38 Tryd.underlying5 Tryd.underlying9 (Kd.own_of_R HO_7.out)
                    go_wp2
                    go_ret
                    exact ⟨ri_, bel_⟩
      · rw [if_neg c5] at H
        have c5b0 : ((Int.tmod (wrap64 (a0_2 + (x3_1.length : Int))) 64) == 56) = false := beq_eq_false_iff_ne.mpr c5
        try have c5b9 : (((Int.tmod ((a0_2 + (x3_1.length : Int))) 64) == 56)) = false := (by have hw0 : wrap64 (a0_2 + (x3_1.length : Int)) = a0_2 + (x3_1.length : Int) := (by unfold wrap64; omega); have z_ := c5b0; simp only [hw0] at z_; exact z_)
        have c5b1 : ((Int.tmod (wrap64 (a0_2 + (x3_1.length : Int))) 64) != 56) = true := bne_iff_ne.mpr c5
        by_cases c35 : x3_1.length < 140737488355328
        · rw [if_pos c35] at H
          have LMc35 := AM c35
          clear c35
          obtain ⟨y125, hy125⟩ : ∃ y_ : List Int, y_ = (x3_1 ++ [0]) := ⟨_, rfl⟩
          replace H : (spec_l05End.l0 k1 y125 l0_0 a0_1 a0_2) = some r := by first | (rw [hy125]; with_reducible exact H) | (have H2_ := (Option.bind_some _ _).symm.trans H; rw [hy125]; with_reducible exact H2_) | (have H2_ := (Option.bind_some _ _).symm.trans H; with_reducible exact H2_) | with_reducible exact H | (rw [hy125]; exact H) | exact H
          have Ny125 := AM hy125
          clear hy125
          have H' := AM H
          clear H
          have hcz36_0 : wr.cell? ⟨gb121, 0, none⟩ = some (.slice A0_0 l0_0.length c0_0) := (blk_cell BK121.out 0).trans rfl
          have hcz36_1 : wr.cell? ⟨gb121, 1, none⟩ = some (.string a0_1) := (blk_cell BK121.out 1).trans rfl
          have hcz36_2 : wr.cell? ⟨gb121, 2, none⟩ = some (.int .i64 a0_2) := (blk_cell BK121.out 2).trans rfl
          have hfz36_0 := blk_frozen BK121.out 0
          have hfz36_1 := blk_frozen BK121.out 1
          have hfz36_2 := blk_frozen BK121.out 2
          obtain ⟨Ao37, co37, eo37⟩ := Kd.R_slice HO_3.out
          subst eo37
          go_wp2_with (first | ((with_reducible refine gate_builtin (b := .append) (xs := #[.tmp 18, .tmp 19]) rfl ?_); at_builtin; refine Kd.R_append (Kd.int .u8) (w0 := w) w.heap.size rfl (.tmp 18) (.tmp 19) 38 5 (.int .u8 0) 1 rfl Tryd.underlying38 info5 rfl (by decide) (by omega) (.slice Ao37 x3_1.length co37) x3_1 0 [.int .u8 0] (fun _ => True) (fun _ => False) rfl rfl ?aP (fun _ hk => hk.elim) ?aF ?aO ?aB ?aS ?aL ?_; (case aP => exact rfl); (case aB => exact bel_); (case aF => exact (fun _ _ => trivial)); (case aO => exact (ro_ HO_3.out)); (case aS => exact (below_size bel_)); (case aL => have := LMc35.out; omega); intro v126 w38 ho hb hg hat; rw [← Ny125.out] at ho; have n0_ := AM (blk_grown (g := gb121) (o := .cells #[.slice A0_0 l0_0.length c0_0, .string a0_1, .int .i64 a0_2] 42 (0, 0)) (bk_ BK121.out) hg (Kd.R_ne HO_3.out BK121.out (by decide))); have n1_ := AM hb; have n2_ := AM ho; clear BK121; clear HB; clear HO_3; have BK121 := n0_; have HB := n1_; have HO127 := n2_; clear n0_ n1_ n2_; clear ho hb hg hat))
          go_roundg k1
          case measure => have := HK1.out; omega
          case rel => exact ⟨(y125), H', ⟨by have := HK1.out; omega⟩, ⟨ro_ HO127.out⟩, ⟨bk_ BK121.out⟩, ⟨bel_⟩⟩
        · rw [if_neg c35] at H
          exact absurd H (by simp)

/-! ### spec_l05Start: function 109 -/
def spec_l05Start.f  : Option (List Int) := some (([1779033703, 3144134277, 1013904242, 2773480762, 1359893119, 2600822924, 528734635, 1541459225] : List Int))
set_option maxHeartbeats 8000000 in
set_option maxRecDepth 100000 in
theorem spec_l05Start.calls  (r : List Int) (w : World) (h : spec_l05Start.f  = some r) :
    Calls Tryd.prog 109 #[] w fun e w' => ∃ v0_ : Value, e = .returned (v0_) ∧ Kd.R (Kd.int .i64) 2 w' w.heap.size (fun _ => True) v0_ r ∧ Below w.heap.size w w' := by
  have HB := AM (Below.refl w.heap.size w)
  have H : (some (([1779033703, 3144134277, 1013904242, 2773480762, 1359893119, 2600822924, 528734635, 1541459225] : List Int))) = some r := h
  clear h
  obtain ⟨y147, hy147⟩ : ∃ y_ : List Int, y_ = (([1779033703, 3144134277, 1013904242, 2773480762, 1359893119, 2600822924, 528734635, 1541459225] : List Int)) := ⟨_, rfl⟩
  replace H : (some y147) = some r := by first | (rw [hy147]; with_reducible exact H) | (have H2_ := (Option.bind_some _ _).symm.trans H; rw [hy147]; with_reducible exact H2_) | (have H2_ := (Option.bind_some _ _).symm.trans H; with_reducible exact H2_) | with_reducible exact H | (rw [hy147]; exact H) | exact H
  have Ny147 := AM hy147
  clear hy147
  obtain rfl := Option.some.inj H
  go_enter Tryd.func109, Tryd.ntmps109
  go_wp2_with (first | ((with_reducible refine gate_dst (N := 1) rfl ?_); refine Kd.R_lit (Kd.int .i64) _ 2 ?hg (N := 1) ?hd (xs := ([1779033703, 3144134277, 1013904242, 2773480762, 1359893119, 2600822924, 528734635, 1541459225] : List Int)) (inner := [.int .i64 1779033703, .int .i64 3144134277, .int .i64 1013904242, .int .i64 2773480762, .int .i64 1359893119, .int .i64 2600822924, .int .i64 528734635, .int .i64 1541459225]) (ok := fun _ => True) (okp := fun _ => True) ?hr ?hp (fun _ hk => hk) trivial (Below.refl _ _) (Nat.le_refl _) (by simp) ?_; (case hd => rfl); (case hg => rfl); (case hr => first | (go_simp; done) | (go_simp; rfl)); (case hp => exact (Reps.one (show Kd.M (Kd.int .i64) _ _ _ 1779033703 [.int .i64 1779033703] from rfl) (Reps.one (show Kd.M (Kd.int .i64) _ _ _ 3144134277 [.int .i64 3144134277] from rfl) (Reps.one (show Kd.M (Kd.int .i64) _ _ _ 1013904242 [.int .i64 1013904242] from rfl) (Reps.one (show Kd.M (Kd.int .i64) _ _ _ 2773480762 [.int .i64 2773480762] from rfl) (Reps.one (show Kd.M (Kd.int .i64) _ _ _ 1359893119 [.int .i64 1359893119] from rfl) (Reps.one (show Kd.M (Kd.int .i64) _ _ _ 2600822924 [.int .i64 2600822924] from rfl) (Reps.one (show Kd.M (Kd.int .i64) _ _ _ 528734635 [.int .i64 528734635] from rfl) (Reps.one (show Kd.M (Kd.int .i64) _ _ _ 1541459225 [.int .i64 1541459225] from rfl) (Reps.none _ _)))))))))); intro v148 w1 ho2 hb hg_ hnew_; clear hg_ hnew_; (first | rw [← Ny147.out] at ho2 | (simp only [Int.reduceToNat] at ho2; rw [← Ny147.out] at ho2)); have HO149 := AM (Kd.R_lower ho2 (below_size bel_)); replace HB := AM (below_step bel_ hb); clear hb ho2))
  go_ret
  exact ⟨_, ri_, ro_ HO149.out, bel_⟩

/-! ### spec_HashBegin: function 68 -/
def spec_HashBegin.f  : Option (List Int × ByteArray × Int) := (spec_l05Start.f).bind fun t151 => (some (t151, (⟨#[]⟩ : ByteArray), 0))
set_option maxHeartbeats 8000000 in
set_option maxRecDepth 100000 in
theorem spec_HashBegin.calls  (r1 : List Int) (r2 : ByteArray) (r3 : Int) (w : World) (h : spec_HashBegin.f  = some (r1, r2, r3)) :
    Calls Tryd.prog 68 #[] w fun e w' => ∃ v0_ : Value, e = .returned (.agg #[v0_, .string r2, .int .i64 r3]) ∧ Kd.R (Kd.int .i64) 2 w' w.heap.size (fun _ => True) v0_ r1 ∧ Below w.heap.size w w' := by
  have hu42 := Tryd.underlying42
  have HB := AM (Below.refl w.heap.size w)
  have H : ((spec_l05Start.f).bind fun t151 => (some (t151, (⟨#[]⟩ : ByteArray), 0))) = some (r1, r2, r3) := h
  clear h
  obtain ⟨t151, A1, H⟩ := OB H
  try dsimp only at H
  replace A1 := AM A1
  simp only [Option.some.injEq, Prod.mk.injEq] at H
  obtain ⟨rfl, rfl, rfl⟩ := H
  go_enter Tryd.func68, Tryd.ntmps68
  go_wp2_with (first | ((with_reducible refine gate_dst (N := 0) rfl ?_); refine be_ 0 #[.slice none 0 0, .string (⟨#[]⟩ : ByteArray), .int .i64 0] 42 ?_; intro gb150 hg w2 hbox hb; have BK150 := AM hbox; have GW150 := AM ((by rw [hg]; exact (below_size bel_) : w.heap.size ≤ gb150)); have GE150 := AM ((by rw [hg]; exact (below_size bel_) : w.heap.size ≤ gb150)); replace HB := AM (below_step bel_ hb); clear hb hbox hg) | ((with_reducible refine gate_callee (f := 109) rfl ?_); refine gl_ (some 1) Tryd.func109 #[] ?_; (with_reducible refine (spec_l05Start.calls  t151 _ A1.out).mono ?_); rintro e w3 ⟨v152, rfl, ho0, hb⟩; refine ⟨_, rfl, ?_⟩; have HO153 := AM (Kd.R_lower ho0 (below_size bel_)); replace BK150 := AM (blk_below (g := gb150) (o := .cells #[.slice none 0 0, .string (⟨#[]⟩ : ByteArray), .int .i64 0] 42 (0, 0)) (bk_ BK150.out) hb); replace HB := AM (below_step bel_ hb); (try clear hb); (try clear hb2); (try clear hk); (try clear hi); (try clear ho0); obtain ⟨Ao4, co4, eo4⟩ := Kd.R_slice HO153.out; subst eo4; have hcz5_0 : w3.cell? ⟨gb150, 0, none⟩ = some (.slice none 0 0) := (blk_cell BK150.out 0).trans rfl; have hcz5_1 : w3.cell? ⟨gb150, 1, none⟩ = some (.string (⟨#[]⟩ : ByteArray)) := (blk_cell BK150.out 1).trans rfl; have hcz5_2 : w3.cell? ⟨gb150, 2, none⟩ = some (.int .i64 0) := (blk_cell BK150.out 2).trans rfl; have hfz5_0 := blk_frozen BK150.out 0; have hfz5_1 := blk_frozen BK150.out 1; have hfz5_2 := blk_frozen BK150.out 2))
  refine bodyPost_ret (results_cell_row rfl _ _ gb150 42 #[.slice Ao4 t151.length co4, .string (⟨#[]⟩ : ByteArray), .int .i64 0] (0, 0) _ rfl bka_ Tryd.underlying42 rfl (by kernel_rfl)) rfl ?_
  exact ⟨_, ri_, by (with_reducible repeat (first | apply Kd.R_alloc | apply Kd.R_drewN | apply Kd.R_drew)); exact Kd.R_mono (Kd.R_far (p := ⟨gb150, 2, none⟩) (Kd.R_far (p := ⟨gb150, 1, none⟩) (Kd.R_far (p := ⟨gb150, 0, none⟩) (Kd.R_types HO153.out BK150.out (by decide)) (fun _ hk => hk.2) (.slice Ao4 t151.length co4)) (fun _ hk => hk.2) (.string (⟨#[]⟩ : ByteArray))) (fun _ hk => hk.2) (.int .i64 0)) (fun _ hk => trivial), bel_⟩

/-! ### spec_l09Digest: function 52 -/
def spec_l09Digest.f (k : Nat) (a0 : ByteArray) (a1 : ByteArray) : Option (ByteArray) := (spec_HashBegin.f).bind fun bt154 => ((spec_l05More.f k bt154.1 bt154.2.1 bt154.2.2 a0).bind fun bt159 => ((spec_l05More.f k bt159.1 bt159.2.1 bt159.2.2 a1).bind fun bt164 => ((spec_l05End.f k bt164.1 bt164.2.1 bt164.2.2).bind fun t169 => (some t169))))
theorem spec_l09Digest.mono : ∀ a0 a1 k, LeO (spec_l09Digest.f k a0 a1) (spec_l09Digest.f (k + 1) a0 a1) := by
  intro a0 a1 k
  unfold spec_l09Digest.f
  repeat' first
      | (with_reducible exact spec_l05End.mono _ _ _ _)
      | (with_reducible exact spec_l05More.mono _ _ _ _ _)
      | (with_reducible exact LeO.refl _)
      | (with_reducible exact LeO.none _)
      | (with_reducible refine LeO.ite ?_ ?_)
      | (with_reducible refine LeO.bind ?_ (fun _ => ?_))
      | exact spec_l05End.mono _ _ _ _
      | exact spec_l05More.mono _ _ _ _ _
      | exact LeO.none _
      | refine LeO.ite ?_ ?_
      | refine LeO.bind ?_ (fun _ => ?_)
set_option maxHeartbeats 8000000 in
set_option maxRecDepth 100000 in
theorem spec_l09Digest.calls (k : Nat) (a0 : ByteArray) (a1 : ByteArray) (r : ByteArray) (w : World) (h : spec_l09Digest.f k a0 a1 = some r) :
    Calls Tryd.prog 52 #[.string a0, .string a1] w fun e w' => e = .returned (.string r) ∧ Below w.heap.size w w' := by
  have HB := AM (Below.refl w.heap.size w)
  have H : ((spec_HashBegin.f).bind fun bt154 => ((spec_l05More.f k bt154.1 bt154.2.1 bt154.2.2 a0).bind fun bt159 => ((spec_l05More.f k bt159.1 bt159.2.1 bt159.2.2 a1).bind fun bt164 => ((spec_l05End.f k bt164.1 bt164.2.1 bt164.2.2).bind fun t169 => (some t169))))) = some r := h
  clear h
  obtain ⟨⟨t154, t157, t158⟩, A3, H⟩ := OB H
  try dsimp only at H
  replace A3 := AM A3
  obtain ⟨⟨t159, t162, t163⟩, A4, H⟩ := OB H
  try dsimp only at H
  replace A4 := AM A4
  obtain ⟨⟨t164, t167, t168⟩, A5, H⟩ := OB H
  try dsimp only at H
  replace A5 := AM A5
  obtain ⟨t169, A6, H⟩ := OB H
  try dsimp only at H
  replace A6 := AM A6
  obtain rfl := Option.some.inj H
  go_enter Tryd.func52, Tryd.ntmps52
  go_wp2_with (first | ((with_reducible refine gate_callee (f := 68) rfl ?_); refine gl_ (some 5) Tryd.func68 #[] ?_; (with_reducible refine (spec_HashBegin.calls  t154 t157 t158 _ A3.out).mono ?_); rintro e w7 ⟨v155, rfl, ho0, hb⟩; refine ⟨_, rfl, ?_⟩; have HO156 := AM (Kd.R_lower ho0 (below_size bel_)); replace HB := AM (below_step bel_ hb); (try clear hb); (try clear hb2); (try clear hk); (try clear hi); (try clear ho0); obtain ⟨Ao8, co8, eo8⟩ := Kd.R_slice HO156.out; subst eo8) | ((with_reducible refine gate_callee (f := 67) rfl ?_); refine gl_ (some 7) Tryd.func67 #[.agg #[.slice Ao8 t154.length co8, .string t157, .int .i64 t158], .string a0] ?_; (with_reducible refine (spec_l05More.calls k _ _ t154 t157 t158 a0 t159 t162 t163 _ ?side1 ?side2 A4.out).mono ?_); (case side1 => repeat (first | exact (Kd.R_reads' HO156.out).2.2 | (with_reducible refine Kd.C_alloc ?_ _) | (with_reducible refine Kd.C_drewN ?_ _) | (with_reducible refine Kd.C_drew ?_))); (case side2 => exact (Kd.R_reads' HO156.out).2.1); rintro e w9 ⟨v160, rfl, ho0, hb⟩; refine ⟨_, rfl, ?_⟩; have HO161 := AM (Kd.R_lower (Kd.R_new' ho0 (Kd.R_lt (ro_ HO156.out))) (below_size bel_)); replace HO156 := AM (Kd.R_elder' (ro_ HO156.out) (Kd.R_base ho0) hb); replace HB := AM (below_step bel_ hb); (try clear hb); (try clear hb2); (try clear hk); (try clear hi); (try clear ho0); obtain ⟨Ao10, co10, eo10⟩ := Kd.R_slice HO161.out; subst eo10) | ((with_reducible refine gate_callee (f := 67) rfl ?_); refine gl_ (some 9) Tryd.func67 #[.agg #[.slice Ao10 t159.length co10, .string t162, .int .i64 t163], .string a1] ?_; (with_reducible refine (spec_l05More.calls k _ _ t159 t162 t163 a1 t164 t167 t168 _ ?side1 ?side2 A5.out).mono ?_); (case side1 => repeat (first | exact (Kd.R_reads' HO161.out).2.2 | (with_reducible refine Kd.C_alloc ?_ _) | (with_reducible refine Kd.C_drewN ?_ _) | (with_reducible refine Kd.C_drew ?_))); (case side2 => exact (Kd.R_reads' HO161.out).2.1); rintro e w11 ⟨v165, rfl, ho0, hb⟩; refine ⟨_, rfl, ?_⟩; have HO166 := AM (Kd.R_lower (Kd.R_new' (Kd.R_new' ho0 (Kd.R_lt (ro_ HO156.out))) (Kd.R_lt (ro_ HO161.out))) (below_size bel_)); replace HO156 := AM (Kd.R_elder' (ro_ HO156.out) (Kd.R_base ho0) hb); replace HO161 := AM (Kd.R_elder' (ro_ HO161.out) (Kd.R_base ho0) hb); replace HB := AM (below_step bel_ hb); (try clear hb); (try clear hb2); (try clear hk); (try clear hi); (try clear ho0); obtain ⟨Ao12, co12, eo12⟩ := Kd.R_slice HO166.out; subst eo12) | ((with_reducible refine gate_callee (f := 66) rfl ?_); refine gl_ (some 10) Tryd.func66 #[.agg #[.slice Ao12 t164.length co12, .string t167, .int .i64 t168]] ?_; (with_reducible refine (spec_l05End.calls k _ _ t164 t167 t168 t169 _ ?side1 ?side2 A6.out).mono ?_); (case side1 => repeat (first | exact (Kd.R_reads' HO166.out).2.2 | (with_reducible refine Kd.C_alloc ?_ _) | (with_reducible refine Kd.C_drewN ?_ _) | (with_reducible refine Kd.C_drew ?_))); (case side2 => exact (Kd.R_reads' HO166.out).2.1); rintro e w13 ⟨rfl, hb⟩; refine ⟨_, rfl, ?_⟩; replace HO156 := AM (Kd.R_below (ro_ HO156.out) hb); replace HO161 := AM (Kd.R_below (ro_ HO161.out) hb); replace HO166 := AM (Kd.R_below (ro_ HO166.out) hb); replace HB := AM (below_step bel_ hb); (try clear hb); (try clear hb2); (try clear hk); (try clear hi)))
  go_ret
  exact ⟨ri_, bel_⟩

end Go.Proofs.YtddapeieolfolaaDoor.PFnExactFrameRead
