/- Functions of the law FnExactFrameBytes: the print's, with walks of this session's own. No statement is proved here. -/
import Derived.WalkLawsBesides
import Derived.Test.YtddapeieolfolaaDoorVRegFnExactFrameBytes
-- A program of this session wrote this text: a changed copy of the kit print, with given functions.
import Derived.Test.YtddapeieolfolaaDoorPFnExactFrameBytesx0
import Derived.Test.YtddapeieolfolaaDoorPFnExactFrameBytesx2
import Derived.Test.YtddapeieolfolaaDoorPFnExactFrameBytesx3
import Derived.Test.YtddapeieolfolaaDoorPFnExactFrameBytesx4
namespace Go.Proofs.YtddapeieolfolaaDoor.PFnExactFrameBytes
open Go.RowKit Go.Proofs.YtddapeieolfolaaDoorW.PrintWords Go.Proofs.YtddapeieolfolaaDoorW.PrintLast Go.Proofs.YtddapeieolfolaaDoorW.PrintMore Go.Proofs.YtddapeieolfolaaDoor.Reg Go.Proofs.YtddapeieolfolaaDoor.Aut
attribute [local go_sem] max2_int min2_int max_two min_two max_three min_three max_four min_four   -- for this text's walks alone
set_option linter.unusedVariables false
set_option linter.unusedSimpArgs false

/-! ### spec_l05End: function 66 -/
mutual
def spec_l05End.l0 : Nat → List Int → List Int → ByteArray → Int → Option (ByteArray)
  | 0, _, _, _, _ => none
  | k + 1, x3, x138000, x138001, x138002 => if (Int.tmod (wrap64 (x138002 + (x3.length : Int))) 64) = 56 then (spec_l05End.l1 k x3 (IntKind.u64.wrap (wrap64 (8 * x138002))) 56 x138000 x138001 x138002) else (if x3.length < 140737488355328 then (spec_l05End.l0 k (x3 ++ [0]) x138000 x138001 x138002) else (none))
def spec_l05End.l1 : Nat → List Int → Int → Int → List Int → ByteArray → Int → Option (ByteArray)
  | 0, _, _, _, _, _, _ => none
  | k + 1, x3, x4, x5, x138000, x138001, x138002 => if x5 ≥ 0 then (if 0 ≤ (IntKind.u64.wrap (x5)) then (if x3.length < 140737488355328 then (spec_l05End.l1 k (x3 ++ [(shr .u64 x4 (IntKind.u64.wrap (x5))) % 256]) x4 (wrap64 (x5 - 8)) x138000 x138001 x138002) else (none)) else (none)) else ((spec_l05More.f k x138000 x138001 x138002 (strOfNums x3)).bind fun bt147 => (spec_l05End.l2 k (([] : List Int)) 0 bt147.1 bt147.2.1 bt147.2.2))
def spec_l05End.l2 : Nat → List Int → Int → List Int → ByteArray → Int → Option (ByteArray)
  | 0, _, _, _, _, _ => none
  | k + 1, x7, x8, x153000, x153001, x153002 => if x8 < 8 then (if 0 ≤ x8 then (if x8 < (x153000.length : Int) then ((some (([((rd x153000 x8) / 16777216) % 256, ((rd x153000 x8) / 65536) % 256, ((rd x153000 x8) / 256) % 256, (rd x153000 x8) % 256] : List Int) : List Int)).bind fun y157 => (if x7.length + y157.length < 140737488355328 then (spec_l05End.l2 k (x7 ++ y157) (wrap64 (x8 + 1)) x153000 x153001 x153002) else (none))) else (none)) else (none)) else (some (strOfNums x7))
end
def spec_l05End.f (k : Nat) (l0_0 : List Int) (a0_1 : ByteArray) (a0_2 : Int) : Option (ByteArray) := spec_l05End.l0 k (([128] : List Int)) l0_0 a0_1 a0_2
theorem spec_l05End.mono_l : ∀ k, (∀ y0 y1 y2 y3, LeO (spec_l05End.l0 k y0 y1 y2 y3) (spec_l05End.l0 (k + 1) y0 y1 y2 y3)) ∧ (∀ y0 y1 y2 y3 y4 y5, LeO (spec_l05End.l1 k y0 y1 y2 y3 y4 y5) (spec_l05End.l1 (k + 1) y0 y1 y2 y3 y4 y5)) ∧ (∀ y0 y1 y2 y3 y4, LeO (spec_l05End.l2 k y0 y1 y2 y3 y4) (spec_l05End.l2 (k + 1) y0 y1 y2 y3 y4))
  | 0 => ⟨fun _ _ _ _ r h => by simp [spec_l05End.l0] at h, fun _ _ _ _ _ _ r h => by simp [spec_l05End.l1] at h, fun _ _ _ _ _ r h => by simp [spec_l05End.l2] at h⟩
  | k + 1 => by
    obtain ⟨ih0, ih1, ih2⟩ := spec_l05End.mono_l k
    refine ⟨?_, ?_, ?_⟩
    · intro y0 y1 y2 y3
      unfold spec_l05End.l0
      repeat' first
      | (with_reducible exact ih0 _ _ _ _)
      | (with_reducible exact ih1 _ _ _ _ _ _)
      | (with_reducible exact ih2 _ _ _ _ _)
      | (with_reducible exact spec_l05More.mono _ _ _ _ _)
      | (with_reducible exact LeO.refl _)
      | (with_reducible exact LeO.none _)
      | (with_reducible refine LeO.ite ?_ ?_)
      | (with_reducible refine LeO.bind ?_ (fun _ => ?_))
      | exact ih0 _ _ _ _
      | exact ih1 _ _ _ _ _ _
      | exact ih2 _ _ _ _ _
      | exact spec_l05More.mono _ _ _ _ _
      | exact LeO.none _
      | refine LeO.ite ?_ ?_
      | refine LeO.bind ?_ (fun _ => ?_)
    · intro y0 y1 y2 y3 y4 y5
      unfold spec_l05End.l1
      repeat' first
      | (with_reducible exact ih0 _ _ _ _)
      | (with_reducible exact ih1 _ _ _ _ _ _)
      | (with_reducible exact ih2 _ _ _ _ _)
      | (with_reducible exact spec_l05More.mono _ _ _ _ _)
      | (with_reducible exact LeO.refl _)
      | (with_reducible exact LeO.none _)
      | (with_reducible refine LeO.ite ?_ ?_)
      | (with_reducible refine LeO.bind ?_ (fun _ => ?_))
      | exact ih0 _ _ _ _
      | exact ih1 _ _ _ _ _ _
      | exact ih2 _ _ _ _ _
      | exact spec_l05More.mono _ _ _ _ _
      | exact LeO.none _
      | refine LeO.ite ?_ ?_
      | refine LeO.bind ?_ (fun _ => ?_)
    · intro y0 y1 y2 y3 y4
      unfold spec_l05End.l2
      repeat' first
      | (with_reducible exact ih0 _ _ _ _)
      | (with_reducible exact ih1 _ _ _ _ _ _)
      | (with_reducible exact ih2 _ _ _ _ _)
      | (with_reducible exact spec_l05More.mono _ _ _ _ _)
      | (with_reducible exact LeO.refl _)
      | (with_reducible exact LeO.none _)
      | (with_reducible refine LeO.ite ?_ ?_)
      | (with_reducible refine LeO.bind ?_ (fun _ => ?_))
      | exact ih0 _ _ _ _
      | exact ih1 _ _ _ _ _ _
      | exact ih2 _ _ _ _ _
      | exact spec_l05More.mono _ _ _ _ _
      | exact LeO.none _
      | refine LeO.ite ?_ ?_
      | refine LeO.bind ?_ (fun _ => ?_)
theorem spec_l05End.mono : ∀ a0 a1 a2 k, LeO (spec_l05End.f k a0 a1 a2) (spec_l05End.f (k + 1) a0 a1 a2) := by
  intro a0 a1 a2 k
  obtain ⟨ih0, ih1, ih2⟩ := spec_l05End.mono_l k
  unfold spec_l05End.f
  repeat' first
      | (with_reducible exact ih0 _ _ _ _)
      | (with_reducible exact ih1 _ _ _ _ _ _)
      | (with_reducible exact ih2 _ _ _ _ _)
      | (with_reducible exact spec_l05More.mono _ _ _ _ _)
      | (with_reducible exact LeO.refl _)
      | (with_reducible exact LeO.none _)
      | (with_reducible refine LeO.ite ?_ ?_)
      | (with_reducible refine LeO.bind ?_ (fun _ => ?_))
      | exact ih0 _ _ _ _
      | exact ih1 _ _ _ _ _ _
      | exact ih2 _ _ _ _ _
      | exact spec_l05More.mono _ _ _ _ _
      | exact LeO.none _
      | refine LeO.ite ?_ ?_
      | refine LeO.bind ?_ (fun _ => ?_)
set_option maxHeartbeats 8000000 in
set_option maxRecDepth 100000 in
theorem spec_l05End.calls (k : Nat) (A0_0 : Option Addr) (c0_0 : Nat) (l0_0 : List Int) (a0_1 : ByteArray) (a0_2 : Int) (r : ByteArray) (w : World) (hr0_0 : Kd.C (Kd.int .i64) w A0_0 l0_0.length l0_0) (hc0_0 : l0_0.length ≤ c0_0) (h : spec_l05End.f k l0_0 a0_1 a0_2 = some r) :
    Calls Tryd.prog 66 #[.agg #[.slice A0_0 l0_0.length c0_0, .string a0_1, .int .i64 a0_2]] w fun e w' => e = .returned (.string r) ∧ Below w.heap.size w w' := by
  have hu42 := Tryd.underlying42
  have HR0_0 := AM hr0_0
  have HC0_0 := AM hc0_0
  clear hr0_0 hc0_0
  have HB := AM (Below.refl w.heap.size w)
  have H : (spec_l05End.l0 k (([128] : List Int)) l0_0 a0_1 a0_2) = some r := h
  clear h
  obtain ⟨y138, hy138⟩ : ∃ y_ : List Int, y_ = (([128] : List Int)) := ⟨_, rfl⟩
  replace H : (spec_l05End.l0 k y138 l0_0 a0_1 a0_2) = some r := by first | (rw [hy138]; with_reducible exact H) | (have H2_ := (Option.bind_some _ _).symm.trans H; rw [hy138]; with_reducible exact H2_) | (have H2_ := (Option.bind_some _ _).symm.trans H; with_reducible exact H2_) | with_reducible exact H | (rw [hy138]; exact H) | exact H
  have Ny138 := AM hy138
  clear hy138
  have H' := AM H
  clear H
  go_enter Tryd.func66, Tryd.ntmps66
  go_wp2_with (first | ((with_reducible refine gate_dst (N := 1) rfl ?_); refine be_ 1 #[.slice A0_0 l0_0.length c0_0, .string a0_1, .int .i64 a0_2] 42 ?_; intro gb137 hg w2 hbox hb; have BK137 := AM hbox; have GW137 := AM ((by rw [hg]; exact (below_size bel_) : w.heap.size ≤ gb137)); have GE137 := AM ((by rw [hg]; exact (below_size bel_) : w.heap.size ≤ gb137)); replace HB := AM (below_step bel_ hb); clear hb hbox hg) | ((with_reducible refine gate_dst (N := 10) rfl ?_); refine Kd.R_lit (Kd.int .u8) _ 5 ?hg (N := 10) ?hd (xs := ([128] : List Int)) (inner := [.int .u8 128]) (ok := fun _ => True) (okp := fun _ => True) ?hr ?hp (fun _ hk => hk) trivial (Below.refl _ _) (Nat.le_refl _) (by simp) ?_; (case hd => rfl); (case hg => rfl); (case hr => first | (go_simp; done) | (go_simp; rfl)); (case hp => exact (Reps.one (show Kd.M (Kd.int .u8) _ _ _ 128 [.int .u8 128] from rfl) (Reps.none _ _))); intro v139 w3 ho4 hb hg_ hnew_; clear hg_ hnew_; (first | rw [← Ny138.out] at ho4 | (simp only [Int.reduceToNat] at ho4; rw [← Ny138.out] at ho4)); have HO140 := AM (Kd.R_lower ho4 (below_size bel_)); replace BK137 := AM (blk_below (g := gb137) (o := .cells #[.slice A0_0 l0_0.length c0_0, .string a0_1, .int .i64 a0_2] 42 (0, 0)) (bk_ BK137.out) hb); replace HB := AM (below_step bel_ hb); clear hb ho4))
  go_loopg [3] k (fun kq v3 w' => ∃ (x3_1 : List Int), Aside0 (spec_l05End.l0 kq x3_1 l0_0 a0_1 a0_2 = some r) ∧ Aside0 (kq ≤ k) ∧ Aside0 (Kd.R (Kd.int .u8) 5 w' w.heap.size (fun _ => True) v3 x3_1) ∧ Aside0 (w'.heap[gb137]? = some (.cells #[(.slice A0_0 l0_0.length c0_0), .string a0_1, .int .i64 a0_2] 42 (0, 0))) ∧ Aside0 (Below w.heap.size w w'))
  case atStart => exact ⟨(y138), H', ⟨Nat.le_refl _⟩, ⟨ro_ HO140.out⟩, ⟨bk_ BK137.out⟩, ⟨bel_⟩⟩
  case round =>
    clear H'
    try clear p2
    obtain ⟨x3_1, HA, HK1, HO_3, BK137, HB⟩ := hrel
    cases gk with
    | zero => exact absurd HA.out (by simp [spec_l05End.l0])
    | succ k1 =>
      have H := HA.out
      clear HA
      simp only [spec_l05End.l0] at H
      by_cases c5 : (Int.tmod (wrap64 (a0_2 + (x3_1.length : Int))) 64) = 56
      · rw [if_pos c5] at H
        have c5b0 : ((Int.tmod (wrap64 (a0_2 + (x3_1.length : Int))) 64) == 56) = true := beq_iff_eq.mpr c5
        try have c5b9 : (((Int.tmod ((a0_2 + (x3_1.length : Int))) 64) == 56)) = true := (by have hw0 : wrap64 (a0_2 + (x3_1.length : Int)) = a0_2 + (x3_1.length : Int) := (by unfold wrap64; omega); have z_ := c5b0; simp only [hw0] at z_; exact z_)
        have c5b1 : ((Int.tmod (wrap64 (a0_2 + (x3_1.length : Int))) 64) != 56) = false := bne_eq_false_iff_eq.mpr c5
        clear c5
        have H' := AM H
        clear H
        have hcz6_0 : wr.cell? ⟨gb137, 0, none⟩ = some (.slice A0_0 l0_0.length c0_0) := (blk_cell BK137.out 0).trans rfl
        have hcz6_1 : wr.cell? ⟨gb137, 1, none⟩ = some (.string a0_1) := (blk_cell BK137.out 1).trans rfl
        have hcz6_2 : wr.cell? ⟨gb137, 2, none⟩ = some (.int .i64 a0_2) := (blk_cell BK137.out 2).trans rfl
        have hfz6_0 := blk_frozen BK137.out 0
        have hfz6_1 := blk_frozen BK137.out 1
        have hfz6_2 := blk_frozen BK137.out 2
        obtain ⟨Ao7, co7, eo7⟩ := Kd.R_slice HO_3.out
        subst eo7
        go_wp2
        go_loopg [3, 5] k1 (fun kq v3 v5 w' => ∃ (x3_2 : List Int) (x5_2 : Int), v5 = .int .i64 x5_2 ∧ Aside0 (spec_l05End.l1 kq x3_2 (IntKind.u64.wrap (wrap64 (8 * a0_2))) x5_2 l0_0 a0_1 a0_2 = some r) ∧ Aside0 (kq ≤ k1) ∧ Aside0 (Kd.R (Kd.int .u8) 5 w' w.heap.size (fun _ => True) v3 x3_2) ∧ Aside0 (w'.heap[gb137]? = some (.cells #[(.slice A0_0 l0_0.length c0_0), .string a0_1, .int .i64 a0_2] 42 (0, 0))) ∧ Aside0 (Below w.heap.size w w'))
        case atStart => exact ⟨(x3_1), (56), (by first | rfl | (simp; done) | (simp [*]; done)), H', ⟨Nat.le_refl _⟩, ⟨ro_ HO_3.out⟩, ⟨bk_ BK137.out⟩, ⟨bel_⟩⟩
        case round =>
          clear H'
          try clear p2
          try clear c5
          try clear c5b0
          try clear c5b1
          try clear c6
          try clear p6
          try clear hcz6_0
          try clear hcz6_1
          try clear hcz6_2
          try clear hfz6_0
          try clear hfz6_1
          try clear hfz6_2
          try clear p2
          obtain ⟨x3_2, x5_2, rfl, HA, HK2, HO_3, BK137, HB⟩ := hrel
          cases gk with
          | zero => exact absurd HA.out (by simp [spec_l05End.l1])
          | succ k2 =>
            have H := HA.out
            clear HA
            simp only [spec_l05End.l1] at H
            by_cases c8 : x5_2 ≥ 0
            · rw [if_pos c8] at H
              have c8b0 : decide (0 ≤ x5_2) = true := decide_eq_true c8
              clear c8
              obtain ⟨ji9, hji9⟩ : ∃ j_ : Int, (IntKind.u64.wrap (x5_2)) = j_ := ⟨_, rfl⟩
              replace H : (if 0 ≤ (ji9) then (if x3_2.length < 140737488355328 then (spec_l05End.l1 k2 (x3_2 ++ [(shr .u64 (IntKind.u64.wrap (wrap64 (8 * a0_2))) (ji9)) % 256]) (IntKind.u64.wrap (wrap64 (8 * a0_2))) (wrap64 (x5_2 - 8)) l0_0 a0_1 a0_2) else (none)) else (none)) = some r := by first | (rw [hji9] at H; exact H) | (simp only [hji9] at H ⊢; exact H)
              by_cases c10 : 0 ≤ (ji9)
              · rw [if_pos c10] at H
                have c10b0 := eq_true c10
                have c10b1 : decide (0 ≤ (ji9)) = true := decide_eq_true c10
                clear c10
                obtain ⟨ji11, hji11⟩ : ∃ j_ : Int, (shr .u64 (IntKind.u64.wrap (wrap64 (8 * a0_2))) (ji9)) = j_ := ⟨_, rfl⟩
                replace H : (if x3_2.length < 140737488355328 then (spec_l05End.l1 k2 (x3_2 ++ [(ji11) % 256]) (IntKind.u64.wrap (wrap64 (8 * a0_2))) (wrap64 (x5_2 - 8)) l0_0 a0_1 a0_2) else (none)) = some r := by first | (rw [hji11] at H; exact H) | (simp only [hji11] at H ⊢; exact H)
                have hji11_ : ((IntKind.u64.wrap (wrap64 (8 * a0_2))) / 2 ^ min (ji9).toNat 64) = ji11 := hji11
                have hji11z : (ji9) ≤ 64 → ((IntKind.u64.wrap (wrap64 (8 * a0_2))) / 2 ^ (ji9).toNat) = ji11 := shr_small hji11
                by_cases c12 : x3_2.length < 140737488355328
                · rw [if_pos c12] at H
                  have LMc12 := AM c12
                  clear c12
                  obtain ⟨y144, hy144⟩ : ∃ y_ : List Int, y_ = (x3_2 ++ [(ji11) % 256]) := ⟨_, rfl⟩
                  replace H : (spec_l05End.l1 k2 y144 (IntKind.u64.wrap (wrap64 (8 * a0_2))) (wrap64 (x5_2 - 8)) l0_0 a0_1 a0_2) = some r := by first | (rw [hy144]; with_reducible exact H) | (have H2_ := (Option.bind_some _ _).symm.trans H; rw [hy144]; with_reducible exact H2_) | (have H2_ := (Option.bind_some _ _).symm.trans H; with_reducible exact H2_) | with_reducible exact H | (rw [hy144]; exact H) | exact H
                  have Ny144 := AM hy144
                  clear hy144
                  have H' := AM H
                  clear H
                  go_wp2_with (first | ((with_reducible refine gate_builtin (b := .append) (xs := #[.tmp 29, .tmp 35]) rfl ?_); at_builtin; refine Kd.R_append (Kd.int .u8) (w0 := w) w.heap.size rfl (.tmp 29) (.tmp 35) 38 5 (.int .u8 0) 1 rfl Tryd.underlying38 info5 rfl (by decide) (by omega) u3 x3_2 ((ji11) % 256) [.int .u8 ((ji11) % 256)] (fun _ => True) (fun _ => False) rfl rfl ?aP (fun _ hk => hk.elim) ?aF ?aO ?aB ?aS ?aL ?_; (case aP => exact rfl); (case aB => exact bel_); (case aF => exact (fun _ _ => trivial)); (case aO => exact (ro_ HO_3.out)); (case aS => exact (below_size bel_)); (case aL => have := LMc12.out; omega); intro v145 w13 ho hb hg hat; rw [← Ny144.out] at ho; have n0_ := AM (blk_grown (g := gb137) (o := .cells #[.slice A0_0 l0_0.length c0_0, .string a0_1, .int .i64 a0_2] 42 (0, 0)) (bk_ BK137.out) hg (Kd.R_ne HO_3.out BK137.out (by decide))); have n1_ := AM hb; have n2_ := AM ho; clear BK137; clear HB; clear HO_3; have BK137 := n0_; have HB := n1_; have HO146 := n2_; clear n0_ n1_ n2_; clear ho hb hg hat))
                  go_roundg k2
                  case measure => have := HK1.out; have := HK2.out; omega
                  case rel => exact ⟨(y144), (wrap64 (x5_2 - 8)), (by first | rfl | (simp; done) | (simp [*]; done)), H', ⟨by have := HK1.out; have := HK2.out; omega⟩, ⟨ro_ HO146.out⟩, ⟨bk_ BK137.out⟩, ⟨bel_⟩⟩
                · rw [if_neg c12] at H
                  exact absurd H (by simp)
              · rw [if_neg c10] at H
                exact absurd H (by simp)
            · rw [if_neg c8] at H
              have c8b0 : decide (0 ≤ x5_2) = false := decide_eq_false c8
              clear c8
              obtain ⟨⟨t147, t150, t151⟩, A14, H⟩ := OB H
              try dsimp only at H
              replace A14 := AM A14
              obtain ⟨y153, hy153⟩ : ∃ y_ : List Int, y_ = (([] : List Int)) := ⟨_, rfl⟩
              replace H : (spec_l05End.l2 k2 y153 0 t147 t150 t151) = some r := by first | (rw [hy153]; with_reducible exact H) | (have H2_ := (Option.bind_some _ _).symm.trans H; rw [hy153]; with_reducible exact H2_) | (have H2_ := (Option.bind_some _ _).symm.trans H; with_reducible exact H2_) | with_reducible exact H | (rw [hy153]; exact H) | exact H
              have Ny153 := AM hy153
              clear hy153
              have H' := AM H
              clear H
              have hcz15_0 : wr.cell? ⟨gb137, 0, none⟩ = some (.slice A0_0 l0_0.length c0_0) := (blk_cell BK137.out 0).trans rfl
              have hcz15_1 : wr.cell? ⟨gb137, 1, none⟩ = some (.string a0_1) := (blk_cell BK137.out 1).trans rfl
              have hcz15_2 : wr.cell? ⟨gb137, 2, none⟩ = some (.int .i64 a0_2) := (blk_cell BK137.out 2).trans rfl
              have hfz15_0 := blk_frozen BK137.out 0
              have hfz15_1 := blk_frozen BK137.out 1
              have hfz15_2 := blk_frozen BK137.out 2
              have hcv16 := own_string (P := Tryd.prog) Tryd.underlying38 Tryd.underlying5 Tryd.underlying9 (Kd.own_of_R HO_3.out)
              go_wp2_with (first | ((with_reducible refine gate_callee (f := 67) rfl ?_); refine gl_ (some 40) Tryd.func67 #[.agg #[.slice A0_0 l0_0.length c0_0, .string a0_1, .int .i64 a0_2], .string (strOfNums x3_2)] ?_; (with_reducible refine (spec_l05More.calls k2 _ _ l0_0 a0_1 a0_2 (strOfNums x3_2) t147 t150 t151 _ ?side1 ?side2 A14.out).mono ?_); (case side1 => repeat (first | exact (Kd.C_below HR0_0.out HB.out) | (with_reducible refine Kd.C_alloc ?_ _) | (with_reducible refine Kd.C_drewN ?_ _) | (with_reducible refine Kd.C_drew ?_))); (case side2 => exact HC0_0.out); rintro e w17 ⟨v148, rfl, ho0, hb⟩; refine ⟨_, rfl, ?_⟩; replace HO_3 := AM (Kd.R_below (ro_ HO_3.out) hb); have HO149 := AM (Kd.R_lower ho0 (below_size bel_)); replace BK137 := AM (blk_below (g := gb137) (o := .cells #[.slice A0_0 l0_0.length c0_0, .string a0_1, .int .i64 a0_2] 42 (0, 0)) (bk_ BK137.out) hb); replace HB := AM (below_step bel_ hb); (try clear hb); (try clear hb2); (try clear hk); (try clear hi); (try clear ho0)) | ((with_reducible refine gate_dst (N := 6) rfl ?_); refine be_ 6 #[.slice none 0 0, .string (⟨#[]⟩ : ByteArray), .int .i64 0] 42 ?_; intro gb152 hg w18 hbox hb; replace HO_3 := AM (Kd.R_below (ro_ HO_3.out) hb); replace HO149 := AM (Kd.R_below (ro_ HO149.out) hb); have BK152 := AM hbox; have GW152 := AM ((by rw [hg]; exact (below_size bel_) : w.heap.size ≤ gb152)); have GE152 := AM ((by rw [hg]; exact (below_size bel_) : w.heap.size ≤ gb152)); replace HB := AM (below_step bel_ hb); have NB137_152 := AM ((by rw [hg]; exact Nat.ne_of_lt (blk_lt (g := gb137) (o := .cells #[.slice A0_0 l0_0.length c0_0, .string a0_1, .int .i64 a0_2] 42 (0, 0)) (bk_ BK137.out)) : gb137 ≠ gb152)); have NB152_137 := AM ((by rw [hg]; exact Nat.ne_of_gt (blk_lt (g := gb137) (o := .cells #[.slice A0_0 l0_0.length c0_0, .string a0_1, .int .i64 a0_2] 42 (0, 0)) (bk_ BK137.out)) : gb152 ≠ gb137)); replace BK137 := AM (blk_below (g := gb137) (o := .cells #[.slice A0_0 l0_0.length c0_0, .string a0_1, .int .i64 a0_2] 42 (0, 0)) (bk_ BK137.out) hb); clear hb hbox hg; obtain ⟨Ao19, co19, eo19⟩ := Kd.R_slice HO149.out; subst eo19; have hnb20 := NB152_137.out; have hnc20 := NB137_152.out; have hcz21_0 : w18.cell? ⟨gb152, 0, none⟩ = some (.slice none 0 0) := (blk_cell BK152.out 0).trans rfl; have hcz21_1 : w18.cell? ⟨gb152, 1, none⟩ = some (.string (⟨#[]⟩ : ByteArray)) := (blk_cell BK152.out 1).trans rfl; have hcz21_2 : w18.cell? ⟨gb152, 2, none⟩ = some (.int .i64 0) := (blk_cell BK152.out 2).trans rfl; have hfz21_0 := blk_frozen BK152.out 0; have hfz21_1 := blk_frozen BK152.out 1; have hfz21_2 := blk_frozen BK152.out 2) | ((with_reducible refine gate_dst (N := 41) rfl ?_); refine Kd.R_lit (Kd.int .u8) _ 5 ?hg (N := 41) ?hd (xs := ([] : List Int)) (inner := []) (ok := fun _ => True) (okp := fun _ => True) ?hr ?hp (fun _ hk => hk) trivial (Below.refl _ _) (Nat.le_refl _) (by simp) ?_; (case hd => rfl); (case hg => rfl); (case hr => first | (go_simp; done) | (go_simp; rfl)); (case hp => exact (Reps.none _ _)); intro v154 w22 ho23 hb hg_ hnew_; clear hg_ hnew_; (first | rw [← Ny153.out] at ho23 | (simp only [Int.reduceToNat] at ho23; rw [← Ny153.out] at ho23)); have n0_ := AM (Kd.R_elder' (by (with_reducible repeat (first | apply Kd.R_alloc | apply Kd.R_drewN | apply Kd.R_drew)); exact (Kd.R_mono (Kd.R_far (p := ⟨gb152, 2, none⟩) (Kd.R_far (p := ⟨gb152, 1, none⟩) (Kd.R_far (p := ⟨gb152, 0, none⟩) (Kd.R_types HO_3.out BK152.out (by decide)) (fun _ hk => hk.2) (.slice Ao19 t147.length co19)) (fun _ hk => hk.2) (.string t150)) (fun _ hk => hk.2) (.int .i64 t151)) (fun _ h_ => h_.1))) (Kd.R_base ho23) hb); have n1_ := AM (Kd.R_below (by (with_reducible repeat (first | apply Kd.R_alloc | apply Kd.R_drewN | apply Kd.R_drew)); exact (Kd.R_mono (Kd.R_far (p := ⟨gb152, 2, none⟩) (Kd.R_far (p := ⟨gb152, 1, none⟩) (Kd.R_far (p := ⟨gb152, 0, none⟩) (Kd.R_types HO149.out BK152.out (by decide)) (fun _ hk => hk.2) (.slice Ao19 t147.length co19)) (fun _ hk => hk.2) (.string t150)) (fun _ hk => hk.2) (.int .i64 t151)) (fun _ h_ => h_.1))) hb); have n2_ := AM (Kd.R_lower (Kd.R_new' ho23 (Kd.R_lt (by (with_reducible repeat (first | apply Kd.R_alloc | apply Kd.R_drewN | apply Kd.R_drew)); exact (Kd.R_mono (Kd.R_far (p := ⟨gb152, 2, none⟩) (Kd.R_far (p := ⟨gb152, 1, none⟩) (Kd.R_far (p := ⟨gb152, 0, none⟩) (Kd.R_types HO_3.out BK152.out (by decide)) (fun _ hk => hk.2) (.slice Ao19 t147.length co19)) (fun _ hk => hk.2) (.string t150)) (fun _ hk => hk.2) (.int .i64 t151)) (fun _ h_ => h_.1))))) (below_size bel_)); have n3_ := AM (blk_below (g := gb137) (o := .cells #[.slice A0_0 l0_0.length c0_0, .string a0_1, .int .i64 a0_2] 42 (0, 0)) bka_ hb); have n4_ := AM (blk_below (g := gb152) (o := .cells #[.slice Ao19 t147.length co19, .string t150, .int .i64 t151] 42 (0, 0)) bka_ hb); have n5_ := AM (below_step bel_ hb); clear HO_3; clear HO149; clear BK137; clear BK152; clear HB; have HO_3 := n0_; have HO149 := n1_; have HO155 := n2_; have BK137 := n3_; have BK152 := n4_; have HB := n5_; clear n0_ n1_ n2_ n3_ n4_ n5_; clear hb ho23))
              go_loopg [7, 8] k2 (fun kq v7 v8 w' => ∃ (x7_3 : List Int) (x8_3 : Int), v8 = .int .i64 x8_3 ∧ Aside0 (spec_l05End.l2 kq x7_3 x8_3 t147 t150 t151 = some r) ∧ Aside0 (kq ≤ k2) ∧ Aside0 (Kd.R (Kd.int .u8) 5 w' w.heap.size (fun _ => True) v7 x7_3) ∧ Aside0 (Kd.R (Kd.int .i64) 2 w' w.heap.size (fun _ => True) (.slice Ao19 t147.length co19) t147) ∧ Aside0 (w'.heap[gb137]? = some (.cells #[(.slice A0_0 l0_0.length c0_0), .string a0_1, .int .i64 a0_2] 42 (0, 0))) ∧ Aside0 (w'.heap[gb152]? = some (.cells #[(.slice Ao19 t147.length co19), .string t150, .int .i64 t151] 42 (0, 0))) ∧ Aside0 (Below w.heap.size w w'))
              case atStart => exact ⟨(y153), (0), (by first | rfl | (simp; done) | (simp [*]; done)), H', ⟨Nat.le_refl _⟩, ⟨by (with_reducible repeat (first | apply Kd.R_alloc | apply Kd.R_drewN | apply Kd.R_drew)); exact Kd.R_mono HO155.out (fun _ hk => trivial)⟩, ⟨ro_ HO149.out⟩, ⟨bk_ BK137.out⟩, ⟨bk_ BK152.out⟩, ⟨bel_⟩⟩
              case round =>
                clear H'
                try clear c1
                try clear hcv1
                try clear c2
                try clear p2
                try clear c5
                try clear c5b0
                try clear c5b1
                try clear c6
                try clear p6
                try clear c8
                try clear c8b0
                try clear c10
                try clear c10b0
                try clear c10b1
                try clear c12
                try clear hcv16
                try clear c20
                try clear hcz15_0
                try clear hcz15_1
                try clear hcz15_2
                try clear hcz21_0
                try clear hcz21_1
                try clear hcz21_2
                try clear hcz6_0
                try clear hcz6_1
                try clear hcz6_2
                try clear hfz15_0
                try clear hfz15_1
                try clear hfz15_2
                try clear hfz21_0
                try clear hfz21_1
                try clear hfz21_2
                try clear hfz6_0
                try clear hfz6_1
                try clear hfz6_2
                try clear p2
                try clear p6
                obtain ⟨x7_3, x8_3, rfl, HA, HK3, HO_7, HO_153000, BK137, BK152, HB⟩ := hrel
                cases gk with
                | zero => exact absurd HA.out (by simp [spec_l05End.l2])
                | succ k3 =>
                  have H := HA.out
                  clear HA
                  simp only [spec_l05End.l2] at H
                  by_cases c24 : x8_3 < 8
                  · rw [if_pos c24] at H
                    have c24b0 : decide (x8_3 < 8) = true := decide_eq_true c24
                    clear c24
                    by_cases c25 : 0 ≤ x8_3
                    · rw [if_pos c25] at H
                      have c25b0 : decide (0 ≤ x8_3) = true := decide_eq_true c25
                      clear c25
                      by_cases c26 : x8_3 < (t147.length : Int)
                      · rw [if_pos c26] at H
                        have c26b0 : decide (x8_3 < (t147.length : Int)) = true := decide_eq_true c26
                        clear c26
                        obtain ⟨y157, hy157⟩ : ∃ y_ : List Int, y_ = (([((rd t147 x8_3) / 16777216) % 256, ((rd t147 x8_3) / 65536) % 256, ((rd t147 x8_3) / 256) % 256, (rd t147 x8_3) % 256] : List Int)) := ⟨_, rfl⟩
                        replace H : (if x7_3.length + y157.length < 140737488355328 then (spec_l05End.l2 k3 (x7_3 ++ y157) (wrap64 (x8_3 + 1)) t147 t150 t151) else (none)) = some r := by first | (rw [hy157]; with_reducible exact H) | (have H2_ := (Option.bind_some _ _).symm.trans H; rw [hy157]; with_reducible exact H2_) | (have H2_ := (Option.bind_some _ _).symm.trans H; with_reducible exact H2_) | with_reducible exact H | (rw [hy157]; exact H) | exact H
                        have Ny157 := AM hy157
                        clear hy157
                        by_cases c27 : x7_3.length + y157.length < 140737488355328
                        · rw [if_pos c27] at H
                          have LMc27 := AM c27
                          clear c27
                          obtain ⟨y160, hy160⟩ : ∃ y_ : List Int, y_ = (x7_3 ++ y157) := ⟨_, rfl⟩
                          replace H : (spec_l05End.l2 k3 y160 (wrap64 (x8_3 + 1)) t147 t150 t151) = some r := by first | (rw [hy160]; with_reducible exact H) | (have H2_ := (Option.bind_some _ _).symm.trans H; rw [hy160]; with_reducible exact H2_) | (have H2_ := (Option.bind_some _ _).symm.trans H; with_reducible exact H2_) | with_reducible exact H | (rw [hy160]; exact H) | exact H
                          have Ny160 := AM hy160
                          clear hy160
                          have H' := AM H
                          clear H
                          have hnb28 := NB152_137.out
                          have hnc28 := NB137_152.out
                          have hcz29_0 : wr.cell? ⟨gb152, 0, none⟩ = some (.slice Ao19 t147.length co19) := (blk_cell BK152.out 0).trans rfl
                          have hcz29_1 : wr.cell? ⟨gb152, 1, none⟩ = some (.string t150) := (blk_cell BK152.out 1).trans rfl
                          have hcz29_2 : wr.cell? ⟨gb152, 2, none⟩ = some (.int .i64 t151) := (blk_cell BK152.out 2).trans rfl
                          have hfz29_0 := blk_frozen BK152.out 0
                          have hfz29_1 := blk_frozen BK152.out 1
                          have hfz29_2 := blk_frozen BK152.out 2
                          have p156 : 0 ≤ (x8_3 : Int) := of_decide_eq_true (by first | (with_reducible assumption) | assumption)
                          have q156 : x8_3 < (t147.length : Int) := of_decide_eq_true (by first | (with_reducible assumption) | assumption)
                          obtain ⟨ad156, e156, hx156_0⟩ := Kd.at_int (Kd.R_reads' HO_153000.out).2.2 x8_3 p156 q156
                          cases e156
                          replace p156 := eq_true p156
                          replace q156 := eq_true q156
                          go_wp2_with (first | ((with_reducible refine gate_dst (N := 63) rfl ?_); refine Kd.R_lit (Kd.int .u8) _ 5 ?hg (N := 63) ?hd (xs := ([((rd t147 x8_3) / 16777216) % 256, ((rd t147 x8_3) / 65536) % 256, ((rd t147 x8_3) / 256) % 256, (rd t147 x8_3) % 256] : List Int)) (inner := [.int .u8 (((rd t147 x8_3) / 16777216) % 256), .int .u8 (((rd t147 x8_3) / 65536) % 256), .int .u8 (((rd t147 x8_3) / 256) % 256), .int .u8 ((rd t147 x8_3) % 256)]) (ok := fun _ => True) (okp := fun _ => True) ?hr ?hp (fun _ hk => hk) trivial (Below.refl _ _) (Nat.le_refl _) (by simp) ?_; (case hd => rfl); (case hg => rfl); (case hr => first | (go_simp; done) | (go_simp; rfl)); (case hp => exact (Reps.one (show Kd.M (Kd.int .u8) _ _ _ (((rd t147 x8_3) / 16777216) % 256) [.int .u8 (((rd t147 x8_3) / 16777216) % 256)] from rfl) (Reps.one (show Kd.M (Kd.int .u8) _ _ _ (((rd t147 x8_3) / 65536) % 256) [.int .u8 (((rd t147 x8_3) / 65536) % 256)] from rfl) (Reps.one (show Kd.M (Kd.int .u8) _ _ _ (((rd t147 x8_3) / 256) % 256) [.int .u8 (((rd t147 x8_3) / 256) % 256)] from rfl) (Reps.one (show Kd.M (Kd.int .u8) _ _ _ ((rd t147 x8_3) % 256) [.int .u8 ((rd t147 x8_3) % 256)] from rfl) (Reps.none _ _)))))); intro v158 w30 ho31 hb hg_ hnew_; clear hg_ hnew_; (first | rw [← Ny157.out] at ho31 | (simp only [Int.reduceToNat] at ho31; rw [← Ny157.out] at ho31)); replace HO_153000 := AM (Kd.R_below (ro_ HO_153000.out) hb); have HO159 := AM (Kd.R_lower (Kd.R_new' ho31 (Kd.R_lt (ro_ HO_7.out))) (below_size bel_)); replace HO_7 := AM (Kd.R_elder' (ro_ HO_7.out) (Kd.R_base ho31) hb); replace BK137 := AM (blk_below (g := gb137) (o := .cells #[.slice A0_0 l0_0.length c0_0, .string a0_1, .int .i64 a0_2] 42 (0, 0)) (bk_ BK137.out) hb); replace BK152 := AM (blk_below (g := gb152) (o := .cells #[.slice (some ad156) t147.length co19, .string t150, .int .i64 t151] 42 (0, 0)) (bk_ BK152.out) hb); replace HB := AM (below_step bel_ hb); clear hb ho31; obtain ⟨Ao33, co33, eo33⟩ := Kd.R_slice HO159.out; subst eo33) | ((with_reducible refine gate_builtin (b := .append) (xs := #[.tmp 51, .tmp 63]) rfl ?_); at_builtin; refine Kd.R_append_rows (Kd.int .u8) (w0 := w) w.heap.size rfl (.tmp 51) (.tmp 63) 38 5 (.int .u8 0) 1 rfl Tryd.underlying38 info5 rfl (by decide) (by omega) u7 x7_3 y157 _ _ _ (fun k_ => some k_ ≠ (.slice Ao33 y157.length co33 : Value).ownBlock) (fun _ => False) rfl rfl ?aO ?aR (fun _ _ h => h) (fun _ h => h.elim) ?aF ?aB ?aS ?aL ?_; (case aR => repeat (first | exact (Kd.R_reads' HO159.out).2.2 | (with_reducible refine Kd.C_alloc ?_ _) | (with_reducible refine Kd.C_drewN ?_ _) | (with_reducible refine Kd.C_drew ?_))); (case aB => exact bel_); (case aF => exact (fun k_ hk => Kd.fresh' (Kd.R_lt (ro_ HO159.out)) k_ hk)); (case aO => exact (by (with_reducible repeat (first | apply Kd.R_alloc | apply Kd.R_drewN | apply Kd.R_drew)); exact Kd.R_mono HO_7.out (fun _ hk => hk.2))); (case aS => exact (below_size bel_)); (case aL => have := LMc27.out; omega); intro v161 w32 ho hb hg hat; rw [← Ny160.out] at ho; have n0_ := AM (Kd.R_over' (ro_ HO_153000.out) (Kd.R_typed (ro_ HO_7.out)) (by decide) hg); have n1_ := AM (blk_grown (g := gb137) (o := .cells #[.slice A0_0 l0_0.length c0_0, .string a0_1, .int .i64 a0_2] 42 (0, 0)) (bk_ BK137.out) hg (Kd.R_ne HO_7.out BK137.out (by decide))); have n2_ := AM (blk_grown (g := gb152) (o := .cells #[.slice (some ad156) t147.length co19, .string t150, .int .i64 t151] 42 (0, 0)) (bk_ BK152.out) hg (Kd.R_ne HO_7.out BK152.out (by decide))); have n3_ := AM (Kd.R_after (ok := (fun _ => True)) (ro_ HO159.out) hg hat); have n4_ := AM hb; have n5_ := AM ho; clear HO_153000; clear BK137; clear BK152; clear HO159; clear HB; clear HO_7; have HO_153000 := n0_; have BK137 := n1_; have BK152 := n2_; have HO159 := n3_; have HB := n4_; have HO162 := n5_; clear n0_ n1_ n2_ n3_ n4_ n5_; clear ho hb hg hat))
                          go_roundg k3
                          case measure => have := HK1.out; have := HK2.out; have := HK3.out; omega
                          case rel => exact ⟨(y160), (wrap64 (x8_3 + 1)), (by first | rfl | (simp; done) | (simp [*]; done)), H', ⟨by have := HK1.out; have := HK2.out; have := HK3.out; omega⟩, ⟨by (with_reducible repeat (first | apply Kd.R_alloc | apply Kd.R_drewN | apply Kd.R_drew)); exact Kd.R_mono HO162.out (fun _ hk => trivial)⟩, ⟨ro_ HO_153000.out⟩, ⟨bk_ BK137.out⟩, ⟨bk_ BK152.out⟩, ⟨bel_⟩⟩
                        · rw [if_neg c27] at H
                          exact absurd H (by simp)
                      · rw [if_neg c26] at H
                        exact absurd H (by simp)
                    · rw [if_neg c25] at H
                      exact absurd H (by simp)
                  · rw [if_neg c24] at H
                    have c24b0 : decide (x8_3 < 8) = false := decide_eq_false c24
                    clear c24
                    obtain rfl := Option.some.inj H
                    have hcv34 := own_string (P := Tryd.prog) Tryd.underlying38 Tryd.underlying5 Tryd.underlying9 (Kd.own_of_R HO_7.out)
                    go_wp2
                    go_ret
                    exact ⟨ri_, bel_⟩
      · rw [if_neg c5] at H
        have c5b0 : ((Int.tmod (wrap64 (a0_2 + (x3_1.length : Int))) 64) == 56) = false := beq_eq_false_iff_ne.mpr c5
        try have c5b9 : (((Int.tmod ((a0_2 + (x3_1.length : Int))) 64) == 56)) = false := (by have hw0 : wrap64 (a0_2 + (x3_1.length : Int)) = a0_2 + (x3_1.length : Int) := (by unfold wrap64; omega); have z_ := c5b0; simp only [hw0] at z_; exact z_)
        have c5b1 : ((Int.tmod (wrap64 (a0_2 + (x3_1.length : Int))) 64) != 56) = true := bne_iff_ne.mpr c5
        by_cases c35 : x3_1.length < 140737488355328
        · rw [if_pos c35] at H
          have LMc35 := AM c35
          clear c35
          obtain ⟨y141, hy141⟩ : ∃ y_ : List Int, y_ = (x3_1 ++ [0]) := ⟨_, rfl⟩
          replace H : (spec_l05End.l0 k1 y141 l0_0 a0_1 a0_2) = some r := by first | (rw [hy141]; with_reducible exact H) | (have H2_ := (Option.bind_some _ _).symm.trans H; rw [hy141]; with_reducible exact H2_) | (have H2_ := (Option.bind_some _ _).symm.trans H; with_reducible exact H2_) | with_reducible exact H | (rw [hy141]; exact H) | exact H
          have Ny141 := AM hy141
          clear hy141
          have H' := AM H
          clear H
          have hcz36_0 : wr.cell? ⟨gb137, 0, none⟩ = some (.slice A0_0 l0_0.length c0_0) := (blk_cell BK137.out 0).trans rfl
          have hcz36_1 : wr.cell? ⟨gb137, 1, none⟩ = some (.string a0_1) := (blk_cell BK137.out 1).trans rfl
          have hcz36_2 : wr.cell? ⟨gb137, 2, none⟩ = some (.int .i64 a0_2) := (blk_cell BK137.out 2).trans rfl
          have hfz36_0 := blk_frozen BK137.out 0
          have hfz36_1 := blk_frozen BK137.out 1
          have hfz36_2 := blk_frozen BK137.out 2
          obtain ⟨Ao37, co37, eo37⟩ := Kd.R_slice HO_3.out
          subst eo37
          go_wp2_with (first | ((with_reducible refine gate_builtin (b := .append) (xs := #[.tmp 18, .tmp 19]) rfl ?_); at_builtin; refine Kd.R_append (Kd.int .u8) (w0 := w) w.heap.size rfl (.tmp 18) (.tmp 19) 38 5 (.int .u8 0) 1 rfl Tryd.underlying38 info5 rfl (by decide) (by omega) (.slice Ao37 x3_1.length co37) x3_1 0 [.int .u8 0] (fun _ => True) (fun _ => False) rfl rfl ?aP (fun _ hk => hk.elim) ?aF ?aO ?aB ?aS ?aL ?_; (case aP => exact rfl); (case aB => exact bel_); (case aF => exact (fun _ _ => trivial)); (case aO => exact (ro_ HO_3.out)); (case aS => exact (below_size bel_)); (case aL => have := LMc35.out; omega); intro v142 w38 ho hb hg hat; rw [← Ny141.out] at ho; have n0_ := AM (blk_grown (g := gb137) (o := .cells #[.slice A0_0 l0_0.length c0_0, .string a0_1, .int .i64 a0_2] 42 (0, 0)) (bk_ BK137.out) hg (Kd.R_ne HO_3.out BK137.out (by decide))); have n1_ := AM hb; have n2_ := AM ho; clear BK137; clear HB; clear HO_3; have BK137 := n0_; have HB := n1_; have HO143 := n2_; clear n0_ n1_ n2_; clear ho hb hg hat))
          go_roundg k1
          case measure => have := HK1.out; omega
          case rel => exact ⟨(y141), H', ⟨by have := HK1.out; omega⟩, ⟨ro_ HO143.out⟩, ⟨bk_ BK137.out⟩, ⟨bel_⟩⟩
        · rw [if_neg c35] at H
          exact absurd H (by simp)

/-! ### spec_l05Start: function 109 -/
def spec_l05Start.f  : Option (List Int) := some (([1779033703, 3144134277, 1013904242, 2773480762, 1359893119, 2600822924, 528734635, 1541459225] : List Int))
set_option maxHeartbeats 8000000 in
set_option maxRecDepth 100000 in
theorem spec_l05Start.calls  (r : List Int) (w : World) (h : spec_l05Start.f  = some r) :
    Calls Tryd.prog 109 #[] w fun e w' => ∃ v0_ : Value, e = .returned (v0_) ∧ Kd.R (Kd.int .i64) 2 w' w.heap.size (fun _ => True) v0_ r ∧ Below w.heap.size w w' := by
  have HB := AM (Below.refl w.heap.size w)
  have H : (some (([1779033703, 3144134277, 1013904242, 2773480762, 1359893119, 2600822924, 528734635, 1541459225] : List Int))) = some r := h
  clear h
  obtain ⟨y163, hy163⟩ : ∃ y_ : List Int, y_ = (([1779033703, 3144134277, 1013904242, 2773480762, 1359893119, 2600822924, 528734635, 1541459225] : List Int)) := ⟨_, rfl⟩
  replace H : (some y163) = some r := by first | (rw [hy163]; with_reducible exact H) | (have H2_ := (Option.bind_some _ _).symm.trans H; rw [hy163]; with_reducible exact H2_) | (have H2_ := (Option.bind_some _ _).symm.trans H; with_reducible exact H2_) | with_reducible exact H | (rw [hy163]; exact H) | exact H
  have Ny163 := AM hy163
  clear hy163
  obtain rfl := Option.some.inj H
  go_enter Tryd.func109, Tryd.ntmps109
  go_wp2_with (first | ((with_reducible refine gate_dst (N := 1) rfl ?_); refine Kd.R_lit (Kd.int .i64) _ 2 ?hg (N := 1) ?hd (xs := ([1779033703, 3144134277, 1013904242, 2773480762, 1359893119, 2600822924, 528734635, 1541459225] : List Int)) (inner := [.int .i64 1779033703, .int .i64 3144134277, .int .i64 1013904242, .int .i64 2773480762, .int .i64 1359893119, .int .i64 2600822924, .int .i64 528734635, .int .i64 1541459225]) (ok := fun _ => True) (okp := fun _ => True) ?hr ?hp (fun _ hk => hk) trivial (Below.refl _ _) (Nat.le_refl _) (by simp) ?_; (case hd => rfl); (case hg => rfl); (case hr => first | (go_simp; done) | (go_simp; rfl)); (case hp => exact (Reps.one (show Kd.M (Kd.int .i64) _ _ _ 1779033703 [.int .i64 1779033703] from rfl) (Reps.one (show Kd.M (Kd.int .i64) _ _ _ 3144134277 [.int .i64 3144134277] from rfl) (Reps.one (show Kd.M (Kd.int .i64) _ _ _ 1013904242 [.int .i64 1013904242] from rfl) (Reps.one (show Kd.M (Kd.int .i64) _ _ _ 2773480762 [.int .i64 2773480762] from rfl) (Reps.one (show Kd.M (Kd.int .i64) _ _ _ 1359893119 [.int .i64 1359893119] from rfl) (Reps.one (show Kd.M (Kd.int .i64) _ _ _ 2600822924 [.int .i64 2600822924] from rfl) (Reps.one (show Kd.M (Kd.int .i64) _ _ _ 528734635 [.int .i64 528734635] from rfl) (Reps.one (show Kd.M (Kd.int .i64) _ _ _ 1541459225 [.int .i64 1541459225] from rfl) (Reps.none _ _)))))))))); intro v164 w1 ho2 hb hg_ hnew_; clear hg_ hnew_; (first | rw [← Ny163.out] at ho2 | (simp only [Int.reduceToNat] at ho2; rw [← Ny163.out] at ho2)); have HO165 := AM (Kd.R_lower ho2 (below_size bel_)); replace HB := AM (below_step bel_ hb); clear hb ho2))
  go_ret
  exact ⟨_, ri_, ro_ HO165.out, bel_⟩

/-! ### spec_HashBegin: function 68 -/
def spec_HashBegin.f  : Option (List Int × ByteArray × Int) := (spec_l05Start.f).bind fun t167 => (some (t167, (⟨#[]⟩ : ByteArray), 0))
set_option maxHeartbeats 8000000 in
set_option maxRecDepth 100000 in
theorem spec_HashBegin.calls  (r1 : List Int) (r2 : ByteArray) (r3 : Int) (w : World) (h : spec_HashBegin.f  = some (r1, r2, r3)) :
    Calls Tryd.prog 68 #[] w fun e w' => ∃ v0_ : Value, e = .returned (.agg #[v0_, .string r2, .int .i64 r3]) ∧ Kd.R (Kd.int .i64) 2 w' w.heap.size (fun _ => True) v0_ r1 ∧ Below w.heap.size w w' := by
  have hu42 := Tryd.underlying42
  have HB := AM (Below.refl w.heap.size w)
  have H : ((spec_l05Start.f).bind fun t167 => (some (t167, (⟨#[]⟩ : ByteArray), 0))) = some (r1, r2, r3) := h
  clear h
  obtain ⟨t167, A1, H⟩ := OB H
  try dsimp only at H
  replace A1 := AM A1
  simp only [Option.some.injEq, Prod.mk.injEq] at H
  obtain ⟨rfl, rfl, rfl⟩ := H
  go_enter Tryd.func68, Tryd.ntmps68
  go_wp2_with (first | ((with_reducible refine gate_dst (N := 0) rfl ?_); refine be_ 0 #[.slice none 0 0, .string (⟨#[]⟩ : ByteArray), .int .i64 0] 42 ?_; intro gb166 hg w2 hbox hb; have BK166 := AM hbox; have GW166 := AM ((by rw [hg]; exact (below_size bel_) : w.heap.size ≤ gb166)); have GE166 := AM ((by rw [hg]; exact (below_size bel_) : w.heap.size ≤ gb166)); replace HB := AM (below_step bel_ hb); clear hb hbox hg) | ((with_reducible refine gate_callee (f := 109) rfl ?_); refine gl_ (some 1) Tryd.func109 #[] ?_; (with_reducible refine (spec_l05Start.calls  t167 _ A1.out).mono ?_); rintro e w3 ⟨v168, rfl, ho0, hb⟩; refine ⟨_, rfl, ?_⟩; have HO169 := AM (Kd.R_lower ho0 (below_size bel_)); replace BK166 := AM (blk_below (g := gb166) (o := .cells #[.slice none 0 0, .string (⟨#[]⟩ : ByteArray), .int .i64 0] 42 (0, 0)) (bk_ BK166.out) hb); replace HB := AM (below_step bel_ hb); (try clear hb); (try clear hb2); (try clear hk); (try clear hi); (try clear ho0); obtain ⟨Ao4, co4, eo4⟩ := Kd.R_slice HO169.out; subst eo4; have hcz5_0 : w3.cell? ⟨gb166, 0, none⟩ = some (.slice none 0 0) := (blk_cell BK166.out 0).trans rfl; have hcz5_1 : w3.cell? ⟨gb166, 1, none⟩ = some (.string (⟨#[]⟩ : ByteArray)) := (blk_cell BK166.out 1).trans rfl; have hcz5_2 : w3.cell? ⟨gb166, 2, none⟩ = some (.int .i64 0) := (blk_cell BK166.out 2).trans rfl; have hfz5_0 := blk_frozen BK166.out 0; have hfz5_1 := blk_frozen BK166.out 1; have hfz5_2 := blk_frozen BK166.out 2))
  refine bodyPost_ret (results_cell_row rfl _ _ gb166 42 #[.slice Ao4 t167.length co4, .string (⟨#[]⟩ : ByteArray), .int .i64 0] (0, 0) _ rfl bka_ Tryd.underlying42 rfl (by kernel_rfl)) rfl ?_
  exact ⟨_, ri_, by (with_reducible repeat (first | apply Kd.R_alloc | apply Kd.R_drewN | apply Kd.R_drew)); exact Kd.R_mono (Kd.R_far (p := ⟨gb166, 2, none⟩) (Kd.R_far (p := ⟨gb166, 1, none⟩) (Kd.R_far (p := ⟨gb166, 0, none⟩) (Kd.R_types HO169.out BK166.out (by decide)) (fun _ hk => hk.2) (.slice Ao4 t167.length co4)) (fun _ hk => hk.2) (.string (⟨#[]⟩ : ByteArray))) (fun _ hk => hk.2) (.int .i64 0)) (fun _ hk => trivial), bel_⟩

/-! ### spec_l09Digest: function 52 -/
def spec_l09Digest.f (k : Nat) (a0 : ByteArray) (a1 : ByteArray) : Option (ByteArray) := (spec_HashBegin.f).bind fun bt170 => ((spec_l05More.f k bt170.1 bt170.2.1 bt170.2.2 a0).bind fun bt175 => ((spec_l05More.f k bt175.1 bt175.2.1 bt175.2.2 a1).bind fun bt180 => ((spec_l05End.f k bt180.1 bt180.2.1 bt180.2.2).bind fun t185 => (some t185))))
theorem spec_l09Digest.mono : ∀ a0 a1 k, LeO (spec_l09Digest.f k a0 a1) (spec_l09Digest.f (k + 1) a0 a1) := by
  intro a0 a1 k
  unfold spec_l09Digest.f
  repeat' first
      | (with_reducible exact spec_l05End.mono _ _ _ _)
      | (with_reducible exact spec_l05More.mono _ _ _ _ _)
      | (with_reducible exact LeO.refl _)
      | (with_reducible exact LeO.none _)
      | (with_reducible refine LeO.ite ?_ ?_)
      | (with_reducible refine LeO.bind ?_ (fun _ => ?_))
      | exact spec_l05End.mono _ _ _ _
      | exact spec_l05More.mono _ _ _ _ _
      | exact LeO.none _
      | refine LeO.ite ?_ ?_
      | refine LeO.bind ?_ (fun _ => ?_)
set_option maxHeartbeats 8000000 in
set_option maxRecDepth 100000 in
theorem spec_l09Digest.calls (k : Nat) (a0 : ByteArray) (a1 : ByteArray) (r : ByteArray) (w : World) (h : spec_l09Digest.f k a0 a1 = some r) :
    Calls Tryd.prog 52 #[.string a0, .string a1] w fun e w' => e = .returned (.string r) ∧ Below w.heap.size w w' := by
  have HB := AM (Below.refl w.heap.size w)
  have H : ((spec_HashBegin.f).bind fun bt170 => ((spec_l05More.f k bt170.1 bt170.2.1 bt170.2.2 a0).bind fun bt175 => ((spec_l05More.f k bt175.1 bt175.2.1 bt175.2.2 a1).bind fun bt180 => ((spec_l05End.f k bt180.1 bt180.2.1 bt180.2.2).bind fun t185 => (some t185))))) = some r := h
  clear h
  obtain ⟨⟨t170, t173, t174⟩, A3, H⟩ := OB H
  try dsimp only at H
  replace A3 := AM A3
  obtain ⟨⟨t175, t178, t179⟩, A4, H⟩ := OB H
  try dsimp only at H
  replace A4 := AM A4
  obtain ⟨⟨t180, t183, t184⟩, A5, H⟩ := OB H
  try dsimp only at H
  replace A5 := AM A5
  obtain ⟨t185, A6, H⟩ := OB H
  try dsimp only at H
  replace A6 := AM A6
  obtain rfl := Option.some.inj H
  go_enter Tryd.func52, Tryd.ntmps52
  go_wp2_with (first | ((with_reducible refine gate_callee (f := 68) rfl ?_); refine gl_ (some 5) Tryd.func68 #[] ?_; (with_reducible refine (spec_HashBegin.calls  t170 t173 t174 _ A3.out).mono ?_); rintro e w7 ⟨v171, rfl, ho0, hb⟩; refine ⟨_, rfl, ?_⟩; have HO172 := AM (Kd.R_lower ho0 (below_size bel_)); replace HB := AM (below_step bel_ hb); (try clear hb); (try clear hb2); (try clear hk); (try clear hi); (try clear ho0); obtain ⟨Ao8, co8, eo8⟩ := Kd.R_slice HO172.out; subst eo8) | ((with_reducible refine gate_callee (f := 67) rfl ?_); refine gl_ (some 7) Tryd.func67 #[.agg #[.slice Ao8 t170.length co8, .string t173, .int .i64 t174], .string a0] ?_; (with_reducible refine (spec_l05More.calls k _ _ t170 t173 t174 a0 t175 t178 t179 _ ?side1 ?side2 A4.out).mono ?_); (case side1 => repeat (first | exact (Kd.R_reads' HO172.out).2.2 | (with_reducible refine Kd.C_alloc ?_ _) | (with_reducible refine Kd.C_drewN ?_ _) | (with_reducible refine Kd.C_drew ?_))); (case side2 => exact (Kd.R_reads' HO172.out).2.1); rintro e w9 ⟨v176, rfl, ho0, hb⟩; refine ⟨_, rfl, ?_⟩; have HO177 := AM (Kd.R_lower (Kd.R_new' ho0 (Kd.R_lt (ro_ HO172.out))) (below_size bel_)); replace HO172 := AM (Kd.R_elder' (ro_ HO172.out) (Kd.R_base ho0) hb); replace HB := AM (below_step bel_ hb); (try clear hb); (try clear hb2); (try clear hk); (try clear hi); (try clear ho0); obtain ⟨Ao10, co10, eo10⟩ := Kd.R_slice HO177.out; subst eo10) | ((with_reducible refine gate_callee (f := 67) rfl ?_); refine gl_ (some 9) Tryd.func67 #[.agg #[.slice Ao10 t175.length co10, .string t178, .int .i64 t179], .string a1] ?_; (with_reducible refine (spec_l05More.calls k _ _ t175 t178 t179 a1 t180 t183 t184 _ ?side1 ?side2 A5.out).mono ?_); (case side1 => repeat (first | exact (Kd.R_reads' HO177.out).2.2 | (with_reducible refine Kd.C_alloc ?_ _) | (with_reducible refine Kd.C_drewN ?_ _) | (with_reducible refine Kd.C_drew ?_))); (case side2 => exact (Kd.R_reads' HO177.out).2.1); rintro e w11 ⟨v181, rfl, ho0, hb⟩; refine ⟨_, rfl, ?_⟩; have HO182 := AM (Kd.R_lower (Kd.R_new' (Kd.R_new' ho0 (Kd.R_lt (ro_ HO172.out))) (Kd.R_lt (ro_ HO177.out))) (below_size bel_)); replace HO172 := AM (Kd.R_elder' (ro_ HO172.out) (Kd.R_base ho0) hb); replace HO177 := AM (Kd.R_elder' (ro_ HO177.out) (Kd.R_base ho0) hb); replace HB := AM (below_step bel_ hb); (try clear hb); (try clear hb2); (try clear hk); (try clear hi); (try clear ho0); obtain ⟨Ao12, co12, eo12⟩ := Kd.R_slice HO182.out; subst eo12) | ((with_reducible refine gate_callee (f := 66) rfl ?_); refine gl_ (some 10) Tryd.func66 #[.agg #[.slice Ao12 t180.length co12, .string t183, .int .i64 t184]] ?_; (with_reducible refine (spec_l05End.calls k _ _ t180 t183 t184 t185 _ ?side1 ?side2 A6.out).mono ?_); (case side1 => repeat (first | exact (Kd.R_reads' HO182.out).2.2 | (with_reducible refine Kd.C_alloc ?_ _) | (with_reducible refine Kd.C_drewN ?_ _) | (with_reducible refine Kd.C_drew ?_))); (case side2 => exact (Kd.R_reads' HO182.out).2.1); rintro e w13 ⟨rfl, hb⟩; refine ⟨_, rfl, ?_⟩; replace HO172 := AM (Kd.R_below (ro_ HO172.out) hb); replace HO177 := AM (Kd.R_below (ro_ HO177.out) hb); replace HO182 := AM (Kd.R_below (ro_ HO182.out) hb); replace HB := AM (below_step bel_ hb); (try clear hb); (try clear hb2); (try clear hk); (try clear hi)))
  go_ret
  exact ⟨ri_, bel_⟩

/-! ### spec_FrameBytes: function 14 -/
def spec_FrameBytes.f (k : Nat) (a0_0 : Int) (a0_1 : Int) (a0_2 : Int) (a0_3 : Int) (a0_4 : ByteArray) (a0_5 : ByteArray) : Option (ByteArray) := (spec_FrameRight.f a0_0 a0_1 a0_2 a0_3 a0_4 a0_5).bind fun t187 => (if t187 = true then ((spec_l09Head.f k a0_0 a0_1 a0_2 a0_3 a0_4 a0_5).bind fun t188 => ((spec_l09Digest.f k t188 a0_5).bind fun t189 => (if t188.size + t189.size ≤ 9223372036854775807 then (if (t188 ++ t189).size + a0_5.size ≤ 9223372036854775807 then (some ((t188 ++ t189) ++ a0_5)) else (none)) else (none)))) else (some (⟨#[]⟩ : ByteArray)))
theorem spec_FrameBytes.mono : ∀ a0 a1 a2 a3 a4 a5 k, LeO (spec_FrameBytes.f k a0 a1 a2 a3 a4 a5) (spec_FrameBytes.f (k + 1) a0 a1 a2 a3 a4 a5) := by
  intro a0 a1 a2 a3 a4 a5 k
  unfold spec_FrameBytes.f
  repeat' first
      | (with_reducible exact spec_l09Digest.mono _ _ _)
      | (with_reducible exact spec_l09Head.mono _ _ _ _ _ _ _)
      | (with_reducible exact LeO.refl _)
      | (with_reducible exact LeO.none _)
      | (with_reducible refine LeO.ite ?_ ?_)
      | (with_reducible refine LeO.bind ?_ (fun _ => ?_))
      | exact spec_l09Digest.mono _ _ _
      | exact spec_l09Head.mono _ _ _ _ _ _ _
      | exact LeO.none _
      | refine LeO.ite ?_ ?_
      | refine LeO.bind ?_ (fun _ => ?_)
def spec_FrameBytes.T4 : Bool × List (List Nat × List Nat) := (true, [([], []), ([], []), ([], []), ([2], [2]), ([1, 3], [1, 3]), ([0, 4], [0, 4]), ([], []), ([6], [6]), ([5, 7], [5, 7]), ([8, 4, 0, 1, 2, 3, 4, 5, 6, 7, 8], [8])])
def spec_FrameBytes.B4 : List Nat := [0, 0, 0, 4, 14, 31, 0, 64, 255, 511]
theorem spec_FrameBytes.tab4 : rtab .any (opsOf Tryd.f14 4) = spec_FrameBytes.T4 := by kernel_rfl
theorem spec_FrameBytes.bits4 : waitsOk spec_FrameBytes.T4.2 spec_FrameBytes.B4 = true := by kernel_rfl
set_option maxHeartbeats 8000000 in
set_option maxRecDepth 100000 in
theorem spec_FrameBytes.calls (k : Nat) (a0_0 : Int) (a0_1 : Int) (a0_2 : Int) (a0_3 : Int) (a0_4 : ByteArray) (a0_5 : ByteArray) (r : ByteArray) (w : World) (h : spec_FrameBytes.f k a0_0 a0_1 a0_2 a0_3 a0_4 a0_5 = some r) :
    Calls Tryd.prog 14 #[.agg #[.int .i64 a0_0, .int .i64 a0_1, .int .i64 a0_2, .int .i64 a0_3, .string a0_4, .string a0_5]] w fun e w' => e = .returned (.string r) ∧ Below w.heap.size w w' := by
  have hu28 := Tryd.underlying28
  have HB := AM (Below.refl w.heap.size w)
  have H : ((spec_FrameRight.f a0_0 a0_1 a0_2 a0_3 a0_4 a0_5).bind fun t187 => (if t187 = true then ((spec_l09Head.f k a0_0 a0_1 a0_2 a0_3 a0_4 a0_5).bind fun t188 => ((spec_l09Digest.f k t188 a0_5).bind fun t189 => (if t188.size + t189.size ≤ 9223372036854775807 then (if (t188 ++ t189).size + a0_5.size ≤ 9223372036854775807 then (some ((t188 ++ t189) ++ a0_5)) else (none)) else (none)))) else (some (⟨#[]⟩ : ByteArray)))) = some r := h
  clear h
  obtain ⟨t187, A2, H⟩ := OB H
  try dsimp only at H
  replace A2 := AM A2
  by_cases c3 : t187 = true
  · subst c3
    rw [if_pos rfl] at H
    obtain ⟨t188, A4, H⟩ := OB H
    try dsimp only at H
    replace A4 := AM A4
    obtain ⟨t189, A5, H⟩ := OB H
    try dsimp only at H
    replace A5 := AM A5
    by_cases c6 : t188.size + t189.size ≤ 9223372036854775807
    · rw [if_pos c6] at H
      have c6b0 := eq_true c6
      have c6b1 : decide (t188.size + t189.size ≤ 9223372036854775807) = true := decide_eq_true c6
      try have c6b2 : (9223372036854775807 < t188.size + t189.size) = False := eq_false (Nat.not_lt.2 c6)
      by_cases c7 : (t188 ++ t189).size + a0_5.size ≤ 9223372036854775807
      · rw [if_pos c7] at H
        have c7b0 := eq_true c7
        have c7b1 : decide ((t188 ++ t189).size + a0_5.size ≤ 9223372036854775807) = true := decide_eq_true c7
        try have c7b2 : (9223372036854775807 < (t188 ++ t189).size + a0_5.size) = False := eq_false (Nat.not_lt.2 c7)
        try have c7b3 : (9223372036854775807 < t188.size + t189.size + a0_5.size) = False := eq_false (Nat.not_lt.2 (by have z := c7; simp only [ByteArray.size_append] at z; exact z))
        obtain rfl := Option.some.inj H
        go_enter Tryd.func14, Tryd.ntmps14
        try go_wp2_with (first | ((with_reducible refine gate_dst (N := 1) rfl ?_); refine be_ 1 #[.int .i64 a0_0, .int .i64 a0_1, .int .i64 a0_2, .int .i64 a0_3, .string a0_4, .string a0_5] 28 ?_; intro gb186 hg w8 hbox hb; have BK186 := AM hbox; have GW186 := AM ((by rw [hg]; exact (below_size bel_) : w.heap.size ≤ gb186)); have GE186 := AM ((by rw [hg]; exact (below_size bel_) : w.heap.size ≤ gb186)); replace HB := AM (below_step bel_ hb); clear hb hbox hg; have hcz9_0 : w8.cell? ⟨gb186, 0, none⟩ = some (.int .i64 a0_0) := (blk_cell BK186.out 0).trans rfl; have hcz9_1 : w8.cell? ⟨gb186, 1, none⟩ = some (.int .i64 a0_1) := (blk_cell BK186.out 1).trans rfl; have hcz9_2 : w8.cell? ⟨gb186, 2, none⟩ = some (.int .i64 a0_2) := (blk_cell BK186.out 2).trans rfl; have hcz9_3 : w8.cell? ⟨gb186, 3, none⟩ = some (.int .i64 a0_3) := (blk_cell BK186.out 3).trans rfl; have hcz9_4 : w8.cell? ⟨gb186, 4, none⟩ = some (.string a0_4) := (blk_cell BK186.out 4).trans rfl; have hcz9_5 : w8.cell? ⟨gb186, 5, none⟩ = some (.string a0_5) := (blk_cell BK186.out 5).trans rfl; have hfz9_0 := blk_frozen BK186.out 0; have hfz9_1 := blk_frozen BK186.out 1; have hfz9_2 := blk_frozen BK186.out 2; have hfz9_3 := blk_frozen BK186.out 3; have hfz9_4 := blk_frozen BK186.out 4; have hfz9_5 := blk_frozen BK186.out 5) | ((with_reducible refine gate_callee (f := 50) rfl ?_); refine gl_ (some 5) Tryd.func50 #[.agg #[.int .i64 a0_0, .int .i64 a0_1, .int .i64 a0_2, .int .i64 a0_3, .string a0_4, .string a0_5]] ?_; (with_reducible refine (spec_FrameRight.calls a0_0 a0_1 a0_2 a0_3 a0_4 a0_5 true _ A2.out).mono ?_); rintro e w10 ⟨rfl, hb⟩; refine ⟨_, rfl, ?_⟩; replace BK186 := AM (blk_below (g := gb186) (o := .cells #[.int .i64 a0_0, .int .i64 a0_1, .int .i64 a0_2, .int .i64 a0_3, .string a0_4, .string a0_5] 28 (0, 0)) (bk_ BK186.out) hb); replace HB := AM (below_step bel_ hb); (try clear hb); (try clear hb2); (try clear hk); (try clear hi); have hcz11_0 : w10.cell? ⟨gb186, 0, none⟩ = some (.int .i64 a0_0) := (blk_cell BK186.out 0).trans rfl; have hcz11_1 : w10.cell? ⟨gb186, 1, none⟩ = some (.int .i64 a0_1) := (blk_cell BK186.out 1).trans rfl; have hcz11_2 : w10.cell? ⟨gb186, 2, none⟩ = some (.int .i64 a0_2) := (blk_cell BK186.out 2).trans rfl; have hcz11_3 : w10.cell? ⟨gb186, 3, none⟩ = some (.int .i64 a0_3) := (blk_cell BK186.out 3).trans rfl; have hcz11_4 : w10.cell? ⟨gb186, 4, none⟩ = some (.string a0_4) := (blk_cell BK186.out 4).trans rfl; have hcz11_5 : w10.cell? ⟨gb186, 5, none⟩ = some (.string a0_5) := (blk_cell BK186.out 5).trans rfl; have hfz11_0 := blk_frozen BK186.out 0; have hfz11_1 := blk_frozen BK186.out 1; have hfz11_2 := blk_frozen BK186.out 2; have hfz11_3 := blk_frozen BK186.out 3; have hfz11_4 := blk_frozen BK186.out 4; have hfz11_5 := blk_frozen BK186.out 5) | ((with_reducible refine gate_callee (f := 51) rfl ?_); refine gl_ (some 8) Tryd.func51 #[.agg #[.int .i64 a0_0, .int .i64 a0_1, .int .i64 a0_2, .int .i64 a0_3, .string a0_4, .string a0_5]] ?_; (with_reducible refine (spec_l09Head.calls k a0_0 a0_1 a0_2 a0_3 a0_4 a0_5 t188 _ A4.out).mono ?_); rintro e w12 ⟨rfl, hb⟩; refine ⟨_, rfl, ?_⟩; replace BK186 := AM (blk_below (g := gb186) (o := .cells #[.int .i64 a0_0, .int .i64 a0_1, .int .i64 a0_2, .int .i64 a0_3, .string a0_4, .string a0_5] 28 (0, 0)) (bk_ BK186.out) hb); replace HB := AM (below_step bel_ hb); (try clear hb); (try clear hb2); (try clear hk); (try clear hi)))
        replace BK186 := AM (blk_drew BK186.out)
        replace HB := AM (below_drew1 HB.out)
        refine start_ (n := 10) (S := fun w' => w'.cell? ⟨gb186, 0, none⟩ = some (.int .i64 a0_0) ∧ w'.cell? ⟨gb186, 1, none⟩ = some (.int .i64 a0_1) ∧ w'.cell? ⟨gb186, 2, none⟩ = some (.int .i64 a0_2) ∧ w'.cell? ⟨gb186, 3, none⟩ = some (.int .i64 a0_3) ∧ w'.cell? ⟨gb186, 4, none⟩ = some (.string a0_4) ∧ w'.cell? ⟨gb186, 5, none⟩ = some (.string a0_5)) (ds := []) #[false, false, false, false, false, false, false, false, false, false] (by kernel_rfl) rfl rfl ⟨(blk_cell BK186.out 0).trans rfl, (blk_cell BK186.out 1).trans rfl, (blk_cell BK186.out 2).trans rfl, (blk_cell BK186.out 3).trans rfl, (blk_cell BK186.out 4).trans rfl, (blk_cell BK186.out 5).trans rfl⟩ (fun hHeld => ?_); refine with_tabW spec_FrameBytes.tab4 spec_FrameBytes.bits4 (fun HT_ HW_ => ?_)
        generalize w12.drew = w13 at BK186 HB hHeld ⊢
        refine pu_ HT_ 0 (some 9) #[true, false, false, false, false, false, false, false, false, false] ?_
        refine pu_ HT_ 1 (some 10) #[true, true, false, false, false, false, false, false, false, false] ?_
        refine pu_ HT_ 2 (some 11) #[true, true, true, false, false, false, false, false, false, false] ?_
        refine pu_ HT_ 6 (some 15) #[true, true, true, false, false, false, true, false, false, false] ?_
        refine ta_ HT_ HW_ 3 (some 12) #[true, true, true, true, false, false, true, false, false, false] hHeld ?_
        refine ta_ HT_ HW_ 7 (some 16) #[true, true, true, true, false, false, true, true, false, false] hHeld ?_
        refine on_ HT_ 4 (some 13) #[true, true, true, true, true, false, true, true, false, false] (fun K hK => ?_)
        refine go1_ Tryd.func52 #[.string t188, .string a0_5] ?_
        with_reducible refine (spec_l09Digest.calls k t188 a0_5 t189 _ A5.out).mono ?_
        rintro e w14 ⟨rfl, hb⟩
        refine ⟨_, rfl, ?_⟩
        replace BK186 := AM (blk_below (g := gb186) (o := .cells #[.int .i64 a0_0, .int .i64 a0_1, .int .i64 a0_2, .int .i64 a0_3, .string a0_4, .string a0_5] 28 (0, 0)) (bk_ BK186.out) hb)
        replace HB := AM (below_step bel_ hb)
        (try clear hb)
        (try clear hb2)
        (try clear hk)
        (try clear hi)
        refine hK.out _ _ ⟨(blk_cell BK186.out 0).trans rfl, (blk_cell BK186.out 1).trans rfl, (blk_cell BK186.out 2).trans rfl, (blk_cell BK186.out 3).trans rfl, (blk_cell BK186.out 4).trans rfl, (blk_cell BK186.out 5).trans rfl⟩ (fun hHeld => ?_)
        clear hK K
        refine nm_ ?_
        refine pu_ HT_ 5 (some 14) #[true, true, true, true, true, true, true, true, false, false] ?_
        refine pu_ HT_ 8 (some 17) #[true, true, true, true, true, true, true, true, true, false] ?_
        refine pu_ HT_ 9 (some 2) #[true, true, true, true, true, true, true, true, true, true] ?_
        refine dn_ HT_ ?_
        try go_wp2
        go_ret
        exact ⟨ri_, bel_⟩
      · rw [if_neg c7] at H
        exact absurd H (by simp)
    · rw [if_neg c6] at H
      exact absurd H (by simp)
  · replace c3 := Bool.eq_false_iff.mpr c3
    subst c3
    rw [if_neg (show ¬ (false = true) by decide)] at H
    obtain rfl := Option.some.inj H
    go_enter Tryd.func14, Tryd.ntmps14
    go_wp2_with (first | ((with_reducible refine gate_dst (N := 1) rfl ?_); refine be_ 1 #[.int .i64 a0_0, .int .i64 a0_1, .int .i64 a0_2, .int .i64 a0_3, .string a0_4, .string a0_5] 28 ?_; intro gb186 hg w15 hbox hb; have BK186 := AM hbox; have GW186 := AM ((by rw [hg]; exact (below_size bel_) : w.heap.size ≤ gb186)); have GE186 := AM ((by rw [hg]; exact (below_size bel_) : w.heap.size ≤ gb186)); replace HB := AM (below_step bel_ hb); clear hb hbox hg; have hcz16_0 : w15.cell? ⟨gb186, 0, none⟩ = some (.int .i64 a0_0) := (blk_cell BK186.out 0).trans rfl; have hcz16_1 : w15.cell? ⟨gb186, 1, none⟩ = some (.int .i64 a0_1) := (blk_cell BK186.out 1).trans rfl; have hcz16_2 : w15.cell? ⟨gb186, 2, none⟩ = some (.int .i64 a0_2) := (blk_cell BK186.out 2).trans rfl; have hcz16_3 : w15.cell? ⟨gb186, 3, none⟩ = some (.int .i64 a0_3) := (blk_cell BK186.out 3).trans rfl; have hcz16_4 : w15.cell? ⟨gb186, 4, none⟩ = some (.string a0_4) := (blk_cell BK186.out 4).trans rfl; have hcz16_5 : w15.cell? ⟨gb186, 5, none⟩ = some (.string a0_5) := (blk_cell BK186.out 5).trans rfl; have hfz16_0 := blk_frozen BK186.out 0; have hfz16_1 := blk_frozen BK186.out 1; have hfz16_2 := blk_frozen BK186.out 2; have hfz16_3 := blk_frozen BK186.out 3; have hfz16_4 := blk_frozen BK186.out 4; have hfz16_5 := blk_frozen BK186.out 5) | ((with_reducible refine gate_callee (f := 50) rfl ?_); refine gl_ (some 5) Tryd.func50 #[.agg #[.int .i64 a0_0, .int .i64 a0_1, .int .i64 a0_2, .int .i64 a0_3, .string a0_4, .string a0_5]] ?_; (with_reducible refine (spec_FrameRight.calls a0_0 a0_1 a0_2 a0_3 a0_4 a0_5 false _ A2.out).mono ?_); rintro e w17 ⟨rfl, hb⟩; refine ⟨_, rfl, ?_⟩; replace BK186 := AM (blk_below (g := gb186) (o := .cells #[.int .i64 a0_0, .int .i64 a0_1, .int .i64 a0_2, .int .i64 a0_3, .string a0_4, .string a0_5] 28 (0, 0)) (bk_ BK186.out) hb); replace HB := AM (below_step bel_ hb); (try clear hb); (try clear hb2); (try clear hk); (try clear hi)))
    go_ret
    exact ⟨ri_, bel_⟩

/-! ### laws_toFrame: function 15 -/
def laws_toFrame.f (a0_0 : Int) (a0_1 : Int) (a0_2 : Int) (a0_3 : Int) (a0_4 : ByteArray) (a0_5 : ByteArray) : Option (Int × Int × Int × Int × ByteArray × ByteArray) := some (a0_0, a0_1, a0_2, a0_3, a0_4, a0_5)
set_option maxHeartbeats 8000000 in
set_option maxRecDepth 100000 in
theorem laws_toFrame.calls (a0_0 : Int) (a0_1 : Int) (a0_2 : Int) (a0_3 : Int) (a0_4 : ByteArray) (a0_5 : ByteArray) (r1 : Int) (r2 : Int) (r3 : Int) (r4 : Int) (r5 : ByteArray) (r6 : ByteArray) (w : World) (h : laws_toFrame.f a0_0 a0_1 a0_2 a0_3 a0_4 a0_5 = some (r1, r2, r3, r4, r5, r6)) :
    Calls Tryd.prog 15 #[.agg #[.int .i64 a0_0, .int .i64 a0_1, .int .i64 a0_2, .int .i64 a0_3, .string a0_4, .string a0_5]] w fun e w' => e = .returned (.agg #[.int .i64 r1, .int .i64 r2, .int .i64 r3, .int .i64 r4, .string r5, .string r6]) ∧ Below w.heap.size w w' := by
  have hu25 := Tryd.underlying25
  have hu28 := Tryd.underlying28
  have HB := AM (Below.refl w.heap.size w)
  have H : (some (a0_0, a0_1, a0_2, a0_3, a0_4, a0_5)) = some (r1, r2, r3, r4, r5, r6) := h
  clear h
  simp only [Option.some.injEq, Prod.mk.injEq] at H
  obtain ⟨rfl, rfl, rfl, rfl, rfl, rfl⟩ := H
  go_enter Tryd.func15, Tryd.ntmps15
  go_wp2_with (first | ((with_reducible refine gate_dst (N := 1) rfl ?_); refine be_ 1 #[.int .i64 a0_0, .int .i64 a0_1, .int .i64 a0_2, .int .i64 a0_3, .string a0_4, .string a0_5] 25 ?_; intro gb190 hg w2 hbox hb; have BK190 := AM hbox; have GW190 := AM ((by rw [hg]; exact (below_size bel_) : w.heap.size ≤ gb190)); have GE190 := AM ((by rw [hg]; exact (below_size bel_) : w.heap.size ≤ gb190)); replace HB := AM (below_step bel_ hb); clear hb hbox hg) | ((with_reducible refine gate_dst (N := 2) rfl ?_); refine be_ 2 #[.int .i64 0, .int .i64 0, .int .i64 0, .int .i64 0, .string (⟨#[]⟩ : ByteArray), .string (⟨#[]⟩ : ByteArray)] 28 ?_; intro gb191 hg w3 hbox hb; have BK191 := AM hbox; have GW191 := AM ((by rw [hg]; exact (below_size bel_) : w.heap.size ≤ gb191)); have GE191 := AM ((by rw [hg]; exact (below_size bel_) : w.heap.size ≤ gb191)); replace HB := AM (below_step bel_ hb); have NB190_191 := AM ((by rw [hg]; exact Nat.ne_of_lt (blk_lt (g := gb190) (o := .cells #[.int .i64 a0_0, .int .i64 a0_1, .int .i64 a0_2, .int .i64 a0_3, .string a0_4, .string a0_5] 25 (0, 0)) (bk_ BK190.out)) : gb190 ≠ gb191)); have NB191_190 := AM ((by rw [hg]; exact Nat.ne_of_gt (blk_lt (g := gb190) (o := .cells #[.int .i64 a0_0, .int .i64 a0_1, .int .i64 a0_2, .int .i64 a0_3, .string a0_4, .string a0_5] 25 (0, 0)) (bk_ BK190.out)) : gb191 ≠ gb190)); replace BK190 := AM (blk_below (g := gb190) (o := .cells #[.int .i64 a0_0, .int .i64 a0_1, .int .i64 a0_2, .int .i64 a0_3, .string a0_4, .string a0_5] 25 (0, 0)) (bk_ BK190.out) hb); clear hb hbox hg) | ((with_reducible refine gate_dst (N := 3) rfl ?_); refine be_ 3 #[.int .i64 0, .int .i64 0, .int .i64 0, .int .i64 0, .string (⟨#[]⟩ : ByteArray), .string (⟨#[]⟩ : ByteArray)] 28 ?_; intro gb192 hg w4 hbox hb; have BK192 := AM hbox; have GW192 := AM ((by rw [hg]; exact (below_size bel_) : w.heap.size ≤ gb192)); have GE192 := AM ((by rw [hg]; exact (below_size bel_) : w.heap.size ≤ gb192)); replace HB := AM (below_step bel_ hb); have NB190_192 := AM ((by rw [hg]; exact Nat.ne_of_lt (blk_lt (g := gb190) (o := .cells #[.int .i64 a0_0, .int .i64 a0_1, .int .i64 a0_2, .int .i64 a0_3, .string a0_4, .string a0_5] 25 (0, 0)) (bk_ BK190.out)) : gb190 ≠ gb192)); have NB192_190 := AM ((by rw [hg]; exact Nat.ne_of_gt (blk_lt (g := gb190) (o := .cells #[.int .i64 a0_0, .int .i64 a0_1, .int .i64 a0_2, .int .i64 a0_3, .string a0_4, .string a0_5] 25 (0, 0)) (bk_ BK190.out)) : gb192 ≠ gb190)); replace BK190 := AM (blk_below (g := gb190) (o := .cells #[.int .i64 a0_0, .int .i64 a0_1, .int .i64 a0_2, .int .i64 a0_3, .string a0_4, .string a0_5] 25 (0, 0)) (bk_ BK190.out) hb); have NB191_192 := AM ((by rw [hg]; exact Nat.ne_of_lt (blk_lt (g := gb191) (o := .cells #[.int .i64 0, .int .i64 0, .int .i64 0, .int .i64 0, .string (⟨#[]⟩ : ByteArray), .string (⟨#[]⟩ : ByteArray)] 28 (0, 0)) (bk_ BK191.out)) : gb191 ≠ gb192)); have NB192_191 := AM ((by rw [hg]; exact Nat.ne_of_gt (blk_lt (g := gb191) (o := .cells #[.int .i64 0, .int .i64 0, .int .i64 0, .int .i64 0, .string (⟨#[]⟩ : ByteArray), .string (⟨#[]⟩ : ByteArray)] 28 (0, 0)) (bk_ BK191.out)) : gb192 ≠ gb191)); replace BK191 := AM (blk_below (g := gb191) (o := .cells #[.int .i64 0, .int .i64 0, .int .i64 0, .int .i64 0, .string (⟨#[]⟩ : ByteArray), .string (⟨#[]⟩ : ByteArray)] 28 (0, 0)) (bk_ BK191.out) hb); clear hb hbox hg; have hnb5 := NB190_191.out; have hnc5 := NB191_190.out; have hnb6 := NB190_192.out; have hnc6 := NB192_190.out; have hcz7_0 : w4.cell? ⟨gb190, 0, none⟩ = some (.int .i64 a0_0) := (blk_cell BK190.out 0).trans rfl; have hcz7_1 : w4.cell? ⟨gb190, 1, none⟩ = some (.int .i64 a0_1) := (blk_cell BK190.out 1).trans rfl; have hcz7_2 : w4.cell? ⟨gb190, 2, none⟩ = some (.int .i64 a0_2) := (blk_cell BK190.out 2).trans rfl; have hcz7_3 : w4.cell? ⟨gb190, 3, none⟩ = some (.int .i64 a0_3) := (blk_cell BK190.out 3).trans rfl; have hcz7_4 : w4.cell? ⟨gb190, 4, none⟩ = some (.string a0_4) := (blk_cell BK190.out 4).trans rfl; have hcz7_5 : w4.cell? ⟨gb190, 5, none⟩ = some (.string a0_5) := (blk_cell BK190.out 5).trans rfl; have hfz7_0 := blk_frozen BK190.out 0; have hfz7_1 := blk_frozen BK190.out 1; have hfz7_2 := blk_frozen BK190.out 2; have hfz7_3 := blk_frozen BK190.out 3; have hfz7_4 := blk_frozen BK190.out 4; have hfz7_5 := blk_frozen BK190.out 5; have hnb8 := NB192_191.out; have hnc8 := NB191_192.out; have hcz9_0 : w4.cell? ⟨gb192, 0, none⟩ = some (.int .i64 0) := (blk_cell BK192.out 0).trans rfl; have hcz9_1 : w4.cell? ⟨gb192, 1, none⟩ = some (.int .i64 0) := (blk_cell BK192.out 1).trans rfl; have hcz9_2 : w4.cell? ⟨gb192, 2, none⟩ = some (.int .i64 0) := (blk_cell BK192.out 2).trans rfl; have hcz9_3 : w4.cell? ⟨gb192, 3, none⟩ = some (.int .i64 0) := (blk_cell BK192.out 3).trans rfl; have hcz9_4 : w4.cell? ⟨gb192, 4, none⟩ = some (.string (⟨#[]⟩ : ByteArray)) := (blk_cell BK192.out 4).trans rfl; have hcz9_5 : w4.cell? ⟨gb192, 5, none⟩ = some (.string (⟨#[]⟩ : ByteArray)) := (blk_cell BK192.out 5).trans rfl; have hfz9_0 := blk_frozen BK192.out 0; have hfz9_1 := blk_frozen BK192.out 1; have hfz9_2 := blk_frozen BK192.out 2; have hfz9_3 := blk_frozen BK192.out 3; have hfz9_4 := blk_frozen BK192.out 4; have hfz9_5 := blk_frozen BK192.out 5; have hcz10_0 : w4.cell? ⟨gb191, 0, none⟩ = some (.int .i64 0) := (blk_cell BK191.out 0).trans rfl; have hcz10_1 : w4.cell? ⟨gb191, 1, none⟩ = some (.int .i64 0) := (blk_cell BK191.out 1).trans rfl; have hcz10_2 : w4.cell? ⟨gb191, 2, none⟩ = some (.int .i64 0) := (blk_cell BK191.out 2).trans rfl; have hcz10_3 : w4.cell? ⟨gb191, 3, none⟩ = some (.int .i64 0) := (blk_cell BK191.out 3).trans rfl; have hcz10_4 : w4.cell? ⟨gb191, 4, none⟩ = some (.string (⟨#[]⟩ : ByteArray)) := (blk_cell BK191.out 4).trans rfl; have hcz10_5 : w4.cell? ⟨gb191, 5, none⟩ = some (.string (⟨#[]⟩ : ByteArray)) := (blk_cell BK191.out 5).trans rfl; have hfz10_0 := blk_frozen BK191.out 0; have hfz10_1 := blk_frozen BK191.out 1; have hfz10_2 := blk_frozen BK191.out 2; have hfz10_3 := blk_frozen BK191.out 3; have hfz10_4 := blk_frozen BK191.out 4; have hfz10_5 := blk_frozen BK191.out 5))
  refine bodyPost_ret (results_cell_row rfl _ _ gb191 28 #[.int .i64 a0_0, .int .i64 a0_1, .int .i64 a0_2, .int .i64 a0_3, .string a0_4, .string a0_5] (0, 0) _ rfl bka_ Tryd.underlying28 rfl (by kernel_rfl)) rfl ?_
  exact ⟨ri_, bel_⟩

/-! ### impl_long: function 70 -/
def impl_long.f (a0 : ByteArray) : Option (Int) := some (a0.size : Int)
set_option maxHeartbeats 8000000 in
set_option maxRecDepth 100000 in
theorem impl_long.calls (a0 : ByteArray) (r : Int) (w : World) (h : impl_long.f a0 = some r) :
    Calls Tryd.prog 70 #[.string a0] w fun e w' => e = .returned (.int .i64 r) ∧ Drawn0 w w' := by
  have H : (some (a0.size : Int)) = some r := h
  clear h
  obtain rfl := Option.some.inj H
  go_enter Tryd.func70, Tryd.ntmps70
  go_wp2
  go_ret
  exact ⟨by first | rfl | (simp; done) | (simp [*]; done), by repeat (first | exact Drawn0.refl _ | apply Drawn0.step)⟩

/-! ### impl_within: function 77 -/
def impl_within.f (a0 : Int) (a1 : Int) (a2 : Int) : Option (Bool) := if a0 ≥ a1 then (some (decide (a0 ≤ a2))) else (some false)
set_option maxHeartbeats 8000000 in
set_option maxRecDepth 100000 in
theorem impl_within.calls (a0 : Int) (a1 : Int) (a2 : Int) (r : Bool) (w : World) (h : impl_within.f a0 a1 a2 = some r) :
    Calls Tryd.prog 77 #[.int .i64 a0, .int .i64 a1, .int .i64 a2] w fun e w' => e = .returned (.bool r) ∧ Drawn0 w w' := by
  have H : (if a0 ≥ a1 then (some (decide (a0 ≤ a2))) else (some false)) = some r := h
  clear h
  by_cases c4 : a0 ≥ a1
  · rw [if_pos c4] at H
    have c4b0 : decide (a1 ≤ a0) = true := decide_eq_true c4
    clear c4
    obtain rfl := Option.some.inj H
    go_enter Tryd.func77, Tryd.ntmps77
    go_wp2
    go_ret
    exact ⟨by first | rfl | (simp; done) | (simp [*]; done), by repeat (first | exact Drawn0.refl _ | apply Drawn0.step)⟩
  · rw [if_neg c4] at H
    have c4b0 : decide (a1 ≤ a0) = false := decide_eq_false c4
    clear c4
    obtain rfl := Option.some.inj H
    go_enter Tryd.func77, Tryd.ntmps77
    go_wp2
    go_ret
    exact ⟨by first | rfl | (simp; done) | (simp [*]; done), by repeat (first | exact Drawn0.refl _ | apply Drawn0.step)⟩

/-! ### impl_CodeRight: function 93 -/
def impl_CodeRight.f (a0 : Int) (a1 : Int) : Option (Bool) := (impl_within.f a0 1 8).bind fun t193 => (if t193 = true then ((impl_within.f a1 0 6).bind fun t194 => (some t194)) else (some false))
set_option maxHeartbeats 8000000 in
set_option maxRecDepth 100000 in
theorem impl_CodeRight.calls (a0 : Int) (a1 : Int) (r : Bool) (w : World) (h : impl_CodeRight.f a0 a1 = some r) :
    Calls Tryd.prog 93 #[.int .i64 a0, .int .i64 a1] w fun e w' => e = .returned (.bool r) ∧ Drawn0 w w' := by
  have H : ((impl_within.f a0 1 8).bind fun t193 => (if t193 = true then ((impl_within.f a1 0 6).bind fun t194 => (some t194)) else (some false))) = some r := h
  clear h
  obtain ⟨t193, A3, H⟩ := OB H
  try dsimp only at H
  replace A3 := AM A3
  by_cases c4 : t193 = true
  · subst c4
    rw [if_pos rfl] at H
    obtain ⟨t194, A5, H⟩ := OB H
    try dsimp only at H
    replace A5 := AM A5
    obtain rfl := Option.some.inj H
    go_enter Tryd.func93, Tryd.ntmps93
    go_wp2_with (first | ((with_reducible refine gate_callee (f := 77) rfl ?_); refine gl_ (some 6) Tryd.func77 #[.int .i64 a0, .int .i64 1, .int .i64 8] ?_; (with_reducible refine (impl_within.calls a0 1 8 true _ A3.out).mono ?_); rintro e w' ⟨rfl, ⟨nd, rfl⟩⟩; refine ⟨_, rfl, ?_⟩) | (go_at_call 77; (with_reducible refine (impl_within.calls a1 0 6 t194 _ A5.out).mono ?_); rintro e w' ⟨rfl, ⟨nd, rfl⟩⟩))
    go_ret
    exact ⟨by first | rfl | (simp; done) | (simp [*]; done), by repeat (first | exact Drawn0.refl _ | apply Drawn0.step)⟩
  · replace c4 := Bool.eq_false_iff.mpr c4
    subst c4
    rw [if_neg (show ¬ (false = true) by decide)] at H
    obtain rfl := Option.some.inj H
    go_enter Tryd.func93, Tryd.ntmps93
    go_wp2_with (first | ((with_reducible refine gate_callee (f := 77) rfl ?_); refine gl_ (some 6) Tryd.func77 #[.int .i64 a0, .int .i64 1, .int .i64 8] ?_; (with_reducible refine (impl_within.calls a0 1 8 false _ A3.out).mono ?_); rintro e w' ⟨rfl, ⟨nd, rfl⟩⟩; refine ⟨_, rfl, ?_⟩))
    go_ret
    exact ⟨by first | rfl | (simp; done) | (simp [*]; done), by repeat (first | exact Drawn0.refl _ | apply Drawn0.step)⟩

/-! ### impl_ShardSize: function 94 -/
def impl_ShardSize.f (a0 : Int) (a1 : Int) : Option (Int) := (impl_within.f a0 1 8).bind fun t195 => (if t195 = true then ((impl_within.f a1 0 20000).bind fun t196 => (if t196 = true then (if a0 = 0 then (none) else (some (wrap64 (Int.tdiv (wrap64 ((wrap64 (a1 + a0)) - 1)) a0)))) else (some 0))) else (some 0))
set_option maxHeartbeats 8000000 in
set_option maxRecDepth 100000 in
theorem impl_ShardSize.calls (a0 : Int) (a1 : Int) (r : Int) (w : World) (h : impl_ShardSize.f a0 a1 = some r) :
    Calls Tryd.prog 94 #[.int .i64 a0, .int .i64 a1] w fun e w' => e = .returned (.int .i64 r) ∧ Drawn0 w w' := by
  have H : ((impl_within.f a0 1 8).bind fun t195 => (if t195 = true then ((impl_within.f a1 0 20000).bind fun t196 => (if t196 = true then (if a0 = 0 then (none) else (some (wrap64 (Int.tdiv (wrap64 ((wrap64 (a1 + a0)) - 1)) a0)))) else (some 0))) else (some 0))) = some r := h
  clear h
  obtain ⟨t195, A3, H⟩ := OB H
  try dsimp only at H
  replace A3 := AM A3
  by_cases c4 : t195 = true
  · subst c4
    rw [if_pos rfl] at H
    obtain ⟨t196, A5, H⟩ := OB H
    try dsimp only at H
    replace A5 := AM A5
    by_cases c6 : t196 = true
    · subst c6
      rw [if_pos rfl] at H
      by_cases c7 : a0 = 0
      · rw [if_pos c7] at H
        exact absurd H (by simp)
      · rw [if_neg c7] at H
        have c7b0 : (a0 == 0) = false := beq_eq_false_iff_ne.mpr c7
        have c7b1 : (a0 != 0) = true := bne_iff_ne.mpr c7
        obtain rfl := Option.some.inj H
        go_enter Tryd.func94, Tryd.ntmps94
        go_wp2_with (first | ((with_reducible refine gate_callee (f := 77) rfl ?_); refine gl_ (some 6) Tryd.func77 #[.int .i64 a0, .int .i64 1, .int .i64 8] ?_; (with_reducible refine (impl_within.calls a0 1 8 true _ A3.out).mono ?_); rintro e w' ⟨rfl, ⟨nd, rfl⟩⟩; refine ⟨_, rfl, ?_⟩) | (go_at_call 77; (with_reducible refine (impl_within.calls a1 0 20000 true _ A5.out).mono ?_); rintro e w' ⟨rfl, ⟨nd, rfl⟩⟩))
        go_ret
        exact ⟨by first | rfl | (simp; done) | (simp [*]; done), by repeat (first | exact Drawn0.refl _ | apply Drawn0.step)⟩
    · replace c6 := Bool.eq_false_iff.mpr c6
      subst c6
      rw [if_neg (show ¬ (false = true) by decide)] at H
      obtain rfl := Option.some.inj H
      go_enter Tryd.func94, Tryd.ntmps94
      go_wp2_with (first | ((with_reducible refine gate_callee (f := 77) rfl ?_); refine gl_ (some 6) Tryd.func77 #[.int .i64 a0, .int .i64 1, .int .i64 8] ?_; (with_reducible refine (impl_within.calls a0 1 8 true _ A3.out).mono ?_); rintro e w' ⟨rfl, ⟨nd, rfl⟩⟩; refine ⟨_, rfl, ?_⟩) | (go_at_call 77; (with_reducible refine (impl_within.calls a1 0 20000 false _ A5.out).mono ?_); rintro e w' ⟨rfl, ⟨nd, rfl⟩⟩))
      go_ret
      exact ⟨by first | rfl | (simp; done) | (simp [*]; done), by repeat (first | exact Drawn0.refl _ | apply Drawn0.step)⟩
  · replace c4 := Bool.eq_false_iff.mpr c4
    subst c4
    rw [if_neg (show ¬ (false = true) by decide)] at H
    obtain rfl := Option.some.inj H
    go_enter Tryd.func94, Tryd.ntmps94
    go_wp2_with (first | ((with_reducible refine gate_callee (f := 77) rfl ?_); refine gl_ (some 6) Tryd.func77 #[.int .i64 a0, .int .i64 1, .int .i64 8] ?_; (with_reducible refine (impl_within.calls a0 1 8 false _ A3.out).mono ?_); rintro e w' ⟨rfl, ⟨nd, rfl⟩⟩; refine ⟨_, rfl, ?_⟩))
    go_ret
    exact ⟨by first | rfl | (simp; done) | (simp [*]; done), by repeat (first | exact Drawn0.refl _ | apply Drawn0.step)⟩

end Go.Proofs.YtddapeieolfolaaDoor.PFnExactFrameBytes
