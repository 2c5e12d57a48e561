/- Functions of the law FnHash: the print's, with walks of this session's own. No statement is proved here. -/
import Derived.Test.YtfffdndeccipnaaDoorHIFnHash
import Derived.WalkLawsBesides
import Derived.Test.YtfffdndeccipnaaDoorVRegFnHash
-- A program of this session wrote this text: a changed copy of the kit print, with given functions.
import Derived.Test.YtfffdndeccipnaaDoorPFnHashx0
import Derived.Test.YtfffdndeccipnaaDoorPFnHashx4
namespace Go.Proofs.YtfffdndeccipnaaDoor.PFnHash
open Go.RowKit Go.Proofs.YtfffdndeccipnaaDoorW.PrintWords Go.Proofs.YtfffdndeccipnaaDoorW.PrintLast Go.Proofs.YtfffdndeccipnaaDoorW.PrintMore Go.Proofs.YtfffdndeccipnaaDoor.Reg Go.Proofs.YtfffdndeccipnaaDoor.Aut
attribute [local go_sem] max2_int min2_int max_two min_two max_three min_three max_four min_four   -- for this text's walks alone
set_option linter.unusedVariables false
set_option linter.unusedSimpArgs false

/-! ### spec_l05End: function 55 -/
mutual
def spec_l05End.l0 : Nat → List Int → List Int → ByteArray → Int → Option (ByteArray)
  | 0, _, _, _, _ => none
  | k + 1, x3, x152000, x152001, x152002 => if (Int.tmod (wrap64 (x152002 + (x3.length : Int))) 64) = 56 then (spec_l05End.l1 k x3 (IntKind.u64.wrap (wrap64 (8 * x152002))) 56 x152000 x152001 x152002) else (if x3.length < 140737488355328 then (spec_l05End.l0 k (x3 ++ [0]) x152000 x152001 x152002) else (none))
def spec_l05End.l1 : Nat → List Int → Int → Int → List Int → ByteArray → Int → Option (ByteArray)
  | 0, _, _, _, _, _, _ => none
  | k + 1, x3, x4, x5, x152000, x152001, x152002 => if x5 ≥ 0 then (if 0 ≤ (IntKind.u64.wrap (x5)) then (if x3.length < 140737488355328 then (spec_l05End.l1 k (x3 ++ [(shr .u64 x4 (IntKind.u64.wrap (x5))) % 256]) x4 (wrap64 (x5 - 8)) x152000 x152001 x152002) else (none)) else (none)) else ((spec_l05More.f k x152000 x152001 x152002 (strOfNums x3)).bind fun bt161 => (spec_l05End.l2 k (([] : List Int)) 0 bt161.1 bt161.2.1 bt161.2.2))
def spec_l05End.l2 : Nat → List Int → Int → List Int → ByteArray → Int → Option (ByteArray)
  | 0, _, _, _, _, _ => none
  | k + 1, x7, x8, x167000, x167001, x167002 => if x8 < 8 then (if 0 ≤ x8 then (if x8 < (x167000.length : Int) then ((some (([((rd x167000 x8) / 16777216) % 256, ((rd x167000 x8) / 65536) % 256, ((rd x167000 x8) / 256) % 256, (rd x167000 x8) % 256] : List Int) : List Int)).bind fun y171 => (if x7.length + y171.length < 140737488355328 then (spec_l05End.l2 k (x7 ++ y171) (wrap64 (x8 + 1)) x167000 x167001 x167002) else (none))) else (none)) else (none)) else (some (strOfNums x7))
end
def spec_l05End.f (k : Nat) (l0_0 : List Int) (a0_1 : ByteArray) (a0_2 : Int) : Option (ByteArray) := spec_l05End.l0 k (([128] : List Int)) l0_0 a0_1 a0_2
theorem spec_l05End.mono_l : ∀ k, (∀ y0 y1 y2 y3, LeO (spec_l05End.l0 k y0 y1 y2 y3) (spec_l05End.l0 (k + 1) y0 y1 y2 y3)) ∧ (∀ y0 y1 y2 y3 y4 y5, LeO (spec_l05End.l1 k y0 y1 y2 y3 y4 y5) (spec_l05End.l1 (k + 1) y0 y1 y2 y3 y4 y5)) ∧ (∀ y0 y1 y2 y3 y4, LeO (spec_l05End.l2 k y0 y1 y2 y3 y4) (spec_l05End.l2 (k + 1) y0 y1 y2 y3 y4))
  | 0 => ⟨fun _ _ _ _ r h => by simp [spec_l05End.l0] at h, fun _ _ _ _ _ _ r h => by simp [spec_l05End.l1] at h, fun _ _ _ _ _ r h => by simp [spec_l05End.l2] at h⟩
  | k + 1 => by
    obtain ⟨ih0, ih1, ih2⟩ := spec_l05End.mono_l k
    refine ⟨?_, ?_, ?_⟩
    · intro y0 y1 y2 y3
      unfold spec_l05End.l0
      repeat' first
      | (with_reducible exact ih0 _ _ _ _)
      | (with_reducible exact ih1 _ _ _ _ _ _)
      | (with_reducible exact ih2 _ _ _ _ _)
      | (with_reducible exact spec_l05More.mono _ _ _ _ _)
      | (with_reducible exact LeO.refl _)
      | (with_reducible exact LeO.none _)
      | (with_reducible refine LeO.ite ?_ ?_)
      | (with_reducible refine LeO.bind ?_ (fun _ => ?_))
      | exact ih0 _ _ _ _
      | exact ih1 _ _ _ _ _ _
      | exact ih2 _ _ _ _ _
      | exact spec_l05More.mono _ _ _ _ _
      | exact LeO.none _
      | refine LeO.ite ?_ ?_
      | refine LeO.bind ?_ (fun _ => ?_)
    · intro y0 y1 y2 y3 y4 y5
      unfold spec_l05End.l1
      repeat' first
      | (with_reducible exact ih0 _ _ _ _)
      | (with_reducible exact ih1 _ _ _ _ _ _)
      | (with_reducible exact ih2 _ _ _ _ _)
      | (with_reducible exact spec_l05More.mono _ _ _ _ _)
      | (with_reducible exact LeO.refl _)
      | (with_reducible exact LeO.none _)
      | (with_reducible refine LeO.ite ?_ ?_)
      | (with_reducible refine LeO.bind ?_ (fun _ => ?_))
      | exact ih0 _ _ _ _
      | exact ih1 _ _ _ _ _ _
      | exact ih2 _ _ _ _ _
      | exact spec_l05More.mono _ _ _ _ _
      | exact LeO.none _
      | refine LeO.ite ?_ ?_
      | refine LeO.bind ?_ (fun _ => ?_)
    · intro y0 y1 y2 y3 y4
      unfold spec_l05End.l2
      repeat' first
      | (with_reducible exact ih0 _ _ _ _)
      | (with_reducible exact ih1 _ _ _ _ _ _)
      | (with_reducible exact ih2 _ _ _ _ _)
      | (with_reducible exact spec_l05More.mono _ _ _ _ _)
      | (with_reducible exact LeO.refl _)
      | (with_reducible exact LeO.none _)
      | (with_reducible refine LeO.ite ?_ ?_)
      | (with_reducible refine LeO.bind ?_ (fun _ => ?_))
      | exact ih0 _ _ _ _
      | exact ih1 _ _ _ _ _ _
      | exact ih2 _ _ _ _ _
      | exact spec_l05More.mono _ _ _ _ _
      | exact LeO.none _
      | refine LeO.ite ?_ ?_
      | refine LeO.bind ?_ (fun _ => ?_)
theorem spec_l05End.mono : ∀ a0 a1 a2 k, LeO (spec_l05End.f k a0 a1 a2) (spec_l05End.f (k + 1) a0 a1 a2) := by
  intro a0 a1 a2 k
  obtain ⟨ih0, ih1, ih2⟩ := spec_l05End.mono_l k
  unfold spec_l05End.f
  repeat' first
      | (with_reducible exact ih0 _ _ _ _)
      | (with_reducible exact ih1 _ _ _ _ _ _)
      | (with_reducible exact ih2 _ _ _ _ _)
      | (with_reducible exact spec_l05More.mono _ _ _ _ _)
      | (with_reducible exact LeO.refl _)
      | (with_reducible exact LeO.none _)
      | (with_reducible refine LeO.ite ?_ ?_)
      | (with_reducible refine LeO.bind ?_ (fun _ => ?_))
      | exact ih0 _ _ _ _
      | exact ih1 _ _ _ _ _ _
      | exact ih2 _ _ _ _ _
      | exact spec_l05More.mono _ _ _ _ _
      | exact LeO.none _
      | refine LeO.ite ?_ ?_
      | refine LeO.bind ?_ (fun _ => ?_)
set_option maxHeartbeats 8000000 in
set_option maxRecDepth 100000 in
theorem spec_l05End.calls (k : Nat) (A0_0 : Option Addr) (c0_0 : Nat) (l0_0 : List Int) (a0_1 : ByteArray) (a0_2 : Int) (r : ByteArray) (w : World) (hr0_0 : Kd.C (Kd.int .i64) w A0_0 l0_0.length l0_0) (hc0_0 : l0_0.length ≤ c0_0) (h : spec_l05End.f k l0_0 a0_1 a0_2 = some r) :
    Calls Tryd.prog 55 #[.agg #[.slice A0_0 l0_0.length c0_0, .string a0_1, .int .i64 a0_2]] w fun e w' => e = .returned (.string r) ∧ Below w.heap.size w w' := by
  have hu39 := Tryd.underlying39
  have HR0_0 := AM hr0_0
  have HC0_0 := AM hc0_0
  clear hr0_0 hc0_0
  have HB := AM (Below.refl w.heap.size w)
  have H : (spec_l05End.l0 k (([128] : List Int)) l0_0 a0_1 a0_2) = some r := h
  clear h
  obtain ⟨y152, hy152⟩ : ∃ y_ : List Int, y_ = (([128] : List Int)) := ⟨_, rfl⟩
  replace H : (spec_l05End.l0 k y152 l0_0 a0_1 a0_2) = some r := by first | (rw [hy152]; with_reducible exact H) | (have H2_ := (Option.bind_some _ _).symm.trans H; rw [hy152]; with_reducible exact H2_) | (have H2_ := (Option.bind_some _ _).symm.trans H; with_reducible exact H2_) | with_reducible exact H | (rw [hy152]; exact H) | exact H
  have Ny152 := AM hy152
  clear hy152
  have H' := AM H
  clear H
  go_enter Tryd.func55, Tryd.ntmps55
  go_wp2_with (first | ((with_reducible refine gate_dst (N := 1) rfl ?_); refine be_ 1 #[.slice A0_0 l0_0.length c0_0, .string a0_1, .int .i64 a0_2] 39 ?_; intro gb151 hg w2 hbox hb; have BK151 := AM hbox; have GW151 := AM ((by rw [hg]; exact (below_size bel_) : w.heap.size ≤ gb151)); have GE151 := AM ((by rw [hg]; exact (below_size bel_) : w.heap.size ≤ gb151)); replace HB := AM (below_step bel_ hb); clear hb hbox hg) | ((with_reducible refine gate_dst (N := 10) rfl ?_); refine Kd.R_lit (Kd.int .u8) _ 5 ?hgL1 (N := 10) ?hdL1 (xs := ([128] : List Int)) (inner := [.int .u8 128]) (ok := fun _ => True) (okp := fun _ => True) ?hrL1 ?hpL1 (fun _ hk => hk) trivial (Below.refl _ _) (Nat.le_refl _) (by simp) ?_; (case hdL1 => rfl); (case hgL1 => rfl); (case hrL1 => first | (go_simp; done) | (go_simp; rfl)); (case hpL1 => exact (Reps.one (show Kd.M (Kd.int .u8) _ _ _ 128 [.int .u8 128] from rfl) (Reps.none _ _))); intro v153 w3 ho4 hb hg_ hnew_; clear hg_ hnew_; (first | rw [← Ny152.out] at ho4 | (simp only [Int.reduceToNat] at ho4; rw [← Ny152.out] at ho4)); have HO154 := AM (Kd.R_lower ho4 (below_size bel_)); replace BK151 := AM (blk_below (g := gb151) (o := .cells #[.slice A0_0 l0_0.length c0_0, .string a0_1, .int .i64 a0_2] 39 (0, 0)) (bk_ BK151.out) hb); replace HB := AM (below_step bel_ hb); clear hb ho4))
  go_loopg [3] k (fun kq v3 w' => ∃ (x3_1 : List Int), Aside0 (spec_l05End.l0 kq x3_1 l0_0 a0_1 a0_2 = some r) ∧ Aside0 (kq ≤ k) ∧ Aside0 (Kd.R (Kd.int .u8) 5 w' w.heap.size (fun _ => True) v3 x3_1) ∧ Aside0 (w'.heap[gb151]? = some (.cells #[(.slice A0_0 l0_0.length c0_0), .string a0_1, .int .i64 a0_2] 39 (0, 0))) ∧ Aside0 (Below w.heap.size w w'))
  case atStart => exact ⟨(y152), H', ⟨Nat.le_refl _⟩, ⟨ro_ HO154.out⟩, ⟨bk_ BK151.out⟩, ⟨bel_⟩⟩
  case round =>
    clear H'
    try clear p2
    obtain ⟨x3_1, HA, HK1, HO_3, BK151, HB⟩ := hrel
    cases gk with
    | zero => exact absurd HA.out (by simp [spec_l05End.l0])
    | succ k1 =>
      have H := HA.out
      clear HA
      simp only [spec_l05End.l0] at H
      by_cases c5 : (Int.tmod (wrap64 (a0_2 + (x3_1.length : Int))) 64) = 56
      · rw [if_pos c5] at H
        have c5b0 : ((Int.tmod (wrap64 (a0_2 + (x3_1.length : Int))) 64) == 56) = true := beq_iff_eq.mpr c5
        try have c5b9 : (((Int.tmod ((a0_2 + (x3_1.length : Int))) 64) == 56)) = true := (by have hw0 : wrap64 (a0_2 + (x3_1.length : Int)) = a0_2 + (x3_1.length : Int) := (by unfold wrap64; omega); have z_ := c5b0; simp only [hw0] at z_; exact z_)
        have c5b1 : ((Int.tmod (wrap64 (a0_2 + (x3_1.length : Int))) 64) != 56) = false := bne_eq_false_iff_eq.mpr c5
        clear c5
        have H' := AM H
        clear H
        have hcz6_0 : wr.cell? ⟨gb151, 0, none⟩ = some (.slice A0_0 l0_0.length c0_0) := (blk_cell BK151.out 0).trans rfl
        have hcz6_1 : wr.cell? ⟨gb151, 1, none⟩ = some (.string a0_1) := (blk_cell BK151.out 1).trans rfl
        have hcz6_2 : wr.cell? ⟨gb151, 2, none⟩ = some (.int .i64 a0_2) := (blk_cell BK151.out 2).trans rfl
        have hfz6_0 := blk_frozen BK151.out 0
        have hfz6_1 := blk_frozen BK151.out 1
        have hfz6_2 := blk_frozen BK151.out 2
        obtain ⟨Ao7, co7, eo7⟩ := Kd.R_slice HO_3.out
        subst eo7
        go_wp2
        go_loopg [3, 5] k1 (fun kq v3 v5 w' => ∃ (x3_2 : List Int) (x5_2 : Int), v5 = .int .i64 x5_2 ∧ Aside0 (spec_l05End.l1 kq x3_2 (IntKind.u64.wrap (wrap64 (8 * a0_2))) x5_2 l0_0 a0_1 a0_2 = some r) ∧ Aside0 (kq ≤ k1) ∧ Aside0 (Kd.R (Kd.int .u8) 5 w' w.heap.size (fun _ => True) v3 x3_2) ∧ Aside0 (w'.heap[gb151]? = some (.cells #[(.slice A0_0 l0_0.length c0_0), .string a0_1, .int .i64 a0_2] 39 (0, 0))) ∧ Aside0 (Below w.heap.size w w'))
        case atStart => exact ⟨(x3_1), (56), (by first | rfl | (simp; done) | (simp [*]; done)), H', ⟨Nat.le_refl _⟩, ⟨ro_ HO_3.out⟩, ⟨bk_ BK151.out⟩, ⟨bel_⟩⟩
        case round =>
          clear H'
          try clear p2
          try clear c5
          try clear c5b0
          try clear c5b1
          try clear p6
          try clear hcz6_0
          try clear hcz6_1
          try clear hcz6_2
          try clear hfz6_0
          try clear hfz6_1
          try clear hfz6_2
          try clear p2
          obtain ⟨x3_2, x5_2, rfl, HA, HK2, HO_3, BK151, HB⟩ := hrel
          cases gk with
          | zero => exact absurd HA.out (by simp [spec_l05End.l1])
          | succ k2 =>
            have H := HA.out
            clear HA
            simp only [spec_l05End.l1] at H
            by_cases c8 : x5_2 ≥ 0
            · rw [if_pos c8] at H
              have c8b0 : decide (0 ≤ x5_2) = true := decide_eq_true c8
              clear c8
              obtain ⟨ji9, hji9⟩ : ∃ j_ : Int, (IntKind.u64.wrap (x5_2)) = j_ := ⟨_, rfl⟩
              replace H : (if 0 ≤ (ji9) then (if x3_2.length < 140737488355328 then (spec_l05End.l1 k2 (x3_2 ++ [(shr .u64 (IntKind.u64.wrap (wrap64 (8 * a0_2))) (ji9)) % 256]) (IntKind.u64.wrap (wrap64 (8 * a0_2))) (wrap64 (x5_2 - 8)) l0_0 a0_1 a0_2) else (none)) else (none)) = some r := by first | (rw [hji9] at H; exact H) | (simp only [hji9] at H ⊢; exact H)
              by_cases c10 : 0 ≤ (ji9)
              · rw [if_pos c10] at H
                have c10b0 := eq_true c10
                have c10b1 : decide (0 ≤ (ji9)) = true := decide_eq_true c10
                clear c10
                obtain ⟨ji11, hji11⟩ : ∃ j_ : Int, (shr .u64 (IntKind.u64.wrap (wrap64 (8 * a0_2))) (ji9)) = j_ := ⟨_, rfl⟩
                replace H : (if x3_2.length < 140737488355328 then (spec_l05End.l1 k2 (x3_2 ++ [(ji11) % 256]) (IntKind.u64.wrap (wrap64 (8 * a0_2))) (wrap64 (x5_2 - 8)) l0_0 a0_1 a0_2) else (none)) = some r := by first | (rw [hji11] at H; exact H) | (simp only [hji11] at H ⊢; exact H)
                have hji11_ : ((IntKind.u64.wrap (wrap64 (8 * a0_2))) / 2 ^ min (ji9).toNat 64) = ji11 := hji11
                have hji11z : (ji9) ≤ 64 → ((IntKind.u64.wrap (wrap64 (8 * a0_2))) / 2 ^ (ji9).toNat) = ji11 := shr_small hji11
                by_cases c12 : x3_2.length < 140737488355328
                · rw [if_pos c12] at H
                  have LMc12 := AM c12
                  clear c12
                  obtain ⟨y158, hy158⟩ : ∃ y_ : List Int, y_ = (x3_2 ++ [(ji11) % 256]) := ⟨_, rfl⟩
                  replace H : (spec_l05End.l1 k2 y158 (IntKind.u64.wrap (wrap64 (8 * a0_2))) (wrap64 (x5_2 - 8)) l0_0 a0_1 a0_2) = some r := by first | (rw [hy158]; with_reducible exact H) | (have H2_ := (Option.bind_some _ _).symm.trans H; rw [hy158]; with_reducible exact H2_) | (have H2_ := (Option.bind_some _ _).symm.trans H; with_reducible exact H2_) | with_reducible exact H | (rw [hy158]; exact H) | exact H
                  have Ny158 := AM hy158
                  clear hy158
                  have H' := AM H
                  clear H
                  go_wp2_with (first | ((with_reducible refine gate_builtin (b := .append) (xs := #[.tmp 29, .tmp 35]) rfl ?_); at_builtin; refine Kd.R_append (Kd.int .u8) (w0 := w) w.heap.size rfl (.tmp 29) (.tmp 35) 29 5 (.int .u8 0) 1 rfl Tryd.underlying29 info5 rfl (by decide) (by omega) u3 x3_2 ((ji11) % 256) [.int .u8 ((ji11) % 256)] (fun _ => True) (fun _ => False) rfl rfl ?aP (fun _ hk => hk.elim) ?aF ?aO ?aB ?aS ?aL ?_; (case aP => exact rfl); (case aB => exact bel_); (case aF => exact (fun _ _ => trivial)); (case aO => exact (ro_ HO_3.out)); (case aS => exact (below_size bel_)); (case aL => have := LMc12.out; omega); intro v159 w13 ho hb hg hat; rw [← Ny158.out] at ho; have n0_ := AM (blk_grown (g := gb151) (o := .cells #[.slice A0_0 l0_0.length c0_0, .string a0_1, .int .i64 a0_2] 39 (0, 0)) (bk_ BK151.out) hg (Kd.R_ne HO_3.out BK151.out (by decide))); have n1_ := AM hb; have n2_ := AM ho; clear BK151; clear HB; clear HO_3; have BK151 := n0_; have HB := n1_; have HO160 := n2_; clear n0_ n1_ n2_; clear ho hb hg hat))
                  go_roundg k2
                  case measure => have := HK1.out; have := HK2.out; omega
                  case rel => exact ⟨(y158), (wrap64 (x5_2 - 8)), (by first | rfl | (simp; done) | (simp [*]; done)), H', ⟨by have := HK1.out; have := HK2.out; omega⟩, ⟨ro_ HO160.out⟩, ⟨bk_ BK151.out⟩, ⟨bel_⟩⟩
                · rw [if_neg c12] at H
                  exact absurd H (by simp)
              · rw [if_neg c10] at H
                exact absurd H (by simp)
            · rw [if_neg c8] at H
              have c8b0 : decide (0 ≤ x5_2) = false := decide_eq_false c8
              clear c8
              obtain ⟨⟨t161, t164, t165⟩, A14, H⟩ := OB H
              try dsimp only at H
              replace A14 := AM A14
              obtain ⟨y167, hy167⟩ : ∃ y_ : List Int, y_ = (([] : List Int)) := ⟨_, rfl⟩
              replace H : (spec_l05End.l2 k2 y167 0 t161 t164 t165) = some r := by first | (rw [hy167]; with_reducible exact H) | (have H2_ := (Option.bind_some _ _).symm.trans H; rw [hy167]; with_reducible exact H2_) | (have H2_ := (Option.bind_some _ _).symm.trans H; with_reducible exact H2_) | with_reducible exact H | (rw [hy167]; exact H) | exact H
              have Ny167 := AM hy167
              clear hy167
              have H' := AM H
              clear H
              have hcz15_0 : wr.cell? ⟨gb151, 0, none⟩ = some (.slice A0_0 l0_0.length c0_0) := (blk_cell BK151.out 0).trans rfl
              have hcz15_1 : wr.cell? ⟨gb151, 1, none⟩ = some (.string a0_1) := (blk_cell BK151.out 1).trans rfl
              have hcz15_2 : wr.cell? ⟨gb151, 2, none⟩ = some (.int .i64 a0_2) := (blk_cell BK151.out 2).trans rfl
              have hfz15_0 := blk_frozen BK151.out 0
              have hfz15_1 := blk_frozen BK151.out 1
              have hfz15_2 := blk_frozen BK151.out 2
              have hcv16 := own_string (P := Tryd.prog) Tryd.underlying29 Tryd.underlying5 Tryd.underlying9 (Kd.own_of_R HO_3.out)
              go_wp2_with (first | ((with_reducible refine gate_callee (f := 56) rfl ?_); refine gl_ (some 40) Tryd.func56 #[.agg #[.slice A0_0 l0_0.length c0_0, .string a0_1, .int .i64 a0_2], .string (strOfNums x3_2)] ?_; (with_reducible refine (spec_l05More.calls k2 _ _ l0_0 a0_1 a0_2 (strOfNums x3_2) t161 t164 t165 _ ?side1 ?side2 A14.out).mono ?_); (case side1 => repeat (first | exact (Kd.C_below HR0_0.out HB.out) | (with_reducible refine Kd.C_alloc ?_ _) | (with_reducible refine Kd.C_drewN ?_ _) | (with_reducible refine Kd.C_drew ?_))); (case side2 => exact HC0_0.out); rintro e w17 ⟨v162, rfl, ho0, hb⟩; refine ⟨_, rfl, ?_⟩; replace HO_3 := AM (Kd.R_below (ro_ HO_3.out) hb); have HO163 := AM (Kd.R_lower ho0 (below_size bel_)); replace BK151 := AM (blk_below (g := gb151) (o := .cells #[.slice A0_0 l0_0.length c0_0, .string a0_1, .int .i64 a0_2] 39 (0, 0)) (bk_ BK151.out) hb); replace HB := AM (below_step bel_ hb); (try clear hb); (try clear hb2); (try clear hk); (try clear hi); (try clear ho0)) | ((with_reducible refine gate_dst (N := 6) rfl ?_); refine be_ 6 #[.slice none 0 0, .string (⟨#[]⟩ : ByteArray), .int .i64 0] 39 ?_; intro gb166 hg w18 hbox hb; replace HO_3 := AM (Kd.R_below (ro_ HO_3.out) hb); replace HO163 := AM (Kd.R_below (ro_ HO163.out) hb); have BK166 := AM hbox; have GW166 := AM ((by rw [hg]; exact (below_size bel_) : w.heap.size ≤ gb166)); have GE166 := AM ((by rw [hg]; exact (below_size bel_) : w.heap.size ≤ gb166)); replace HB := AM (below_step bel_ hb); have NB151_166 := AM ((by rw [hg]; exact Nat.ne_of_lt (blk_lt (g := gb151) (o := .cells #[.slice A0_0 l0_0.length c0_0, .string a0_1, .int .i64 a0_2] 39 (0, 0)) (bk_ BK151.out)) : gb151 ≠ gb166)); have NB166_151 := AM ((by rw [hg]; exact Nat.ne_of_gt (blk_lt (g := gb151) (o := .cells #[.slice A0_0 l0_0.length c0_0, .string a0_1, .int .i64 a0_2] 39 (0, 0)) (bk_ BK151.out)) : gb166 ≠ gb151)); replace BK151 := AM (blk_below (g := gb151) (o := .cells #[.slice A0_0 l0_0.length c0_0, .string a0_1, .int .i64 a0_2] 39 (0, 0)) (bk_ BK151.out) hb); clear hb hbox hg; obtain ⟨Ao19, co19, eo19⟩ := Kd.R_slice HO163.out; subst eo19; have hnb20 := NB166_151.out; have hnc20 := NB151_166.out; have hcz21_0 : w18.cell? ⟨gb166, 0, none⟩ = some (.slice none 0 0) := (blk_cell BK166.out 0).trans rfl; have hcz21_1 : w18.cell? ⟨gb166, 1, none⟩ = some (.string (⟨#[]⟩ : ByteArray)) := (blk_cell BK166.out 1).trans rfl; have hcz21_2 : w18.cell? ⟨gb166, 2, none⟩ = some (.int .i64 0) := (blk_cell BK166.out 2).trans rfl; have hfz21_0 := blk_frozen BK166.out 0; have hfz21_1 := blk_frozen BK166.out 1; have hfz21_2 := blk_frozen BK166.out 2) | ((with_reducible refine gate_dst (N := 41) rfl ?_); refine Kd.R_lit (Kd.int .u8) _ 5 ?hgL2 (N := 41) ?hdL2 (xs := ([] : List Int)) (inner := []) (ok := fun _ => True) (okp := fun _ => True) ?hrL2 ?hpL2 (fun _ hk => hk) trivial (Below.refl _ _) (Nat.le_refl _) (by simp) ?_; (case hdL2 => rfl); (case hgL2 => rfl); (case hrL2 => first | (go_simp; done) | (go_simp; rfl)); (case hpL2 => exact (Reps.none _ _)); intro v168 w22 ho23 hb hg_ hnew_; clear hg_ hnew_; (first | rw [← Ny167.out] at ho23 | (simp only [Int.reduceToNat] at ho23; rw [← Ny167.out] at ho23)); have n0_ := AM (Kd.R_elder' (by (with_reducible repeat (first | apply Kd.R_alloc | apply Kd.R_drewN | apply Kd.R_drew)); exact (Kd.R_mono (Kd.R_far (p := ⟨gb166, 2, none⟩) (Kd.R_far (p := ⟨gb166, 1, none⟩) (Kd.R_far (p := ⟨gb166, 0, none⟩) (Kd.R_types HO_3.out BK166.out (by decide)) (fun _ hk => hk.2) (.slice Ao19 t161.length co19)) (fun _ hk => hk.2) (.string t164)) (fun _ hk => hk.2) (.int .i64 t165)) (fun _ h_ => h_.1))) (Kd.R_base ho23) hb); have n1_ := AM (Kd.R_below (by (with_reducible repeat (first | apply Kd.R_alloc | apply Kd.R_drewN | apply Kd.R_drew)); exact (Kd.R_mono (Kd.R_far (p := ⟨gb166, 2, none⟩) (Kd.R_far (p := ⟨gb166, 1, none⟩) (Kd.R_far (p := ⟨gb166, 0, none⟩) (Kd.R_types HO163.out BK166.out (by decide)) (fun _ hk => hk.2) (.slice Ao19 t161.length co19)) (fun _ hk => hk.2) (.string t164)) (fun _ hk => hk.2) (.int .i64 t165)) (fun _ h_ => h_.1))) hb); have n2_ := AM (Kd.R_lower (Kd.R_new' ho23 (Kd.R_lt (by (with_reducible repeat (first | apply Kd.R_alloc | apply Kd.R_drewN | apply Kd.R_drew)); exact (Kd.R_mono (Kd.R_far (p := ⟨gb166, 2, none⟩) (Kd.R_far (p := ⟨gb166, 1, none⟩) (Kd.R_far (p := ⟨gb166, 0, none⟩) (Kd.R_types HO_3.out BK166.out (by decide)) (fun _ hk => hk.2) (.slice Ao19 t161.length co19)) (fun _ hk => hk.2) (.string t164)) (fun _ hk => hk.2) (.int .i64 t165)) (fun _ h_ => h_.1))))) (below_size bel_)); have n3_ := AM (blk_below (g := gb151) (o := .cells #[.slice A0_0 l0_0.length c0_0, .string a0_1, .int .i64 a0_2] 39 (0, 0)) bka_ hb); have n4_ := AM (blk_below (g := gb166) (o := .cells #[.slice Ao19 t161.length co19, .string t164, .int .i64 t165] 39 (0, 0)) bka_ hb); have n5_ := AM (below_step bel_ hb); clear HO_3; clear HO163; clear BK151; clear BK166; clear HB; have HO_3 := n0_; have HO163 := n1_; have HO169 := n2_; have BK151 := n3_; have BK166 := n4_; have HB := n5_; clear n0_ n1_ n2_ n3_ n4_ n5_; clear hb ho23))
              go_loopg [7, 8] k2 (fun kq v7 v8 w' => ∃ (x7_3 : List Int) (x8_3 : Int), v8 = .int .i64 x8_3 ∧ Aside0 (spec_l05End.l2 kq x7_3 x8_3 t161 t164 t165 = some r) ∧ Aside0 (kq ≤ k2) ∧ Aside0 (Kd.R (Kd.int .u8) 5 w' w.heap.size (fun _ => True) v7 x7_3) ∧ Aside0 (Kd.R (Kd.int .i64) 2 w' w.heap.size (fun _ => True) (.slice Ao19 t161.length co19) t161) ∧ Aside0 (w'.heap[gb151]? = some (.cells #[(.slice A0_0 l0_0.length c0_0), .string a0_1, .int .i64 a0_2] 39 (0, 0))) ∧ Aside0 (w'.heap[gb166]? = some (.cells #[(.slice Ao19 t161.length co19), .string t164, .int .i64 t165] 39 (0, 0))) ∧ Aside0 (Below w.heap.size w w'))
              case atStart => exact ⟨(y167), (0), (by first | rfl | (simp; done) | (simp [*]; done)), H', ⟨Nat.le_refl _⟩, ⟨by (with_reducible repeat (first | apply Kd.R_alloc | apply Kd.R_drewN | apply Kd.R_drew)); exact Kd.R_mono HO169.out (fun _ hk => trivial)⟩, ⟨ro_ HO163.out⟩, ⟨bk_ BK151.out⟩, ⟨bk_ BK166.out⟩, ⟨bel_⟩⟩
              case round =>
                clear H'
                try clear c1
                try clear hcv1
                try clear c2
                try clear p2
                try clear c5
                try clear c5b0
                try clear c5b1
                try clear p6
                try clear c8
                try clear c8b0
                try clear c10
                try clear c10b0
                try clear c10b1
                try clear c12
                try clear hcv16
                try clear c20
                try clear hcz15_0
                try clear hcz15_1
                try clear hcz15_2
                try clear hcz21_0
                try clear hcz21_1
                try clear hcz21_2
                try clear hcz6_0
                try clear hcz6_1
                try clear hcz6_2
                try clear hfz15_0
                try clear hfz15_1
                try clear hfz15_2
                try clear hfz21_0
                try clear hfz21_1
                try clear hfz21_2
                try clear hfz6_0
                try clear hfz6_1
                try clear hfz6_2
                try clear p2
                try clear p6
                obtain ⟨x7_3, x8_3, rfl, HA, HK3, HO_7, HO_167000, BK151, BK166, HB⟩ := hrel
                cases gk with
                | zero => exact absurd HA.out (by simp [spec_l05End.l2])
                | succ k3 =>
                  have H := HA.out
                  clear HA
                  simp only [spec_l05End.l2] at H
                  by_cases c24 : x8_3 < 8
                  · rw [if_pos c24] at H
                    have c24b0 : decide (x8_3 < 8) = true := decide_eq_true c24
                    clear c24
                    by_cases c25 : 0 ≤ x8_3
                    · rw [if_pos c25] at H
                      have c25b0 : decide (0 ≤ x8_3) = true := decide_eq_true c25
                      clear c25
                      by_cases c26 : x8_3 < (t161.length : Int)
                      · rw [if_pos c26] at H
                        have c26b0 : decide (x8_3 < (t161.length : Int)) = true := decide_eq_true c26
                        clear c26
                        obtain ⟨y171, hy171⟩ : ∃ y_ : List Int, y_ = (([((rd t161 x8_3) / 16777216) % 256, ((rd t161 x8_3) / 65536) % 256, ((rd t161 x8_3) / 256) % 256, (rd t161 x8_3) % 256] : List Int)) := ⟨_, rfl⟩
                        replace H : (if x7_3.length + y171.length < 140737488355328 then (spec_l05End.l2 k3 (x7_3 ++ y171) (wrap64 (x8_3 + 1)) t161 t164 t165) else (none)) = some r := by first | (rw [hy171]; with_reducible exact H) | (have H2_ := (Option.bind_some _ _).symm.trans H; rw [hy171]; with_reducible exact H2_) | (have H2_ := (Option.bind_some _ _).symm.trans H; with_reducible exact H2_) | with_reducible exact H | (rw [hy171]; exact H) | exact H
                        have Ny171 := AM hy171
                        clear hy171
                        by_cases c27 : x7_3.length + y171.length < 140737488355328
                        · rw [if_pos c27] at H
                          have LMc27 := AM c27
                          clear c27
                          obtain ⟨y174, hy174⟩ : ∃ y_ : List Int, y_ = (x7_3 ++ y171) := ⟨_, rfl⟩
                          replace H : (spec_l05End.l2 k3 y174 (wrap64 (x8_3 + 1)) t161 t164 t165) = some r := by first | (rw [hy174]; with_reducible exact H) | (have H2_ := (Option.bind_some _ _).symm.trans H; rw [hy174]; with_reducible exact H2_) | (have H2_ := (Option.bind_some _ _).symm.trans H; with_reducible exact H2_) | with_reducible exact H | (rw [hy174]; exact H) | exact H
                          have Ny174 := AM hy174
                          clear hy174
                          have H' := AM H
                          clear H
                          have hnb28 := NB166_151.out
                          have hnc28 := NB151_166.out
                          have hcz29_0 : wr.cell? ⟨gb166, 0, none⟩ = some (.slice Ao19 t161.length co19) := (blk_cell BK166.out 0).trans rfl
                          have hcz29_1 : wr.cell? ⟨gb166, 1, none⟩ = some (.string t164) := (blk_cell BK166.out 1).trans rfl
                          have hcz29_2 : wr.cell? ⟨gb166, 2, none⟩ = some (.int .i64 t165) := (blk_cell BK166.out 2).trans rfl
                          have hfz29_0 := blk_frozen BK166.out 0
                          have hfz29_1 := blk_frozen BK166.out 1
                          have hfz29_2 := blk_frozen BK166.out 2
                          have p170 : 0 ≤ (x8_3 : Int) := of_decide_eq_true (by first | (with_reducible assumption) | assumption)
                          have q170 : x8_3 < (t161.length : Int) := of_decide_eq_true (by first | (with_reducible assumption) | assumption)
                          obtain ⟨ad170, e170, hx170_0⟩ := Kd.at_int (Kd.R_reads' HO_167000.out).2.2 x8_3 p170 q170
                          cases e170
                          replace p170 := eq_true p170
                          replace q170 := eq_true q170
                          go_wp2_with (first | ((with_reducible refine gate_dst (N := 63) rfl ?_); refine Kd.R_lit (Kd.int .u8) _ 5 ?hgL3 (N := 63) ?hdL3 (xs := ([((rd t161 x8_3) / 16777216) % 256, ((rd t161 x8_3) / 65536) % 256, ((rd t161 x8_3) / 256) % 256, (rd t161 x8_3) % 256] : List Int)) (inner := [.int .u8 (((rd t161 x8_3) / 16777216) % 256), .int .u8 (((rd t161 x8_3) / 65536) % 256), .int .u8 (((rd t161 x8_3) / 256) % 256), .int .u8 ((rd t161 x8_3) % 256)]) (ok := fun _ => True) (okp := fun _ => True) ?hrL3 ?hpL3 (fun _ hk => hk) trivial (Below.refl _ _) (Nat.le_refl _) (by simp) ?_; (case hdL3 => rfl); (case hgL3 => rfl); (case hrL3 => first | (go_simp; done) | (go_simp; rfl)); (case hpL3 => exact (Reps.one (show Kd.M (Kd.int .u8) _ _ _ (((rd t161 x8_3) / 16777216) % 256) [.int .u8 (((rd t161 x8_3) / 16777216) % 256)] from rfl) (Reps.one (show Kd.M (Kd.int .u8) _ _ _ (((rd t161 x8_3) / 65536) % 256) [.int .u8 (((rd t161 x8_3) / 65536) % 256)] from rfl) (Reps.one (show Kd.M (Kd.int .u8) _ _ _ (((rd t161 x8_3) / 256) % 256) [.int .u8 (((rd t161 x8_3) / 256) % 256)] from rfl) (Reps.one (show Kd.M (Kd.int .u8) _ _ _ ((rd t161 x8_3) % 256) [.int .u8 ((rd t161 x8_3) % 256)] from rfl) (Reps.none _ _)))))); intro v172 w30 ho31 hb hg_ hnew_; clear hg_ hnew_; (first | rw [← Ny171.out] at ho31 | (simp only [Int.reduceToNat] at ho31; rw [← Ny171.out] at ho31)); replace HO_167000 := AM (Kd.R_below (ro_ HO_167000.out) hb); have HO173 := AM (Kd.R_lower (Kd.R_new' ho31 (Kd.R_lt (ro_ HO_7.out))) (below_size bel_)); replace HO_7 := AM (Kd.R_elder' (ro_ HO_7.out) (Kd.R_base ho31) hb); replace BK151 := AM (blk_below (g := gb151) (o := .cells #[.slice A0_0 l0_0.length c0_0, .string a0_1, .int .i64 a0_2] 39 (0, 0)) (bk_ BK151.out) hb); replace BK166 := AM (blk_below (g := gb166) (o := .cells #[.slice (some ad170) t161.length co19, .string t164, .int .i64 t165] 39 (0, 0)) (bk_ BK166.out) hb); replace HB := AM (below_step bel_ hb); clear hb ho31; obtain ⟨Ao33, co33, eo33⟩ := Kd.R_slice HO173.out; subst eo33) | ((with_reducible refine gate_builtin (b := .append) (xs := #[.tmp 51, .tmp 63]) rfl ?_); at_builtin; refine Kd.R_append_rows (Kd.int .u8) (w0 := w) w.heap.size rfl (.tmp 51) (.tmp 63) 29 5 (.int .u8 0) 1 rfl Tryd.underlying29 info5 rfl (by decide) (by omega) u7 x7_3 y171 _ _ _ (fun k_ => some k_ ≠ (.slice Ao33 y171.length co33 : Value).ownBlock) (fun _ => False) rfl rfl ?aO ?aR (fun _ _ h => h) (fun _ h => h.elim) ?aF ?aB ?aS ?aL ?_; (case aR => repeat (first | exact (Kd.R_reads' HO173.out).2.2 | (with_reducible refine Kd.C_alloc ?_ _) | (with_reducible refine Kd.C_drewN ?_ _) | (with_reducible refine Kd.C_drew ?_))); (case aB => exact bel_); (case aF => exact (fun k_ hk => Kd.fresh' (Kd.R_lt (ro_ HO173.out)) k_ hk)); (case aO => exact (by (with_reducible repeat (first | apply Kd.R_alloc | apply Kd.R_drewN | apply Kd.R_drew)); exact Kd.R_mono HO_7.out (fun _ hk => hk.2))); (case aS => exact (below_size bel_)); (case aL => have := LMc27.out; omega); intro v175 w32 ho hb hg hat; rw [← Ny174.out] at ho; have n0_ := AM (Kd.R_over' (ro_ HO_167000.out) (Kd.R_typed (ro_ HO_7.out)) (by decide) hg); have n1_ := AM (blk_grown (g := gb151) (o := .cells #[.slice A0_0 l0_0.length c0_0, .string a0_1, .int .i64 a0_2] 39 (0, 0)) (bk_ BK151.out) hg (Kd.R_ne HO_7.out BK151.out (by decide))); have n2_ := AM (blk_grown (g := gb166) (o := .cells #[.slice (some ad170) t161.length co19, .string t164, .int .i64 t165] 39 (0, 0)) (bk_ BK166.out) hg (Kd.R_ne HO_7.out BK166.out (by decide))); have n3_ := AM (Kd.R_after (ok := (fun _ => True)) (ro_ HO173.out) hg hat); have n4_ := AM hb; have n5_ := AM ho; clear HO_167000; clear BK151; clear BK166; clear HO173; clear HB; clear HO_7; have HO_167000 := n0_; have BK151 := n1_; have BK166 := n2_; have HO173 := n3_; have HB := n4_; have HO176 := n5_; clear n0_ n1_ n2_ n3_ n4_ n5_; clear ho hb hg hat))
                          go_roundg k3
                          case measure => have := HK1.out; have := HK2.out; have := HK3.out; omega
                          case rel => exact ⟨(y174), (wrap64 (x8_3 + 1)), (by first | rfl | (simp; done) | (simp [*]; done)), H', ⟨by have := HK1.out; have := HK2.out; have := HK3.out; omega⟩, ⟨by (with_reducible repeat (first | apply Kd.R_alloc | apply Kd.R_drewN | apply Kd.R_drew)); exact Kd.R_mono HO176.out (fun _ hk => trivial)⟩, ⟨ro_ HO_167000.out⟩, ⟨bk_ BK151.out⟩, ⟨bk_ BK166.out⟩, ⟨bel_⟩⟩
                        · rw [if_neg c27] at H
                          exact absurd H (by simp)
                      · rw [if_neg c26] at H
                        exact absurd H (by simp)
                    · rw [if_neg c25] at H
                      exact absurd H (by simp)
                  · rw [if_neg c24] at H
                    have c24b0 : decide (x8_3 < 8) = false := decide_eq_false c24
                    clear c24
                    obtain rfl := Option.some.inj H
                    have hcv34 := own_string (P := Tryd.prog) Tryd.underlying29 Tryd.underlying5 Tryd.underlying9 (Kd.own_of_R HO_7.out)
                    go_wp2
                    go_ret
                    exact ⟨ri_, bel_⟩
      · rw [if_neg c5] at H
        have c5b0 : ((Int.tmod (wrap64 (a0_2 + (x3_1.length : Int))) 64) == 56) = false := beq_eq_false_iff_ne.mpr c5
        try have c5b9 : (((Int.tmod ((a0_2 + (x3_1.length : Int))) 64) == 56)) = false := (by have hw0 : wrap64 (a0_2 + (x3_1.length : Int)) = a0_2 + (x3_1.length : Int) := (by unfold wrap64; omega); have z_ := c5b0; simp only [hw0] at z_; exact z_)
        have c5b1 : ((Int.tmod (wrap64 (a0_2 + (x3_1.length : Int))) 64) != 56) = true := bne_iff_ne.mpr c5
        by_cases c35 : x3_1.length < 140737488355328
        · rw [if_pos c35] at H
          have LMc35 := AM c35
          clear c35
          obtain ⟨y155, hy155⟩ : ∃ y_ : List Int, y_ = (x3_1 ++ [0]) := ⟨_, rfl⟩
          replace H : (spec_l05End.l0 k1 y155 l0_0 a0_1 a0_2) = some r := by first | (rw [hy155]; with_reducible exact H) | (have H2_ := (Option.bind_some _ _).symm.trans H; rw [hy155]; with_reducible exact H2_) | (have H2_ := (Option.bind_some _ _).symm.trans H; with_reducible exact H2_) | with_reducible exact H | (rw [hy155]; exact H) | exact H
          have Ny155 := AM hy155
          clear hy155
          have H' := AM H
          clear H
          have hcz36_0 : wr.cell? ⟨gb151, 0, none⟩ = some (.slice A0_0 l0_0.length c0_0) := (blk_cell BK151.out 0).trans rfl
          have hcz36_1 : wr.cell? ⟨gb151, 1, none⟩ = some (.string a0_1) := (blk_cell BK151.out 1).trans rfl
          have hcz36_2 : wr.cell? ⟨gb151, 2, none⟩ = some (.int .i64 a0_2) := (blk_cell BK151.out 2).trans rfl
          have hfz36_0 := blk_frozen BK151.out 0
          have hfz36_1 := blk_frozen BK151.out 1
          have hfz36_2 := blk_frozen BK151.out 2
          obtain ⟨Ao37, co37, eo37⟩ := Kd.R_slice HO_3.out
          subst eo37
          go_wp2_with (first | ((with_reducible refine gate_builtin (b := .append) (xs := #[.tmp 18, .tmp 19]) rfl ?_); at_builtin; refine Kd.R_append (Kd.int .u8) (w0 := w) w.heap.size rfl (.tmp 18) (.tmp 19) 29 5 (.int .u8 0) 1 rfl Tryd.underlying29 info5 rfl (by decide) (by omega) (.slice Ao37 x3_1.length co37) x3_1 0 [.int .u8 0] (fun _ => True) (fun _ => False) rfl rfl ?aP (fun _ hk => hk.elim) ?aF ?aO ?aB ?aS ?aL ?_; (case aP => exact rfl); (case aB => exact bel_); (case aF => exact (fun _ _ => trivial)); (case aO => exact (ro_ HO_3.out)); (case aS => exact (below_size bel_)); (case aL => have := LMc35.out; omega); intro v156 w38 ho hb hg hat; rw [← Ny155.out] at ho; have n0_ := AM (blk_grown (g := gb151) (o := .cells #[.slice A0_0 l0_0.length c0_0, .string a0_1, .int .i64 a0_2] 39 (0, 0)) (bk_ BK151.out) hg (Kd.R_ne HO_3.out BK151.out (by decide))); have n1_ := AM hb; have n2_ := AM ho; clear BK151; clear HB; clear HO_3; have BK151 := n0_; have HB := n1_; have HO157 := n2_; clear n0_ n1_ n2_; clear ho hb hg hat))
          go_roundg k1
          case measure => have := HK1.out; omega
          case rel => exact ⟨(y155), H', ⟨by have := HK1.out; omega⟩, ⟨ro_ HO157.out⟩, ⟨bk_ BK151.out⟩, ⟨bel_⟩⟩
        · rw [if_neg c35] at H
          exact absurd H (by simp)

/-! ### spec_l05Start: function 100 -/
def spec_l05Start.f  : Option (List Int) := some (([1779033703, 3144134277, 1013904242, 2773480762, 1359893119, 2600822924, 528734635, 1541459225] : List Int))
set_option maxHeartbeats 8000000 in
set_option maxRecDepth 100000 in
theorem spec_l05Start.calls  (r : List Int) (w : World) (h : spec_l05Start.f  = some r) :
    Calls Tryd.prog 100 #[] w fun e w' => ∃ v0_ : Value, e = .returned (v0_) ∧ Kd.R (Kd.int .i64) 2 w' w.heap.size (fun _ => True) v0_ r ∧ Below w.heap.size w w' := by
  have HB := AM (Below.refl w.heap.size w)
  have H : (some (([1779033703, 3144134277, 1013904242, 2773480762, 1359893119, 2600822924, 528734635, 1541459225] : List Int))) = some r := h
  clear h
  obtain ⟨y177, hy177⟩ : ∃ y_ : List Int, y_ = (([1779033703, 3144134277, 1013904242, 2773480762, 1359893119, 2600822924, 528734635, 1541459225] : List Int)) := ⟨_, rfl⟩
  replace H : (some y177) = some r := by first | (rw [hy177]; with_reducible exact H) | (have H2_ := (Option.bind_some _ _).symm.trans H; rw [hy177]; with_reducible exact H2_) | (have H2_ := (Option.bind_some _ _).symm.trans H; with_reducible exact H2_) | with_reducible exact H | (rw [hy177]; exact H) | exact H
  have Ny177 := AM hy177
  clear hy177
  obtain rfl := Option.some.inj H
  go_enter Tryd.func100, Tryd.ntmps100
  go_wp2_with (first | ((with_reducible refine gate_dst (N := 1) rfl ?_); refine Kd.R_lit (Kd.int .i64) _ 2 ?hgL4 (N := 1) ?hdL4 (xs := ([1779033703, 3144134277, 1013904242, 2773480762, 1359893119, 2600822924, 528734635, 1541459225] : List Int)) (inner := [.int .i64 1779033703, .int .i64 3144134277, .int .i64 1013904242, .int .i64 2773480762, .int .i64 1359893119, .int .i64 2600822924, .int .i64 528734635, .int .i64 1541459225]) (ok := fun _ => True) (okp := fun _ => True) ?hrL4 ?hpL4 (fun _ hk => hk) trivial (Below.refl _ _) (Nat.le_refl _) (by simp) ?_; (case hdL4 => rfl); (case hgL4 => rfl); (case hrL4 => first | (go_simp; done) | (go_simp; rfl)); (case hpL4 => exact (Reps.one (show Kd.M (Kd.int .i64) _ _ _ 1779033703 [.int .i64 1779033703] from rfl) (Reps.one (show Kd.M (Kd.int .i64) _ _ _ 3144134277 [.int .i64 3144134277] from rfl) (Reps.one (show Kd.M (Kd.int .i64) _ _ _ 1013904242 [.int .i64 1013904242] from rfl) (Reps.one (show Kd.M (Kd.int .i64) _ _ _ 2773480762 [.int .i64 2773480762] from rfl) (Reps.one (show Kd.M (Kd.int .i64) _ _ _ 1359893119 [.int .i64 1359893119] from rfl) (Reps.one (show Kd.M (Kd.int .i64) _ _ _ 2600822924 [.int .i64 2600822924] from rfl) (Reps.one (show Kd.M (Kd.int .i64) _ _ _ 528734635 [.int .i64 528734635] from rfl) (Reps.one (show Kd.M (Kd.int .i64) _ _ _ 1541459225 [.int .i64 1541459225] from rfl) (Reps.none _ _)))))))))); intro v178 w1 ho2 hb hg_ hnew_; clear hg_ hnew_; (first | rw [← Ny177.out] at ho2 | (simp only [Int.reduceToNat] at ho2; rw [← Ny177.out] at ho2)); have HO179 := AM (Kd.R_lower ho2 (below_size bel_)); replace HB := AM (below_step bel_ hb); clear hb ho2))
  go_ret
  exact ⟨_, ri_, ro_ HO179.out, bel_⟩

/-! ### spec_HashBegin: function 57 -/
def spec_HashBegin.f  : Option (List Int × ByteArray × Int) := (spec_l05Start.f).bind fun t181 => (some (t181, (⟨#[]⟩ : ByteArray), 0))
set_option maxHeartbeats 8000000 in
set_option maxRecDepth 100000 in
theorem spec_HashBegin.calls  (r1 : List Int) (r2 : ByteArray) (r3 : Int) (w : World) (h : spec_HashBegin.f  = some (r1, r2, r3)) :
    Calls Tryd.prog 57 #[] w fun e w' => ∃ v0_ : Value, e = .returned (.agg #[v0_, .string r2, .int .i64 r3]) ∧ Kd.R (Kd.int .i64) 2 w' w.heap.size (fun _ => True) v0_ r1 ∧ Below w.heap.size w w' := by
  have hu39 := Tryd.underlying39
  have HB := AM (Below.refl w.heap.size w)
  have H : ((spec_l05Start.f).bind fun t181 => (some (t181, (⟨#[]⟩ : ByteArray), 0))) = some (r1, r2, r3) := h
  clear h
  obtain ⟨t181, A1, H⟩ := OB H
  try dsimp only at H
  replace A1 := AM A1
  simp only [Option.some.injEq, Prod.mk.injEq] at H
  obtain ⟨rfl, rfl, rfl⟩ := H
  go_enter Tryd.func57, Tryd.ntmps57
  go_wp2_with (first | ((with_reducible refine gate_dst (N := 0) rfl ?_); refine be_ 0 #[.slice none 0 0, .string (⟨#[]⟩ : ByteArray), .int .i64 0] 39 ?_; intro gb180 hg w2 hbox hb; have BK180 := AM hbox; have GW180 := AM ((by rw [hg]; exact (below_size bel_) : w.heap.size ≤ gb180)); have GE180 := AM ((by rw [hg]; exact (below_size bel_) : w.heap.size ≤ gb180)); replace HB := AM (below_step bel_ hb); clear hb hbox hg) | ((with_reducible refine gate_callee (f := 100) rfl ?_); refine gl_ (some 1) Tryd.func100 #[] ?_; (with_reducible refine (spec_l05Start.calls  t181 _ A1.out).mono ?_); rintro e w3 ⟨v182, rfl, ho0, hb⟩; refine ⟨_, rfl, ?_⟩; have HO183 := AM (Kd.R_lower ho0 (below_size bel_)); replace BK180 := AM (blk_below (g := gb180) (o := .cells #[.slice none 0 0, .string (⟨#[]⟩ : ByteArray), .int .i64 0] 39 (0, 0)) (bk_ BK180.out) hb); replace HB := AM (below_step bel_ hb); (try clear hb); (try clear hb2); (try clear hk); (try clear hi); (try clear ho0); obtain ⟨Ao4, co4, eo4⟩ := Kd.R_slice HO183.out; subst eo4; have hcz5_0 : w3.cell? ⟨gb180, 0, none⟩ = some (.slice none 0 0) := (blk_cell BK180.out 0).trans rfl; have hcz5_1 : w3.cell? ⟨gb180, 1, none⟩ = some (.string (⟨#[]⟩ : ByteArray)) := (blk_cell BK180.out 1).trans rfl; have hcz5_2 : w3.cell? ⟨gb180, 2, none⟩ = some (.int .i64 0) := (blk_cell BK180.out 2).trans rfl; have hfz5_0 := blk_frozen BK180.out 0; have hfz5_1 := blk_frozen BK180.out 1; have hfz5_2 := blk_frozen BK180.out 2))
  refine bodyPost_ret (results_cell_row rfl _ _ gb180 39 #[.slice Ao4 t181.length co4, .string (⟨#[]⟩ : ByteArray), .int .i64 0] (0, 0) _ rfl bka_ Tryd.underlying39 rfl (by kernel_rfl)) rfl ?_
  exact ⟨_, ri_, by (with_reducible repeat (first | apply Kd.R_alloc | apply Kd.R_drewN | apply Kd.R_drew)); exact Kd.R_mono (Kd.R_far (p := ⟨gb180, 2, none⟩) (Kd.R_far (p := ⟨gb180, 1, none⟩) (Kd.R_far (p := ⟨gb180, 0, none⟩) (Kd.R_types HO183.out BK180.out (by decide)) (fun _ hk => hk.2) (.slice Ao4 t181.length co4)) (fun _ hk => hk.2) (.string (⟨#[]⟩ : ByteArray))) (fun _ hk => hk.2) (.int .i64 0)) (fun _ hk => trivial), bel_⟩

/-! ### spec_Digest: function 21 -/
def spec_Digest.f (k : Nat) (a0 : ByteArray) : Option (ByteArray) := if (a0.size : Int) > 20000 then (some (⟨#[]⟩ : ByteArray)) else ((spec_HashBegin.f).bind fun bt184 => ((spec_l05More.f k bt184.1 bt184.2.1 bt184.2.2 a0).bind fun bt189 => ((spec_l05End.f k bt189.1 bt189.2.1 bt189.2.2).bind fun t194 => (some t194))))
theorem spec_Digest.mono : ∀ a0 k, LeO (spec_Digest.f k a0) (spec_Digest.f (k + 1) a0) := by
  intro a0 k
  unfold spec_Digest.f
  repeat' first
      | (with_reducible exact spec_l05End.mono _ _ _ _)
      | (with_reducible exact spec_l05More.mono _ _ _ _ _)
      | (with_reducible exact LeO.refl _)
      | (with_reducible exact LeO.none _)
      | (with_reducible refine LeO.ite ?_ ?_)
      | (with_reducible refine LeO.bind ?_ (fun _ => ?_))
      | exact spec_l05End.mono _ _ _ _
      | exact spec_l05More.mono _ _ _ _ _
      | exact LeO.none _
      | refine LeO.ite ?_ ?_
      | refine LeO.bind ?_ (fun _ => ?_)
set_option maxHeartbeats 8000000 in
set_option maxRecDepth 100000 in
theorem spec_Digest.calls (k : Nat) (a0 : ByteArray) (r : ByteArray) (w : World) (h : spec_Digest.f k a0 = some r) :
    Calls Tryd.prog 21 #[.string a0] w fun e w' => e = .returned (.string r) ∧ Below w.heap.size w w' := by
  have HB := AM (Below.refl w.heap.size w)
  have H : (if (a0.size : Int) > 20000 then (some (⟨#[]⟩ : ByteArray)) else ((spec_HashBegin.f).bind fun bt184 => ((spec_l05More.f k bt184.1 bt184.2.1 bt184.2.2 a0).bind fun bt189 => ((spec_l05End.f k bt189.1 bt189.2.1 bt189.2.2).bind fun t194 => (some t194))))) = some r := h
  clear h
  by_cases c2 : (a0.size : Int) > 20000
  · rw [if_pos c2] at H
    have c2b0 : decide (20000 < (a0.size : Int)) = true := decide_eq_true c2
    have c2b1 : decide (20000 < a0.size) = true := decide_eq_true (by omega)
    clear c2
    obtain rfl := Option.some.inj H
    go_enter Tryd.func21, Tryd.ntmps21
    go_wp2
    go_ret
    exact ⟨ri_, bel_⟩
  · rw [if_neg c2] at H
    have c2b0 : decide (20000 < (a0.size : Int)) = false := decide_eq_false c2
    have c2b1 : decide (20000 < a0.size) = false := decide_eq_false (by omega)
    clear c2
    obtain ⟨⟨t184, t187, t188⟩, A3, H⟩ := OB H
    try dsimp only at H
    replace A3 := AM A3
    obtain ⟨⟨t189, t192, t193⟩, A4, H⟩ := OB H
    try dsimp only at H
    replace A4 := AM A4
    obtain ⟨t194, A5, H⟩ := OB H
    try dsimp only at H
    replace A5 := AM A5
    obtain rfl := Option.some.inj H
    go_enter Tryd.func21, Tryd.ntmps21
    go_wp2_with (first | ((with_reducible refine gate_callee (f := 57) rfl ?_); refine gl_ (some 6) Tryd.func57 #[] ?_; (with_reducible refine (spec_HashBegin.calls  t184 t187 t188 _ A3.out).mono ?_); rintro e w6 ⟨v185, rfl, ho0, hb⟩; refine ⟨_, rfl, ?_⟩; have HO186 := AM (Kd.R_lower ho0 (below_size bel_)); replace HB := AM (below_step bel_ hb); (try clear hb); (try clear hb2); (try clear hk); (try clear hi); (try clear ho0); obtain ⟨Ao7, co7, eo7⟩ := Kd.R_slice HO186.out; subst eo7) | ((with_reducible refine gate_callee (f := 56) rfl ?_); refine gl_ (some 8) Tryd.func56 #[.agg #[.slice Ao7 t184.length co7, .string t187, .int .i64 t188], .string a0] ?_; (with_reducible refine (spec_l05More.calls k _ _ t184 t187 t188 a0 t189 t192 t193 _ ?side1 ?side2 A4.out).mono ?_); (case side1 => repeat (first | exact (Kd.R_reads' HO186.out).2.2 | (with_reducible refine Kd.C_alloc ?_ _) | (with_reducible refine Kd.C_drewN ?_ _) | (with_reducible refine Kd.C_drew ?_))); (case side2 => exact (Kd.R_reads' HO186.out).2.1); rintro e w8 ⟨v190, rfl, ho0, hb⟩; refine ⟨_, rfl, ?_⟩; have HO191 := AM (Kd.R_lower (Kd.R_new' ho0 (Kd.R_lt (ro_ HO186.out))) (below_size bel_)); replace HO186 := AM (Kd.R_elder' (ro_ HO186.out) (Kd.R_base ho0) hb); replace HB := AM (below_step bel_ hb); (try clear hb); (try clear hb2); (try clear hk); (try clear hi); (try clear ho0); obtain ⟨Ao9, co9, eo9⟩ := Kd.R_slice HO191.out; subst eo9) | ((with_reducible refine gate_callee (f := 55) rfl ?_); refine gl_ (some 9) Tryd.func55 #[.agg #[.slice Ao9 t189.length co9, .string t192, .int .i64 t193]] ?_; (with_reducible refine (spec_l05End.calls k _ _ t189 t192 t193 t194 _ ?side1 ?side2 A5.out).mono ?_); (case side1 => repeat (first | exact (Kd.R_reads' HO191.out).2.2 | (with_reducible refine Kd.C_alloc ?_ _) | (with_reducible refine Kd.C_drewN ?_ _) | (with_reducible refine Kd.C_drew ?_))); (case side2 => exact (Kd.R_reads' HO191.out).2.1); rintro e w10 ⟨rfl, hb⟩; refine ⟨_, rfl, ?_⟩; replace HO186 := AM (Kd.R_below (ro_ HO186.out) hb); replace HO191 := AM (Kd.R_below (ro_ HO191.out) hb); replace HB := AM (below_step bel_ hb); (try clear hb); (try clear hb2); (try clear hk); (try clear hi)))
    go_ret
    exact ⟨ri_, bel_⟩

-- NOT PRINTED: function 58 (impl_numbers)

/-! ### impl_HashBegin: function 22 -/
def impl_HashBegin.f : Option (List Int × ByteArray × Int) := some (Hand.firstL, ⟨#[]⟩, 0)
theorem impl_HashBegin.calls (r1 : List Int) (r2 : ByteArray) (r3 : Int) (w : World) (h : impl_HashBegin.f = some (r1, r2, r3)) (hL : Hand.LaidG w := by first | exact hL | exact Hand.LaidG.below hL bel_) :
    Calls Tryd.prog 22 #[] w fun e w' => ∃ v0_ : Value, e = .returned (.agg #[v0_, .string r2, .int .i64 r3]) ∧ Kd.R (Kd.int .i64) 2 w' w.heap.size (fun _ => True) v0_ r1 ∧ Below w.heap.size w w' := by
  unfold impl_HashBegin.f at h
  simp only [Option.some.injEq, Prod.mk.injEq] at h
  obtain ⟨rfl, rfl, rfl⟩ := h
  exact Hand.hbegin_x w hL

/-! ### laws_lwAt: function 23 -/
def laws_lwAt.f (l0 : List Int) (a1 : Int) (a2 : Int) : Option (Int) := if a2 ≤ 1 then (some 0) else (if (l0.length : Int) = 0 then (some 0) else (if 0 ≤ (Int.tmod a1 (l0.length : Int)) then (if (Int.tmod a1 (l0.length : Int)) < (l0.length : Int) then (if a2 = 0 then (none) else (some (Int.tmod (wrap64 (rd l0 (Int.tmod a1 (l0.length : Int)))) a2))) else (none)) else (none)))
set_option maxHeartbeats 8000000 in
set_option maxRecDepth 100000 in
theorem laws_lwAt.calls (A0 : Option Addr) (c0 : Nat) (l0 : List Int) (a1 : Int) (a2 : Int) (r : Int) (w : World) (hr0 : Kd.C (Kd.int .u8) w A0 l0.length l0) (hc0 : l0.length ≤ c0) (h : laws_lwAt.f l0 a1 a2 = some r) :
    Calls Tryd.prog 23 #[.slice A0 l0.length c0, .int .i64 a1, .int .i64 a2] w fun e w' => e = .returned (.int .i64 r) ∧ Drawn0 w w' := by
  have HR0 := AM hr0
  have HC0 := AM hc0
  clear hr0 hc0
  have H : (if a2 ≤ 1 then (some 0) else (if (l0.length : Int) = 0 then (some 0) else (if 0 ≤ (Int.tmod a1 (l0.length : Int)) then (if (Int.tmod a1 (l0.length : Int)) < (l0.length : Int) then (if a2 = 0 then (none) else (some (Int.tmod (wrap64 (rd l0 (Int.tmod a1 (l0.length : Int)))) a2))) else (none)) else (none)))) = some r := h
  clear h
  by_cases c4 : a2 ≤ 1
  · rw [if_pos c4] at H
    have c4b0 : decide (a2 ≤ 1) = true := decide_eq_true c4
    clear c4
    obtain rfl := Option.some.inj H
    go_enter Tryd.func23, Tryd.ntmps23
    go_wp2
    go_ret
    exact ⟨by first | rfl | (simp; done) | (simp [*]; done), by repeat (first | exact Drawn0.refl _ | apply Drawn0.step)⟩
  · rw [if_neg c4] at H
    have c4b0 : decide (a2 ≤ 1) = false := decide_eq_false c4
    clear c4
    by_cases c5 : (l0.length : Int) = 0
    · rw [if_pos c5] at H
      have c5b0 : ((l0.length : Int) == 0) = true := beq_iff_eq.mpr c5
      have c5b1 : ((l0.length : Int) != 0) = false := bne_eq_false_iff_eq.mpr c5
      clear c5
      obtain rfl := Option.some.inj H
      go_enter Tryd.func23, Tryd.ntmps23
      go_wp2
      go_ret
      exact ⟨by first | rfl | (simp; done) | (simp [*]; done), by repeat (first | exact Drawn0.refl _ | apply Drawn0.step)⟩
    · rw [if_neg c5] at H
      have c5b0 : ((l0.length : Int) == 0) = false := beq_eq_false_iff_ne.mpr c5
      have c5b1 : ((l0.length : Int) != 0) = true := bne_iff_ne.mpr c5
      have c5b2 : ¬ (l0 = []) := fun h_ => c5 (by rw [h_]; rfl)
      obtain ⟨ji6, hji6⟩ : ∃ j_ : Int, (Int.tmod a1 (l0.length : Int)) = j_ := ⟨_, rfl⟩
      replace H : (if 0 ≤ (ji6) then (if (ji6) < (l0.length : Int) then (if a2 = 0 then (none) else (some (Int.tmod (wrap64 (rd l0 (ji6))) a2))) else (none)) else (none)) = some r := by first | (rw [hji6] at H; exact H) | (simp only [hji6] at H ⊢; exact H)
      by_cases c7 : 0 ≤ (ji6)
      · rw [if_pos c7] at H
        have c7b0 : decide (0 ≤ (ji6)) = true := decide_eq_true c7
        clear c7
        by_cases c8 : (ji6) < (l0.length : Int)
        · rw [if_pos c8] at H
          have c8b0 : decide ((ji6) < (l0.length : Int)) = true := decide_eq_true c8
          clear c8
          by_cases c9 : a2 = 0
          · rw [if_pos c9] at H
            exact absurd H (by simp)
          · rw [if_neg c9] at H
            have c9b0 : (a2 == 0) = false := beq_eq_false_iff_ne.mpr c9
            have c9b1 : (a2 != 0) = true := bne_iff_ne.mpr c9
            obtain rfl := Option.some.inj H
            have p195 : 0 ≤ ((ji6) : Int) := of_decide_eq_true (by first | (with_reducible assumption) | assumption)
            have q195 : (ji6) < (l0.length : Int) := of_decide_eq_true (by first | (with_reducible assumption) | assumption)
            obtain ⟨ad195, e195, hx195_0⟩ := Kd.at_int HR0.out (ji6) p195 q195
            cases e195
            replace p195 := eq_true p195
            replace q195 := eq_true q195
            go_enter Tryd.func23, Tryd.ntmps23
            go_wp2
            go_ret
            exact ⟨by first | rfl | (simp; done) | (simp only [← hji6] <;> (first | rfl | simp)) | (simp [*]; done), by repeat (first | exact Drawn0.refl _ | apply Drawn0.step)⟩
        · rw [if_neg c8] at H
          exact absurd H (by simp)
      · rw [if_neg c7] at H
        exact absurd H (by simp)

/-! ### impl_size_int64: function 62 -/
def impl_size_int64.f (l0 : List Int) : Option (Int) := some (l0.length : Int)
set_option maxHeartbeats 8000000 in
set_option maxRecDepth 100000 in
theorem impl_size_int64.calls (A0 : Option Addr) (c0 : Nat) (l0 : List Int) (r : Int) (w : World) (hr0 : Kd.C (Kd.int .i64) w A0 l0.length l0) (hc0 : l0.length ≤ c0) (h : impl_size_int64.f l0 = some r) :
    Calls Tryd.prog 62 #[.slice A0 l0.length c0] w fun e w' => e = .returned (.int .i64 r) ∧ Drawn0 w w' := by
  have HR0 := AM hr0
  have HC0 := AM hc0
  clear hr0 hc0
  have H : (some (l0.length : Int)) = some r := h
  clear h
  obtain rfl := Option.some.inj H
  go_enter Tryd.func62, Tryd.ntmps62
  go_wp2
  go_ret
  exact ⟨by first | rfl | (simp; done) | (simp [*]; done), by repeat (first | exact Drawn0.refl _ | apply Drawn0.step)⟩

-- NOT PRINTED: function 102 (slices_IndexFunc_int64_int64)

-- NOT PRINTED: function 63 (slices_ContainsFunc_int64_int64)

/-! ### impl_within: function 65 -/
def impl_within.f (a0 : Int) (a1 : Int) (a2 : Int) : Option (Bool) := if a0 ≥ a1 then (some (decide (a0 ≤ a2))) else (some false)
set_option maxHeartbeats 8000000 in
set_option maxRecDepth 100000 in
theorem impl_within.calls (a0 : Int) (a1 : Int) (a2 : Int) (r : Bool) (w : World) (h : impl_within.f a0 a1 a2 = some r) :
    Calls Tryd.prog 65 #[.int .i64 a0, .int .i64 a1, .int .i64 a2] w fun e w' => e = .returned (.bool r) ∧ Drawn0 w w' := by
  have H : (if a0 ≥ a1 then (some (decide (a0 ≤ a2))) else (some false)) = some r := h
  clear h
  by_cases c4 : a0 ≥ a1
  · rw [if_pos c4] at H
    have c4b0 : decide (a1 ≤ a0) = true := decide_eq_true c4
    clear c4
    obtain rfl := Option.some.inj H
    go_enter Tryd.func65, Tryd.ntmps65
    go_wp2
    go_ret
    exact ⟨by first | rfl | (simp; done) | (simp [*]; done), by repeat (first | exact Drawn0.refl _ | apply Drawn0.step)⟩
  · rw [if_neg c4] at H
    have c4b0 : decide (a1 ≤ a0) = false := decide_eq_false c4
    clear c4
    obtain rfl := Option.some.inj H
    go_enter Tryd.func65, Tryd.ntmps65
    go_wp2
    go_ret
    exact ⟨by first | rfl | (simp; done) | (simp [*]; done), by repeat (first | exact Drawn0.refl _ | apply Drawn0.step)⟩

/-! ### impl_HashRight: function 25 -/
instance impl_HashRight.dec (l : List Int) (r : ByteArray) (n : Int) : Decidable (Hand.HOk l r n) := by
  unfold Hand.HOk Hand.Ok8
  infer_instance
def impl_HashRight.f (l0_0 : List Int) (a0_1 : ByteArray) (a0_2 : Int) : Option (Bool) := if Hand.HOk l0_0 a0_1 a0_2 then some true else none
theorem impl_HashRight.calls (A0_0 : Option Addr) (c0_0 : Nat) (l0_0 : List Int) (a0_1 : ByteArray) (a0_2 : Int) (r : Bool) (w : World) (hr0_0 : Kd.C (Kd.int .i64) w A0_0 l0_0.length l0_0) (hc0_0 : l0_0.length ≤ c0_0) (h : impl_HashRight.f l0_0 a0_1 a0_2 = some r) :
    Calls Tryd.prog 25 #[.agg #[.slice A0_0 l0_0.length c0_0, .string a0_1, .int .i64 a0_2]] w fun e w' => e = .returned (.bool r) ∧ Below w.heap.size w w' := by
  unfold impl_HashRight.f at h
  by_cases hc : Hand.HOk l0_0 a0_1 a0_2
  · rw [if_pos hc] at h
    obtain rfl := Option.some.inj h
    have h8 := hc.1.1
    rw [h8] at hr0_0 ⊢
    exact Hand.hright_x A0_0 c0_0 l0_0 a0_1 a0_2 hc w hr0_0
  · rw [if_neg hc] at h
    cases h

-- NOT PRINTED: function 59 (slices_Clone_int64_int64)

-- NOT PRINTED: function 60 (impl_Hash_state)

/-! ### impl_HashMore: function 24 -/
def impl_HashMore.f (l0_0 : List Int) (a0_1 : ByteArray) (a0_2 : Int) (a1 : ByteArray) : Option (List Int × ByteArray × Int) := if Hand.HOk l0_0 a0_1 a0_2 ∧ a1.size ≤ 20000 ∧ a0_2 + (a1.size : Int) ≤ 1099511627776 then some (Hand.eat l0_0 (a0_1 ++ a1) ((a0_1 ++ a1).size / 64), (a0_1 ++ a1).extract (64 * ((a0_1 ++ a1).size / 64)) (a0_1 ++ a1).size, a0_2 + (a1.size : Int)) else none
theorem impl_HashMore.calls (A0_0 : Option Addr) (c0_0 : Nat) (l0_0 : List Int) (a0_1 : ByteArray) (a0_2 : Int) (a1 : ByteArray) (r1 : List Int) (r2 : ByteArray) (r3 : Int) (w : World) (hr0_0 : Kd.C (Kd.int .i64) w A0_0 l0_0.length l0_0) (hc0_0 : l0_0.length ≤ c0_0) (h : impl_HashMore.f l0_0 a0_1 a0_2 a1 = some (r1, r2, r3)) (hL : Hand.LaidG w := by first | exact hL | exact Hand.LaidG.below hL bel_) :
    Calls Tryd.prog 24 #[.agg #[.slice A0_0 l0_0.length c0_0, .string a0_1, .int .i64 a0_2], .string a1] w fun e w' => ∃ v0_ : Value, e = .returned (.agg #[v0_, .string r2, .int .i64 r3]) ∧ Kd.R (Kd.int .i64) 2 w' w.heap.size (fun _ => True) v0_ r1 ∧ Below w.heap.size w w' := by
  unfold impl_HashMore.f at h
  by_cases hc : Hand.HOk l0_0 a0_1 a0_2 ∧ a1.size ≤ 20000 ∧ a0_2 + (a1.size : Int) ≤ 1099511627776
  · rw [if_pos hc] at h
    simp only [Option.some.injEq, Prod.mk.injEq] at h
    obtain ⟨rfl, rfl, rfl⟩ := h
    have h8 := hc.1.1.1
    rw [h8] at hr0_0 ⊢
    exact Hand.hmore_q A0_0 c0_0 a0_1 a0_2 a1 _ _ _ _ _ _ _ _ l0_0 (Hand.eight_lit l0_0 h8).symm (a0_1 ++ a1) rfl (a0_2 + (a1.size : Int)) rfl hc.1 hc.2.1 hc.2.2 w hL hr0_0
  · rw [if_neg hc] at h
    cases h

/-! ### impl_HashEnd: function 26 -/
def impl_HashEnd.f (l0_0 : List Int) (a0_1 : ByteArray) (a0_2 : Int) : Option (ByteArray) := if Hand.HOk l0_0 a0_1 a0_2 then some (Hand.summedL l0_0 a0_1 a0_2) else none
theorem impl_HashEnd.calls (A0_0 : Option Addr) (c0_0 : Nat) (l0_0 : List Int) (a0_1 : ByteArray) (a0_2 : Int) (r : ByteArray) (w : World) (hr0_0 : Kd.C (Kd.int .i64) w A0_0 l0_0.length l0_0) (hc0_0 : l0_0.length ≤ c0_0) (h : impl_HashEnd.f l0_0 a0_1 a0_2 = some r) (hL : Hand.LaidG w := by first | exact hL | exact Hand.LaidG.below hL bel_) :
    Calls Tryd.prog 26 #[.agg #[.slice A0_0 l0_0.length c0_0, .string a0_1, .int .i64 a0_2]] w fun e w' => e = .returned (.string r) ∧ Below w.heap.size w w' := by
  unfold impl_HashEnd.f at h
  by_cases hc : Hand.HOk l0_0 a0_1 a0_2
  · rw [if_pos hc] at h
    obtain rfl := Option.some.inj h
    have h8 := hc.1.1
    rw [h8] at hr0_0 ⊢
    exact Hand.hend_x A0_0 c0_0 a0_1 a0_2 _ _ _ _ _ _ _ _ l0_0 (Hand.eight_lit l0_0 h8).symm hc w hL hr0_0
  · rw [if_neg hc] at h
    cases h

end Go.Proofs.YtfffdndeccipnaaDoor.PFnHash
