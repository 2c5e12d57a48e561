/- Functions of the law FnFrame: the print's, with walks of this session's own. No statement is proved here. -/
import Derived.WalkLawsBesides
import Derived.Test.YtddapeieolfolaaDoorVRegFnFrame
-- A program of this session wrote this text: a changed copy of the kit print, with given functions.
import Derived.Test.YtddapeieolfolaaDoorPFnFramex0
import Derived.Test.YtddapeieolfolaaDoorPFnFramex3
import Derived.Test.YtddapeieolfolaaDoorPFnFramex4
import Derived.Test.YtddapeieolfolaaDoorPFnFramex5
namespace Go.Proofs.YtddapeieolfolaaDoor.PFnFrame
open Go.RowKit Go.Proofs.YtddapeieolfolaaDoorW.PrintWords Go.Proofs.YtddapeieolfolaaDoorW.PrintLast Go.Proofs.YtddapeieolfolaaDoorW.PrintMore Go.Proofs.YtddapeieolfolaaDoor.Reg Go.Proofs.YtddapeieolfolaaDoor.Aut
attribute [local go_sem] max2_int min2_int max_two min_two max_three min_three max_four min_four   -- for this text's walks alone
set_option linter.unusedVariables false
set_option linter.unusedSimpArgs false

/-! ### spec_l05End: function 66 -/
mutual
def spec_l05End.l0 : Nat → List Int → List Int → ByteArray → Int → Option (ByteArray)
  | 0, _, _, _, _ => none
  | k + 1, x3, x137000, x137001, x137002 => if (Int.tmod (wrap64 (x137002 + (x3.length : Int))) 64) = 56 then (spec_l05End.l1 k x3 (IntKind.u64.wrap (wrap64 (8 * x137002))) 56 x137000 x137001 x137002) else (if x3.length < 140737488355328 then (spec_l05End.l0 k (x3 ++ [0]) x137000 x137001 x137002) else (none))
def spec_l05End.l1 : Nat → List Int → Int → Int → List Int → ByteArray → Int → Option (ByteArray)
  | 0, _, _, _, _, _, _ => none
  | k + 1, x3, x4, x5, x137000, x137001, x137002 => if x5 ≥ 0 then (if 0 ≤ (IntKind.u64.wrap (x5)) then (if x3.length < 140737488355328 then (spec_l05End.l1 k (x3 ++ [(shr .u64 x4 (IntKind.u64.wrap (x5))) % 256]) x4 (wrap64 (x5 - 8)) x137000 x137001 x137002) else (none)) else (none)) else ((spec_l05More.f k x137000 x137001 x137002 (strOfNums x3)).bind fun bt146 => (spec_l05End.l2 k (([] : List Int)) 0 bt146.1 bt146.2.1 bt146.2.2))
def spec_l05End.l2 : Nat → List Int → Int → List Int → ByteArray → Int → Option (ByteArray)
  | 0, _, _, _, _, _ => none
  | k + 1, x7, x8, x152000, x152001, x152002 => if x8 < 8 then (if 0 ≤ x8 then (if x8 < (x152000.length : Int) then ((some (([((rd x152000 x8) / 16777216) % 256, ((rd x152000 x8) / 65536) % 256, ((rd x152000 x8) / 256) % 256, (rd x152000 x8) % 256] : List Int) : List Int)).bind fun y156 => (if x7.length + y156.length < 140737488355328 then (spec_l05End.l2 k (x7 ++ y156) (wrap64 (x8 + 1)) x152000 x152001 x152002) else (none))) else (none)) else (none)) else (some (strOfNums x7))
end
def spec_l05End.f (k : Nat) (l0_0 : List Int) (a0_1 : ByteArray) (a0_2 : Int) : Option (ByteArray) := spec_l05End.l0 k (([128] : List Int)) l0_0 a0_1 a0_2
theorem spec_l05End.mono_l : ∀ k, (∀ y0 y1 y2 y3, LeO (spec_l05End.l0 k y0 y1 y2 y3) (spec_l05End.l0 (k + 1) y0 y1 y2 y3)) ∧ (∀ y0 y1 y2 y3 y4 y5, LeO (spec_l05End.l1 k y0 y1 y2 y3 y4 y5) (spec_l05End.l1 (k + 1) y0 y1 y2 y3 y4 y5)) ∧ (∀ y0 y1 y2 y3 y4, LeO (spec_l05End.l2 k y0 y1 y2 y3 y4) (spec_l05End.l2 (k + 1) y0 y1 y2 y3 y4))
  | 0 => ⟨fun _ _ _ _ r h => by simp [spec_l05End.l0] at h, fun _ _ _ _ _ _ r h => by simp [spec_l05End.l1] at h, fun _ _ _ _ _ r h => by simp [spec_l05End.l2] at h⟩
  | k + 1 => by
    obtain ⟨ih0, ih1, ih2⟩ := spec_l05End.mono_l k
    refine ⟨?_, ?_, ?_⟩
    · intro y0 y1 y2 y3
      unfold spec_l05End.l0
      repeat' first
      | (with_reducible exact ih0 _ _ _ _)
      | (with_reducible exact ih1 _ _ _ _ _ _)
      | (with_reducible exact ih2 _ _ _ _ _)
      | (with_reducible exact spec_l05More.mono _ _ _ _ _)
      | (with_reducible exact LeO.refl _)
      | (with_reducible exact LeO.none _)
      | (with_reducible refine LeO.ite ?_ ?_)
      | (with_reducible refine LeO.bind ?_ (fun _ => ?_))
      | exact ih0 _ _ _ _
      | exact ih1 _ _ _ _ _ _
      | exact ih2 _ _ _ _ _
      | exact spec_l05More.mono _ _ _ _ _
      | exact LeO.none _
      | refine LeO.ite ?_ ?_
      | refine LeO.bind ?_ (fun _ => ?_)
    · intro y0 y1 y2 y3 y4 y5
      unfold spec_l05End.l1
      repeat' first
      | (with_reducible exact ih0 _ _ _ _)
      | (with_reducible exact ih1 _ _ _ _ _ _)
      | (with_reducible exact ih2 _ _ _ _ _)
      | (with_reducible exact spec_l05More.mono _ _ _ _ _)
      | (with_reducible exact LeO.refl _)
      | (with_reducible exact LeO.none _)
      | (with_reducible refine LeO.ite ?_ ?_)
      | (with_reducible refine LeO.bind ?_ (fun _ => ?_))
      | exact ih0 _ _ _ _
      | exact ih1 _ _ _ _ _ _
      | exact ih2 _ _ _ _ _
      | exact spec_l05More.mono _ _ _ _ _
      | exact LeO.none _
      | refine LeO.ite ?_ ?_
      | refine LeO.bind ?_ (fun _ => ?_)
    · intro y0 y1 y2 y3 y4
      unfold spec_l05End.l2
      repeat' first
      | (with_reducible exact ih0 _ _ _ _)
      | (with_reducible exact ih1 _ _ _ _ _ _)
      | (with_reducible exact ih2 _ _ _ _ _)
      | (with_reducible exact spec_l05More.mono _ _ _ _ _)
      | (with_reducible exact LeO.refl _)
      | (with_reducible exact LeO.none _)
      | (with_reducible refine LeO.ite ?_ ?_)
      | (with_reducible refine LeO.bind ?_ (fun _ => ?_))
      | exact ih0 _ _ _ _
      | exact ih1 _ _ _ _ _ _
      | exact ih2 _ _ _ _ _
      | exact spec_l05More.mono _ _ _ _ _
      | exact LeO.none _
      | refine LeO.ite ?_ ?_
      | refine LeO.bind ?_ (fun _ => ?_)
theorem spec_l05End.mono : ∀ a0 a1 a2 k, LeO (spec_l05End.f k a0 a1 a2) (spec_l05End.f (k + 1) a0 a1 a2) := by
  intro a0 a1 a2 k
  obtain ⟨ih0, ih1, ih2⟩ := spec_l05End.mono_l k
  unfold spec_l05End.f
  repeat' first
      | (with_reducible exact ih0 _ _ _ _)
      | (with_reducible exact ih1 _ _ _ _ _ _)
      | (with_reducible exact ih2 _ _ _ _ _)
      | (with_reducible exact spec_l05More.mono _ _ _ _ _)
      | (with_reducible exact LeO.refl _)
      | (with_reducible exact LeO.none _)
      | (with_reducible refine LeO.ite ?_ ?_)
      | (with_reducible refine LeO.bind ?_ (fun _ => ?_))
      | exact ih0 _ _ _ _
      | exact ih1 _ _ _ _ _ _
      | exact ih2 _ _ _ _ _
      | exact spec_l05More.mono _ _ _ _ _
      | exact LeO.none _
      | refine LeO.ite ?_ ?_
      | refine LeO.bind ?_ (fun _ => ?_)
set_option maxHeartbeats 8000000 in
set_option maxRecDepth 100000 in
theorem spec_l05End.calls (k : Nat) (A0_0 : Option Addr) (c0_0 : Nat) (l0_0 : List Int) (a0_1 : ByteArray) (a0_2 : Int) (r : ByteArray) (w : World) (hr0_0 : Kd.C (Kd.int .i64) w A0_0 l0_0.length l0_0) (hc0_0 : l0_0.length ≤ c0_0) (h : spec_l05End.f k l0_0 a0_1 a0_2 = some r) :
    Calls Tryd.prog 66 #[.agg #[.slice A0_0 l0_0.length c0_0, .string a0_1, .int .i64 a0_2]] w fun e w' => e = .returned (.string r) ∧ Below w.heap.size w w' := by
  have hu42 := Tryd.underlying42
  have HR0_0 := AM hr0_0
  have HC0_0 := AM hc0_0
  clear hr0_0 hc0_0
  have HB := AM (Below.refl w.heap.size w)
  have H : (spec_l05End.l0 k (([128] : List Int)) l0_0 a0_1 a0_2) = some r := h
  clear h
  obtain ⟨y137, hy137⟩ : ∃ y_ : List Int, y_ = (([128] : List Int)) := ⟨_, rfl⟩
  replace H : (spec_l05End.l0 k y137 l0_0 a0_1 a0_2) = some r := by first | (rw [hy137]; with_reducible exact H) | (have H2_ := (Option.bind_some _ _).symm.trans H; rw [hy137]; with_reducible exact H2_) | (have H2_ := (Option.bind_some _ _).symm.trans H; with_reducible exact H2_) | with_reducible exact H | (rw [hy137]; exact H) | exact H
  have Ny137 := AM hy137
  clear hy137
  have H' := AM H
  clear H
  go_enter Tryd.func66, Tryd.ntmps66
  go_wp2_with (first | ((with_reducible refine gate_dst (N := 1) rfl ?_); refine be_ 1 #[.slice A0_0 l0_0.length c0_0, .string a0_1, .int .i64 a0_2] 42 ?_; intro gb136 hg w2 hbox hb; have BK136 := AM hbox; have GW136 := AM ((by rw [hg]; exact (below_size bel_) : w.heap.size ≤ gb136)); have GE136 := AM ((by rw [hg]; exact (below_size bel_) : w.heap.size ≤ gb136)); replace HB := AM (below_step bel_ hb); clear hb hbox hg) | ((with_reducible refine gate_dst (N := 10) rfl ?_); refine Kd.R_lit (Kd.int .u8) _ 5 ?hgL1 (N := 10) ?hdL1 (xs := ([128] : List Int)) (inner := [.int .u8 128]) (ok := fun _ => True) (okp := fun _ => True) ?hrL1 ?hpL1 (fun _ hk => hk) trivial (Below.refl _ _) (Nat.le_refl _) (by simp) ?_; (case hdL1 => rfl); (case hgL1 => rfl); (case hrL1 => first | (go_simp; done) | (go_simp; rfl)); (case hpL1 => exact (Reps.one (show Kd.M (Kd.int .u8) _ _ _ 128 [.int .u8 128] from rfl) (Reps.none _ _))); intro v138 w3 ho4 hb hg_ hnew_; clear hg_ hnew_; (first | rw [← Ny137.out] at ho4 | (simp only [Int.reduceToNat] at ho4; rw [← Ny137.out] at ho4)); have HO139 := AM (Kd.R_lower ho4 (below_size bel_)); replace BK136 := AM (blk_below (g := gb136) (o := .cells #[.slice A0_0 l0_0.length c0_0, .string a0_1, .int .i64 a0_2] 42 (0, 0)) (bk_ BK136.out) hb); replace HB := AM (below_step bel_ hb); clear hb ho4))
  go_loopg [3] k (fun kq v3 w' => ∃ (x3_1 : List Int), Aside0 (spec_l05End.l0 kq x3_1 l0_0 a0_1 a0_2 = some r) ∧ Aside0 (kq ≤ k) ∧ Aside0 (Kd.R (Kd.int .u8) 5 w' w.heap.size (fun _ => True) v3 x3_1) ∧ Aside0 (w'.heap[gb136]? = some (.cells #[(.slice A0_0 l0_0.length c0_0), .string a0_1, .int .i64 a0_2] 42 (0, 0))) ∧ Aside0 (Below w.heap.size w w'))
  case atStart => exact ⟨(y137), H', ⟨Nat.le_refl _⟩, ⟨ro_ HO139.out⟩, ⟨bk_ BK136.out⟩, ⟨bel_⟩⟩
  case round =>
    clear H'
    (try clear p2)
    obtain ⟨x3_1, HA, HK1, HO_3, BK136, HB⟩ := hrel
    cases gk with
    | zero => exact absurd HA.out (by simp [spec_l05End.l0])
    | succ k1 =>
      have H := HA.out
      clear HA
      simp only [spec_l05End.l0] at H
      by_cases c5 : (Int.tmod (wrap64 (a0_2 + (x3_1.length : Int))) 64) = 56
      · rw [if_pos c5] at H
        have c5b0 : ((Int.tmod (wrap64 (a0_2 + (x3_1.length : Int))) 64) == 56) = true := beq_iff_eq.mpr c5
        try have c5b9 : (((Int.tmod ((a0_2 + (x3_1.length : Int))) 64) == 56)) = true := (by have hw0 : wrap64 (a0_2 + (x3_1.length : Int)) = a0_2 + (x3_1.length : Int) := (by unfold wrap64; omega); have z_ := c5b0; simp only [hw0] at z_; exact z_)
        have c5b1 : ((Int.tmod (wrap64 (a0_2 + (x3_1.length : Int))) 64) != 56) = false := bne_eq_false_iff_eq.mpr c5
        clear c5
        have H' := AM H
        clear H
        have hcz6_0 : wr.cell? ⟨gb136, 0, none⟩ = some (.slice A0_0 l0_0.length c0_0) := (blk_cell BK136.out 0).trans rfl
        have hcz6_1 : wr.cell? ⟨gb136, 1, none⟩ = some (.string a0_1) := (blk_cell BK136.out 1).trans rfl
        have hcz6_2 : wr.cell? ⟨gb136, 2, none⟩ = some (.int .i64 a0_2) := (blk_cell BK136.out 2).trans rfl
        have hfz6_0 := blk_frozen BK136.out 0
        have hfz6_1 := blk_frozen BK136.out 1
        have hfz6_2 := blk_frozen BK136.out 2
        obtain ⟨Ao7, co7, eo7⟩ := Kd.R_slice HO_3.out
        subst eo7
        go_wp2
        go_loopg [3, 5] k1 (fun kq v3 v5 w' => ∃ (x3_2 : List Int) (x5_2 : Int), v5 = .int .i64 x5_2 ∧ Aside0 (spec_l05End.l1 kq x3_2 (IntKind.u64.wrap (wrap64 (8 * a0_2))) x5_2 l0_0 a0_1 a0_2 = some r) ∧ Aside0 (kq ≤ k1) ∧ Aside0 (Kd.R (Kd.int .u8) 5 w' w.heap.size (fun _ => True) v3 x3_2) ∧ Aside0 (w'.heap[gb136]? = some (.cells #[(.slice A0_0 l0_0.length c0_0), .string a0_1, .int .i64 a0_2] 42 (0, 0))) ∧ Aside0 (Below w.heap.size w w'))
        case atStart => exact ⟨(x3_1), (56), (by first | rfl | (simp; done) | (simp [*]; done)), H', ⟨Nat.le_refl _⟩, ⟨ro_ HO_3.out⟩, ⟨bk_ BK136.out⟩, ⟨bel_⟩⟩
        case round =>
          clear H'
          (try clear p2); (try clear c5); (try clear c5b0); (try clear c5b1); (try clear c6); (try clear p6); (try clear hcz6_0); (try clear hcz6_1); (try clear hcz6_2); (try clear hfz6_0); (try clear hfz6_1); (try clear hfz6_2); (try clear p2)
          obtain ⟨x3_2, x5_2, rfl, HA, HK2, HO_3, BK136, HB⟩ := hrel
          cases gk with
          | zero => exact absurd HA.out (by simp [spec_l05End.l1])
          | succ k2 =>
            have H := HA.out
            clear HA
            simp only [spec_l05End.l1] at H
            by_cases c8 : x5_2 ≥ 0
            · rw [if_pos c8] at H
              have c8b0 : decide (0 ≤ x5_2) = true := decide_eq_true c8
              clear c8
              obtain ⟨ji9, hji9⟩ : ∃ j_ : Int, (IntKind.u64.wrap (x5_2)) = j_ := ⟨_, rfl⟩
              replace H : (if 0 ≤ (ji9) then (if x3_2.length < 140737488355328 then (spec_l05End.l1 k2 (x3_2 ++ [(shr .u64 (IntKind.u64.wrap (wrap64 (8 * a0_2))) (ji9)) % 256]) (IntKind.u64.wrap (wrap64 (8 * a0_2))) (wrap64 (x5_2 - 8)) l0_0 a0_1 a0_2) else (none)) else (none)) = some r := by first | (rw [hji9] at H; exact H) | (simp only [hji9] at H ⊢; exact H)
              by_cases c10 : 0 ≤ (ji9)
              · rw [if_pos c10] at H
                have c10b0 := eq_true c10
                have c10b1 : decide (0 ≤ (ji9)) = true := decide_eq_true c10
                clear c10
                obtain ⟨ji11, hji11⟩ : ∃ j_ : Int, (shr .u64 (IntKind.u64.wrap (wrap64 (8 * a0_2))) (ji9)) = j_ := ⟨_, rfl⟩
                replace H : (if x3_2.length < 140737488355328 then (spec_l05End.l1 k2 (x3_2 ++ [(ji11) % 256]) (IntKind.u64.wrap (wrap64 (8 * a0_2))) (wrap64 (x5_2 - 8)) l0_0 a0_1 a0_2) else (none)) = some r := by first | (rw [hji11] at H; exact H) | (simp only [hji11] at H ⊢; exact H)
                have hji11_ : ((IntKind.u64.wrap (wrap64 (8 * a0_2))) / 2 ^ min (ji9).toNat 64) = ji11 := hji11
                have hji11z : (ji9) ≤ 64 → ((IntKind.u64.wrap (wrap64 (8 * a0_2))) / 2 ^ (ji9).toNat) = ji11 := shr_small hji11
                by_cases c12 : x3_2.length < 140737488355328
                · rw [if_pos c12] at H
                  have LMc12 := AM c12
                  clear c12
                  obtain ⟨y143, hy143⟩ : ∃ y_ : List Int, y_ = (x3_2 ++ [(ji11) % 256]) := ⟨_, rfl⟩
                  replace H : (spec_l05End.l1 k2 y143 (IntKind.u64.wrap (wrap64 (8 * a0_2))) (wrap64 (x5_2 - 8)) l0_0 a0_1 a0_2) = some r := by first | (rw [hy143]; with_reducible exact H) | (have H2_ := (Option.bind_some _ _).symm.trans H; rw [hy143]; with_reducible exact H2_) | (have H2_ := (Option.bind_some _ _).symm.trans H; with_reducible exact H2_) | with_reducible exact H | (rw [hy143]; exact H) | exact H
                  have Ny143 := AM hy143
                  clear hy143
                  have H' := AM H
                  clear H
                  go_wp2_with (first | ((with_reducible refine gate_builtin (b := .append) (xs := #[.tmp 29, .tmp 35]) rfl ?_); at_builtin; refine Kd.R_append (Kd.int .u8) (w0 := w) w.heap.size rfl (.tmp 29) (.tmp 35) 38 5 (.int .u8 0) 1 rfl Tryd.underlying38 info5 rfl (by decide) (by omega) u3 x3_2 ((ji11) % 256) [.int .u8 ((ji11) % 256)] (fun _ => True) (fun _ => False) rfl rfl ?aP (fun _ hk => hk.elim) ?aF ?aO ?aB ?aS ?aL ?_; (case aP => exact rfl); (case aB => exact bel_); (case aF => exact (fun _ _ => trivial)); (case aO => exact (ro_ HO_3.out)); (case aS => exact (below_size bel_)); (case aL => have := LMc12.out; omega); intro v144 w13 ho hb hg hat; rw [← Ny143.out] at ho; have n0_ := AM (blk_grown (g := gb136) (o := .cells #[.slice A0_0 l0_0.length c0_0, .string a0_1, .int .i64 a0_2] 42 (0, 0)) (bk_ BK136.out) hg (Kd.R_ne HO_3.out BK136.out (by decide))); have n1_ := AM hb; have n2_ := AM ho; clear BK136; clear HB; clear HO_3; have BK136 := n0_; have HB := n1_; have HO145 := n2_; clear n0_ n1_ n2_; clear ho hb hg hat))
                  go_roundg k2
                  case measure => have := HK1.out; have := HK2.out; omega
                  case rel => exact ⟨(y143), (wrap64 (x5_2 - 8)), (by first | rfl | (simp; done) | (simp [*]; done)), H', ⟨by have := HK1.out; have := HK2.out; omega⟩, ⟨ro_ HO145.out⟩, ⟨bk_ BK136.out⟩, ⟨bel_⟩⟩
                · rw [if_neg c12] at H
                  exact absurd H (by simp)
              · rw [if_neg c10] at H
                exact absurd H (by simp)
            · rw [if_neg c8] at H
              have c8b0 : decide (0 ≤ x5_2) = false := decide_eq_false c8
              clear c8
              obtain ⟨⟨t146, t149, t150⟩, A14, H⟩ := OB H
              try dsimp only at H
              replace A14 := AM A14
              obtain ⟨y152, hy152⟩ : ∃ y_ : List Int, y_ = (([] : List Int)) := ⟨_, rfl⟩
              replace H : (spec_l05End.l2 k2 y152 0 t146 t149 t150) = some r := by first | (rw [hy152]; with_reducible exact H) | (have H2_ := (Option.bind_some _ _).symm.trans H; rw [hy152]; with_reducible exact H2_) | (have H2_ := (Option.bind_some _ _).symm.trans H; with_reducible exact H2_) | with_reducible exact H | (rw [hy152]; exact H) | exact H
              have Ny152 := AM hy152
              clear hy152
              have H' := AM H
              clear H
              have hcz15_0 : wr.cell? ⟨gb136, 0, none⟩ = some (.slice A0_0 l0_0.length c0_0) := (blk_cell BK136.out 0).trans rfl
              have hcz15_1 : wr.cell? ⟨gb136, 1, none⟩ = some (.string a0_1) := (blk_cell BK136.out 1).trans rfl
              have hcz15_2 : wr.cell? ⟨gb136, 2, none⟩ = some (.int .i64 a0_2) := (blk_cell BK136.out 2).trans rfl
              have hfz15_0 := blk_frozen BK136.out 0
              have hfz15_1 := blk_frozen BK136.out 1
              have hfz15_2 := blk_frozen BK136.out 2
              have hcv16 := own_string (P := Tryd.prog) Tryd.underlying38 Tryd.underlying5 Tryd.underlying9 (Kd.own_of_R HO_3.out)
              go_wp2_with (first | ((with_reducible refine gate_callee (f := 67) rfl ?_); refine gl_ (some 40) Tryd.func67 #[.agg #[.slice A0_0 l0_0.length c0_0, .string a0_1, .int .i64 a0_2], .string (strOfNums x3_2)] ?_; (with_reducible refine (spec_l05More.calls k2 _ _ l0_0 a0_1 a0_2 (strOfNums x3_2) t146 t149 t150 _ ?side1 ?side2 A14.out).mono ?_); (case side1 => repeat (first | exact (Kd.C_below HR0_0.out HB.out) | (with_reducible refine Kd.C_alloc ?_ _) | (with_reducible refine Kd.C_drewN ?_ _) | (with_reducible refine Kd.C_drew ?_))); (case side2 => exact HC0_0.out); rintro e w17 ⟨v147, rfl, ho0, hb⟩; refine ⟨_, rfl, ?_⟩; replace HO_3 := AM (Kd.R_below (ro_ HO_3.out) hb); have HO148 := AM (Kd.R_lower ho0 (below_size bel_)); replace BK136 := AM (blk_below (g := gb136) (o := .cells #[.slice A0_0 l0_0.length c0_0, .string a0_1, .int .i64 a0_2] 42 (0, 0)) (bk_ BK136.out) hb); replace HB := AM (below_step bel_ hb); (try clear hb); (try clear hb2); (try clear hk); (try clear hi); (try clear ho0)) | ((with_reducible refine gate_dst (N := 6) rfl ?_); refine be_ 6 #[.slice none 0 0, .string (⟨#[]⟩ : ByteArray), .int .i64 0] 42 ?_; intro gb151 hg w18 hbox hb; replace HO_3 := AM (Kd.R_below (ro_ HO_3.out) hb); replace HO148 := AM (Kd.R_below (ro_ HO148.out) hb); have BK151 := AM hbox; have GW151 := AM ((by rw [hg]; exact (below_size bel_) : w.heap.size ≤ gb151)); have GE151 := AM ((by rw [hg]; exact (below_size bel_) : w.heap.size ≤ gb151)); replace HB := AM (below_step bel_ hb); have NB136_151 := AM ((by rw [hg]; exact Nat.ne_of_lt (blk_lt (g := gb136) (o := .cells #[.slice A0_0 l0_0.length c0_0, .string a0_1, .int .i64 a0_2] 42 (0, 0)) (bk_ BK136.out)) : gb136 ≠ gb151)); have NB151_136 := AM ((by rw [hg]; exact Nat.ne_of_gt (blk_lt (g := gb136) (o := .cells #[.slice A0_0 l0_0.length c0_0, .string a0_1, .int .i64 a0_2] 42 (0, 0)) (bk_ BK136.out)) : gb151 ≠ gb136)); replace BK136 := AM (blk_below (g := gb136) (o := .cells #[.slice A0_0 l0_0.length c0_0, .string a0_1, .int .i64 a0_2] 42 (0, 0)) (bk_ BK136.out) hb); clear hb hbox hg; obtain ⟨Ao19, co19, eo19⟩ := Kd.R_slice HO148.out; subst eo19; have hnb20 := NB151_136.out; have hnc20 := NB136_151.out; have hcz21_0 : w18.cell? ⟨gb151, 0, none⟩ = some (.slice none 0 0) := (blk_cell BK151.out 0).trans rfl; have hcz21_1 : w18.cell? ⟨gb151, 1, none⟩ = some (.string (⟨#[]⟩ : ByteArray)) := (blk_cell BK151.out 1).trans rfl; have hcz21_2 : w18.cell? ⟨gb151, 2, none⟩ = some (.int .i64 0) := (blk_cell BK151.out 2).trans rfl; have hfz21_0 := blk_frozen BK151.out 0; have hfz21_1 := blk_frozen BK151.out 1; have hfz21_2 := blk_frozen BK151.out 2) | ((with_reducible refine gate_dst (N := 41) rfl ?_); refine Kd.R_lit (Kd.int .u8) _ 5 ?hgL2 (N := 41) ?hdL2 (xs := ([] : List Int)) (inner := []) (ok := fun _ => True) (okp := fun _ => True) ?hrL2 ?hpL2 (fun _ hk => hk) trivial (Below.refl _ _) (Nat.le_refl _) (by simp) ?_; (case hdL2 => rfl); (case hgL2 => rfl); (case hrL2 => first | (go_simp; done) | (go_simp; rfl)); (case hpL2 => exact (Reps.none _ _)); intro v153 w22 ho23 hb hg_ hnew_; clear hg_ hnew_; (first | rw [← Ny152.out] at ho23 | (simp only [Int.reduceToNat] at ho23; rw [← Ny152.out] at ho23)); have n0_ := AM (Kd.R_elder' (by (with_reducible repeat (first | apply Kd.R_alloc | apply Kd.R_drewN | apply Kd.R_drew)); exact (Kd.R_mono (Kd.R_far (p := ⟨gb151, 2, none⟩) (Kd.R_far (p := ⟨gb151, 1, none⟩) (Kd.R_far (p := ⟨gb151, 0, none⟩) (Kd.R_types HO_3.out BK151.out (by decide)) (fun _ hk => hk.2) (.slice Ao19 t146.length co19)) (fun _ hk => hk.2) (.string t149)) (fun _ hk => hk.2) (.int .i64 t150)) (fun _ h_ => h_.1))) (Kd.R_base ho23) hb); have n1_ := AM (Kd.R_below (by (with_reducible repeat (first | apply Kd.R_alloc | apply Kd.R_drewN | apply Kd.R_drew)); exact (Kd.R_mono (Kd.R_far (p := ⟨gb151, 2, none⟩) (Kd.R_far (p := ⟨gb151, 1, none⟩) (Kd.R_far (p := ⟨gb151, 0, none⟩) (Kd.R_types HO148.out BK151.out (by decide)) (fun _ hk => hk.2) (.slice Ao19 t146.length co19)) (fun _ hk => hk.2) (.string t149)) (fun _ hk => hk.2) (.int .i64 t150)) (fun _ h_ => h_.1))) hb); have n2_ := AM (Kd.R_lower (Kd.R_new' ho23 (Kd.R_lt (by (with_reducible repeat (first | apply Kd.R_alloc | apply Kd.R_drewN | apply Kd.R_drew)); exact (Kd.R_mono (Kd.R_far (p := ⟨gb151, 2, none⟩) (Kd.R_far (p := ⟨gb151, 1, none⟩) (Kd.R_far (p := ⟨gb151, 0, none⟩) (Kd.R_types HO_3.out BK151.out (by decide)) (fun _ hk => hk.2) (.slice Ao19 t146.length co19)) (fun _ hk => hk.2) (.string t149)) (fun _ hk => hk.2) (.int .i64 t150)) (fun _ h_ => h_.1))))) (below_size bel_)); have n3_ := AM (blk_below (g := gb136) (o := .cells #[.slice A0_0 l0_0.length c0_0, .string a0_1, .int .i64 a0_2] 42 (0, 0)) bka_ hb); have n4_ := AM (blk_below (g := gb151) (o := .cells #[.slice Ao19 t146.length co19, .string t149, .int .i64 t150] 42 (0, 0)) bka_ hb); have n5_ := AM (below_step bel_ hb); clear HO_3; clear HO148; clear BK136; clear BK151; clear HB; have HO_3 := n0_; have HO148 := n1_; have HO154 := n2_; have BK136 := n3_; have BK151 := n4_; have HB := n5_; clear n0_ n1_ n2_ n3_ n4_ n5_; clear hb ho23))
              go_loopg [7, 8] k2 (fun kq v7 v8 w' => ∃ (x7_3 : List Int) (x8_3 : Int), v8 = .int .i64 x8_3 ∧ Aside0 (spec_l05End.l2 kq x7_3 x8_3 t146 t149 t150 = some r) ∧ Aside0 (kq ≤ k2) ∧ Aside0 (Kd.R (Kd.int .u8) 5 w' w.heap.size (fun _ => True) v7 x7_3) ∧ Aside0 (Kd.R (Kd.int .i64) 2 w' w.heap.size (fun _ => True) (.slice Ao19 t146.length co19) t146) ∧ Aside0 (w'.heap[gb136]? = some (.cells #[(.slice A0_0 l0_0.length c0_0), .string a0_1, .int .i64 a0_2] 42 (0, 0))) ∧ Aside0 (w'.heap[gb151]? = some (.cells #[(.slice Ao19 t146.length co19), .string t149, .int .i64 t150] 42 (0, 0))) ∧ Aside0 (Below w.heap.size w w'))
              case atStart => exact ⟨(y152), (0), (by first | rfl | (simp; done) | (simp [*]; done)), H', ⟨Nat.le_refl _⟩, ⟨by (with_reducible repeat (first | apply Kd.R_alloc | apply Kd.R_drewN | apply Kd.R_drew)); exact Kd.R_mono HO154.out (fun _ hk => trivial)⟩, ⟨ro_ HO148.out⟩, ⟨bk_ BK136.out⟩, ⟨bk_ BK151.out⟩, ⟨bel_⟩⟩
              case round =>
                clear H'
                (try clear c1); (try clear hcv1); (try clear c2); (try clear p2); (try clear c5); (try clear c5b0); (try clear c5b1); (try clear c6); (try clear p6); (try clear c8); (try clear c8b0); (try clear c10); (try clear c10b0); (try clear c10b1); (try clear c12); (try clear hcv16); (try clear c20); (try clear hcz15_0); (try clear hcz15_1); (try clear hcz15_2); (try clear hcz21_0); (try clear hcz21_1); (try clear hcz21_2); (try clear hcz6_0); (try clear hcz6_1); (try clear hcz6_2); (try clear hfz15_0); (try clear hfz15_1); (try clear hfz15_2); (try clear hfz21_0); (try clear hfz21_1); (try clear hfz21_2); (try clear hfz6_0); (try clear hfz6_1); (try clear hfz6_2); (try clear p2); (try clear p6)
                obtain ⟨x7_3, x8_3, rfl, HA, HK3, HO_7, HO_152000, BK136, BK151, HB⟩ := hrel
                cases gk with
                | zero => exact absurd HA.out (by simp [spec_l05End.l2])
                | succ k3 =>
                  have H := HA.out
                  clear HA
                  simp only [spec_l05End.l2] at H
                  by_cases c24 : x8_3 < 8
                  · rw [if_pos c24] at H
                    have c24b0 : decide (x8_3 < 8) = true := decide_eq_true c24
                    clear c24
                    by_cases c25 : 0 ≤ x8_3
                    · rw [if_pos c25] at H
                      have c25b0 : decide (0 ≤ x8_3) = true := decide_eq_true c25
                      clear c25
                      by_cases c26 : x8_3 < (t146.length : Int)
                      · rw [if_pos c26] at H
                        have c26b0 : decide (x8_3 < (t146.length : Int)) = true := decide_eq_true c26
                        clear c26
                        obtain ⟨y156, hy156⟩ : ∃ y_ : List Int, y_ = (([((rd t146 x8_3) / 16777216) % 256, ((rd t146 x8_3) / 65536) % 256, ((rd t146 x8_3) / 256) % 256, (rd t146 x8_3) % 256] : List Int)) := ⟨_, rfl⟩
                        replace H : (if x7_3.length + y156.length < 140737488355328 then (spec_l05End.l2 k3 (x7_3 ++ y156) (wrap64 (x8_3 + 1)) t146 t149 t150) else (none)) = some r := by first | (rw [hy156]; with_reducible exact H) | (have H2_ := (Option.bind_some _ _).symm.trans H; rw [hy156]; with_reducible exact H2_) | (have H2_ := (Option.bind_some _ _).symm.trans H; with_reducible exact H2_) | with_reducible exact H | (rw [hy156]; exact H) | exact H
                        have Ny156 := AM hy156
                        clear hy156
                        by_cases c27 : x7_3.length + y156.length < 140737488355328
                        · rw [if_pos c27] at H
                          have LMc27 := AM c27
                          clear c27
                          obtain ⟨y159, hy159⟩ : ∃ y_ : List Int, y_ = (x7_3 ++ y156) := ⟨_, rfl⟩
                          replace H : (spec_l05End.l2 k3 y159 (wrap64 (x8_3 + 1)) t146 t149 t150) = some r := by first | (rw [hy159]; with_reducible exact H) | (have H2_ := (Option.bind_some _ _).symm.trans H; rw [hy159]; with_reducible exact H2_) | (have H2_ := (Option.bind_some _ _).symm.trans H; with_reducible exact H2_) | with_reducible exact H | (rw [hy159]; exact H) | exact H
                          have Ny159 := AM hy159
                          clear hy159
                          have H' := AM H
                          clear H
                          have hnb28 := NB151_136.out
                          have hnc28 := NB136_151.out
                          have hcz29_0 : wr.cell? ⟨gb151, 0, none⟩ = some (.slice Ao19 t146.length co19) := (blk_cell BK151.out 0).trans rfl
                          have hcz29_1 : wr.cell? ⟨gb151, 1, none⟩ = some (.string t149) := (blk_cell BK151.out 1).trans rfl
                          have hcz29_2 : wr.cell? ⟨gb151, 2, none⟩ = some (.int .i64 t150) := (blk_cell BK151.out 2).trans rfl
                          have hfz29_0 := blk_frozen BK151.out 0
                          have hfz29_1 := blk_frozen BK151.out 1
                          have hfz29_2 := blk_frozen BK151.out 2
                          have p155 : 0 ≤ (x8_3 : Int) := of_decide_eq_true (by first | (with_reducible assumption) | assumption)
                          have q155 : x8_3 < (t146.length : Int) := of_decide_eq_true (by first | (with_reducible assumption) | assumption)
                          obtain ⟨ad155, e155, hx155_0⟩ := Kd.at_int (Kd.R_reads' HO_152000.out).2.2 x8_3 p155 q155
                          cases e155
                          replace p155 := eq_true p155
                          replace q155 := eq_true q155
                          go_wp2_with (first | ((with_reducible refine gate_dst (N := 63) rfl ?_); refine Kd.R_lit (Kd.int .u8) _ 5 ?hgL3 (N := 63) ?hdL3 (xs := ([((rd t146 x8_3) / 16777216) % 256, ((rd t146 x8_3) / 65536) % 256, ((rd t146 x8_3) / 256) % 256, (rd t146 x8_3) % 256] : List Int)) (inner := [.int .u8 (((rd t146 x8_3) / 16777216) % 256), .int .u8 (((rd t146 x8_3) / 65536) % 256), .int .u8 (((rd t146 x8_3) / 256) % 256), .int .u8 ((rd t146 x8_3) % 256)]) (ok := fun _ => True) (okp := fun _ => True) ?hrL3 ?hpL3 (fun _ hk => hk) trivial (Below.refl _ _) (Nat.le_refl _) (by simp) ?_; (case hdL3 => rfl); (case hgL3 => rfl); (case hrL3 => first | (go_simp; done) | (go_simp; rfl)); (case hpL3 => exact (Reps.one (show Kd.M (Kd.int .u8) _ _ _ (((rd t146 x8_3) / 16777216) % 256) [.int .u8 (((rd t146 x8_3) / 16777216) % 256)] from rfl) (Reps.one (show Kd.M (Kd.int .u8) _ _ _ (((rd t146 x8_3) / 65536) % 256) [.int .u8 (((rd t146 x8_3) / 65536) % 256)] from rfl) (Reps.one (show Kd.M (Kd.int .u8) _ _ _ (((rd t146 x8_3) / 256) % 256) [.int .u8 (((rd t146 x8_3) / 256) % 256)] from rfl) (Reps.one (show Kd.M (Kd.int .u8) _ _ _ ((rd t146 x8_3) % 256) [.int .u8 ((rd t146 x8_3) % 256)] from rfl) (Reps.none _ _)))))); intro v157 w30 ho31 hb hg_ hnew_; clear hg_ hnew_; (first | rw [← Ny156.out] at ho31 | (simp only [Int.reduceToNat] at ho31; rw [← Ny156.out] at ho31)); replace HO_152000 := AM (Kd.R_below (ro_ HO_152000.out) hb); have HO158 := AM (Kd.R_lower (Kd.R_new' ho31 (Kd.R_lt (ro_ HO_7.out))) (below_size bel_)); replace HO_7 := AM (Kd.R_elder' (ro_ HO_7.out) (Kd.R_base ho31) hb); replace BK136 := AM (blk_below (g := gb136) (o := .cells #[.slice A0_0 l0_0.length c0_0, .string a0_1, .int .i64 a0_2] 42 (0, 0)) (bk_ BK136.out) hb); replace BK151 := AM (blk_below (g := gb151) (o := .cells #[.slice (some ad155) t146.length co19, .string t149, .int .i64 t150] 42 (0, 0)) (bk_ BK151.out) hb); replace HB := AM (below_step bel_ hb); clear hb ho31; obtain ⟨Ao33, co33, eo33⟩ := Kd.R_slice HO158.out; subst eo33) | ((with_reducible refine gate_builtin (b := .append) (xs := #[.tmp 51, .tmp 63]) rfl ?_); at_builtin; refine Kd.R_append_rows (Kd.int .u8) (w0 := w) w.heap.size rfl (.tmp 51) (.tmp 63) 38 5 (.int .u8 0) 1 rfl Tryd.underlying38 info5 rfl (by decide) (by omega) u7 x7_3 y156 _ _ _ (fun k_ => some k_ ≠ (.slice Ao33 y156.length co33 : Value).ownBlock) (fun _ => False) rfl rfl ?aO ?aR (fun _ _ h => h) (fun _ h => h.elim) ?aF ?aB ?aS ?aL ?_; (case aR => repeat (first | exact (Kd.R_reads' HO158.out).2.2 | (with_reducible refine Kd.C_alloc ?_ _) | (with_reducible refine Kd.C_drewN ?_ _) | (with_reducible refine Kd.C_drew ?_))); (case aB => exact bel_); (case aF => exact (fun k_ hk => Kd.fresh' (Kd.R_lt (ro_ HO158.out)) k_ hk)); (case aO => exact (by (with_reducible repeat (first | apply Kd.R_alloc | apply Kd.R_drewN | apply Kd.R_drew)); exact Kd.R_mono HO_7.out (fun _ hk => hk.2))); (case aS => exact (below_size bel_)); (case aL => have := LMc27.out; omega); intro v160 w32 ho hb hg hat; rw [← Ny159.out] at ho; have n0_ := AM (Kd.R_over' (ro_ HO_152000.out) (Kd.R_typed (ro_ HO_7.out)) (by decide) hg); have n1_ := AM (blk_grown (g := gb136) (o := .cells #[.slice A0_0 l0_0.length c0_0, .string a0_1, .int .i64 a0_2] 42 (0, 0)) (bk_ BK136.out) hg (Kd.R_ne HO_7.out BK136.out (by decide))); have n2_ := AM (blk_grown (g := gb151) (o := .cells #[.slice (some ad155) t146.length co19, .string t149, .int .i64 t150] 42 (0, 0)) (bk_ BK151.out) hg (Kd.R_ne HO_7.out BK151.out (by decide))); have n3_ := AM (Kd.R_after (ok := (fun _ => True)) (ro_ HO158.out) hg hat); have n4_ := AM hb; have n5_ := AM ho; clear HO_152000; clear BK136; clear BK151; clear HO158; clear HB; clear HO_7; have HO_152000 := n0_; have BK136 := n1_; have BK151 := n2_; have HO158 := n3_; have HB := n4_; have HO161 := n5_; clear n0_ n1_ n2_ n3_ n4_ n5_; clear ho hb hg hat))
                          go_roundg k3
                          case measure => have := HK1.out; have := HK2.out; have := HK3.out; omega
                          case rel => exact ⟨(y159), (wrap64 (x8_3 + 1)), (by first | rfl | (simp; done) | (simp [*]; done)), H', ⟨by have := HK1.out; have := HK2.out; have := HK3.out; omega⟩, ⟨by (with_reducible repeat (first | apply Kd.R_alloc | apply Kd.R_drewN | apply Kd.R_drew)); exact Kd.R_mono HO161.out (fun _ hk => trivial)⟩, ⟨ro_ HO_152000.out⟩, ⟨bk_ BK136.out⟩, ⟨bk_ BK151.out⟩, ⟨bel_⟩⟩
                        · rw [if_neg c27] at H
                          exact absurd H (by simp)
                      · rw [if_neg c26] at H
                        exact absurd H (by simp)
                    · rw [if_neg c25] at H
                      exact absurd H (by simp)
                  · rw [if_neg c24] at H
                    have c24b0 : decide (x8_3 < 8) = false := decide_eq_false c24
                    clear c24
                    obtain rfl := Option.some.inj H
                    have hcv34 := own_string (P := Tryd.prog) Tryd.underlying38 Tryd.underlying5 Tryd.underlying9 (Kd.own_of_R HO_7.out)
                    go_wp2
                    go_ret
                    exact ⟨ri_, bel_⟩
      · rw [if_neg c5] at H
        have c5b0 : ((Int.tmod (wrap64 (a0_2 + (x3_1.length : Int))) 64) == 56) = false := beq_eq_false_iff_ne.mpr c5
        try have c5b9 : (((Int.tmod ((a0_2 + (x3_1.length : Int))) 64) == 56)) = false := (by have hw0 : wrap64 (a0_2 + (x3_1.length : Int)) = a0_2 + (x3_1.length : Int) := (by unfold wrap64; omega); have z_ := c5b0; simp only [hw0] at z_; exact z_)
        have c5b1 : ((Int.tmod (wrap64 (a0_2 + (x3_1.length : Int))) 64) != 56) = true := bne_iff_ne.mpr c5
        by_cases c35 : x3_1.length < 140737488355328
        · rw [if_pos c35] at H
          have LMc35 := AM c35
          clear c35
          obtain ⟨y140, hy140⟩ : ∃ y_ : List Int, y_ = (x3_1 ++ [0]) := ⟨_, rfl⟩
          replace H : (spec_l05End.l0 k1 y140 l0_0 a0_1 a0_2) = some r := by first | (rw [hy140]; with_reducible exact H) | (have H2_ := (Option.bind_some _ _).symm.trans H; rw [hy140]; with_reducible exact H2_) | (have H2_ := (Option.bind_some _ _).symm.trans H; with_reducible exact H2_) | with_reducible exact H | (rw [hy140]; exact H) | exact H
          have Ny140 := AM hy140
          clear hy140
          have H' := AM H
          clear H
          have hcz36_0 : wr.cell? ⟨gb136, 0, none⟩ = some (.slice A0_0 l0_0.length c0_0) := (blk_cell BK136.out 0).trans rfl
          have hcz36_1 : wr.cell? ⟨gb136, 1, none⟩ = some (.string a0_1) := (blk_cell BK136.out 1).trans rfl
          have hcz36_2 : wr.cell? ⟨gb136, 2, none⟩ = some (.int .i64 a0_2) := (blk_cell BK136.out 2).trans rfl
          have hfz36_0 := blk_frozen BK136.out 0
          have hfz36_1 := blk_frozen BK136.out 1
          have hfz36_2 := blk_frozen BK136.out 2
          obtain ⟨Ao37, co37, eo37⟩ := Kd.R_slice HO_3.out
          subst eo37
          go_wp2_with (first | ((with_reducible refine gate_builtin (b := .append) (xs := #[.tmp 18, .tmp 19]) rfl ?_); at_builtin; refine Kd.R_append (Kd.int .u8) (w0 := w) w.heap.size rfl (.tmp 18) (.tmp 19) 38 5 (.int .u8 0) 1 rfl Tryd.underlying38 info5 rfl (by decide) (by omega) (.slice Ao37 x3_1.length co37) x3_1 0 [.int .u8 0] (fun _ => True) (fun _ => False) rfl rfl ?aP (fun _ hk => hk.elim) ?aF ?aO ?aB ?aS ?aL ?_; (case aP => exact rfl); (case aB => exact bel_); (case aF => exact (fun _ _ => trivial)); (case aO => exact (ro_ HO_3.out)); (case aS => exact (below_size bel_)); (case aL => have := LMc35.out; omega); intro v141 w38 ho hb hg hat; rw [← Ny140.out] at ho; have n0_ := AM (blk_grown (g := gb136) (o := .cells #[.slice A0_0 l0_0.length c0_0, .string a0_1, .int .i64 a0_2] 42 (0, 0)) (bk_ BK136.out) hg (Kd.R_ne HO_3.out BK136.out (by decide))); have n1_ := AM hb; have n2_ := AM ho; clear BK136; clear HB; clear HO_3; have BK136 := n0_; have HB := n1_; have HO142 := n2_; clear n0_ n1_ n2_; clear ho hb hg hat))
          go_roundg k1
          case measure => have := HK1.out; omega
          case rel => exact ⟨(y140), H', ⟨by have := HK1.out; omega⟩, ⟨ro_ HO142.out⟩, ⟨bk_ BK136.out⟩, ⟨bel_⟩⟩
        · rw [if_neg c35] at H
          exact absurd H (by simp)

/-! ### spec_l05Start: function 109 -/
def spec_l05Start.f  : Option (List Int) := some (([1779033703, 3144134277, 1013904242, 2773480762, 1359893119, 2600822924, 528734635, 1541459225] : List Int))
set_option maxHeartbeats 8000000 in
set_option maxRecDepth 100000 in
theorem spec_l05Start.calls  (r : List Int) (w : World) (h : spec_l05Start.f  = some r) :
    Calls Tryd.prog 109 #[] w fun e w' => ∃ v0_ : Value, e = .returned (v0_) ∧ Kd.R (Kd.int .i64) 2 w' w.heap.size (fun _ => True) v0_ r ∧ Below w.heap.size w w' := by
  have HB := AM (Below.refl w.heap.size w)
  have H : (some (([1779033703, 3144134277, 1013904242, 2773480762, 1359893119, 2600822924, 528734635, 1541459225] : List Int))) = some r := h
  clear h
  obtain ⟨y162, hy162⟩ : ∃ y_ : List Int, y_ = (([1779033703, 3144134277, 1013904242, 2773480762, 1359893119, 2600822924, 528734635, 1541459225] : List Int)) := ⟨_, rfl⟩
  replace H : (some y162) = some r := by first | (rw [hy162]; with_reducible exact H) | (have H2_ := (Option.bind_some _ _).symm.trans H; rw [hy162]; with_reducible exact H2_) | (have H2_ := (Option.bind_some _ _).symm.trans H; with_reducible exact H2_) | with_reducible exact H | (rw [hy162]; exact H) | exact H
  have Ny162 := AM hy162
  clear hy162
  obtain rfl := Option.some.inj H
  go_enter Tryd.func109, Tryd.ntmps109
  go_wp2_with (first | ((with_reducible refine gate_dst (N := 1) rfl ?_); refine Kd.R_lit (Kd.int .i64) _ 2 ?hgL4 (N := 1) ?hdL4 (xs := ([1779033703, 3144134277, 1013904242, 2773480762, 1359893119, 2600822924, 528734635, 1541459225] : List Int)) (inner := [.int .i64 1779033703, .int .i64 3144134277, .int .i64 1013904242, .int .i64 2773480762, .int .i64 1359893119, .int .i64 2600822924, .int .i64 528734635, .int .i64 1541459225]) (ok := fun _ => True) (okp := fun _ => True) ?hrL4 ?hpL4 (fun _ hk => hk) trivial (Below.refl _ _) (Nat.le_refl _) (by simp) ?_; (case hdL4 => rfl); (case hgL4 => rfl); (case hrL4 => first | (go_simp; done) | (go_simp; rfl)); (case hpL4 => exact (Reps.one (show Kd.M (Kd.int .i64) _ _ _ 1779033703 [.int .i64 1779033703] from rfl) (Reps.one (show Kd.M (Kd.int .i64) _ _ _ 3144134277 [.int .i64 3144134277] from rfl) (Reps.one (show Kd.M (Kd.int .i64) _ _ _ 1013904242 [.int .i64 1013904242] from rfl) (Reps.one (show Kd.M (Kd.int .i64) _ _ _ 2773480762 [.int .i64 2773480762] from rfl) (Reps.one (show Kd.M (Kd.int .i64) _ _ _ 1359893119 [.int .i64 1359893119] from rfl) (Reps.one (show Kd.M (Kd.int .i64) _ _ _ 2600822924 [.int .i64 2600822924] from rfl) (Reps.one (show Kd.M (Kd.int .i64) _ _ _ 528734635 [.int .i64 528734635] from rfl) (Reps.one (show Kd.M (Kd.int .i64) _ _ _ 1541459225 [.int .i64 1541459225] from rfl) (Reps.none _ _)))))))))); intro v163 w1 ho2 hb hg_ hnew_; clear hg_ hnew_; (first | rw [← Ny162.out] at ho2 | (simp only [Int.reduceToNat] at ho2; rw [← Ny162.out] at ho2)); have HO164 := AM (Kd.R_lower ho2 (below_size bel_)); replace HB := AM (below_step bel_ hb); clear hb ho2))
  go_ret
  exact ⟨_, ri_, ro_ HO164.out, bel_⟩

/-! ### spec_HashBegin: function 68 -/
def spec_HashBegin.f  : Option (List Int × ByteArray × Int) := (spec_l05Start.f).bind fun t166 => (some (t166, (⟨#[]⟩ : ByteArray), 0))
set_option maxHeartbeats 8000000 in
set_option maxRecDepth 100000 in
theorem spec_HashBegin.calls  (r1 : List Int) (r2 : ByteArray) (r3 : Int) (w : World) (h : spec_HashBegin.f  = some (r1, r2, r3)) :
    Calls Tryd.prog 68 #[] w fun e w' => ∃ v0_ : Value, e = .returned (.agg #[v0_, .string r2, .int .i64 r3]) ∧ Kd.R (Kd.int .i64) 2 w' w.heap.size (fun _ => True) v0_ r1 ∧ Below w.heap.size w w' := by
  have hu42 := Tryd.underlying42
  have HB := AM (Below.refl w.heap.size w)
  have H : ((spec_l05Start.f).bind fun t166 => (some (t166, (⟨#[]⟩ : ByteArray), 0))) = some (r1, r2, r3) := h
  clear h
  obtain ⟨t166, A1, H⟩ := OB H
  try dsimp only at H
  replace A1 := AM A1
  simp only [Option.some.injEq, Prod.mk.injEq] at H
  obtain ⟨rfl, rfl, rfl⟩ := H
  go_enter Tryd.func68, Tryd.ntmps68
  go_wp2_with (first | ((with_reducible refine gate_dst (N := 0) rfl ?_); refine be_ 0 #[.slice none 0 0, .string (⟨#[]⟩ : ByteArray), .int .i64 0] 42 ?_; intro gb165 hg w2 hbox hb; have BK165 := AM hbox; have GW165 := AM ((by rw [hg]; exact (below_size bel_) : w.heap.size ≤ gb165)); have GE165 := AM ((by rw [hg]; exact (below_size bel_) : w.heap.size ≤ gb165)); replace HB := AM (below_step bel_ hb); clear hb hbox hg) | ((with_reducible refine gate_callee (f := 109) rfl ?_); refine gl_ (some 1) Tryd.func109 #[] ?_; (with_reducible refine (spec_l05Start.calls  t166 _ A1.out).mono ?_); rintro e w3 ⟨v167, rfl, ho0, hb⟩; refine ⟨_, rfl, ?_⟩; have HO168 := AM (Kd.R_lower ho0 (below_size bel_)); replace BK165 := AM (blk_below (g := gb165) (o := .cells #[.slice none 0 0, .string (⟨#[]⟩ : ByteArray), .int .i64 0] 42 (0, 0)) (bk_ BK165.out) hb); replace HB := AM (below_step bel_ hb); (try clear hb); (try clear hb2); (try clear hk); (try clear hi); (try clear ho0); obtain ⟨Ao4, co4, eo4⟩ := Kd.R_slice HO168.out; subst eo4; have hcz5_0 : w3.cell? ⟨gb165, 0, none⟩ = some (.slice none 0 0) := (blk_cell BK165.out 0).trans rfl; have hcz5_1 : w3.cell? ⟨gb165, 1, none⟩ = some (.string (⟨#[]⟩ : ByteArray)) := (blk_cell BK165.out 1).trans rfl; have hcz5_2 : w3.cell? ⟨gb165, 2, none⟩ = some (.int .i64 0) := (blk_cell BK165.out 2).trans rfl; have hfz5_0 := blk_frozen BK165.out 0; have hfz5_1 := blk_frozen BK165.out 1; have hfz5_2 := blk_frozen BK165.out 2))
  refine bodyPost_ret (results_cell_row rfl _ _ gb165 42 #[.slice Ao4 t166.length co4, .string (⟨#[]⟩ : ByteArray), .int .i64 0] (0, 0) _ rfl bka_ Tryd.underlying42 rfl (by kernel_rfl)) rfl ?_
  exact ⟨_, ri_, by (with_reducible repeat (first | apply Kd.R_alloc | apply Kd.R_drewN | apply Kd.R_drew)); exact Kd.R_mono (Kd.R_far (p := ⟨gb165, 2, none⟩) (Kd.R_far (p := ⟨gb165, 1, none⟩) (Kd.R_far (p := ⟨gb165, 0, none⟩) (Kd.R_types HO168.out BK165.out (by decide)) (fun _ hk => hk.2) (.slice Ao4 t166.length co4)) (fun _ hk => hk.2) (.string (⟨#[]⟩ : ByteArray))) (fun _ hk => hk.2) (.int .i64 0)) (fun _ hk => trivial), bel_⟩

/-! ### spec_l09Digest: function 52 -/
def spec_l09Digest.f (k : Nat) (a0 : ByteArray) (a1 : ByteArray) : Option (ByteArray) := (spec_HashBegin.f).bind fun bt169 => ((spec_l05More.f k bt169.1 bt169.2.1 bt169.2.2 a0).bind fun bt174 => ((spec_l05More.f k bt174.1 bt174.2.1 bt174.2.2 a1).bind fun bt179 => ((spec_l05End.f k bt179.1 bt179.2.1 bt179.2.2).bind fun t184 => (some t184))))
theorem spec_l09Digest.mono : ∀ a0 a1 k, LeO (spec_l09Digest.f k a0 a1) (spec_l09Digest.f (k + 1) a0 a1) := by
  intro a0 a1 k
  unfold spec_l09Digest.f
  repeat' first
      | (with_reducible exact spec_l05End.mono _ _ _ _)
      | (with_reducible exact spec_l05More.mono _ _ _ _ _)
      | (with_reducible exact LeO.refl _)
      | (with_reducible exact LeO.none _)
      | (with_reducible refine LeO.ite ?_ ?_)
      | (with_reducible refine LeO.bind ?_ (fun _ => ?_))
      | exact spec_l05End.mono _ _ _ _
      | exact spec_l05More.mono _ _ _ _ _
      | exact LeO.none _
      | refine LeO.ite ?_ ?_
      | refine LeO.bind ?_ (fun _ => ?_)
set_option maxHeartbeats 8000000 in
set_option maxRecDepth 100000 in
theorem spec_l09Digest.calls (k : Nat) (a0 : ByteArray) (a1 : ByteArray) (r : ByteArray) (w : World) (h : spec_l09Digest.f k a0 a1 = some r) :
    Calls Tryd.prog 52 #[.string a0, .string a1] w fun e w' => e = .returned (.string r) ∧ Below w.heap.size w w' := by
  have HB := AM (Below.refl w.heap.size w)
  have H : ((spec_HashBegin.f).bind fun bt169 => ((spec_l05More.f k bt169.1 bt169.2.1 bt169.2.2 a0).bind fun bt174 => ((spec_l05More.f k bt174.1 bt174.2.1 bt174.2.2 a1).bind fun bt179 => ((spec_l05End.f k bt179.1 bt179.2.1 bt179.2.2).bind fun t184 => (some t184))))) = some r := h
  clear h
  obtain ⟨⟨t169, t172, t173⟩, A3, H⟩ := OB H
  try dsimp only at H
  replace A3 := AM A3
  obtain ⟨⟨t174, t177, t178⟩, A4, H⟩ := OB H
  try dsimp only at H
  replace A4 := AM A4
  obtain ⟨⟨t179, t182, t183⟩, A5, H⟩ := OB H
  try dsimp only at H
  replace A5 := AM A5
  obtain ⟨t184, A6, H⟩ := OB H
  try dsimp only at H
  replace A6 := AM A6
  obtain rfl := Option.some.inj H
  go_enter Tryd.func52, Tryd.ntmps52
  go_wp2_with (first | ((with_reducible refine gate_callee (f := 68) rfl ?_); refine gl_ (some 5) Tryd.func68 #[] ?_; (with_reducible refine (spec_HashBegin.calls  t169 t172 t173 _ A3.out).mono ?_); rintro e w7 ⟨v170, rfl, ho0, hb⟩; refine ⟨_, rfl, ?_⟩; have HO171 := AM (Kd.R_lower ho0 (below_size bel_)); replace HB := AM (below_step bel_ hb); (try clear hb); (try clear hb2); (try clear hk); (try clear hi); (try clear ho0); obtain ⟨Ao8, co8, eo8⟩ := Kd.R_slice HO171.out; subst eo8) | ((with_reducible refine gate_callee (f := 67) rfl ?_); refine gl_ (some 7) Tryd.func67 #[.agg #[.slice Ao8 t169.length co8, .string t172, .int .i64 t173], .string a0] ?_; (with_reducible refine (spec_l05More.calls k _ _ t169 t172 t173 a0 t174 t177 t178 _ ?side1 ?side2 A4.out).mono ?_); (case side1 => repeat (first | exact (Kd.R_reads' HO171.out).2.2 | (with_reducible refine Kd.C_alloc ?_ _) | (with_reducible refine Kd.C_drewN ?_ _) | (with_reducible refine Kd.C_drew ?_))); (case side2 => exact (Kd.R_reads' HO171.out).2.1); rintro e w9 ⟨v175, rfl, ho0, hb⟩; refine ⟨_, rfl, ?_⟩; have HO176 := AM (Kd.R_lower (Kd.R_new' ho0 (Kd.R_lt (ro_ HO171.out))) (below_size bel_)); replace HO171 := AM (Kd.R_elder' (ro_ HO171.out) (Kd.R_base ho0) hb); replace HB := AM (below_step bel_ hb); (try clear hb); (try clear hb2); (try clear hk); (try clear hi); (try clear ho0); obtain ⟨Ao10, co10, eo10⟩ := Kd.R_slice HO176.out; subst eo10) | ((with_reducible refine gate_callee (f := 67) rfl ?_); refine gl_ (some 9) Tryd.func67 #[.agg #[.slice Ao10 t174.length co10, .string t177, .int .i64 t178], .string a1] ?_; (with_reducible refine (spec_l05More.calls k _ _ t174 t177 t178 a1 t179 t182 t183 _ ?side1 ?side2 A5.out).mono ?_); (case side1 => repeat (first | exact (Kd.R_reads' HO176.out).2.2 | (with_reducible refine Kd.C_alloc ?_ _) | (with_reducible refine Kd.C_drewN ?_ _) | (with_reducible refine Kd.C_drew ?_))); (case side2 => exact (Kd.R_reads' HO176.out).2.1); rintro e w11 ⟨v180, rfl, ho0, hb⟩; refine ⟨_, rfl, ?_⟩; have HO181 := AM (Kd.R_lower (Kd.R_new' (Kd.R_new' ho0 (Kd.R_lt (ro_ HO171.out))) (Kd.R_lt (ro_ HO176.out))) (below_size bel_)); replace HO171 := AM (Kd.R_elder' (ro_ HO171.out) (Kd.R_base ho0) hb); replace HO176 := AM (Kd.R_elder' (ro_ HO176.out) (Kd.R_base ho0) hb); replace HB := AM (below_step bel_ hb); (try clear hb); (try clear hb2); (try clear hk); (try clear hi); (try clear ho0); obtain ⟨Ao12, co12, eo12⟩ := Kd.R_slice HO181.out; subst eo12) | ((with_reducible refine gate_callee (f := 66) rfl ?_); refine gl_ (some 10) Tryd.func66 #[.agg #[.slice Ao12 t179.length co12, .string t182, .int .i64 t183]] ?_; (with_reducible refine (spec_l05End.calls k _ _ t179 t182 t183 t184 _ ?side1 ?side2 A6.out).mono ?_); (case side1 => repeat (first | exact (Kd.R_reads' HO181.out).2.2 | (with_reducible refine Kd.C_alloc ?_ _) | (with_reducible refine Kd.C_drewN ?_ _) | (with_reducible refine Kd.C_drew ?_))); (case side2 => exact (Kd.R_reads' HO181.out).2.1); rintro e w13 ⟨rfl, hb⟩; refine ⟨_, rfl, ?_⟩; replace HO171 := AM (Kd.R_below (ro_ HO171.out) hb); replace HO176 := AM (Kd.R_below (ro_ HO176.out) hb); replace HO181 := AM (Kd.R_below (ro_ HO181.out) hb); replace HB := AM (below_step bel_ hb); (try clear hb); (try clear hb2); (try clear hk); (try clear hi)))
  go_ret
  exact ⟨ri_, bel_⟩

/-! ### spec_FrameBytes: function 14 -/
def spec_FrameBytes.f (k : Nat) (a0_0 : Int) (a0_1 : Int) (a0_2 : Int) (a0_3 : Int) (a0_4 : ByteArray) (a0_5 : ByteArray) : Option (ByteArray) := (spec_FrameRight.f a0_0 a0_1 a0_2 a0_3 a0_4 a0_5).bind fun t186 => (if t186 = true then ((spec_l09Head.f k a0_0 a0_1 a0_2 a0_3 a0_4 a0_5).bind fun t187 => ((spec_l09Digest.f k t187 a0_5).bind fun t188 => (if t187.size + t188.size ≤ 9223372036854775807 then (if (t187 ++ t188).size + a0_5.size ≤ 9223372036854775807 then (some ((t187 ++ t188) ++ a0_5)) else (none)) else (none)))) else (some (⟨#[]⟩ : ByteArray)))
theorem spec_FrameBytes.mono : ∀ a0 a1 a2 a3 a4 a5 k, LeO (spec_FrameBytes.f k a0 a1 a2 a3 a4 a5) (spec_FrameBytes.f (k + 1) a0 a1 a2 a3 a4 a5) := by
  intro a0 a1 a2 a3 a4 a5 k
  unfold spec_FrameBytes.f
  repeat' first
      | (with_reducible exact spec_l09Digest.mono _ _ _)
      | (with_reducible exact spec_l09Head.mono _ _ _ _ _ _ _)
      | (with_reducible exact LeO.refl _)
      | (with_reducible exact LeO.none _)
      | (with_reducible refine LeO.ite ?_ ?_)
      | (with_reducible refine LeO.bind ?_ (fun _ => ?_))
      | exact spec_l09Digest.mono _ _ _
      | exact spec_l09Head.mono _ _ _ _ _ _ _
      | exact LeO.none _
      | refine LeO.ite ?_ ?_
      | refine LeO.bind ?_ (fun _ => ?_)
def spec_FrameBytes.T4 : Bool × List (List Nat × List Nat) := (true, [([], []), ([], []), ([], []), ([2], [2]), ([1, 3], [1, 3]), ([0, 4], [0, 4]), ([], []), ([6], [6]), ([5, 7], [5, 7]), ([8, 4, 0, 1, 2, 3, 4, 5, 6, 7, 8], [8])])
def spec_FrameBytes.B4 : List Nat := [0, 0, 0, 4, 14, 31, 0, 64, 255, 511]
theorem spec_FrameBytes.tab4 : rtab .any (opsOf Tryd.f14 4) = spec_FrameBytes.T4 := by kernel_rfl
theorem spec_FrameBytes.bits4 : waitsOk spec_FrameBytes.T4.2 spec_FrameBytes.B4 = true := by kernel_rfl
set_option maxHeartbeats 8000000 in
set_option maxRecDepth 100000 in
theorem spec_FrameBytes.calls (k : Nat) (a0_0 : Int) (a0_1 : Int) (a0_2 : Int) (a0_3 : Int) (a0_4 : ByteArray) (a0_5 : ByteArray) (r : ByteArray) (w : World) (h : spec_FrameBytes.f k a0_0 a0_1 a0_2 a0_3 a0_4 a0_5 = some r) :
    Calls Tryd.prog 14 #[.agg #[.int .i64 a0_0, .int .i64 a0_1, .int .i64 a0_2, .int .i64 a0_3, .string a0_4, .string a0_5]] w fun e w' => e = .returned (.string r) ∧ Below w.heap.size w w' := by
  have hu28 := Tryd.underlying28
  have HB := AM (Below.refl w.heap.size w)
  have H : ((spec_FrameRight.f a0_0 a0_1 a0_2 a0_3 a0_4 a0_5).bind fun t186 => (if t186 = true then ((spec_l09Head.f k a0_0 a0_1 a0_2 a0_3 a0_4 a0_5).bind fun t187 => ((spec_l09Digest.f k t187 a0_5).bind fun t188 => (if t187.size + t188.size ≤ 9223372036854775807 then (if (t187 ++ t188).size + a0_5.size ≤ 9223372036854775807 then (some ((t187 ++ t188) ++ a0_5)) else (none)) else (none)))) else (some (⟨#[]⟩ : ByteArray)))) = some r := h
  clear h
  obtain ⟨t186, A2, H⟩ := OB H
  try dsimp only at H
  replace A2 := AM A2
  by_cases c3 : t186 = true
  · subst c3
    rw [if_pos rfl] at H
    obtain ⟨t187, A4, H⟩ := OB H
    try dsimp only at H
    replace A4 := AM A4
    obtain ⟨t188, A5, H⟩ := OB H
    try dsimp only at H
    replace A5 := AM A5
    by_cases c6 : t187.size + t188.size ≤ 9223372036854775807
    · rw [if_pos c6] at H
      have c6b0 := eq_true c6
      have c6b1 : decide (t187.size + t188.size ≤ 9223372036854775807) = true := decide_eq_true c6
      try have c6b2 : (9223372036854775807 < t187.size + t188.size) = False := eq_false (Nat.not_lt.2 c6)
      by_cases c7 : (t187 ++ t188).size + a0_5.size ≤ 9223372036854775807
      · rw [if_pos c7] at H
        have c7b0 := eq_true c7
        have c7b1 : decide ((t187 ++ t188).size + a0_5.size ≤ 9223372036854775807) = true := decide_eq_true c7
        try have c7b2 : (9223372036854775807 < (t187 ++ t188).size + a0_5.size) = False := eq_false (Nat.not_lt.2 c7)
        try have c7b3 : (9223372036854775807 < t187.size + t188.size + a0_5.size) = False := eq_false (Nat.not_lt.2 (by have z := c7; simp only [ByteArray.size_append] at z; exact z))
        obtain rfl := Option.some.inj H
        go_enter Tryd.func14, Tryd.ntmps14
        try go_wp2_with (first | ((with_reducible refine gate_dst (N := 1) rfl ?_); refine be_ 1 #[.int .i64 a0_0, .int .i64 a0_1, .int .i64 a0_2, .int .i64 a0_3, .string a0_4, .string a0_5] 28 ?_; intro gb185 hg w8 hbox hb; have BK185 := AM hbox; have GW185 := AM ((by rw [hg]; exact (below_size bel_) : w.heap.size ≤ gb185)); have GE185 := AM ((by rw [hg]; exact (below_size bel_) : w.heap.size ≤ gb185)); replace HB := AM (below_step bel_ hb); clear hb hbox hg; have hcz9_0 : w8.cell? ⟨gb185, 0, none⟩ = some (.int .i64 a0_0) := (blk_cell BK185.out 0).trans rfl; have hcz9_1 : w8.cell? ⟨gb185, 1, none⟩ = some (.int .i64 a0_1) := (blk_cell BK185.out 1).trans rfl; have hcz9_2 : w8.cell? ⟨gb185, 2, none⟩ = some (.int .i64 a0_2) := (blk_cell BK185.out 2).trans rfl; have hcz9_3 : w8.cell? ⟨gb185, 3, none⟩ = some (.int .i64 a0_3) := (blk_cell BK185.out 3).trans rfl; have hcz9_4 : w8.cell? ⟨gb185, 4, none⟩ = some (.string a0_4) := (blk_cell BK185.out 4).trans rfl; have hcz9_5 : w8.cell? ⟨gb185, 5, none⟩ = some (.string a0_5) := (blk_cell BK185.out 5).trans rfl; have hfz9_0 := blk_frozen BK185.out 0; have hfz9_1 := blk_frozen BK185.out 1; have hfz9_2 := blk_frozen BK185.out 2; have hfz9_3 := blk_frozen BK185.out 3; have hfz9_4 := blk_frozen BK185.out 4; have hfz9_5 := blk_frozen BK185.out 5) | ((with_reducible refine gate_callee (f := 50) rfl ?_); refine gl_ (some 5) Tryd.func50 #[.agg #[.int .i64 a0_0, .int .i64 a0_1, .int .i64 a0_2, .int .i64 a0_3, .string a0_4, .string a0_5]] ?_; (with_reducible refine (spec_FrameRight.calls a0_0 a0_1 a0_2 a0_3 a0_4 a0_5 true _ A2.out).mono ?_); rintro e w10 ⟨rfl, hb⟩; refine ⟨_, rfl, ?_⟩; replace BK185 := AM (blk_below (g := gb185) (o := .cells #[.int .i64 a0_0, .int .i64 a0_1, .int .i64 a0_2, .int .i64 a0_3, .string a0_4, .string a0_5] 28 (0, 0)) (bk_ BK185.out) hb); replace HB := AM (below_step bel_ hb); (try clear hb); (try clear hb2); (try clear hk); (try clear hi); have hcz11_0 : w10.cell? ⟨gb185, 0, none⟩ = some (.int .i64 a0_0) := (blk_cell BK185.out 0).trans rfl; have hcz11_1 : w10.cell? ⟨gb185, 1, none⟩ = some (.int .i64 a0_1) := (blk_cell BK185.out 1).trans rfl; have hcz11_2 : w10.cell? ⟨gb185, 2, none⟩ = some (.int .i64 a0_2) := (blk_cell BK185.out 2).trans rfl; have hcz11_3 : w10.cell? ⟨gb185, 3, none⟩ = some (.int .i64 a0_3) := (blk_cell BK185.out 3).trans rfl; have hcz11_4 : w10.cell? ⟨gb185, 4, none⟩ = some (.string a0_4) := (blk_cell BK185.out 4).trans rfl; have hcz11_5 : w10.cell? ⟨gb185, 5, none⟩ = some (.string a0_5) := (blk_cell BK185.out 5).trans rfl; have hfz11_0 := blk_frozen BK185.out 0; have hfz11_1 := blk_frozen BK185.out 1; have hfz11_2 := blk_frozen BK185.out 2; have hfz11_3 := blk_frozen BK185.out 3; have hfz11_4 := blk_frozen BK185.out 4; have hfz11_5 := blk_frozen BK185.out 5) | ((with_reducible refine gate_callee (f := 51) rfl ?_); refine gl_ (some 8) Tryd.func51 #[.agg #[.int .i64 a0_0, .int .i64 a0_1, .int .i64 a0_2, .int .i64 a0_3, .string a0_4, .string a0_5]] ?_; (with_reducible refine (spec_l09Head.calls k a0_0 a0_1 a0_2 a0_3 a0_4 a0_5 t187 _ A4.out).mono ?_); rintro e w12 ⟨rfl, hb⟩; refine ⟨_, rfl, ?_⟩; replace BK185 := AM (blk_below (g := gb185) (o := .cells #[.int .i64 a0_0, .int .i64 a0_1, .int .i64 a0_2, .int .i64 a0_3, .string a0_4, .string a0_5] 28 (0, 0)) (bk_ BK185.out) hb); replace HB := AM (below_step bel_ hb); (try clear hb); (try clear hb2); (try clear hk); (try clear hi)))
        replace BK185 := AM (blk_drew BK185.out)
        replace HB := AM (below_drew1 HB.out)
        refine start_ (n := 10) (S := fun w' => w'.cell? ⟨gb185, 0, none⟩ = some (.int .i64 a0_0) ∧ w'.cell? ⟨gb185, 1, none⟩ = some (.int .i64 a0_1) ∧ w'.cell? ⟨gb185, 2, none⟩ = some (.int .i64 a0_2) ∧ w'.cell? ⟨gb185, 3, none⟩ = some (.int .i64 a0_3) ∧ w'.cell? ⟨gb185, 4, none⟩ = some (.string a0_4) ∧ w'.cell? ⟨gb185, 5, none⟩ = some (.string a0_5)) (ds := []) (Array.replicate 10 false) (by kernel_rfl) rfl rfl ⟨(blk_cell BK185.out 0).trans rfl, (blk_cell BK185.out 1).trans rfl, (blk_cell BK185.out 2).trans rfl, (blk_cell BK185.out 3).trans rfl, (blk_cell BK185.out 4).trans rfl, (blk_cell BK185.out 5).trans rfl⟩ (fun hHeld => ?_); refine with_tabW spec_FrameBytes.tab4 spec_FrameBytes.bits4 (fun HT_ HW_ => ?_)
        generalize w12.drew = w13 at BK185 HB hHeld ⊢
        refine pu_ HT_ 0 (some 9) (bA 10 1) ?_
        refine pu_ HT_ 1 (some 10) (bA 10 3) ?_
        refine pu_ HT_ 2 (some 11) (bA 10 7) ?_
        refine pu_ HT_ 6 (some 15) (bA 10 71) ?_
        refine ta_ HT_ HW_ 3 (some 12) (bA 10 79) hHeld ?_
        refine ta_ HT_ HW_ 7 (some 16) (bA 10 207) hHeld ?_
        refine on_ HT_ 4 (some 13) (bA 10 223) (fun K hK => ?_)
        refine go1_ Tryd.func52 #[.string t187, .string a0_5] ?_
        with_reducible refine (spec_l09Digest.calls k t187 a0_5 t188 _ A5.out).mono ?_
        rintro e w14 ⟨rfl, hb⟩
        refine ⟨_, rfl, ?_⟩
        replace BK185 := AM (blk_below (g := gb185) (o := .cells #[.int .i64 a0_0, .int .i64 a0_1, .int .i64 a0_2, .int .i64 a0_3, .string a0_4, .string a0_5] 28 (0, 0)) (bk_ BK185.out) hb)
        replace HB := AM (below_step bel_ hb)
        (try clear hb); (try clear hb2); (try clear hk); (try clear hi)
        refine hK.out _ _ ⟨(blk_cell BK185.out 0).trans rfl, (blk_cell BK185.out 1).trans rfl, (blk_cell BK185.out 2).trans rfl, (blk_cell BK185.out 3).trans rfl, (blk_cell BK185.out 4).trans rfl, (blk_cell BK185.out 5).trans rfl⟩ (fun hHeld => ?_)
        clear hK K
        refine nm_ ?_
        refine pu_ HT_ 5 (some 14) (bA 10 255) ?_
        refine pu_ HT_ 8 (some 17) (bA 10 511) ?_
        refine pu_ HT_ 9 (some 2) (bA 10 1023) ?_
        refine dn_ HT_ ?_
        try go_wp2
        go_ret
        exact ⟨ri_, bel_⟩
      · rw [if_neg c7] at H
        exact absurd H (by simp)
    · rw [if_neg c6] at H
      exact absurd H (by simp)
  · replace c3 := Bool.eq_false_iff.mpr c3
    subst c3
    rw [if_neg (show ¬ (false = true) by decide)] at H
    obtain rfl := Option.some.inj H
    go_enter Tryd.func14, Tryd.ntmps14
    go_wp2_with (first | ((with_reducible refine gate_dst (N := 1) rfl ?_); refine be_ 1 #[.int .i64 a0_0, .int .i64 a0_1, .int .i64 a0_2, .int .i64 a0_3, .string a0_4, .string a0_5] 28 ?_; intro gb185 hg w15 hbox hb; have BK185 := AM hbox; have GW185 := AM ((by rw [hg]; exact (below_size bel_) : w.heap.size ≤ gb185)); have GE185 := AM ((by rw [hg]; exact (below_size bel_) : w.heap.size ≤ gb185)); replace HB := AM (below_step bel_ hb); clear hb hbox hg; have hcz16_0 : w15.cell? ⟨gb185, 0, none⟩ = some (.int .i64 a0_0) := (blk_cell BK185.out 0).trans rfl; have hcz16_1 : w15.cell? ⟨gb185, 1, none⟩ = some (.int .i64 a0_1) := (blk_cell BK185.out 1).trans rfl; have hcz16_2 : w15.cell? ⟨gb185, 2, none⟩ = some (.int .i64 a0_2) := (blk_cell BK185.out 2).trans rfl; have hcz16_3 : w15.cell? ⟨gb185, 3, none⟩ = some (.int .i64 a0_3) := (blk_cell BK185.out 3).trans rfl; have hcz16_4 : w15.cell? ⟨gb185, 4, none⟩ = some (.string a0_4) := (blk_cell BK185.out 4).trans rfl; have hcz16_5 : w15.cell? ⟨gb185, 5, none⟩ = some (.string a0_5) := (blk_cell BK185.out 5).trans rfl; have hfz16_0 := blk_frozen BK185.out 0; have hfz16_1 := blk_frozen BK185.out 1; have hfz16_2 := blk_frozen BK185.out 2; have hfz16_3 := blk_frozen BK185.out 3; have hfz16_4 := blk_frozen BK185.out 4; have hfz16_5 := blk_frozen BK185.out 5) | ((with_reducible refine gate_callee (f := 50) rfl ?_); refine gl_ (some 5) Tryd.func50 #[.agg #[.int .i64 a0_0, .int .i64 a0_1, .int .i64 a0_2, .int .i64 a0_3, .string a0_4, .string a0_5]] ?_; (with_reducible refine (spec_FrameRight.calls a0_0 a0_1 a0_2 a0_3 a0_4 a0_5 false _ A2.out).mono ?_); rintro e w17 ⟨rfl, hb⟩; refine ⟨_, rfl, ?_⟩; replace BK185 := AM (blk_below (g := gb185) (o := .cells #[.int .i64 a0_0, .int .i64 a0_1, .int .i64 a0_2, .int .i64 a0_3, .string a0_4, .string a0_5] 28 (0, 0)) (bk_ BK185.out) hb); replace HB := AM (below_step bel_ hb); (try clear hb); (try clear hb2); (try clear hk); (try clear hi)))
    go_ret
    exact ⟨ri_, bel_⟩

/-! ### impl_long: function 70 -/
def impl_long.f (a0 : ByteArray) : Option (Int) := some (a0.size : Int)
set_option maxHeartbeats 8000000 in
set_option maxRecDepth 100000 in
theorem impl_long.calls (a0 : ByteArray) (r : Int) (w : World) (h : impl_long.f a0 = some r) :
    Calls Tryd.prog 70 #[.string a0] w fun e w' => e = .returned (.int .i64 r) ∧ Drawn0 w w' := by
  have H : (some (a0.size : Int)) = some r := h
  clear h
  obtain rfl := Option.some.inj H
  go_enter Tryd.func70, Tryd.ntmps70
  go_wp2
  go_ret
  exact ⟨by first | rfl | (simp; done) | (simp [*]; done), by repeat (first | exact Drawn0.refl _ | apply Drawn0.step)⟩

/-! ### impl_within: function 77 -/
def impl_within.f (a0 : Int) (a1 : Int) (a2 : Int) : Option (Bool) := if a0 ≥ a1 then (some (decide (a0 ≤ a2))) else (some false)
set_option maxHeartbeats 8000000 in
set_option maxRecDepth 100000 in
theorem impl_within.calls (a0 : Int) (a1 : Int) (a2 : Int) (r : Bool) (w : World) (h : impl_within.f a0 a1 a2 = some r) :
    Calls Tryd.prog 77 #[.int .i64 a0, .int .i64 a1, .int .i64 a2] w fun e w' => e = .returned (.bool r) ∧ Drawn0 w w' := by
  have H : (if a0 ≥ a1 then (some (decide (a0 ≤ a2))) else (some false)) = some r := h
  clear h
  by_cases c4 : a0 ≥ a1
  · rw [if_pos c4] at H
    have c4b0 : decide (a1 ≤ a0) = true := decide_eq_true c4
    clear c4
    obtain rfl := Option.some.inj H
    go_enter Tryd.func77, Tryd.ntmps77
    go_wp2
    go_ret
    exact ⟨by first | rfl | (simp; done) | (simp [*]; done), by repeat (first | exact Drawn0.refl _ | apply Drawn0.step)⟩
  · rw [if_neg c4] at H
    have c4b0 : decide (a1 ≤ a0) = false := decide_eq_false c4
    clear c4
    obtain rfl := Option.some.inj H
    go_enter Tryd.func77, Tryd.ntmps77
    go_wp2
    go_ret
    exact ⟨by first | rfl | (simp; done) | (simp [*]; done), by repeat (first | exact Drawn0.refl _ | apply Drawn0.step)⟩

/-! ### impl_CodeRight: function 93 -/
def impl_CodeRight.f (a0 : Int) (a1 : Int) : Option (Bool) := (impl_within.f a0 1 8).bind fun t189 => (if t189 = true then ((impl_within.f a1 0 6).bind fun t190 => (some t190)) else (some false))
set_option maxHeartbeats 8000000 in
set_option maxRecDepth 100000 in
theorem impl_CodeRight.calls (a0 : Int) (a1 : Int) (r : Bool) (w : World) (h : impl_CodeRight.f a0 a1 = some r) :
    Calls Tryd.prog 93 #[.int .i64 a0, .int .i64 a1] w fun e w' => e = .returned (.bool r) ∧ Drawn0 w w' := by
  have H : ((impl_within.f a0 1 8).bind fun t189 => (if t189 = true then ((impl_within.f a1 0 6).bind fun t190 => (some t190)) else (some false))) = some r := h
  clear h
  obtain ⟨t189, A3, H⟩ := OB H
  try dsimp only at H
  replace A3 := AM A3
  by_cases c4 : t189 = true
  · subst c4
    rw [if_pos rfl] at H
    obtain ⟨t190, A5, H⟩ := OB H
    try dsimp only at H
    replace A5 := AM A5
    obtain rfl := Option.some.inj H
    go_enter Tryd.func93, Tryd.ntmps93
    go_wp2_with (first | ((with_reducible refine gate_callee (f := 77) rfl ?_); refine gl_ (some 6) Tryd.func77 #[.int .i64 a0, .int .i64 1, .int .i64 8] ?_; (with_reducible refine (impl_within.calls a0 1 8 true _ A3.out).mono ?_); rintro e w' ⟨rfl, ⟨nd, rfl⟩⟩; refine ⟨_, rfl, ?_⟩) | (go_at_call 77; (with_reducible refine (impl_within.calls a1 0 6 t190 _ A5.out).mono ?_); rintro e w' ⟨rfl, ⟨nd, rfl⟩⟩))
    go_ret
    exact ⟨by first | rfl | (simp; done) | (simp [*]; done), by repeat (first | exact Drawn0.refl _ | apply Drawn0.step)⟩
  · replace c4 := Bool.eq_false_iff.mpr c4
    subst c4
    rw [if_neg (show ¬ (false = true) by decide)] at H
    obtain rfl := Option.some.inj H
    go_enter Tryd.func93, Tryd.ntmps93
    go_wp2_with (first | ((with_reducible refine gate_callee (f := 77) rfl ?_); refine gl_ (some 6) Tryd.func77 #[.int .i64 a0, .int .i64 1, .int .i64 8] ?_; (with_reducible refine (impl_within.calls a0 1 8 false _ A3.out).mono ?_); rintro e w' ⟨rfl, ⟨nd, rfl⟩⟩; refine ⟨_, rfl, ?_⟩))
    go_ret
    exact ⟨by first | rfl | (simp; done) | (simp [*]; done), by repeat (first | exact Drawn0.refl _ | apply Drawn0.step)⟩

/-! ### impl_ShardSize: function 94 -/
def impl_ShardSize.f (a0 : Int) (a1 : Int) : Option (Int) := (impl_within.f a0 1 8).bind fun t191 => (if t191 = true then ((impl_within.f a1 0 20000).bind fun t192 => (if t192 = true then (if a0 = 0 then (none) else (some (wrap64 (Int.tdiv (wrap64 ((wrap64 (a1 + a0)) - 1)) a0)))) else (some 0))) else (some 0))
set_option maxHeartbeats 8000000 in
set_option maxRecDepth 100000 in
theorem impl_ShardSize.calls (a0 : Int) (a1 : Int) (r : Int) (w : World) (h : impl_ShardSize.f a0 a1 = some r) :
    Calls Tryd.prog 94 #[.int .i64 a0, .int .i64 a1] w fun e w' => e = .returned (.int .i64 r) ∧ Drawn0 w w' := by
  have H : ((impl_within.f a0 1 8).bind fun t191 => (if t191 = true then ((impl_within.f a1 0 20000).bind fun t192 => (if t192 = true then (if a0 = 0 then (none) else (some (wrap64 (Int.tdiv (wrap64 ((wrap64 (a1 + a0)) - 1)) a0)))) else (some 0))) else (some 0))) = some r := h
  clear h
  obtain ⟨t191, A3, H⟩ := OB H
  try dsimp only at H
  replace A3 := AM A3
  by_cases c4 : t191 = true
  · subst c4
    rw [if_pos rfl] at H
    obtain ⟨t192, A5, H⟩ := OB H
    try dsimp only at H
    replace A5 := AM A5
    by_cases c6 : t192 = true
    · subst c6
      rw [if_pos rfl] at H
      by_cases c7 : a0 = 0
      · rw [if_pos c7] at H
        exact absurd H (by simp)
      · rw [if_neg c7] at H
        have c7b0 : (a0 == 0) = false := beq_eq_false_iff_ne.mpr c7
        have c7b1 : (a0 != 0) = true := bne_iff_ne.mpr c7
        obtain rfl := Option.some.inj H
        go_enter Tryd.func94, Tryd.ntmps94
        go_wp2_with (first | ((with_reducible refine gate_callee (f := 77) rfl ?_); refine gl_ (some 6) Tryd.func77 #[.int .i64 a0, .int .i64 1, .int .i64 8] ?_; (with_reducible refine (impl_within.calls a0 1 8 true _ A3.out).mono ?_); rintro e w' ⟨rfl, ⟨nd, rfl⟩⟩; refine ⟨_, rfl, ?_⟩) | (go_at_call 77; (with_reducible refine (impl_within.calls a1 0 20000 true _ A5.out).mono ?_); rintro e w' ⟨rfl, ⟨nd, rfl⟩⟩))
        go_ret
        exact ⟨by first | rfl | (simp; done) | (simp [*]; done), by repeat (first | exact Drawn0.refl _ | apply Drawn0.step)⟩
    · replace c6 := Bool.eq_false_iff.mpr c6
      subst c6
      rw [if_neg (show ¬ (false = true) by decide)] at H
      obtain rfl := Option.some.inj H
      go_enter Tryd.func94, Tryd.ntmps94
      go_wp2_with (first | ((with_reducible refine gate_callee (f := 77) rfl ?_); refine gl_ (some 6) Tryd.func77 #[.int .i64 a0, .int .i64 1, .int .i64 8] ?_; (with_reducible refine (impl_within.calls a0 1 8 true _ A3.out).mono ?_); rintro e w' ⟨rfl, ⟨nd, rfl⟩⟩; refine ⟨_, rfl, ?_⟩) | (go_at_call 77; (with_reducible refine (impl_within.calls a1 0 20000 false _ A5.out).mono ?_); rintro e w' ⟨rfl, ⟨nd, rfl⟩⟩))
      go_ret
      exact ⟨by first | rfl | (simp; done) | (simp [*]; done), by repeat (first | exact Drawn0.refl _ | apply Drawn0.step)⟩
  · replace c4 := Bool.eq_false_iff.mpr c4
    subst c4
    rw [if_neg (show ¬ (false = true) by decide)] at H
    obtain rfl := Option.some.inj H
    go_enter Tryd.func94, Tryd.ntmps94
    go_wp2_with (first | ((with_reducible refine gate_callee (f := 77) rfl ?_); refine gl_ (some 6) Tryd.func77 #[.int .i64 a0, .int .i64 1, .int .i64 8] ?_; (with_reducible refine (impl_within.calls a0 1 8 false _ A3.out).mono ?_); rintro e w' ⟨rfl, ⟨nd, rfl⟩⟩; refine ⟨_, rfl, ?_⟩))
    go_ret
    exact ⟨by first | rfl | (simp; done) | (simp [*]; done), by repeat (first | exact Drawn0.refl _ | apply Drawn0.step)⟩

end Go.Proofs.YtddapeieolfolaaDoor.PFnFrame
