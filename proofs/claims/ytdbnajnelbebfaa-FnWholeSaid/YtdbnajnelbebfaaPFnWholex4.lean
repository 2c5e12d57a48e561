-- A program of this session wrote this text: a changed copy of the kit print, with given functions.
import Derived.Test.YtdbnajnelbebfaaPFnWholex0
import Derived.Test.YtdbnajnelbebfaaPFnWholex3
namespace Go.Proofs.Ytdbnajnelbebfaa.PFnWhole
open Go.RowKit Go.Proofs.YtdbnajnelbebfaaW.PrintWords Go.Proofs.YtdbnajnelbebfaaW.PrintLast Go.Proofs.YtdbnajnelbebfaaW.PrintMore Go.Proofs.Ytdbnajnelbebfaa.Aut
attribute [local go_sem] max2_int min2_int max_two min_two max_three min_three max_four min_four   -- for this text's walks alone
set_option linter.unusedVariables false
set_option linter.unusedSimpArgs false

/-! ### spec_l04Times: function 53 -/
mutual
def spec_l04Times.l0 : Nat → List ByteArray → List ByteArray → Int → Int → Int → List Int → Option (List ByteArray)
  | 0, _, _, _, _, _, _ => none
  | k + 1, x1, x5, x6, x163000, x163001, x163002 => if x6 < x163000 then (if 0 < (x1.length : Int) then (if 0 ≤ ((rdOf ByteArray.empty x1 0).size : Int) then (if (((rdOf ByteArray.empty x1 0).size : Int) : Int).toNat ≤ 281474976710656 then (spec_l04Times.l1 k x1 x5 x6 (List.replicate (((rdOf ByteArray.empty x1 0).size : Int) : Int).toNat 0) 0 x163000 x163001 x163002) else (none)) else (none)) else (none)) else (some x5)
def spec_l04Times.l1 : Nat → List ByteArray → List ByteArray → Int → List Int → Int → Int → Int → List Int → Option (List ByteArray)
  | 0, _, _, _, _, _, _, _, _ => none
  | k + 1, x1, x5, x6, x7, x8, x163000, x163001, x163002 => if x8 < x163001 then (if 0 ≤ (wrap64 ((wrap64 (x6 * x163001)) + x8)) then (if (wrap64 ((wrap64 (x6 * x163001)) + x8)) < (x163002.length : Int) then (spec_l04Times.l2 k x1 x5 x6 x7 x8 (rd x163002 (wrap64 ((wrap64 (x6 * x163001)) + x8))) 0 x163000 x163001 x163002) else (none)) else (none)) else (if x5.length < 8796093022208 then (spec_l04Times.l0 k x1 (x5 ++ [strOfNums x7]) (wrap64 (x6 + 1)) x163000 x163001 x163002) else (none))
def spec_l04Times.l2 : Nat → List ByteArray → List ByteArray → Int → List Int → Int → Int → Int → Int → Int → List Int → Option (List ByteArray)
  | 0, _, _, _, _, _, _, _, _, _, _ => none
  | k + 1, x1, x5, x6, x7, x8, x9, x10, x163000, x163001, x163002 => if x10 < (x7.length : Int) then (if x9 = 0 then (spec_l04Times.l1 k x1 x5 x6 x7 (wrap64 (x8 + 1)) x163000 x163001 x163002) else (if 0 ≤ x10 then (if 0 ≤ x8 then (if x8 < (x1.length : Int) then (if x10 < ((rdOf ByteArray.empty x1 x8).size : Int) then ((spec_l02Mul.f k (wrap64 (bt (rdOf ByteArray.empty x1 x8) x10)) x9).bind fun t176 => (spec_l04Times.l2 k x1 x5 x6 (x7.set (x10 : Int).toNat (Go.bits .xor .u8 (rd x7 x10) ((t176) % 256))) x8 x9 (wrap64 (x10 + 1)) x163000 x163001 x163002)) else (none)) else (none)) else (none)) else (none))) else (spec_l04Times.l1 k x1 x5 x6 x7 (wrap64 (x8 + 1)) x163000 x163001 x163002)
end
def spec_l04Times.f (k : Nat) (a0_0 : Int) (a0_1 : Int) (l0_2 : List Int) (l1 : List ByteArray) : Option (List ByteArray) := spec_l04Times.l0 k l1 (([] : List ByteArray)) 0 a0_0 a0_1 l0_2
theorem spec_l04Times.mono_l : ∀ k, (∀ y0 y1 y2 y3 y4 y5, LeO (spec_l04Times.l0 k y0 y1 y2 y3 y4 y5) (spec_l04Times.l0 (k + 1) y0 y1 y2 y3 y4 y5)) ∧ (∀ y0 y1 y2 y3 y4 y5 y6 y7, LeO (spec_l04Times.l1 k y0 y1 y2 y3 y4 y5 y6 y7) (spec_l04Times.l1 (k + 1) y0 y1 y2 y3 y4 y5 y6 y7)) ∧ (∀ y0 y1 y2 y3 y4 y5 y6 y7 y8 y9, LeO (spec_l04Times.l2 k y0 y1 y2 y3 y4 y5 y6 y7 y8 y9) (spec_l04Times.l2 (k + 1) y0 y1 y2 y3 y4 y5 y6 y7 y8 y9))
  | 0 => ⟨fun _ _ _ _ _ _ r h => by simp [spec_l04Times.l0] at h, fun _ _ _ _ _ _ _ _ r h => by simp [spec_l04Times.l1] at h, fun _ _ _ _ _ _ _ _ _ _ r h => by simp [spec_l04Times.l2] at h⟩
  | k + 1 => by
    obtain ⟨ih0, ih1, ih2⟩ := spec_l04Times.mono_l k
    refine ⟨?_, ?_, ?_⟩
    · intro y0 y1 y2 y3 y4 y5
      unfold spec_l04Times.l0
      repeat' first
      | (with_reducible exact ih0 _ _ _ _ _ _)
      | (with_reducible exact ih1 _ _ _ _ _ _ _ _)
      | (with_reducible exact ih2 _ _ _ _ _ _ _ _ _ _)
      | (with_reducible exact spec_l02Mul.mono _ _ _)
      | (with_reducible exact LeO.refl _)
      | (with_reducible exact LeO.none _)
      | (with_reducible refine LeO.ite ?_ ?_)
      | (with_reducible refine LeO.bind ?_ (fun _ => ?_))
      | exact ih0 _ _ _ _ _ _
      | exact ih1 _ _ _ _ _ _ _ _
      | exact ih2 _ _ _ _ _ _ _ _ _ _
      | exact spec_l02Mul.mono _ _ _
      | exact LeO.none _
      | refine LeO.ite ?_ ?_
      | refine LeO.bind ?_ (fun _ => ?_)
    · intro y0 y1 y2 y3 y4 y5 y6 y7
      unfold spec_l04Times.l1
      repeat' first
      | (with_reducible exact ih0 _ _ _ _ _ _)
      | (with_reducible exact ih1 _ _ _ _ _ _ _ _)
      | (with_reducible exact ih2 _ _ _ _ _ _ _ _ _ _)
      | (with_reducible exact spec_l02Mul.mono _ _ _)
      | (with_reducible exact LeO.refl _)
      | (with_reducible exact LeO.none _)
      | (with_reducible refine LeO.ite ?_ ?_)
      | (with_reducible refine LeO.bind ?_ (fun _ => ?_))
      | exact ih0 _ _ _ _ _ _
      | exact ih1 _ _ _ _ _ _ _ _
      | exact ih2 _ _ _ _ _ _ _ _ _ _
      | exact spec_l02Mul.mono _ _ _
      | exact LeO.none _
      | refine LeO.ite ?_ ?_
      | refine LeO.bind ?_ (fun _ => ?_)
    · intro y0 y1 y2 y3 y4 y5 y6 y7 y8 y9
      unfold spec_l04Times.l2
      repeat' first
      | (with_reducible exact ih0 _ _ _ _ _ _)
      | (with_reducible exact ih1 _ _ _ _ _ _ _ _)
      | (with_reducible exact ih2 _ _ _ _ _ _ _ _ _ _)
      | (with_reducible exact spec_l02Mul.mono _ _ _)
      | (with_reducible exact LeO.refl _)
      | (with_reducible exact LeO.none _)
      | (with_reducible refine LeO.ite ?_ ?_)
      | (with_reducible refine LeO.bind ?_ (fun _ => ?_))
      | exact ih0 _ _ _ _ _ _
      | exact ih1 _ _ _ _ _ _ _ _
      | exact ih2 _ _ _ _ _ _ _ _ _ _
      | exact spec_l02Mul.mono _ _ _
      | exact LeO.none _
      | refine LeO.ite ?_ ?_
      | refine LeO.bind ?_ (fun _ => ?_)
theorem spec_l04Times.mono : ∀ a0 a1 a2 a3 k, LeO (spec_l04Times.f k a0 a1 a2 a3) (spec_l04Times.f (k + 1) a0 a1 a2 a3) := by
  intro a0 a1 a2 a3 k
  obtain ⟨ih0, ih1, ih2⟩ := spec_l04Times.mono_l k
  unfold spec_l04Times.f
  repeat' first
      | (with_reducible exact ih0 _ _ _ _ _ _)
      | (with_reducible exact ih1 _ _ _ _ _ _ _ _)
      | (with_reducible exact ih2 _ _ _ _ _ _ _ _ _ _)
      | (with_reducible exact spec_l02Mul.mono _ _ _)
      | (with_reducible exact LeO.refl _)
      | (with_reducible exact LeO.none _)
      | (with_reducible refine LeO.ite ?_ ?_)
      | (with_reducible refine LeO.bind ?_ (fun _ => ?_))
      | exact ih0 _ _ _ _ _ _
      | exact ih1 _ _ _ _ _ _ _ _
      | exact ih2 _ _ _ _ _ _ _ _ _ _
      | exact spec_l02Mul.mono _ _ _
      | exact LeO.none _
      | refine LeO.ite ?_ ?_
      | refine LeO.bind ?_ (fun _ => ?_)
def spec_l04Times.T13 : Bool × List (List Nat × List Nat) := (true, [([], []), ([], []), ([], []), ([], []), ([2, 3], [2, 3]), ([4], [4]), ([], []), ([], []), ([6, 7], [6, 7]), ([8], [8]), ([], []), ([9, 10], [9, 10]), ([11], [11]), ([], []), ([12, 13], [12, 13]), ([14], [14]), ([5, 15], [5, 15]), ([0, 1, 0, 1, 2, 3, 4, 5, 6, 7, 8, 9, 10, 11, 12, 13, 14, 15, 16], [0, 1]), ([17, 16, 14, 0, 1, 2, 3, 4, 5, 6, 7, 8, 9, 10, 11, 12, 13, 14, 15, 16], [16, 17])])
def spec_l04Times.B13 : List Nat := [0, 0, 0, 0, 12, 28, 0, 0, 192, 448, 0, 1984, 4032, 0, 16320, 32704, 65532, 131071, 262143]
theorem spec_l04Times.tab13 : rtab .any (opsOf Try.f53 13) = spec_l04Times.T13 := by kernel_rfl
theorem spec_l04Times.bits13 : waitsOk spec_l04Times.T13.2 spec_l04Times.B13 = true := by kernel_rfl
set_option maxHeartbeats 8000000 in
set_option maxRecDepth 100000 in
theorem spec_l04Times.calls (k : Nat) (a0_0 : Int) (a0_1 : Int) (A0_2 : Option Addr) (c0_2 : Nat) (l0_2 : List Int) (A1 : Option Addr) (c1 : Nat) (l1 : List ByteArray) (r : List ByteArray) (w : World) (hr0_2 : Kd.C (Kd.int .i64) w A0_2 l0_2.length l0_2) (hc0_2 : l0_2.length ≤ c0_2) (hr1 : Kd.C Kd.string w A1 l1.length l1) (hc1 : l1.length ≤ c1) (h : spec_l04Times.f k a0_0 a0_1 l0_2 l1 = some r) :
    Calls Try.prog 53 #[.agg #[.int .i64 a0_0, .int .i64 a0_1, .slice A0_2 l0_2.length c0_2], .slice A1 l1.length c1] w fun e w' => ∃ v0_ : Value, e = .returned (v0_) ∧ Kd.R Kd.string 9 w' w.heap.size (fun _ => True) v0_ r ∧ Below w.heap.size w w' := by
  have hu89 := Try.underlying89
  have HR0_2 := AM hr0_2
  have HC0_2 := AM hc0_2
  clear hr0_2 hc0_2
  have HR1 := AM hr1
  have HC1 := AM hc1
  clear hr1 hc1
  have HB := AM (Below.refl w.heap.size w)
  have H : (spec_l04Times.l0 k l1 (([] : List ByteArray)) 0 a0_0 a0_1 l0_2) = some r := h
  clear h
  obtain ⟨y163, hy163⟩ : ∃ y_ : List ByteArray, y_ = (([] : List ByteArray)) := ⟨_, rfl⟩
  replace H : (spec_l04Times.l0 k l1 y163 0 a0_0 a0_1 l0_2) = some r := by first | (rw [hy163]; with_reducible exact H) | (have H2_ := (Option.bind_some _ _).symm.trans H; rw [hy163]; with_reducible exact H2_) | (have H2_ := (Option.bind_some _ _).symm.trans H; with_reducible exact H2_) | with_reducible exact H | (rw [hy163]; exact H) | exact H
  have Ny163 := AM hy163
  clear hy163
  have H' := AM H
  clear H
  go_enter Try.func53, Try.ntmps53
  go_wp2_with (first | ((with_reducible refine gate_dst (N := 2) rfl ?_); refine be_ 2 #[.int .i64 a0_0, .int .i64 a0_1, .slice A0_2 l0_2.length c0_2] 89 ?_; intro gb162 hg w3 hbox hb; have BK162 := AM hbox; have GW162 := AM ((by rw [hg]; exact (below_size bel_) : w.heap.size ≤ gb162)); have GE162 := AM ((by rw [hg]; exact (below_size bel_) : w.heap.size ≤ gb162)); replace HB := AM (below_step bel_ hb); clear hb hbox hg) | ((with_reducible refine gate_dst (N := 11) rfl ?_); refine Kd.R_lit Kd.string _ 9 ?hgL1 (N := 11) ?hdL1 (xs := ([] : List ByteArray)) (inner := []) (ok := fun _ => True) (okp := fun _ => True) ?hrL1 ?hpL1 (fun _ hk => hk) trivial (Below.refl _ _) (Nat.le_refl _) (by simp) ?_; (case hdL1 => rfl); (case hgL1 => rfl); (case hrL1 => first | (go_simp; done) | (go_simp; rfl)); (case hpL1 => exact (Reps.none _ _)); intro v164 w4 ho5 hb hg_ hnew_; clear hg_ hnew_; (first | rw [← Ny163.out] at ho5 | (simp only [Int.reduceToNat] at ho5; rw [← Ny163.out] at ho5)); have HO165 := AM (Kd.R_lower ho5 (below_size bel_)); replace BK162 := AM (blk_below (g := gb162) (o := .cells #[.int .i64 a0_0, .int .i64 a0_1, .slice A0_2 l0_2.length c0_2] 89 (0, 0)) (bk_ BK162.out) hb); replace HB := AM (below_step bel_ hb); clear hb ho5))
  go_loopg [5, 6] k (fun kq v5 v6 w' => ∃ (x5_1 : List ByteArray) (x6_1 : Int), v6 = .int .i64 x6_1 ∧ Aside0 (spec_l04Times.l0 kq l1 x5_1 x6_1 a0_0 a0_1 l0_2 = some r) ∧ Aside0 (kq ≤ k) ∧ Aside0 (Kd.R Kd.string 9 w' w.heap.size (fun _ => True) v5 x5_1) ∧ Aside0 (w'.heap[gb162]? = some (.cells #[.int .i64 a0_0, .int .i64 a0_1, (.slice A0_2 l0_2.length c0_2)] 89 (0, 0))) ∧ Aside0 (Below w.heap.size w w'))
  case atStart => exact ⟨(y163), (0), (by first | rfl | (simp; done) | (simp [*]; done)), H', ⟨Nat.le_refl _⟩, ⟨ro_ HO165.out⟩, ⟨bk_ BK162.out⟩, ⟨bel_⟩⟩
  case round =>
    clear H'
    try clear c1
    try clear p2
    try clear c5
    obtain ⟨x5_1, x6_1, rfl, HA, HK1, HO_5, BK162, HB⟩ := hrel
    cases gk with
    | zero => exact absurd HA.out (by simp [spec_l04Times.l0])
    | succ k1 =>
      have H := HA.out
      clear HA
      simp only [spec_l04Times.l0] at H
      by_cases c6 : x6_1 < a0_0
      · rw [if_pos c6] at H
        have c6b0 : decide (x6_1 < a0_0) = true := decide_eq_true c6
        clear c6
        by_cases c7 : 0 < (l1.length : Int)
        · rw [if_pos c7] at H
          have c7b0 : decide (0 < (l1.length : Int)) = true := decide_eq_true c7
          have c7b1 : decide (0 < l1.length) = true := decide_eq_true (by omega)
          clear c7
          by_cases c8 : 0 ≤ ((rdOf ByteArray.empty l1 0).size : Int)
          · rw [if_pos c8] at H
            have c8b0 := eq_true c8
            have c8b1 : decide (0 ≤ ((rdOf ByteArray.empty l1 0).size : Int)) = true := decide_eq_true c8
            clear c8
            by_cases c9 : (((rdOf ByteArray.empty l1 0).size : Int) : Int).toNat ≤ 281474976710656
            · rw [if_pos c9] at H
              have c9b0 := eq_true c9
              have c9b1 : decide ((((rdOf ByteArray.empty l1 0).size : Int) : Int).toNat ≤ 281474976710656) = true := decide_eq_true c9
              clear c9
              obtain ⟨y167, hy167⟩ : ∃ y_ : List Int, y_ = (List.replicate (((rdOf ByteArray.empty l1 0).size : Int) : Int).toNat 0) := ⟨_, rfl⟩
              replace H : (spec_l04Times.l1 k1 l1 x5_1 x6_1 y167 0 a0_0 a0_1 l0_2) = some r := by first | (rw [hy167]; with_reducible exact H) | (have H2_ := (Option.bind_some _ _).symm.trans H; rw [hy167]; with_reducible exact H2_) | (have H2_ := (Option.bind_some _ _).symm.trans H; with_reducible exact H2_) | with_reducible exact H | (rw [hy167]; exact H) | exact H
              have Ny167 := AM hy167
              clear hy167
              have H' := AM H
              clear H
              have hcz10_0 : wr.cell? ⟨gb162, 0, none⟩ = some (.int .i64 a0_0) := (blk_cell BK162.out 0).trans rfl
              have hcz10_1 : wr.cell? ⟨gb162, 1, none⟩ = some (.int .i64 a0_1) := (blk_cell BK162.out 1).trans rfl
              have hcz10_2 : wr.cell? ⟨gb162, 2, none⟩ = some (.slice A0_2 l0_2.length c0_2) := (blk_cell BK162.out 2).trans rfl
              have hfz10_0 := blk_frozen BK162.out 0
              have hfz10_1 := blk_frozen BK162.out 1
              have hfz10_2 := blk_frozen BK162.out 2
              have p166 : 0 ≤ (0 : Int) := (by omega)
              have q166 : 0 < (l1.length : Int) := of_decide_eq_true (by first | (with_reducible assumption) | assumption)
              obtain ⟨ad166, e166, hx166_0⟩ := Kd.at_string HR1.out 0 p166 q166
              cases e166
              have qi166 : (0 < l1.length) = True := eq_true (by omega)
              (try rw [show ((0 : Int)).toNat = 0 from rfl] at hx166_0)
              (try rw [Addr.add_zero'] at hx166_0)
              replace hx166_0 := (HB.out.cell (World.block_lt_of_cell? w _ hx166_0)).trans hx166_0
              replace p166 := eq_true p166
              replace q166 := eq_true q166
              go_wp2_with (first | ((with_reducible refine gate_dst (N := 22) rfl ?_); refine Kd.R_make (Kd.int .u8) _ 5 rfl (N := 22) rfl 22 _ _ rfl ((rdOf ByteArray.empty l1 0).size : Int) rfl rfl Try.underlying22 (.int .u8 0) 1 info5 rfl (by decide) (by omega) 0 (ok := fun _ => True) (okp := fun _ => True) rfl (fun _ hk => hk) trivial (of_decide_eq_true (by first | (with_reducible assumption) | assumption)) (Nat.le_trans (Nat.mul_le_mul_right _ (of_decide_eq_true (by first | (with_reducible assumption) | assumption) : ((rdOf ByteArray.empty l1 0).size : Int).toNat ≤ 281474976710656)) (by omega)) (Below.refl _ _) (Nat.le_refl _) ?_; intro v168 w11 ho12 hb hg_ hnew_; clear hg_ hnew_; (first | rw [← Ny167.out] at ho12 | (simp only [Int.reduceToNat] at ho12; rw [← Ny167.out] at ho12)); replace HO_5 := AM (Kd.R_below (ro_ HO_5.out) hb); have HO169 := AM (Kd.R_lower ho12 (below_size bel_)); replace BK162 := AM (blk_below (g := gb162) (o := .cells #[.int .i64 a0_0, .int .i64 a0_1, .slice A0_2 l0_2.length c0_2] 89 (0, 0)) (bk_ BK162.out) hb); replace HB := AM (below_step bel_ hb); clear hb ho12))
              go_loopg [8] k1 (fun kq v8 w' => ∃ (x7_2 : List Int) (x8_2 : Int), v8 = .int .i64 x8_2 ∧ Aside0 (spec_l04Times.l1 kq l1 x5_1 x6_1 x7_2 x8_2 a0_0 a0_1 l0_2 = some r) ∧ Aside0 (kq ≤ k1) ∧ Aside0 (Kd.R Kd.string 9 w' w.heap.size (fun _ => True) u5 x5_1) ∧ Aside0 (Kd.R (Kd.int .u8) 5 w' w.heap.size (fun _ => True) v168 x7_2) ∧ Aside0 (w'.heap[gb162]? = some (.cells #[.int .i64 a0_0, .int .i64 a0_1, (.slice A0_2 l0_2.length c0_2)] 89 (0, 0))) ∧ Aside0 (Below w.heap.size w w'))
              case atStart => exact ⟨(y167), (0), (by first | rfl | (simp; done) | (simp [*]; done)), H', ⟨Nat.le_refl _⟩, ⟨ro_ HO_5.out⟩, ⟨ro_ HO169.out⟩, ⟨bk_ BK162.out⟩, ⟨bel_⟩⟩
              case round =>
                clear H'
                try clear c1
                try clear p1
                try clear q1
                try clear hx1
                try clear qi1
                try clear p2
                try clear c5
                try clear c6
                try clear c6b0
                try clear c7
                try clear c7b0
                try clear c7b1
                try clear c8
                try clear c8b0
                try clear c8b1
                try clear c9
                try clear c9b0
                try clear c9b1
                try clear hcz10_0
                try clear hcz10_1
                try clear hcz10_2
                try clear hfz10_0
                try clear hfz10_1
                try clear hfz10_2
                try clear hx166_0
                try clear p166
                try clear p2
                try clear q166
                obtain ⟨x7_2, x8_2, rfl, HA, HK2, HO_5, HO_7, BK162, HB⟩ := hrel
                cases gk with
                | zero => exact absurd HA.out (by simp [spec_l04Times.l1])
                | succ k2 =>
                  have H := HA.out
                  clear HA
                  simp only [spec_l04Times.l1] at H
                  by_cases c13 : x8_2 < a0_1
                  · rw [if_pos c13] at H
                    have c13b0 : decide (x8_2 < a0_1) = true := decide_eq_true c13
                    clear c13
                    obtain ⟨ji14, hji14⟩ : ∃ j_ : Int, (wrap64 ((wrap64 (x6_1 * a0_1)) + x8_2)) = j_ := ⟨_, rfl⟩
                    replace H : (if 0 ≤ (ji14) then (if (ji14) < (l0_2.length : Int) then (spec_l04Times.l2 k2 l1 x5_1 x6_1 x7_2 x8_2 (rd l0_2 (ji14)) 0 a0_0 a0_1 l0_2) else (none)) else (none)) = some r := by first | (rw [hji14] at H; exact H) | (simp only [hji14] at H ⊢; exact H)
                    have hji14w : (IntKind.i64.wrap ((wrap64 (x6_1 * a0_1)) + x8_2)) = ji14 := (i64_w _).trans hji14
                    by_cases c15 : 0 ≤ (ji14)
                    · rw [if_pos c15] at H
                      have c15b0 : decide (0 ≤ (ji14)) = true := decide_eq_true c15
                      clear c15
                      by_cases c16 : (ji14) < (l0_2.length : Int)
                      · rw [if_pos c16] at H
                        have c16b0 : decide ((ji14) < (l0_2.length : Int)) = true := decide_eq_true c16
                        clear c16
                        have H' := AM H
                        clear H
                        have hcz17_0 : wr.cell? ⟨gb162, 0, none⟩ = some (.int .i64 a0_0) := (blk_cell BK162.out 0).trans rfl
                        have hcz17_1 : wr.cell? ⟨gb162, 1, none⟩ = some (.int .i64 a0_1) := (blk_cell BK162.out 1).trans rfl
                        have hcz17_2 : wr.cell? ⟨gb162, 2, none⟩ = some (.slice A0_2 l0_2.length c0_2) := (blk_cell BK162.out 2).trans rfl
                        have hfz17_0 := blk_frozen BK162.out 0
                        have hfz17_1 := blk_frozen BK162.out 1
                        have hfz17_2 := blk_frozen BK162.out 2
                        have p173 : 0 ≤ ((ji14) : Int) := of_decide_eq_true (by first | (with_reducible assumption) | assumption)
                        have q173 : (ji14) < (l0_2.length : Int) := of_decide_eq_true (by first | (with_reducible assumption) | assumption)
                        obtain ⟨ad173, e173, hx173_0⟩ := Kd.at_int HR0_2.out (ji14) p173 q173
                        cases e173
                        replace hx173_0 := (HB.out.cell (World.block_lt_of_cell? w _ hx173_0)).trans hx173_0
                        replace p173 := eq_true p173
                        replace q173 := eq_true q173
                        go_wp2
                        go_loopg [10] k2 (fun kq v10 w' => ∃ (x7_3 : List Int) (x10_3 : Int), v10 = .int .i64 x10_3 ∧ Aside0 (spec_l04Times.l2 kq l1 x5_1 x6_1 x7_3 x8_2 (rd l0_2 (ji14)) x10_3 a0_0 a0_1 l0_2 = some r) ∧ Aside0 (kq ≤ k2) ∧ Aside0 (Kd.R Kd.string 9 w' w.heap.size (fun _ => True) u5 x5_1) ∧ Aside0 (Kd.R (Kd.int .u8) 5 w' w.heap.size (fun _ => True) v168 x7_3) ∧ Aside0 (w'.heap[gb162]? = some (.cells #[.int .i64 a0_0, .int .i64 a0_1, (.slice (some ad173) l0_2.length c0_2)] 89 (0, 0))) ∧ Aside0 (Below w.heap.size w w'))
                        case atStart => exact ⟨(x7_2), (0), (by first | rfl | (simp; done) | (simp [*]; done)), H', ⟨Nat.le_refl _⟩, ⟨ro_ HO_5.out⟩, ⟨ro_ HO_7.out⟩, ⟨bk_ BK162.out⟩, ⟨bel_⟩⟩
                        case round =>
                          clear H'
                          try clear c1
                          try clear p1
                          try clear q1
                          try clear hx1
                          try clear qi1
                          try clear p2
                          try clear c5
                          try clear c6
                          try clear c6b0
                          try clear p6
                          try clear c7
                          try clear c7b0
                          try clear c7b1
                          try clear c8
                          try clear c8b0
                          try clear c8b1
                          try clear c9
                          try clear c9b0
                          try clear c9b1
                          try clear c13
                          try clear c13b0
                          try clear c15
                          try clear c15b0
                          try clear c16
                          try clear c16b0
                          try clear p16
                          try clear q16
                          try clear hx16
                          try clear qi16
                          try clear p17
                          try clear q17
                          try clear hx17
                          try clear hcz10_0
                          try clear hcz10_1
                          try clear hcz10_2
                          try clear hcz17_0
                          try clear hcz17_1
                          try clear hcz17_2
                          try clear hfz10_0
                          try clear hfz10_1
                          try clear hfz10_2
                          try clear hfz17_0
                          try clear hfz17_1
                          try clear hfz17_2
                          try clear hx166_0
                          try clear hx173_0
                          try clear p1
                          try clear p166
                          try clear p173
                          try clear p2
                          try clear q1
                          try clear q166
                          try clear q173
                          obtain ⟨x7_3, x10_3, rfl, HA, HK3, HO_5, HO_7, BK162, HB⟩ := hrel
                          cases gk with
                          | zero => exact absurd HA.out (by simp [spec_l04Times.l2])
                          | succ k3 =>
                            have H := HA.out
                            clear HA
                            simp only [spec_l04Times.l2] at H
                            by_cases c18 : x10_3 < (x7_3.length : Int)
                            · rw [if_pos c18] at H
                              have c18b0 : decide (x10_3 < (x7_3.length : Int)) = true := decide_eq_true c18
                              clear c18
                              by_cases c19 : (rd l0_2 (ji14)) = 0
                              · rw [if_pos c19] at H
                                have c19b0 : ((rd l0_2 (ji14)) == 0) = true := beq_iff_eq.mpr c19
                                have c19b1 : ((rd l0_2 (ji14)) != 0) = false := bne_eq_false_iff_eq.mpr c19
                                clear c19
                                have H' := AM H
                                clear H
                                obtain ⟨Ao20, co20, eo20⟩ := Kd.R_slice HO_7.out
                                subst eo20
                                go_wp2
                                go_roundg k3
                                case measure => have := HK1.out; have := HK2.out; have := HK3.out; omega
                                case rel => exact ⟨(x7_3), (wrap64 (x8_2 + 1)), (by first | rfl | (simp; done) | (simp [*]; done)), H', ⟨by have := HK1.out; have := HK2.out; have := HK3.out; omega⟩, ⟨ro_ HO_5.out⟩, ⟨ro_ HO_7.out⟩, ⟨bk_ BK162.out⟩, ⟨bel_⟩⟩
                              · rw [if_neg c19] at H
                                have c19b0 : ((rd l0_2 (ji14)) == 0) = false := beq_eq_false_iff_ne.mpr c19
                                have c19b1 : ((rd l0_2 (ji14)) != 0) = true := bne_iff_ne.mpr c19
                                by_cases c21 : 0 ≤ x10_3
                                · rw [if_pos c21] at H
                                  have c21b0 : decide (0 ≤ x10_3) = true := decide_eq_true c21
                                  clear c21
                                  by_cases c22 : 0 ≤ x8_2
                                  · rw [if_pos c22] at H
                                    have c22b0 : decide (0 ≤ x8_2) = true := decide_eq_true c22
                                    clear c22
                                    by_cases c23 : x8_2 < (l1.length : Int)
                                    · rw [if_pos c23] at H
                                      have c23b0 : decide (x8_2 < (l1.length : Int)) = true := decide_eq_true c23
                                      clear c23
                                      by_cases c24 : x10_3 < ((rdOf ByteArray.empty l1 x8_2).size : Int)
                                      · rw [if_pos c24] at H
                                        have c24b0 : decide (x10_3 < ((rdOf ByteArray.empty l1 x8_2).size : Int)) = true := decide_eq_true c24
                                        clear c24
                                        obtain ⟨t176, A26, H⟩ := OB H
                                        try dsimp only at H
                                        replace A26 := AM A26
                                        obtain ⟨y177, hy177⟩ : ∃ y_ : List Int, y_ = (x7_3.set (x10_3 : Int).toNat (Go.bits .xor .u8 (rd x7_3 x10_3) ((t176) % 256))) := ⟨_, rfl⟩
                                        replace H : (spec_l04Times.l2 k3 l1 x5_1 x6_1 y177 x8_2 (rd l0_2 (ji14)) (wrap64 (x10_3 + 1)) a0_0 a0_1 l0_2) = some r := by first | (rw [hy177]; with_reducible exact H) | (have H2_ := (Option.bind_some _ _).symm.trans H; rw [hy177]; with_reducible exact H2_) | (have H2_ := (Option.bind_some _ _).symm.trans H; with_reducible exact H2_) | with_reducible exact H | (rw [hy177]; exact H) | exact H
                                        have Ny177 := AM hy177
                                        clear hy177
                                        have H' := AM H
                                        clear H
                                        obtain ⟨Ao28, co28, eo28⟩ := Kd.R_slice HO_7.out
                                        subst eo28
                                        try go_wp2
                                        replace HO_5 := AM (Kd.R_drew HO_5.out)
                                        replace HO_7 := AM (Kd.R_drew HO_7.out)
                                        replace BK162 := AM (blk_drew BK162.out)
                                        replace HB := AM (below_drew1 HB.out)
                                        have p174 : 0 ≤ (x10_3 : Int) := of_decide_eq_true (by first | (with_reducible assumption) | assumption)
                                        have q174 : x10_3 < (x7_3.length : Int) := of_decide_eq_true (by first | (with_reducible assumption) | assumption)
                                        obtain ⟨ad174, e174, hx174_0⟩ := Kd.at_int (Kd.R_reads' HO_7.out).2.2 x10_3 p174 q174
                                        cases e174
                                        replace p174 := eq_true p174
                                        replace q174 := eq_true q174
                                        have p175 : 0 ≤ (x8_2 : Int) := of_decide_eq_true (by first | (with_reducible assumption) | assumption)
                                        have q175 : x8_2 < (l1.length : Int) := of_decide_eq_true (by first | (with_reducible assumption) | assumption)
                                        obtain ⟨ad175, e175, hx175_0⟩ := Kd.at_string HR1.out x8_2 p175 q175
                                        have hw175_0 := hx175_0
                                        obtain rfl : ad166 = ad175 := (by injection e175)
                                        replace hx175_0 := (HB.out.cell (World.block_lt_of_cell? w _ hx175_0)).trans hx175_0
                                        replace p175 := eq_true p175
                                        replace q175 := eq_true q175
                                        have p25 : 0 ≤ (x10_3 : Int) := of_decide_eq_true (by first | (with_reducible assumption) | assumption)
                                        have q25 : x10_3 < ((rdOf ByteArray.empty l1 x8_2).size : Int) := of_decide_eq_true (by first | (with_reducible assumption) | assumption)
                                        have hx25 := bt_at (rdOf ByteArray.empty l1 x8_2) x10_3
                                        replace p25 := eq_true p25
                                        replace q25 := eq_true q25
                                        refine start_ (n := 19) (S := fun w' => w'.cell? (ad174.add (x10_3).toNat) = some (.int .u8 (rd x7_3 x10_3)) ∧ w'.cell? (ad166.add (x8_2).toNat) = some (.string (rdOf ByteArray.empty l1 x8_2))) (ds := [18]) #[false, false, false, false, false, false, false, false, false, false, false, false, false, false, false, false, false, false, false] (by kernel_rfl) rfl rfl ⟨hx174_0, ((HB.out.cell (World.block_lt_of_cell? w _ hw175_0)).trans hw175_0)⟩ (fun hHeld => ?_); refine with_tabW spec_l04Times.tab13 spec_l04Times.bits13 (fun HT_ HW_ => ?_)
                                        generalize wr.drew = w29 at HO_5 HO_7 BK162 HB hx174_0 hx175_0 hHeld ⊢
                                        refine pu_ HT_ 0 (some 49) #[true, false, false, false, false, false, false, false, false, false, false, false, false, false, false, false, false, false, false] ?_
                                        refine pu_ HT_ 1 (some 50) #[true, true, false, false, false, false, false, false, false, false, false, false, false, false, false, false, false, false, false] ?_
                                        refine pu_ HT_ 2 (some 51) #[true, true, true, false, false, false, false, false, false, false, false, false, false, false, false, false, false, false, false] ?_
                                        refine pu_ HT_ 3 (some 52) #[true, true, true, true, false, false, false, false, false, false, false, false, false, false, false, false, false, false, false] ?_
                                        refine pu_ HT_ 4 (some 53) #[true, true, true, true, true, false, false, false, false, false, false, false, false, false, false, false, false, false, false] ?_
                                        refine pu_ HT_ 6 (some 55) #[true, true, true, true, true, false, true, false, false, false, false, false, false, false, false, false, false, false, false] ?_
                                        refine pu_ HT_ 7 (some 56) #[true, true, true, true, true, false, true, true, false, false, false, false, false, false, false, false, false, false, false] ?_
                                        refine pu_ HT_ 8 (some 57) #[true, true, true, true, true, false, true, true, true, false, false, false, false, false, false, false, false, false, false] ?_
                                        refine pu_ HT_ 10 (some 59) #[true, true, true, true, true, false, true, true, true, false, true, false, false, false, false, false, false, false, false] ?_
                                        refine pu_ HT_ 13 (some 62) #[true, true, true, true, true, false, true, true, true, false, true, false, false, true, false, false, false, false, false] ?_
                                        refine ta_ HT_ HW_ 5 (some 54) #[true, true, true, true, true, true, true, true, true, false, true, false, false, true, false, false, false, false, false] hHeld ?_
                                        refine ta_ HT_ HW_ 9 (some 58) #[true, true, true, true, true, true, true, true, true, true, true, false, false, true, false, false, false, false, false] hHeld ?_
                                        refine ta_ HT_ HW_ 11 (some 60) #[true, true, true, true, true, true, true, true, true, true, true, true, false, true, false, false, false, false, false] hHeld ?_
                                        refine pu_ HT_ 12 (some 61) #[true, true, true, true, true, true, true, true, true, true, true, true, true, true, false, false, false, false, false] ?_
                                        refine on_ HT_ 14 (some 63) #[true, true, true, true, true, true, true, true, true, true, true, true, true, true, true, false, false, false, false] (fun K hK => ?_)
                                        refine goes_ Try.func119 (by kernel_rfl) rfl #[.int .i64 (wrap64 (bt (rdOf ByteArray.empty l1 x8_2) x10_3)), .int .i64 (rd l0_2 (ji14))] (by rfl) rfl rfl (by (try simp only [List.map_toArray, List.map_cons, List.map_nil]); first | done | (simp only [hji14]; rfl) | rfl | (simp only [List.length_drop, List.length_take]; rfl)) ?_
                                        with_reducible refine (spec_l02Mul.calls k3 (wrap64 (bt (rdOf ByteArray.empty l1 x8_2) x10_3)) (rd l0_2 (ji14)) t176 _ A26.out).mono ?_
                                        rintro e w' ⟨rfl, ⟨nd, rfl⟩⟩
                                        refine ⟨_, rfl, ?_⟩
                                        have p27 : 0 ≤ (x10_3 : Int) := of_decide_eq_true (by first | (with_reducible assumption) | assumption)
                                        have q27 : (x10_3 : Int) < ((x7_3.length : Int) : Int) := of_decide_eq_true (by first | (with_reducible assumption) | assumption)
                                        obtain ⟨go27, co27, eo27, gb27, gl27, cl27, HG27⟩ := Kd.R_form HO_7.out (by omega)
                                        (first | cases eo27 | (injection eo27 with ea_ en_ ec_; (first | subst ea_ | (injection ea_ with ea_; subst ea_)); subst ec_; clear en_))
                                        have GB27 := AM gb27
                                        have GG27 := AM HG27
                                        clear gb27 gl27 HG27
                                        (first | simp only [add_plain] at hx174_0 | skip)
                                        obtain ⟨hx27_0, hf27_0⟩ := Kd.R_celln 0 HO_7.out (x10_3 : Int) p27 q27
                                        replace p27 := eq_true p27
                                        replace q27 := eq_true q27
                                        have HP30 := Kd.R_putn HO_7.out (x10_3 : Int) (Go.bits .xor .u8 (rd x7_3 x10_3) ((t176) % 256))
                                        rw [← Ny177.out] at HP30
                                        have HQ30 := AM HP30
                                        clear HP30
                                        refine hK.out _ _ ⟨hHeld.1, ((HB.out.cell (World.block_lt_of_cell? w _ hw175_0)).trans hw175_0)⟩ (fun hHeld => ?_)
                                        clear hK K
                                        refine nm_ ?_
                                        refine pu_ HT_ 15 (some 64) #[true, true, true, true, true, true, true, true, true, true, true, true, true, true, true, true, false, false, false] ?_
                                        refine pu_ HT_ 16 (some 65) #[true, true, true, true, true, true, true, true, true, true, true, true, true, true, true, true, true, false, false] ?_
                                        refine pu_ HT_ 17 (some 66) #[true, true, true, true, true, true, true, true, true, true, true, true, true, true, true, true, true, true, false] ?_
                                        refine last_ (i := 18) (N := none) #[true, true, true, true, true, true, true, true, true, true, true, true, true, true, true, true, true, true, true] rfl rfl (one_of HT_.out (by kernel_rfl)) (by decide) (fun K hK => ?_)
                                        refine sk_ ?_
                                        refine hK.out _ _ ?_
                                        clear hK K
                                        refine dn_ HT_ ?_
                                        try go_wp2
                                        go_roundg k3
                                        case measure => have := HK1.out; have := HK2.out; have := HK3.out; omega
                                        case rel => exact ⟨(y177), (wrap64 (x10_3 + 1)), (by first | rfl | (simp; done) | (simp [*]; done)), H', ⟨by have := HK1.out; have := HK2.out; have := HK3.out; omega⟩, ⟨by (with_reducible repeat (first | apply Kd.R_alloc | apply Kd.R_drewN | apply Kd.R_drew)); exact Kd.R_mono (Kd.R_far (p := ⟨go27, (x10_3 : Int).toNat, none⟩) (Kd.R_types HO_5.out GG27.out (by decide)) (fun _ hk => hk.2) (.int .u8 (Go.bits .xor .u8 (rd x7_3 x10_3) ((t176) % 256)))) (fun _ hk => trivial)⟩, ⟨by (with_reducible repeat (first | apply Kd.R_alloc | apply Kd.R_drewN | apply Kd.R_drew)); exact HQ30.out⟩, ⟨by (with_reducible repeat (first | refine blk_drewN ?_ _ | refine blk_drew ?_ | refine blk_alloc ?_ _)); refine blk_far ?_ (by have h_ := Kd.R_ne HO_7.out BK162.out (by decide); intro e_; exact h_ (by rw [e_]; rfl)) _; (with_reducible repeat (first | refine blk_drewN ?_ _ | refine blk_drew ?_ | refine blk_alloc ?_ _)); exact BK162.out⟩, ⟨bel_⟩⟩
                                      · rw [if_neg c24] at H
                                        exact absurd H (by simp)
                                    · rw [if_neg c23] at H
                                      exact absurd H (by simp)
                                  · rw [if_neg c22] at H
                                    exact absurd H (by simp)
                                · rw [if_neg c21] at H
                                  exact absurd H (by simp)
                            · rw [if_neg c18] at H
                              have c18b0 : decide (x10_3 < (x7_3.length : Int)) = false := decide_eq_false c18
                              clear c18
                              have H' := AM H
                              clear H
                              obtain ⟨Ao31, co31, eo31⟩ := Kd.R_slice HO_7.out
                              subst eo31
                              go_wp2
                              go_roundg k3
                              case measure => have := HK1.out; have := HK2.out; have := HK3.out; omega
                              case rel => exact ⟨(x7_3), (wrap64 (x8_2 + 1)), (by first | rfl | (simp; done) | (simp [*]; done)), H', ⟨by have := HK1.out; have := HK2.out; have := HK3.out; omega⟩, ⟨ro_ HO_5.out⟩, ⟨ro_ HO_7.out⟩, ⟨bk_ BK162.out⟩, ⟨bel_⟩⟩
                      · rw [if_neg c16] at H
                        exact absurd H (by simp)
                    · rw [if_neg c15] at H
                      exact absurd H (by simp)
                  · rw [if_neg c13] at H
                    have c13b0 : decide (x8_2 < a0_1) = false := decide_eq_false c13
                    clear c13
                    by_cases c32 : x5_1.length < 8796093022208
                    · rw [if_pos c32] at H
                      have LMc32 := AM c32
                      clear c32
                      obtain ⟨y170, hy170⟩ : ∃ y_ : List ByteArray, y_ = (x5_1 ++ [strOfNums x7_2]) := ⟨_, rfl⟩
                      replace H : (spec_l04Times.l0 k2 l1 y170 (wrap64 (x6_1 + 1)) a0_0 a0_1 l0_2) = some r := by first | (rw [hy170]; with_reducible exact H) | (have H2_ := (Option.bind_some _ _).symm.trans H; rw [hy170]; with_reducible exact H2_) | (have H2_ := (Option.bind_some _ _).symm.trans H; with_reducible exact H2_) | with_reducible exact H | (rw [hy170]; exact H) | exact H
                      have Ny170 := AM hy170
                      clear hy170
                      have H' := AM H
                      clear H
                      have hcz33_0 : wr.cell? ⟨gb162, 0, none⟩ = some (.int .i64 a0_0) := (blk_cell BK162.out 0).trans rfl
                      have hcz33_1 : wr.cell? ⟨gb162, 1, none⟩ = some (.int .i64 a0_1) := (blk_cell BK162.out 1).trans rfl
                      have hcz33_2 : wr.cell? ⟨gb162, 2, none⟩ = some (.slice A0_2 l0_2.length c0_2) := (blk_cell BK162.out 2).trans rfl
                      have hfz33_0 := blk_frozen BK162.out 0
                      have hfz33_1 := blk_frozen BK162.out 1
                      have hfz33_2 := blk_frozen BK162.out 2
                      have hcv34 := own_string (P := Try.prog) Try.underlying22 Try.underlying5 Try.underlying9 (Kd.own_of_R HO_7.out)
                      go_wp2_with (first | ((with_reducible refine gate_builtin (b := .append) (xs := #[.tmp 67, .tmp 70]) rfl ?_); at_builtin; refine Kd.R_append Kd.string (w0 := w) w.heap.size rfl (.tmp 67) (.tmp 70) 25 9 (.string ⟨#[]⟩) 16 rfl Try.underlying25 info9 rfl (by decide) (by omega) u5 x5_1 (strOfNums x7_2) [.string (strOfNums x7_2)] (fun _ => True) (fun _ => False) rfl rfl ?aP (fun _ hk => hk.elim) ?aF ?aO ?aB ?aS ?aL ?_; (case aP => exact rfl); (case aB => exact bel_); (case aF => exact (fun _ _ => trivial)); (case aO => exact (ro_ HO_5.out)); (case aS => exact (below_size bel_)); (case aL => have := LMc32.out; omega); intro v171 w35 ho hb hg hat; rw [← Ny170.out] at ho; have n0_ := AM (Kd.R_over' (ro_ HO_7.out) (Kd.R_typed (ro_ HO_5.out)) (by decide) hg); have n1_ := AM (blk_grown (g := gb162) (o := .cells #[.int .i64 a0_0, .int .i64 a0_1, .slice A0_2 l0_2.length c0_2] 89 (0, 0)) (bk_ BK162.out) hg (Kd.R_ne HO_5.out BK162.out (by decide))); have n2_ := AM hb; have n3_ := AM ho; clear HO_7; clear BK162; clear HB; clear HO_5; have HO_7 := n0_; have BK162 := n1_; have HB := n2_; have HO172 := n3_; clear n0_ n1_ n2_ n3_; clear ho hb hg hat))
                      go_roundg k2
                      case measure => have := HK1.out; have := HK2.out; omega
                      case rel => exact ⟨(y170), (wrap64 (x6_1 + 1)), (by first | rfl | (simp; done) | (simp [*]; done)), H', ⟨by have := HK1.out; have := HK2.out; omega⟩, ⟨ro_ HO172.out⟩, ⟨bk_ BK162.out⟩, ⟨bel_⟩⟩
                    · rw [if_neg c32] at H
                      exact absurd H (by simp)
            · rw [if_neg c9] at H
              exact absurd H (by simp)
          · rw [if_neg c8] at H
            exact absurd H (by simp)
        · rw [if_neg c7] at H
          exact absurd H (by simp)
      · rw [if_neg c6] at H
        have c6b0 : decide (x6_1 < a0_0) = false := decide_eq_false c6
        clear c6
        obtain rfl := Option.some.inj H
        have hcz36_0 : wr.cell? ⟨gb162, 0, none⟩ = some (.int .i64 a0_0) := (blk_cell BK162.out 0).trans rfl
        have hcz36_1 : wr.cell? ⟨gb162, 1, none⟩ = some (.int .i64 a0_1) := (blk_cell BK162.out 1).trans rfl
        have hcz36_2 : wr.cell? ⟨gb162, 2, none⟩ = some (.slice A0_2 l0_2.length c0_2) := (blk_cell BK162.out 2).trans rfl
        have hfz36_0 := blk_frozen BK162.out 0
        have hfz36_1 := blk_frozen BK162.out 1
        have hfz36_2 := blk_frozen BK162.out 2
        go_wp2
        go_ret
        exact ⟨_, ri_, ro_ HO_5.out, bel_⟩

/-! ### spec_l03Ill: function 120 -/
def spec_l03Ill.f (a0 : Int) : Option (Int × Int × List Int × Int) := some (0, 0, ([] : List Int), a0)
set_option maxHeartbeats 8000000 in
set_option maxRecDepth 100000 in
theorem spec_l03Ill.calls (a0 : Int) (r1 : Int) (r2 : Int) (r3 : List Int) (r4 : Int) (w : World) (h : spec_l03Ill.f a0 = some (r1, r2, r3, r4)) :
    Calls Try.prog 120 #[.int .i64 a0] w fun e w' => ∃ v2_ : Value, e = .returned (.agg #[.int .i64 r1, .int .i64 r2, v2_, .int .i64 r4]) ∧ Kd.R (Kd.int .i64) 2 w' w.heap.size (fun _ => True) v2_ r3 ∧ Below w.heap.size w w' := by
  have hu91 := Try.underlying91
  have HB := AM (Below.refl w.heap.size w)
  have H : (some (0, 0, ([] : List Int), a0)) = some (r1, r2, r3, r4) := h
  clear h
  simp only [Option.some.injEq, Prod.mk.injEq] at H
  obtain ⟨rfl, rfl, rfl, rfl⟩ := H
  go_enter Try.func120, Try.ntmps120
  go_wp2_with (first | ((with_reducible refine gate_dst (N := 2) rfl ?_); refine be_ 2 #[.int .i64 0, .int .i64 0, .slice none 0 0, .int .i64 0] 91 ?_; intro gb178 hg w2 hbox hb; have BK178 := AM hbox; have GW178 := AM ((by rw [hg]; exact (below_size bel_) : w.heap.size ≤ gb178)); have GE178 := AM ((by rw [hg]; exact (below_size bel_) : w.heap.size ≤ gb178)); replace HB := AM (below_step bel_ hb); clear hb hbox hg; have hcz3_0 : w2.cell? ⟨gb178, 0, none⟩ = some (.int .i64 0) := (blk_cell BK178.out 0).trans rfl; have hcz3_1 : w2.cell? ⟨gb178, 1, none⟩ = some (.int .i64 0) := (blk_cell BK178.out 1).trans rfl; have hcz3_2 : w2.cell? ⟨gb178, 2, none⟩ = some (.slice none 0 0) := (blk_cell BK178.out 2).trans rfl; have hcz3_3 : w2.cell? ⟨gb178, 3, none⟩ = some (.int .i64 0) := (blk_cell BK178.out 3).trans rfl; have hfz3_0 := blk_frozen BK178.out 0; have hfz3_1 := blk_frozen BK178.out 1; have hfz3_2 := blk_frozen BK178.out 2; have hfz3_3 := blk_frozen BK178.out 3))
  refine bodyPost_ret (results_cell_row rfl _ _ gb178 91 #[.int .i64 0, .int .i64 0, .slice none 0 0, .int .i64 a0] (0, 0) _ rfl bka_ Try.underlying91 rfl (by kernel_rfl)) rfl ?_
  exact ⟨_, ri_, by first | exact Kd.R_nil _ _ _ _ _ | exact Kd.N_nil _ _ _ _ _ | exact Kd.V_nil _ _ _ _ _ | exact Kd.Q_nil _ _ _ _ _ | exact Kd.S_nil _ _ _ _ _, bel_⟩

/-! ### spec_l03Unit: function 121 -/
def spec_l03Unit.l0 : Nat → Int → Int → Int → Int → List Int → Option (Int × Int × List Int)
  | 0, _, _, _, _, _ => none
  | k + 1, x0, x4, x184000, x184001, x184002 => if x4 < x0 then (if 0 ≤ (wrap64 ((wrap64 (x4 * x0)) + x4)) then (if (wrap64 ((wrap64 (x4 * x0)) + x4)) < (x184002.length : Int) then (spec_l03Unit.l0 k x0 (wrap64 (x4 + 1)) x184000 x184001 (x184002.set ((wrap64 ((wrap64 (x4 * x0)) + x4)) : Int).toNat 1)) else (none)) else (none)) else (some (x184000, x184001, x184002))
def spec_l03Unit.f (k : Nat) (a0 : Int) : Option (Int × Int × List Int) := if 0 ≤ (wrap64 (a0 * a0)) then (if (wrap64 (a0 * a0) : Int).toNat ≤ 35184372088832 then (spec_l03Unit.l0 k a0 0 a0 a0 (List.replicate (wrap64 (a0 * a0) : Int).toNat 0)) else (none)) else (none)
theorem spec_l03Unit.mono_l : ∀ k, (∀ y0 y1 y2 y3 y4, LeO (spec_l03Unit.l0 k y0 y1 y2 y3 y4) (spec_l03Unit.l0 (k + 1) y0 y1 y2 y3 y4))
  | 0 => fun _ _ _ _ _ r h => by simp [spec_l03Unit.l0] at h
  | k + 1 => by
    have ih0 := spec_l03Unit.mono_l k
    · intro y0 y1 y2 y3 y4
      unfold spec_l03Unit.l0
      repeat' first
      | (with_reducible exact ih0 _ _ _ _ _)
      | (with_reducible exact LeO.refl _)
      | (with_reducible exact LeO.none _)
      | (with_reducible refine LeO.ite ?_ ?_)
      | (with_reducible refine LeO.bind ?_ (fun _ => ?_))
      | exact ih0 _ _ _ _ _
      | exact LeO.none _
      | refine LeO.ite ?_ ?_
      | refine LeO.bind ?_ (fun _ => ?_)
theorem spec_l03Unit.mono : ∀ a0 k, LeO (spec_l03Unit.f k a0) (spec_l03Unit.f (k + 1) a0) := by
  intro a0 k
  have ih0 := spec_l03Unit.mono_l k
  unfold spec_l03Unit.f
  repeat' first
      | (with_reducible exact ih0 _ _ _ _ _)
      | (with_reducible exact LeO.refl _)
      | (with_reducible exact LeO.none _)
      | (with_reducible refine LeO.ite ?_ ?_)
      | (with_reducible refine LeO.bind ?_ (fun _ => ?_))
      | exact ih0 _ _ _ _ _
      | exact LeO.none _
      | refine LeO.ite ?_ ?_
      | refine LeO.bind ?_ (fun _ => ?_)
set_option maxHeartbeats 8000000 in
set_option maxRecDepth 100000 in
theorem spec_l03Unit.calls (k : Nat) (a0 : Int) (r1 : Int) (r2 : Int) (r3 : List Int) (w : World) (h : spec_l03Unit.f k a0 = some (r1, r2, r3)) :
    Calls Try.prog 121 #[.int .i64 a0] w fun e w' => ∃ v2_ : Value, e = .returned (.agg #[.int .i64 r1, .int .i64 r2, v2_]) ∧ Kd.R (Kd.int .i64) 2 w' w.heap.size (fun _ => True) v2_ r3 ∧ Below w.heap.size w w' := by
  have hu89 := Try.underlying89
  have HB := AM (Below.refl w.heap.size w)
  have H : (if 0 ≤ (wrap64 (a0 * a0)) then (if (wrap64 (a0 * a0) : Int).toNat ≤ 35184372088832 then (spec_l03Unit.l0 k a0 0 a0 a0 (List.replicate (wrap64 (a0 * a0) : Int).toNat 0)) else (none)) else (none)) = some (r1, r2, r3) := h
  clear h
  obtain ⟨ji2, hji2⟩ : ∃ j_ : Int, (wrap64 (a0 * a0)) = j_ := ⟨_, rfl⟩
  replace H : (if 0 ≤ (ji2) then (if (ji2 : Int).toNat ≤ 35184372088832 then (spec_l03Unit.l0 k a0 0 a0 a0 (List.replicate (ji2 : Int).toNat 0)) else (none)) else (none)) = some (r1, r2, r3) := by first | (rw [hji2] at H; exact H) | (simp only [hji2] at H ⊢; exact H)
  have hji2w : (IntKind.i64.wrap (a0 * a0)) = ji2 := (i64_w _).trans hji2
  by_cases c3 : 0 ≤ (ji2)
  · rw [if_pos c3] at H
    have c3b0 := eq_true c3
    have c3b1 : decide (0 ≤ (ji2)) = true := decide_eq_true c3
    clear c3
    by_cases c4 : (ji2 : Int).toNat ≤ 35184372088832
    · rw [if_pos c4] at H
      have c4b0 := eq_true c4
      have c4b1 : decide ((ji2 : Int).toNat ≤ 35184372088832) = true := decide_eq_true c4
      clear c4
      obtain ⟨y180, hy180⟩ : ∃ y_ : List Int, y_ = (List.replicate (ji2 : Int).toNat 0) := ⟨_, rfl⟩
      replace H : (spec_l03Unit.l0 k a0 0 a0 a0 y180) = some (r1, r2, r3) := by first | (rw [hy180]; with_reducible exact H) | (have H2_ := (Option.bind_some _ _).symm.trans H; rw [hy180]; with_reducible exact H2_) | (have H2_ := (Option.bind_some _ _).symm.trans H; with_reducible exact H2_) | with_reducible exact H | (rw [hy180]; exact H) | exact H
      have Ny180 := AM hy180
      clear hy180
      have H' := AM H
      clear H
      go_enter Try.func121, Try.ntmps121
      go_wp2_with (first | ((with_reducible refine gate_dst (N := 2) rfl ?_); refine be_ 2 #[.int .i64 0, .int .i64 0, .slice none 0 0] 89 ?_; intro gb179 hg w5 hbox hb; have BK179 := AM hbox; have GW179 := AM ((by rw [hg]; exact (below_size bel_) : w.heap.size ≤ gb179)); have GE179 := AM ((by rw [hg]; exact (below_size bel_) : w.heap.size ≤ gb179)); replace HB := AM (below_step bel_ hb); clear hb hbox hg) | ((with_reducible refine gate_dst (N := 10) rfl ?_); refine Kd.R_make (Kd.int .i64) _ 2 rfl (N := 10) rfl 71 _ _ rfl ji2 rfl rfl Try.underlying71 (.int .i64 0) 8 info2 rfl (by decide) (by omega) 0 (ok := fun _ => True) (okp := fun _ => True) rfl (fun _ hk => hk) trivial (of_decide_eq_true (by first | (with_reducible assumption) | assumption)) (Nat.le_trans (Nat.mul_le_mul_right _ (of_decide_eq_true (by first | (with_reducible assumption) | assumption) : ji2.toNat ≤ 35184372088832)) (by omega)) (Below.refl _ _) (Nat.le_refl _) ?_; intro v181 w6 ho7 hb hg_ hnew_; clear hg_ hnew_; (first | rw [← Ny180.out] at ho7 | (simp only [Int.reduceToNat] at ho7; rw [← Ny180.out] at ho7)); have HO182 := AM (Kd.R_lower ho7 (below_size bel_)); replace BK179 := AM (blk_below (g := gb179) (o := .cells #[.int .i64 0, .int .i64 0, .slice none 0 0] 89 (0, 0)) (bk_ BK179.out) hb); replace HB := AM (below_step bel_ hb); clear hb ho7; obtain ⟨Ao8, co8, eo8⟩ := Kd.R_slice HO182.out; subst eo8) | ((with_reducible refine gate_dst (N := 3) rfl ?_); refine be_ 3 #[.int .i64 0, .int .i64 0, .slice none 0 0] 89 ?_; intro gb183 hg w9 hbox hb; replace HO182 := AM (Kd.R_below (ro_ HO182.out) hb); have BK183 := AM hbox; have GW183 := AM ((by rw [hg]; exact (below_size bel_) : w.heap.size ≤ gb183)); have GE183 := AM ((by rw [hg]; exact (below_size bel_) : w.heap.size ≤ gb183)); replace HB := AM (below_step bel_ hb); have NB179_183 := AM ((by rw [hg]; exact Nat.ne_of_lt (blk_lt (g := gb179) (o := .cells #[.int .i64 0, .int .i64 0, .slice none 0 0] 89 (0, 0)) (bk_ BK179.out)) : gb179 ≠ gb183)); have NB183_179 := AM ((by rw [hg]; exact Nat.ne_of_gt (blk_lt (g := gb179) (o := .cells #[.int .i64 0, .int .i64 0, .slice none 0 0] 89 (0, 0)) (bk_ BK179.out)) : gb183 ≠ gb179)); replace BK179 := AM (blk_below (g := gb179) (o := .cells #[.int .i64 0, .int .i64 0, .slice none 0 0] 89 (0, 0)) (bk_ BK179.out) hb); clear hb hbox hg; have hnb10 := NB183_179.out; have hnc10 := NB179_183.out; have hcz11_0 : w9.cell? ⟨gb183, 0, none⟩ = some (.int .i64 0) := (blk_cell BK183.out 0).trans rfl; have hcz11_1 : w9.cell? ⟨gb183, 1, none⟩ = some (.int .i64 0) := (blk_cell BK183.out 1).trans rfl; have hcz11_2 : w9.cell? ⟨gb183, 2, none⟩ = some (.slice none 0 0) := (blk_cell BK183.out 2).trans rfl; have hfz11_0 := blk_frozen BK183.out 0; have hfz11_1 := blk_frozen BK183.out 1; have hfz11_2 := blk_frozen BK183.out 2))
      go_loopg [4] k (fun kq v4 w' => ∃ (x4_1 : Int) (x184002_1 : List Int) (u184002 : Value), v4 = .int .i64 x4_1 ∧ Aside0 (spec_l03Unit.l0 kq a0 x4_1 a0 a0 x184002_1 = some (r1, r2, r3)) ∧ Aside0 (kq ≤ k) ∧ Aside0 (Kd.R (Kd.int .i64) 2 w' w.heap.size (fun _ => True) u184002 x184002_1) ∧ Aside0 (w'.heap[gb179]? = some (.cells #[.int .i64 0, .int .i64 0, (.slice none 0 0)] 89 (0, 0))) ∧ Aside0 (w'.heap[gb183]? = some (.cells #[.int .i64 a0, .int .i64 a0, u184002] 89 (0, 0))) ∧ Aside0 (Below w.heap.size w w'))
      case atStart => exact ⟨(0), (y180), (.slice Ao8 y180.length co8), (by first | rfl | (simp; done) | (simp [*]; done)), H', ⟨Nat.le_refl _⟩, ⟨by (with_reducible repeat (first | apply Kd.R_alloc | apply Kd.R_drewN | apply Kd.R_drew)); exact Kd.R_mono (Kd.R_far (p := ⟨gb183, 2, none⟩) (Kd.R_far (p := ⟨gb183, 1, none⟩) (Kd.R_far (p := ⟨gb183, 0, none⟩) (Kd.R_types HO182.out BK183.out (by decide)) (fun _ hk => hk.2) (.int .i64 a0)) (fun _ hk => hk.2) (.int .i64 a0)) (fun _ hk => hk.2) (.slice Ao8 y180.length co8)) (fun _ hk => trivial)⟩, ⟨bka_⟩, ⟨bka_⟩, ⟨bel_⟩⟩
      case round =>
        clear H'
        try clear c1
        try clear p2
        try clear c3
        try clear c3b0
        try clear c3b1
        try clear c4
        try clear c4b0
        try clear c4b1
        try clear p6
        try clear c10
        try clear hcz11_0
        try clear hcz11_1
        try clear hcz11_2
        try clear hfz11_0
        try clear hfz11_1
        try clear hfz11_2
        obtain ⟨x4_1, x184002_1, u184002, rfl, HA, HK1, HO_184002, BK179, BK183, HB⟩ := hrel
        cases gk with
        | zero => exact absurd HA.out (by simp [spec_l03Unit.l0])
        | succ k1 =>
          have H := HA.out
          clear HA
          simp only [spec_l03Unit.l0] at H
          by_cases c12 : x4_1 < a0
          · rw [if_pos c12] at H
            have c12b0 : decide (x4_1 < a0) = true := decide_eq_true c12
            clear c12
            obtain ⟨ji13, hji13⟩ : ∃ j_ : Int, (wrap64 ((wrap64 (x4_1 * a0)) + x4_1)) = j_ := ⟨_, rfl⟩
            replace H : (if 0 ≤ (ji13) then (if (ji13) < (x184002_1.length : Int) then (spec_l03Unit.l0 k1 a0 (wrap64 (x4_1 + 1)) a0 a0 (x184002_1.set ((ji13) : Int).toNat 1)) else (none)) else (none)) = some (r1, r2, r3) := by first | (rw [hji13] at H; exact H) | (simp only [hji13] at H ⊢; exact H)
            have hji13w : (IntKind.i64.wrap ((wrap64 (x4_1 * a0)) + x4_1)) = ji13 := (i64_w _).trans hji13
            by_cases c14 : 0 ≤ (ji13)
            · rw [if_pos c14] at H
              have c14b0 : decide (0 ≤ (ji13)) = true := decide_eq_true c14
              clear c14
              by_cases c15 : (ji13) < (x184002_1.length : Int)
              · rw [if_pos c15] at H
                have c15b0 : decide ((ji13) < (x184002_1.length : Int)) = true := decide_eq_true c15
                clear c15
                obtain ⟨y184, hy184⟩ : ∃ y_ : List Int, y_ = (x184002_1.set ((ji13) : Int).toNat 1) := ⟨_, rfl⟩
                replace H : (spec_l03Unit.l0 k1 a0 (wrap64 (x4_1 + 1)) a0 a0 y184) = some (r1, r2, r3) := by first | (rw [hy184]; with_reducible exact H) | (have H2_ := (Option.bind_some _ _).symm.trans H; rw [hy184]; with_reducible exact H2_) | (have H2_ := (Option.bind_some _ _).symm.trans H; with_reducible exact H2_) | with_reducible exact H | (rw [hy184]; exact H) | exact H
                have Ny184 := AM hy184
                clear hy184
                have H' := AM H
                clear H
                have hnb17 := NB183_179.out
                have hnc17 := NB179_183.out
                have hcz18_0 : wr.cell? ⟨gb183, 0, none⟩ = some (.int .i64 a0) := (blk_cell BK183.out 0).trans rfl
                have hcz18_1 : wr.cell? ⟨gb183, 1, none⟩ = some (.int .i64 a0) := (blk_cell BK183.out 1).trans rfl
                have hcz18_2 : wr.cell? ⟨gb183, 2, none⟩ = some (u184002) := (blk_cell BK183.out 2).trans rfl
                have hfz18_0 := blk_frozen BK183.out 0
                have hfz18_1 := blk_frozen BK183.out 1
                have hfz18_2 := blk_frozen BK183.out 2
                have p16 : 0 ≤ ((ji13) : Int) := of_decide_eq_true (by first | (with_reducible assumption) | assumption)
                have q16 : ((ji13) : Int) < ((x184002_1.length : Int) : Int) := of_decide_eq_true (by first | (with_reducible assumption) | assumption)
                obtain ⟨go16, co16, eo16, gb16, gl16, cl16, HG16⟩ := Kd.R_form HO_184002.out (by omega)
                (first | cases eo16 | (injection eo16 with ea_ en_ ec_; (first | subst ea_ | (injection ea_ with ea_; subst ea_)); subst ec_; clear en_))
                have GB16 := AM gb16
                have GG16 := AM HG16
                clear gb16 gl16 HG16
                obtain ⟨hx16_0, hf16_0⟩ := Kd.R_celln 0 HO_184002.out ((ji13) : Int) p16 q16
                replace p16 := eq_true p16
                replace q16 := eq_true q16
                have HP19 := Kd.R_putg HO_184002.out ((ji13) : Int) 1
                go_wp2_with (first | ((with_reducible refine gate_store (t := 2) (p := 24) rfl ?_); refine store_event (t := 2) (p := 24) (v := ?vo_w20) (w1 := (wr.setCell ⟨go16, ((ji13) : Int).toNat, none⟩ (.int .i64 1))) ?hg ?ho ?hn ?hr ?_; (case ho => rfl); (case hg => rfl); (case hn => rfl); (case hr => first | (go_simp; done) | (go_simp; rfl)); intro w20 hw; have hg : wr.grownBy w20 (some go16) := (by rw [hw]; exact HP19.2); have hp_ : Kd.R (Kd.int .i64) 2 w20 w.heap.size (fun _ => True) (.slice (some ⟨go16, 0, none⟩) x184002_1.length co16) y184 := (by rw [hw, Ny184.out]; exact HP19.1); clear HP19; replace BK179 := AM (blk_grown (g := gb179) (o := .cells #[.int .i64 0, .int .i64 0, .slice none 0 0] 89 (0, 0)) (bk_ BK179.out) hg (Kd.R_ne HO_184002.out BK179.out (by decide))); replace BK183 := AM (blk_grown (g := gb183) (o := .cells #[.int .i64 a0, .int .i64 a0, .slice (some ⟨go16, 0, none⟩) x184002_1.length co16] 89 (0, 0)) (bk_ BK183.out) hg (Kd.R_ne HO_184002.out BK183.out (by decide))); replace HO_184002 := AM hp_; replace HB := AM ((by rw [hw]; exact below_set (HB.out) GB16.out : Below w.heap.size w w20)); clear hg hw hp_))
                go_roundg k1
                case measure => have := HK1.out; omega
                case rel => exact ⟨(wrap64 (x4_1 + 1)), (y184), (.slice (some ⟨go16, 0, none⟩) x184002_1.length co16), (by first | rfl | (simp; done) | (simp [*]; done)), H', ⟨by have := HK1.out; omega⟩, ⟨ro_ HO_184002.out⟩, ⟨bk_ BK179.out⟩, ⟨bk_ BK183.out⟩, ⟨bel_⟩⟩
              · rw [if_neg c15] at H
                exact absurd H (by simp)
            · rw [if_neg c14] at H
              exact absurd H (by simp)
          · rw [if_neg c12] at H
            have c12b0 : decide (x4_1 < a0) = false := decide_eq_false c12
            clear c12
            simp only [Option.some.injEq, Prod.mk.injEq] at H
            obtain ⟨rfl, rfl, rfl⟩ := H
            have hnb21 := NB183_179.out
            have hnc21 := NB179_183.out
            have hcz22_0 : wr.cell? ⟨gb183, 0, none⟩ = some (.int .i64 a0) := (blk_cell BK183.out 0).trans rfl
            have hcz22_1 : wr.cell? ⟨gb183, 1, none⟩ = some (.int .i64 a0) := (blk_cell BK183.out 1).trans rfl
            have hcz22_2 : wr.cell? ⟨gb183, 2, none⟩ = some (u184002) := (blk_cell BK183.out 2).trans rfl
            have hfz22_0 := blk_frozen BK183.out 0
            have hfz22_1 := blk_frozen BK183.out 1
            have hfz22_2 := blk_frozen BK183.out 2
            have hcz23_0 : wr.cell? ⟨gb179, 0, none⟩ = some (.int .i64 0) := (blk_cell BK179.out 0).trans rfl
            have hcz23_1 : wr.cell? ⟨gb179, 1, none⟩ = some (.int .i64 0) := (blk_cell BK179.out 1).trans rfl
            have hcz23_2 : wr.cell? ⟨gb179, 2, none⟩ = some (.slice none 0 0) := (blk_cell BK179.out 2).trans rfl
            have hfz23_0 := blk_frozen BK179.out 0
            have hfz23_1 := blk_frozen BK179.out 1
            have hfz23_2 := blk_frozen BK179.out 2
            obtain ⟨Ao24, co24, eo24⟩ := Kd.R_slice HO_184002.out
            subst eo24
            go_wp2
            refine bodyPost_ret (results_cell_row rfl _ _ gb179 89 #[.int .i64 a0, .int .i64 a0, .slice Ao24 x184002_1.length co24] (0, 0) _ rfl bka_ Try.underlying89 rfl (by kernel_rfl)) rfl ?_
            exact ⟨_, by first | rfl | (simp [errW_none, errW_some] <;> rfl) | (simp only [← hji2]; first | rfl | (simp [errW_none, errW_some] <;> rfl)) | (simp [*, errW_none, errW_some] <;> rfl), by (with_reducible repeat (first | apply Kd.R_alloc | apply Kd.R_drewN | apply Kd.R_drew)); exact Kd.R_mono (Kd.R_far (p := ⟨gb179, 2, none⟩) (Kd.R_far (p := ⟨gb179, 1, none⟩) (Kd.R_far (p := ⟨gb179, 0, none⟩) (Kd.R_types HO_184002.out BK179.out (by decide)) (fun _ hk => hk.2) (.int .i64 a0)) (fun _ hk => hk.2) (.int .i64 a0)) (fun _ hk => hk.2) (.slice Ao24 x184002_1.length co24)) (fun _ hk => trivial), bel_⟩
    · rw [if_neg c4] at H
      exact absurd H (by simp)
  · rw [if_neg c3] at H
    exact absurd H (by simp)

/-! ### spec_l02Byte: function 170 -/
def spec_l02Byte.f (a0 : Int) : Option (Bool) := if a0 ≥ 0 then (some (decide (a0 ≤ 255))) else (some false)
set_option maxHeartbeats 8000000 in
set_option maxRecDepth 100000 in
theorem spec_l02Byte.calls (a0 : Int) (r : Bool) (w : World) (h : spec_l02Byte.f a0 = some r) :
    Calls Try.prog 170 #[.int .i64 a0] w fun e w' => e = .returned (.bool r) ∧ Drawn0 w w' := by
  have H : (if a0 ≥ 0 then (some (decide (a0 ≤ 255))) else (some false)) = some r := h
  clear h
  by_cases c2 : a0 ≥ 0
  · rw [if_pos c2] at H
    have c2b0 : decide (0 ≤ a0) = true := decide_eq_true c2
    clear c2
    obtain rfl := Option.some.inj H
    go_enter Try.func170, Try.ntmps170
    go_wp2
    go_ret
    exact ⟨by first | rfl | (simp; done) | (simp [*]; done), by repeat (first | exact Drawn0.refl _ | apply Drawn0.step)⟩
  · rw [if_neg c2] at H
    have c2b0 : decide (0 ≤ a0) = false := decide_eq_false c2
    clear c2
    obtain rfl := Option.some.inj H
    go_enter Try.func170, Try.ntmps170
    go_wp2
    go_ret
    exact ⟨by first | rfl | (simp; done) | (simp [*]; done), by repeat (first | exact Drawn0.refl _ | apply Drawn0.step)⟩

end Go.Proofs.Ytdbnajnelbebfaa.PFnWhole
