/- Functions of the law FnExactKeep: the print's, with walks of this session's own. No statement is proved here. -/
import Derived.WalkLawsBesides
import Derived.Test.YtfffdndeccipnaaVRegFnExactKeep
-- A program of this session wrote this text: a changed copy of the kit print, with given functions.
import Derived.Test.YtfffdndeccipnaaPFnExactKeepx0
namespace Go.Proofs.Ytfffdndeccipnaa.PFnExactKeep
open Go.RowKit Go.Proofs.YtfffdndeccipnaaW.PrintWords Go.Proofs.YtfffdndeccipnaaW.PrintLast Go.Proofs.YtfffdndeccipnaaW.PrintMore Go.Proofs.Ytfffdndeccipnaa.Reg Go.Proofs.Ytfffdndeccipnaa.Aut
attribute [local go_sem] max2_int min2_int max_two min_two max_three min_three max_four min_four   -- for this text's walks alone
set_option linter.unusedVariables false
set_option linter.unusedSimpArgs false

/-! ### spec_l13Some: function 169 -/
mutual
def spec_l13Some.l0 : Nat → List (S132) → Int → Int → List ByteArray → Int → Option (List ByteArray)
  | 0, _, _, _, _, _ => none
  | k + 1, x0, x1, x2, x7, x8 => if x8 < (x0.length : Int) then (spec_l13Some.j1 k x0 x1 x2 x7 x8 (decide ((x7.length : Int) < x1))) else (spec_l13Some.j1 k x0 x1 x2 x7 x8 false)
def spec_l13Some.j1 : Nat → List (S132) → Int → Int → List ByteArray → Int → Bool → Option (List ByteArray)
  | 0, _, _, _, _, _, _ => none
  | k + 1, x0, x1, x2, x7, x8, x19 => if x19 = true then (if x8 = 0 then (if 0 ≤ x8 then (if x8 < (x0.length : Int) then (if x7.length < 8796093022208 then (spec_l13Some.l0 k x0 x1 x2 (x7 ++ [(rd_T132 x0 x8).f0]) (wrap64 (x8 + 1))) else (none)) else (none)) else (none)) else (if 0 ≤ (wrap64 (x8 - 1)) then (if (wrap64 (x8 - 1)) < (x0.length : Int) then (if x2 = 0 then (none) else (if 0 ≤ x8 then (if x8 < (x0.length : Int) then (if (wrap64 (Int.tdiv ((rd_T132 x0 (wrap64 (x8 - 1))).f1) x2)) = (wrap64 (Int.tdiv ((rd_T132 x0 x8).f1) x2)) then (spec_l13Some.l0 k x0 x1 x2 x7 (wrap64 (x8 + 1))) else (if x7.length < 8796093022208 then (spec_l13Some.l0 k x0 x1 x2 (x7 ++ [(rd_T132 x0 x8).f0]) (wrap64 (x8 + 1))) else (none))) else (none)) else (none))) else (none)) else (none))) else (some x7)
end
def spec_l13Some.f (k : Nat) (l0 : List (S132)) (a1 : Int) (a2 : Int) : Option (List ByteArray) := spec_l13Some.l0 k l0 a1 a2 (([] : List ByteArray)) 0
theorem spec_l13Some.mono_l : ∀ k, (∀ y0 y1 y2 y3 y4, LeO (spec_l13Some.l0 k y0 y1 y2 y3 y4) (spec_l13Some.l0 (k + 1) y0 y1 y2 y3 y4)) ∧ (∀ y0 y1 y2 y3 y4 y5, LeO (spec_l13Some.j1 k y0 y1 y2 y3 y4 y5) (spec_l13Some.j1 (k + 1) y0 y1 y2 y3 y4 y5))
  | 0 => ⟨fun _ _ _ _ _ r h => by simp [spec_l13Some.l0] at h, fun _ _ _ _ _ _ r h => by simp [spec_l13Some.j1] at h⟩
  | k + 1 => by
    obtain ⟨ih0, ih1⟩ := spec_l13Some.mono_l k
    refine ⟨?_, ?_⟩
    · intro y0 y1 y2 y3 y4
      unfold spec_l13Some.l0
      repeat' first
      | (with_reducible exact ih0 _ _ _ _ _)
      | (with_reducible exact ih1 _ _ _ _ _ _)
      | (with_reducible exact LeO.refl _)
      | (with_reducible exact LeO.none _)
      | (with_reducible refine LeO.ite ?_ ?_)
      | (with_reducible refine LeO.bind ?_ (fun _ => ?_))
      | exact ih0 _ _ _ _ _
      | exact ih1 _ _ _ _ _ _
      | exact LeO.none _
      | refine LeO.ite ?_ ?_
      | refine LeO.bind ?_ (fun _ => ?_)
    · intro y0 y1 y2 y3 y4 y5
      unfold spec_l13Some.j1
      repeat' first
      | (with_reducible exact ih0 _ _ _ _ _)
      | (with_reducible exact ih1 _ _ _ _ _ _)
      | (with_reducible exact LeO.refl _)
      | (with_reducible exact LeO.none _)
      | (with_reducible refine LeO.ite ?_ ?_)
      | (with_reducible refine LeO.bind ?_ (fun _ => ?_))
      | exact ih0 _ _ _ _ _
      | exact ih1 _ _ _ _ _ _
      | exact LeO.none _
      | refine LeO.ite ?_ ?_
      | refine LeO.bind ?_ (fun _ => ?_)
theorem spec_l13Some.mono : ∀ a0 a1 a2 k, LeO (spec_l13Some.f k a0 a1 a2) (spec_l13Some.f (k + 1) a0 a1 a2) := by
  intro a0 a1 a2 k
  obtain ⟨ih0, ih1⟩ := spec_l13Some.mono_l k
  unfold spec_l13Some.f
  repeat' first
      | (with_reducible exact ih0 _ _ _ _ _)
      | (with_reducible exact ih1 _ _ _ _ _ _)
      | (with_reducible exact LeO.refl _)
      | (with_reducible exact LeO.none _)
      | (with_reducible refine LeO.ite ?_ ?_)
      | (with_reducible refine LeO.bind ?_ (fun _ => ?_))
      | exact ih0 _ _ _ _ _
      | exact ih1 _ _ _ _ _ _
      | exact LeO.none _
      | refine LeO.ite ?_ ?_
      | refine LeO.bind ?_ (fun _ => ?_)
set_option maxHeartbeats 8000000 in
set_option maxRecDepth 100000 in
theorem spec_l13Some.calls (k : Nat) (A0 : Option Addr) (c0 : Nat) (l0 : List (S132)) (a1 : Int) (a2 : Int) (r : List ByteArray) (w : World) (hr0 : Kd.C k132 w A0 l0.length l0) (hc0 : l0.length ≤ c0) (h : spec_l13Some.f k l0 a1 a2 = some r) :
    Calls Try.prog 169 #[.slice A0 l0.length c0, .int .i64 a1, .int .i64 a2] w fun e w' => ∃ v0_ : Value, e = .returned (v0_) ∧ Kd.R Kd.string 9 w' w.heap.size (fun _ => True) v0_ r ∧ Below w.heap.size w w' := by
  have HR0 := AM hr0
  have HC0 := AM hc0
  clear hr0 hc0
  have HB := AM (Below.refl w.heap.size w)
  have H : (spec_l13Some.l0 k l0 a1 a2 (([] : List ByteArray)) 0) = some r := h
  clear h
  obtain ⟨y227, hy227⟩ : ∃ y_ : List ByteArray, y_ = (([] : List ByteArray)) := ⟨_, rfl⟩
  replace H : (spec_l13Some.l0 k l0 a1 a2 y227 0) = some r := by first | (rw [hy227]; with_reducible exact H) | (have H2_ := (Option.bind_some _ _).symm.trans H; rw [hy227]; with_reducible exact H2_) | (have H2_ := (Option.bind_some _ _).symm.trans H; with_reducible exact H2_) | with_reducible exact H | (rw [hy227]; exact H) | exact H
  have Ny227 := AM hy227
  clear hy227
  have H' := AM H
  clear H
  go_enter Try.func169, Try.ntmps169
  go_wp2_with (first | ((with_reducible refine gate_dst (N := 9) rfl ?_); (try (refine gate_guard (by rfl) ?_; dsimp only)); refine Kd.R_lit Kd.string _ 9 ?hgL1 (N := 9) ?hdL1 (xs := ([] : List ByteArray)) (inner := []) (ok := fun _ => True) (okp := fun _ => True) ?hrL1 ?hpL1 (fun _ hk => hk) trivial (Below.refl _ _) (Nat.le_refl _) (by simp) ?_; (case hdL1 => rfl); (case hgL1 => rfl); (case hrL1 => first | (go_simp; done) | (go_simp; rfl)); (case hpL1 => exact (Reps.none _ _)); intro v228 w4 ho5 hb hg_ hnew_; clear hg_ hnew_; (first | rw [← Ny227.out] at ho5 | (simp only [Int.reduceToNat] at ho5; rw [← Ny227.out] at ho5)); have HO229 := AM (Kd.R_lower ho5 (below_size bel_)); replace HB := AM (below_step bel_ hb); clear hb ho5))
  repeat (go_quiet (first | ((with_reducible refine gate_dst (N := 9) rfl ?_); (try (refine gate_guard (by rfl) ?_; dsimp only)); refine Kd.R_lit Kd.string _ 9 ?hgL2 (N := 9) ?hdL2 (xs := ([] : List ByteArray)) (inner := []) (ok := fun _ => True) (okp := fun _ => True) ?hrL2 ?hpL2 (fun _ hk => hk) trivial (Below.refl _ _) (Nat.le_refl _) (by simp) ?_; (case hdL2 => rfl); (case hgL2 => rfl); (case hrL2 => first | (go_simp; done) | (go_simp; rfl)); (case hpL2 => exact (Reps.none _ _)); intro v228 w4 ho5 hb hg_ hnew_; clear hg_ hnew_; (first | rw [← Ny227.out] at ho5 | (simp only [Int.reduceToNat] at ho5; rw [← Ny227.out] at ho5)); have HO229 := AM (Kd.R_lower ho5 (below_size bel_)); replace HB := AM (below_step bel_ hb); clear hb ho5)); try go_wp2_with (first | ((with_reducible refine gate_dst (N := 9) rfl ?_); (try (refine gate_guard (by rfl) ?_; dsimp only)); refine Kd.R_lit Kd.string _ 9 ?hgL3 (N := 9) ?hdL3 (xs := ([] : List ByteArray)) (inner := []) (ok := fun _ => True) (okp := fun _ => True) ?hrL3 ?hpL3 (fun _ hk => hk) trivial (Below.refl _ _) (Nat.le_refl _) (by simp) ?_; (case hdL3 => rfl); (case hgL3 => rfl); (case hrL3 => first | (go_simp; done) | (go_simp; rfl)); (case hpL3 => exact (Reps.none _ _)); intro v228 w4 ho5 hb hg_ hnew_; clear hg_ hnew_; (first | rw [← Ny227.out] at ho5 | (simp only [Int.reduceToNat] at ho5; rw [← Ny227.out] at ho5)); have HO229 := AM (Kd.R_lower ho5 (below_size bel_)); replace HB := AM (below_step bel_ hb); clear hb ho5)))
  go_loopg [7, 8] k (fun kq v7 v8 w' => ∃ (x7_1 : List ByteArray) (x8_1 : Int), v8 = .int .i64 x8_1 ∧ Aside0 (spec_l13Some.l0 kq l0 a1 a2 x7_1 x8_1 = some r) ∧ Aside0 (kq ≤ k) ∧ Aside0 (Kd.R Kd.string 9 w' w.heap.size (fun _ => True) v7 x7_1) ∧ Aside0 (Below w.heap.size w w'))
  case atStart => exact ⟨(y227), (0), (by first | rfl | (simp; done) | (simp [*]; done)), H', ⟨Nat.le_refl _⟩, ⟨ro_ HO229.out⟩, ⟨bel_⟩⟩
  case round =>
    clear H'
    try clear c1
    try clear p2
    obtain ⟨x7_1, x8_1, rfl, HA, HK1, HO_7, HB⟩ := hrel
    cases gk with
    | zero => exact absurd HA.out (by simp [spec_l13Some.l0])
    | succ k1 =>
      have H := HA.out
      clear HA
      simp only [spec_l13Some.l0] at H
      have HC6 := AM H
      clear H
      go_upto_region 3 with (fail)
      repeat (go_quiet (fail); go_upto_region 3 with (fail))
      go_cut [19] (fun v19 wc => ∃ (kq : Nat) (x19_5 : Bool), v19 = .bool x19_5 ∧ Aside0 (spec_l13Some.j1 kq l0 a1 a2 x7_1 x8_1 x19_5 = some r) ∧ Aside0 (kq ≤ k1) ∧ Aside0 (Kd.R Kd.string 9 wc w.heap.size (fun _ => True) u7 x7_1) ∧ Aside0 (Below w.heap.size w wc))
      case first =>
        have H := HC6.out
        clear HC6
        by_cases c7 : x8_1 < (l0.length : Int)
        · rw [if_pos c7] at H
          have c7b0 : decide (x8_1 < (l0.length : Int)) = true := decide_eq_true c7
          clear c7
          (first | rw [c7b0] | (simp only [i64_w, i32_w]; rw [c7b0]) | skip)
          have H' := AM H
          clear H
          obtain ⟨Ao8, co8, eo8⟩ := Kd.R_slice HO_7.out
          subst eo8
          go_wp2
          repeat (go_quiet (fail); try go_wp2)
          go_meet
          case rel => exact ⟨_, (decide ((x7_1.length : Int) < a1)), (by first | rfl | (simp; done) | (simp [*]; done)), H', ⟨by have := HK1.out; first | omega | exact Nat.le_refl _⟩, ⟨ro_ HO_7.out⟩, ⟨bel_⟩⟩
        · rw [if_neg c7] at H
          have c7b0 : decide (x8_1 < (l0.length : Int)) = false := decide_eq_false c7
          clear c7
          (first | rw [c7b0] | (simp only [i64_w, i32_w]; rw [c7b0]) | skip)
          have H' := AM H
          clear H
          go_wp2
          repeat (go_quiet (fail); try go_wp2)
          go_meet
          case rel => exact ⟨_, (false), (by first | rfl | (simp; done) | (simp [*]; done)), H', ⟨by have := HK1.out; first | omega | exact Nat.le_refl _⟩, ⟨ro_ HO_7.out⟩, ⟨bel_⟩⟩
      case rest =>
        clear HC6
        try clear c1
        try clear p2
        try clear c7
        try clear c7b0
        try clear p2
        obtain ⟨kq, x19_5, rfl, HA, HJ5, HO_7, HB⟩ := hcut
        cases kq with
        | zero => exact absurd HA.out (by simp [spec_l13Some.j1])
        | succ kj5 =>
          have H := HA.out
          clear HA
          simp only [spec_l13Some.j1] at H
          by_cases c9 : x19_5 = true
          · subst c9
            rw [if_pos rfl] at H
            by_cases c10 : x8_1 = 0
            · rw [if_pos c10] at H
              have c10b0 : (x8_1 == 0) = true := beq_iff_eq.mpr c10
              have c10b1 : (x8_1 != 0) = false := bne_eq_false_iff_eq.mpr c10
              clear c10
              by_cases c11 : 0 ≤ x8_1
              · rw [if_pos c11] at H
                have c11b0 : decide (0 ≤ x8_1) = true := decide_eq_true c11
                clear c11
                by_cases c12 : x8_1 < (l0.length : Int)
                · rw [if_pos c12] at H
                  have c12b0 : decide (x8_1 < (l0.length : Int)) = true := decide_eq_true c12
                  clear c12
                  by_cases c13 : x7_1.length < 8796093022208
                  · rw [if_pos c13] at H
                    have LMc13 := AM c13
                    clear c13
                    obtain ⟨y231, hy231⟩ : ∃ y_ : List ByteArray, y_ = (x7_1 ++ [(rd_T132 l0 x8_1).f0]) := ⟨_, rfl⟩
                    replace H : (spec_l13Some.l0 kj5 l0 a1 a2 y231 (wrap64 (x8_1 + 1))) = some r := by first | (rw [hy231]; with_reducible exact H) | (have H2_ := (Option.bind_some _ _).symm.trans H; rw [hy231]; with_reducible exact H2_) | (have H2_ := (Option.bind_some _ _).symm.trans H; with_reducible exact H2_) | with_reducible exact H | (rw [hy231]; exact H) | exact H
                    have Ny231 := AM hy231
                    clear hy231
                    have H' := AM H
                    clear H
                    have p230 : 0 ≤ (x8_1 : Int) := of_decide_eq_true (by first | (with_reducible assumption) | assumption)
                    have q230 : x8_1 < (l0.length : Int) := of_decide_eq_true (by first | (with_reducible assumption) | assumption)
                    obtain ⟨ad230, e230, hx230_0, hx230_1, hx230_2⟩ := at_T132 HR0.out x8_1 p230 q230
                    cases e230
                    replace hx230_0 := (HB.out.cell (World.block_lt_of_cell? w _ hx230_0)).trans hx230_0
                    replace hx230_1 := (HB.out.cell (World.block_lt_of_cell? w _ hx230_1)).trans hx230_1
                    replace hx230_2 := (HB.out.cell (World.block_lt_of_cell? w _ hx230_2)).trans hx230_2
                    replace p230 := eq_true p230
                    replace q230 := eq_true q230
                    go_wp2_with (first | ((with_reducible refine gate_builtin (b := .append) (xs := #[.tmp 42, .tmp 48]) rfl ?_); (try (refine gate_guard (by rfl) ?_; dsimp only)); at_builtin; refine Kd.R_append Kd.string (w0 := w) w.heap.size rfl (.tmp 42) (.tmp 48) 54 9 (.string ⟨#[]⟩) 16 rfl Try.underlying54 info9 rfl (by decide) (by omega) u7 x7_1 ((rd_T132 l0 x8_1).f0) [.string ((rd_T132 l0 x8_1).f0)] (fun _ => True) (fun _ => False) rfl rfl ?aP (fun _ hk => hk.elim) ?aF ?aO ?aB ?aS ?aL ?_; (case aP => exact rfl); (case aB => exact bel_); (case aF => exact (fun _ _ => trivial)); (case aO => exact (ro_ HO_7.out)); (case aS => exact (below_size bel_)); (case aL => have := LMc13.out; omega); intro v232 w14 ho hb hg hat; rw [← Ny231.out] at ho; have n0_ := AM hb; have n1_ := AM ho; clear HB; clear HO_7; have HB := n0_; have HO233 := n1_; clear n0_ n1_; clear ho hb hg hat))
                    repeat (go_quiet (first | ((with_reducible refine gate_builtin (b := .append) (xs := #[.tmp 42, .tmp 48]) rfl ?_); (try (refine gate_guard (by rfl) ?_; dsimp only)); at_builtin; refine Kd.R_append Kd.string (w0 := w) w.heap.size rfl (.tmp 42) (.tmp 48) 54 9 (.string ⟨#[]⟩) 16 rfl Try.underlying54 info9 rfl (by decide) (by omega) u7 x7_1 ((rd_T132 l0 x8_1).f0) [.string ((rd_T132 l0 x8_1).f0)] (fun _ => True) (fun _ => False) rfl rfl ?aP (fun _ hk => hk.elim) ?aF ?aO ?aB ?aS ?aL ?_; (case aP => exact rfl); (case aB => exact bel_); (case aF => exact (fun _ _ => trivial)); (case aO => exact (ro_ HO_7.out)); (case aS => exact (below_size bel_)); (case aL => have := LMc13.out; omega); intro v232 w14 ho hb hg hat; rw [← Ny231.out] at ho; have n0_ := AM hb; have n1_ := AM ho; clear HB; clear HO_7; have HB := n0_; have HO233 := n1_; clear n0_ n1_; clear ho hb hg hat)); try go_wp2_with (first | ((with_reducible refine gate_builtin (b := .append) (xs := #[.tmp 42, .tmp 48]) rfl ?_); (try (refine gate_guard (by rfl) ?_; dsimp only)); at_builtin; refine Kd.R_append Kd.string (w0 := w) w.heap.size rfl (.tmp 42) (.tmp 48) 54 9 (.string ⟨#[]⟩) 16 rfl Try.underlying54 info9 rfl (by decide) (by omega) u7 x7_1 ((rd_T132 l0 x8_1).f0) [.string ((rd_T132 l0 x8_1).f0)] (fun _ => True) (fun _ => False) rfl rfl ?aP (fun _ hk => hk.elim) ?aF ?aO ?aB ?aS ?aL ?_; (case aP => exact rfl); (case aB => exact bel_); (case aF => exact (fun _ _ => trivial)); (case aO => exact (ro_ HO_7.out)); (case aS => exact (below_size bel_)); (case aL => have := LMc13.out; omega); intro v232 w14 ho hb hg hat; rw [← Ny231.out] at ho; have n0_ := AM hb; have n1_ := AM ho; clear HB; clear HO_7; have HB := n0_; have HO233 := n1_; clear n0_ n1_; clear ho hb hg hat)))
                    go_roundg kj5
                    case measure => have := HK1.out; have := HJ5.out; omega
                    case rel => exact ⟨(y231), (wrap64 (x8_1 + 1)), (by first | rfl | (simp; done) | (simp [*]; done)), H', ⟨by have := HK1.out; have := HJ5.out; omega⟩, ⟨ro_ HO233.out⟩, ⟨bel_⟩⟩
                  · rw [if_neg c13] at H
                    exact absurd H (by simp)
                · rw [if_neg c12] at H
                  exact absurd H (by simp)
              · rw [if_neg c11] at H
                exact absurd H (by simp)
            · rw [if_neg c10] at H
              have c10b0 : (x8_1 == 0) = false := beq_eq_false_iff_ne.mpr c10
              have c10b1 : (x8_1 != 0) = true := bne_iff_ne.mpr c10
              obtain ⟨ji15, hji15⟩ : ∃ j_ : Int, (wrap64 (x8_1 - 1)) = j_ := ⟨_, rfl⟩
              replace H : (if 0 ≤ (ji15) then (if (ji15) < (l0.length : Int) then (if a2 = 0 then (none) else (if 0 ≤ x8_1 then (if x8_1 < (l0.length : Int) then (if (wrap64 (Int.tdiv ((rd_T132 l0 (ji15)).f1) a2)) = (wrap64 (Int.tdiv ((rd_T132 l0 x8_1).f1) a2)) then (spec_l13Some.l0 kj5 l0 a1 a2 x7_1 (wrap64 (x8_1 + 1))) else (if x7_1.length < 8796093022208 then (spec_l13Some.l0 kj5 l0 a1 a2 (x7_1 ++ [(rd_T132 l0 x8_1).f0]) (wrap64 (x8_1 + 1))) else (none))) else (none)) else (none))) else (none)) else (none)) = some r := by first | (rw [hji15] at H; exact H) | (simp only [hji15] at H ⊢; exact H)
              have hji15w : (IntKind.i64.wrap (x8_1 - 1)) = ji15 := (i64_w _).trans hji15
              by_cases c16 : 0 ≤ (ji15)
              · rw [if_pos c16] at H
                have c16b0 : decide (0 ≤ (ji15)) = true := decide_eq_true c16
                clear c16
                by_cases c17 : (ji15) < (l0.length : Int)
                · rw [if_pos c17] at H
                  have c17b0 : decide ((ji15) < (l0.length : Int)) = true := decide_eq_true c17
                  clear c17
                  by_cases c18 : a2 = 0
                  · rw [if_pos c18] at H
                    exact absurd H (by simp)
                  · rw [if_neg c18] at H
                    have c18b0 : (a2 == 0) = false := beq_eq_false_iff_ne.mpr c18
                    have c18b1 : (a2 != 0) = true := bne_iff_ne.mpr c18
                    by_cases c19 : 0 ≤ x8_1
                    · rw [if_pos c19] at H
                      have c19b0 : decide (0 ≤ x8_1) = true := decide_eq_true c19
                      clear c19
                      by_cases c20 : x8_1 < (l0.length : Int)
                      · rw [if_pos c20] at H
                        have c20b0 : decide (x8_1 < (l0.length : Int)) = true := decide_eq_true c20
                        clear c20
                        by_cases c21 : (wrap64 (Int.tdiv ((rd_T132 l0 (ji15)).f1) a2)) = (wrap64 (Int.tdiv ((rd_T132 l0 x8_1).f1) a2))
                        · rw [if_pos c21] at H
                          have c21b0 : ((wrap64 (Int.tdiv ((rd_T132 l0 (ji15)).f1) a2)) == (wrap64 (Int.tdiv ((rd_T132 l0 x8_1).f1) a2))) = true := beq_iff_eq.mpr c21
                          try have c21b9 : ((((Int.tdiv ((rd_T132 l0 (ji15)).f1) a2)) == ((Int.tdiv ((rd_T132 l0 x8_1).f1) a2)))) = true := (by have hw0 : wrap64 (Int.tdiv ((rd_T132 l0 x8_1).f1) a2) = Int.tdiv ((rd_T132 l0 x8_1).f1) a2 := (by unfold wrap64; omega); have hw1 : wrap64 (Int.tdiv ((rd_T132 l0 (ji15)).f1) a2) = Int.tdiv ((rd_T132 l0 (ji15)).f1) a2 := (by unfold wrap64; omega); have z_ := c21b0; simp only [hw0, hw1] at z_; exact z_)
                          have c21b1 : ((wrap64 (Int.tdiv ((rd_T132 l0 (ji15)).f1) a2)) != (wrap64 (Int.tdiv ((rd_T132 l0 x8_1).f1) a2))) = false := bne_eq_false_iff_eq.mpr c21
                          clear c21
                          have H' := AM H
                          clear H
                          have p234 : 0 ≤ ((ji15) : Int) := of_decide_eq_true (by first | (with_reducible assumption) | assumption)
                          have q234 : (ji15) < (l0.length : Int) := of_decide_eq_true (by first | (with_reducible assumption) | assumption)
                          obtain ⟨ad234, e234, hx234_0, hx234_1, hx234_2⟩ := at_T132 HR0.out (ji15) p234 q234
                          cases e234
                          replace hx234_0 := (HB.out.cell (World.block_lt_of_cell? w _ hx234_0)).trans hx234_0
                          replace hx234_1 := (HB.out.cell (World.block_lt_of_cell? w _ hx234_1)).trans hx234_1
                          replace hx234_2 := (HB.out.cell (World.block_lt_of_cell? w _ hx234_2)).trans hx234_2
                          replace p234 := eq_true p234
                          replace q234 := eq_true q234
                          have p235 : 0 ≤ (x8_1 : Int) := of_decide_eq_true (by first | (with_reducible assumption) | assumption)
                          have q235 : x8_1 < (l0.length : Int) := of_decide_eq_true (by first | (with_reducible assumption) | assumption)
                          obtain ⟨ad235, e235, hx235_0, hx235_1, hx235_2⟩ := at_T132 HR0.out x8_1 p235 q235
                          obtain rfl : ad234 = ad235 := (by injection e235)
                          replace hx235_0 := (HB.out.cell (World.block_lt_of_cell? w _ hx235_0)).trans hx235_0
                          replace hx235_1 := (HB.out.cell (World.block_lt_of_cell? w _ hx235_1)).trans hx235_1
                          replace hx235_2 := (HB.out.cell (World.block_lt_of_cell? w _ hx235_2)).trans hx235_2
                          replace p235 := eq_true p235
                          replace q235 := eq_true q235
                          go_wp2
                          repeat (go_quiet (fail); try go_wp2)
                          go_roundg kj5
                          case measure => have := HK1.out; have := HJ5.out; omega
                          case rel => exact ⟨(x7_1), (wrap64 (x8_1 + 1)), (by first | rfl | (simp; done) | (simp [*]; done)), H', ⟨by have := HK1.out; have := HJ5.out; omega⟩, ⟨ro_ HO_7.out⟩, ⟨bel_⟩⟩
                        · rw [if_neg c21] at H
                          have c21b0 : ((wrap64 (Int.tdiv ((rd_T132 l0 (ji15)).f1) a2)) == (wrap64 (Int.tdiv ((rd_T132 l0 x8_1).f1) a2))) = false := beq_eq_false_iff_ne.mpr c21
                          try have c21b9 : ((((Int.tdiv ((rd_T132 l0 (ji15)).f1) a2)) == ((Int.tdiv ((rd_T132 l0 x8_1).f1) a2)))) = false := (by have hw0 : wrap64 (Int.tdiv ((rd_T132 l0 x8_1).f1) a2) = Int.tdiv ((rd_T132 l0 x8_1).f1) a2 := (by unfold wrap64; omega); have hw1 : wrap64 (Int.tdiv ((rd_T132 l0 (ji15)).f1) a2) = Int.tdiv ((rd_T132 l0 (ji15)).f1) a2 := (by unfold wrap64; omega); have z_ := c21b0; simp only [hw0, hw1] at z_; exact z_)
                          have c21b1 : ((wrap64 (Int.tdiv ((rd_T132 l0 (ji15)).f1) a2)) != (wrap64 (Int.tdiv ((rd_T132 l0 x8_1).f1) a2))) = true := bne_iff_ne.mpr c21
                          by_cases c22 : x7_1.length < 8796093022208
                          · rw [if_pos c22] at H
                            have LMc22 := AM c22
                            clear c22
                            obtain ⟨y237, hy237⟩ : ∃ y_ : List ByteArray, y_ = (x7_1 ++ [(rd_T132 l0 x8_1).f0]) := ⟨_, rfl⟩
                            replace H : (spec_l13Some.l0 kj5 l0 a1 a2 y237 (wrap64 (x8_1 + 1))) = some r := by first | (rw [hy237]; with_reducible exact H) | (have H2_ := (Option.bind_some _ _).symm.trans H; rw [hy237]; with_reducible exact H2_) | (have H2_ := (Option.bind_some _ _).symm.trans H; with_reducible exact H2_) | with_reducible exact H | (rw [hy237]; exact H) | exact H
                            have Ny237 := AM hy237
                            clear hy237
                            have H' := AM H
                            clear H
                            have p234 : 0 ≤ ((ji15) : Int) := of_decide_eq_true (by first | (with_reducible assumption) | assumption)
                            have q234 : (ji15) < (l0.length : Int) := of_decide_eq_true (by first | (with_reducible assumption) | assumption)
                            obtain ⟨ad234, e234, hx234_0, hx234_1, hx234_2⟩ := at_T132 HR0.out (ji15) p234 q234
                            cases e234
                            replace hx234_0 := (HB.out.cell (World.block_lt_of_cell? w _ hx234_0)).trans hx234_0
                            replace hx234_1 := (HB.out.cell (World.block_lt_of_cell? w _ hx234_1)).trans hx234_1
                            replace hx234_2 := (HB.out.cell (World.block_lt_of_cell? w _ hx234_2)).trans hx234_2
                            replace p234 := eq_true p234
                            replace q234 := eq_true q234
                            have p235 : 0 ≤ (x8_1 : Int) := of_decide_eq_true (by first | (with_reducible assumption) | assumption)
                            have q235 : x8_1 < (l0.length : Int) := of_decide_eq_true (by first | (with_reducible assumption) | assumption)
                            obtain ⟨ad235, e235, hx235_0, hx235_1, hx235_2⟩ := at_T132 HR0.out x8_1 p235 q235
                            obtain rfl : ad234 = ad235 := (by injection e235)
                            replace hx235_0 := (HB.out.cell (World.block_lt_of_cell? w _ hx235_0)).trans hx235_0
                            replace hx235_1 := (HB.out.cell (World.block_lt_of_cell? w _ hx235_1)).trans hx235_1
                            replace hx235_2 := (HB.out.cell (World.block_lt_of_cell? w _ hx235_2)).trans hx235_2
                            replace p235 := eq_true p235
                            replace q235 := eq_true q235
                            have p236 : 0 ≤ (x8_1 : Int) := of_decide_eq_true (by first | (with_reducible assumption) | assumption)
                            have q236 : x8_1 < (l0.length : Int) := of_decide_eq_true (by first | (with_reducible assumption) | assumption)
                            obtain ⟨ad236, e236, hx236_0, hx236_1, hx236_2⟩ := at_T132 HR0.out x8_1 p236 q236
                            obtain rfl : ad234 = ad236 := (by injection e236)
                            replace hx236_0 := (HB.out.cell (World.block_lt_of_cell? w _ hx236_0)).trans hx236_0
                            replace hx236_1 := (HB.out.cell (World.block_lt_of_cell? w _ hx236_1)).trans hx236_1
                            replace hx236_2 := (HB.out.cell (World.block_lt_of_cell? w _ hx236_2)).trans hx236_2
                            replace p236 := eq_true p236
                            replace q236 := eq_true q236
                            go_wp2_with (first | ((with_reducible refine gate_builtin (b := .append) (xs := #[.tmp 42, .tmp 48]) rfl ?_); (try (refine gate_guard (by rfl) ?_; dsimp only)); at_builtin; refine Kd.R_append Kd.string (w0 := w) w.heap.size rfl (.tmp 42) (.tmp 48) 54 9 (.string ⟨#[]⟩) 16 rfl Try.underlying54 info9 rfl (by decide) (by omega) u7 x7_1 ((rd_T132 l0 x8_1).f0) [.string ((rd_T132 l0 x8_1).f0)] (fun _ => True) (fun _ => False) rfl rfl ?aP (fun _ hk => hk.elim) ?aF ?aO ?aB ?aS ?aL ?_; (case aP => exact rfl); (case aB => exact bel_); (case aF => exact (fun _ _ => trivial)); (case aO => exact (ro_ HO_7.out)); (case aS => exact (below_size bel_)); (case aL => have := LMc22.out; omega); intro v238 w23 ho hb hg hat; rw [← Ny237.out] at ho; have n0_ := AM hb; have n1_ := AM ho; clear HB; clear HO_7; have HB := n0_; have HO239 := n1_; clear n0_ n1_; clear ho hb hg hat))
                            repeat (go_quiet (first | ((with_reducible refine gate_builtin (b := .append) (xs := #[.tmp 42, .tmp 48]) rfl ?_); (try (refine gate_guard (by rfl) ?_; dsimp only)); at_builtin; refine Kd.R_append Kd.string (w0 := w) w.heap.size rfl (.tmp 42) (.tmp 48) 54 9 (.string ⟨#[]⟩) 16 rfl Try.underlying54 info9 rfl (by decide) (by omega) u7 x7_1 ((rd_T132 l0 x8_1).f0) [.string ((rd_T132 l0 x8_1).f0)] (fun _ => True) (fun _ => False) rfl rfl ?aP (fun _ hk => hk.elim) ?aF ?aO ?aB ?aS ?aL ?_; (case aP => exact rfl); (case aB => exact bel_); (case aF => exact (fun _ _ => trivial)); (case aO => exact (ro_ HO_7.out)); (case aS => exact (below_size bel_)); (case aL => have := LMc22.out; omega); intro v238 w23 ho hb hg hat; rw [← Ny237.out] at ho; have n0_ := AM hb; have n1_ := AM ho; clear HB; clear HO_7; have HB := n0_; have HO239 := n1_; clear n0_ n1_; clear ho hb hg hat)); try go_wp2_with (first | ((with_reducible refine gate_builtin (b := .append) (xs := #[.tmp 42, .tmp 48]) rfl ?_); (try (refine gate_guard (by rfl) ?_; dsimp only)); at_builtin; refine Kd.R_append Kd.string (w0 := w) w.heap.size rfl (.tmp 42) (.tmp 48) 54 9 (.string ⟨#[]⟩) 16 rfl Try.underlying54 info9 rfl (by decide) (by omega) u7 x7_1 ((rd_T132 l0 x8_1).f0) [.string ((rd_T132 l0 x8_1).f0)] (fun _ => True) (fun _ => False) rfl rfl ?aP (fun _ hk => hk.elim) ?aF ?aO ?aB ?aS ?aL ?_; (case aP => exact rfl); (case aB => exact bel_); (case aF => exact (fun _ _ => trivial)); (case aO => exact (ro_ HO_7.out)); (case aS => exact (below_size bel_)); (case aL => have := LMc22.out; omega); intro v238 w23 ho hb hg hat; rw [← Ny237.out] at ho; have n0_ := AM hb; have n1_ := AM ho; clear HB; clear HO_7; have HB := n0_; have HO239 := n1_; clear n0_ n1_; clear ho hb hg hat)))
                            go_roundg kj5
                            case measure => have := HK1.out; have := HJ5.out; omega
                            case rel => exact ⟨(y237), (wrap64 (x8_1 + 1)), (by first | rfl | (simp; done) | (simp [*]; done)), H', ⟨by have := HK1.out; have := HJ5.out; omega⟩, ⟨ro_ HO239.out⟩, ⟨bel_⟩⟩
                          · rw [if_neg c22] at H
                            exact absurd H (by simp)
                      · rw [if_neg c20] at H
                        exact absurd H (by simp)
                    · rw [if_neg c19] at H
                      exact absurd H (by simp)
                · rw [if_neg c17] at H
                  exact absurd H (by simp)
              · rw [if_neg c16] at H
                exact absurd H (by simp)
          · replace c9 := Bool.eq_false_iff.mpr c9
            subst c9
            rw [if_neg (show ¬ (false = true) by decide)] at H
            obtain rfl := Option.some.inj H
            go_wp2
            repeat (go_quiet (fail); try go_wp2)
            go_ret
            exact ⟨_, ri_, ro_ HO_7.out, bel_⟩

end Go.Proofs.Ytfffdndeccipnaa.PFnExactKeep
