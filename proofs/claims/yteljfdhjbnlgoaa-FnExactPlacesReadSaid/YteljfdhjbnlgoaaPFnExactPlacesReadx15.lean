-- A program of this session wrote this text: a changed copy of the kit print, with given functions.
import Derived.Test.YteljfdhjbnlgoaaPFnExactPlacesReadx0
import Derived.Test.YteljfdhjbnlgoaaPFnExactPlacesReadx14
namespace Go.Proofs.Yteljfdhjbnlgoaa.PFnExactPlacesRead
open Go.RowKit Go.Proofs.YteljfdhjbnlgoaaW.PrintWords Go.Proofs.YteljfdhjbnlgoaaW.PrintLast Go.Proofs.YteljfdhjbnlgoaaW.PrintMore Go.Proofs.Yteljfdhjbnlgoaa.Aut
attribute [local go_sem] max2_int min2_int max_two min_two max_three min_three max_four min_four   -- for this text's walks alone
set_option linter.unusedVariables false
set_option linter.unusedSimpArgs false

/-! ### laws_eqPlacesOut: function 72 -/
def laws_eqPlacesOut.f (k : Nat) (l0_0 : List (S50)) (a0_1 : Int) (l1_0 : List (S50)) (a1_1 : Int) : Option (Bool) := (laws_eqPlaceS.f k l0_0 l1_0).bind fun t242 => (if t242 = true then (if a0_1 = a1_1 then (some true) else (some false)) else (some false))
theorem laws_eqPlacesOut.mono : ∀ a0 a1 a2 a3 k, LeO (laws_eqPlacesOut.f k a0 a1 a2 a3) (laws_eqPlacesOut.f (k + 1) a0 a1 a2 a3) := by
  intro a0 a1 a2 a3 k
  unfold laws_eqPlacesOut.f
  repeat' first
      | (with_reducible exact laws_eqPlaceS.mono _ _ _)
      | (with_reducible exact LeO.refl _)
      | (with_reducible exact LeO.none _)
      | (with_reducible refine LeO.ite ?_ ?_)
      | (with_reducible refine LeO.bind ?_ (fun _ => ?_))
      | exact laws_eqPlaceS.mono _ _ _
      | exact LeO.none _
      | refine LeO.ite ?_ ?_
      | refine LeO.bind ?_ (fun _ => ?_)
set_option maxHeartbeats 8000000 in
set_option maxRecDepth 100000 in
theorem laws_eqPlacesOut.calls (k : Nat) (A0_0 : Option Addr) (c0_0 : Nat) (l0_0 : List (S50)) (a0_1 : Int) (A1_0 : Option Addr) (c1_0 : Nat) (l1_0 : List (S50)) (a1_1 : Int) (r : Bool) (w : World) (hr0_0 : Kd.C k50 w A0_0 l0_0.length l0_0) (hc0_0 : l0_0.length ≤ c0_0) (hr1_0 : Kd.C k50 w A1_0 l1_0.length l1_0) (hc1_0 : l1_0.length ≤ c1_0) (h : laws_eqPlacesOut.f k l0_0 a0_1 l1_0 a1_1 = some r) :
    Calls Try.prog 72 #[.agg #[.slice A0_0 l0_0.length c0_0, .int .i64 a0_1], .agg #[.slice A1_0 l1_0.length c1_0, .int .i64 a1_1]] w fun e w' => e = .returned (.bool r) ∧ Below w.heap.size w w' := by
  have hu101 := Try.underlying101
  have HR0_0 := AM hr0_0
  have HC0_0 := AM hc0_0
  clear hr0_0 hc0_0
  have HR1_0 := AM hr1_0
  have HC1_0 := AM hc1_0
  clear hr1_0 hc1_0
  have HB := AM (Below.refl w.heap.size w)
  have H : ((laws_eqPlaceS.f k l0_0 l1_0).bind fun t242 => (if t242 = true then (if a0_1 = a1_1 then (some true) else (some false)) else (some false))) = some r := h
  clear h
  obtain ⟨t242, A3, H⟩ := OB H
  try dsimp only at H
  replace A3 := AM A3
  by_cases c4 : t242 = true
  · subst c4
    rw [if_pos rfl] at H
    by_cases c5 : a0_1 = a1_1
    · rw [if_pos c5] at H
      have c5b0 : (a0_1 == a1_1) = true := beq_iff_eq.mpr c5
      have c5b1 : (a0_1 != a1_1) = false := bne_eq_false_iff_eq.mpr c5
      clear c5
      obtain rfl := Option.some.inj H
      go_enter Try.func72, Try.ntmps72
      go_wp2_with (first | ((with_reducible refine gate_dst (N := 2) rfl ?_); refine be_ 2 #[.slice A0_0 l0_0.length c0_0, .int .i64 a0_1] 101 ?_; intro gb240 hg w6 hbox hb; have BK240 := AM hbox; have GW240 := AM ((by rw [hg]; exact (below_size bel_) : w.heap.size ≤ gb240)); have GE240 := AM ((by rw [hg]; exact (below_size bel_) : w.heap.size ≤ gb240)); replace HB := AM (below_step bel_ hb); clear hb hbox hg) | ((with_reducible refine gate_dst (N := 3) rfl ?_); refine be_ 3 #[.slice A1_0 l1_0.length c1_0, .int .i64 a1_1] 101 ?_; intro gb241 hg w7 hbox hb; have BK241 := AM hbox; have GW241 := AM ((by rw [hg]; exact (below_size bel_) : w.heap.size ≤ gb241)); have GE241 := AM ((by rw [hg]; exact (below_size bel_) : w.heap.size ≤ gb241)); replace HB := AM (below_step bel_ hb); have NB240_241 := AM ((by rw [hg]; exact Nat.ne_of_lt (blk_lt (g := gb240) (o := .cells #[.slice A0_0 l0_0.length c0_0, .int .i64 a0_1] 101 (0, 0)) (bk_ BK240.out)) : gb240 ≠ gb241)); have NB241_240 := AM ((by rw [hg]; exact Nat.ne_of_gt (blk_lt (g := gb240) (o := .cells #[.slice A0_0 l0_0.length c0_0, .int .i64 a0_1] 101 (0, 0)) (bk_ BK240.out)) : gb241 ≠ gb240)); replace BK240 := AM (blk_below (g := gb240) (o := .cells #[.slice A0_0 l0_0.length c0_0, .int .i64 a0_1] 101 (0, 0)) (bk_ BK240.out) hb); clear hb hbox hg; have hnb8 := NB240_241.out; have hnc8 := NB241_240.out; have hcz9_0 : w7.cell? ⟨gb240, 0, none⟩ = some (.slice A0_0 l0_0.length c0_0) := (blk_cell BK240.out 0).trans rfl; have hcz9_1 : w7.cell? ⟨gb240, 1, none⟩ = some (.int .i64 a0_1) := (blk_cell BK240.out 1).trans rfl; have hfz9_0 := blk_frozen BK240.out 0; have hfz9_1 := blk_frozen BK240.out 1; have hcz10_0 : w7.cell? ⟨gb241, 0, none⟩ = some (.slice A1_0 l1_0.length c1_0) := (blk_cell BK241.out 0).trans rfl; have hcz10_1 : w7.cell? ⟨gb241, 1, none⟩ = some (.int .i64 a1_1) := (blk_cell BK241.out 1).trans rfl; have hfz10_0 := blk_frozen BK241.out 0; have hfz10_1 := blk_frozen BK241.out 1) | ((with_reducible refine gate_callee (f := 43) rfl ?_); refine gl_ (some 9) Try.func43 #[.slice A0_0 l0_0.length c0_0, .slice A1_0 l1_0.length c1_0] ?_; (with_reducible refine (laws_eqPlaceS.calls k _ _ l0_0 _ _ l1_0 true _ ?side1 ?side2 ?side3 ?side4 A3.out).mono ?_); (case side1 => repeat (first | exact (Kd.C_below HR0_0.out HB.out) | (with_reducible refine Kd.C_alloc ?_ _) | (with_reducible refine Kd.C_drewN ?_ _) | (with_reducible refine Kd.C_drew ?_))); (case side2 => exact HC0_0.out); (case side3 => repeat (first | exact (Kd.C_below HR1_0.out HB.out) | (with_reducible refine Kd.C_alloc ?_ _) | (with_reducible refine Kd.C_drewN ?_ _) | (with_reducible refine Kd.C_drew ?_))); (case side4 => exact HC1_0.out); rintro e w11 ⟨rfl, hb⟩; refine ⟨_, rfl, ?_⟩; replace BK240 := AM (blk_below (g := gb240) (o := .cells #[.slice A0_0 l0_0.length c0_0, .int .i64 a0_1] 101 (0, 0)) (bk_ BK240.out) hb); replace BK241 := AM (blk_below (g := gb241) (o := .cells #[.slice A1_0 l1_0.length c1_0, .int .i64 a1_1] 101 (0, 0)) (bk_ BK241.out) hb); replace HB := AM (below_step bel_ hb); (try clear hb); (try clear hb2); (try clear hk); (try clear hi); have hcz12_0 : w11.cell? ⟨gb240, 0, none⟩ = some (.slice A0_0 l0_0.length c0_0) := (blk_cell BK240.out 0).trans rfl; have hcz12_1 : w11.cell? ⟨gb240, 1, none⟩ = some (.int .i64 a0_1) := (blk_cell BK240.out 1).trans rfl; have hfz12_0 := blk_frozen BK240.out 0; have hfz12_1 := blk_frozen BK240.out 1; have hcz13_0 : w11.cell? ⟨gb241, 0, none⟩ = some (.slice A1_0 l1_0.length c1_0) := (blk_cell BK241.out 0).trans rfl; have hcz13_1 : w11.cell? ⟨gb241, 1, none⟩ = some (.int .i64 a1_1) := (blk_cell BK241.out 1).trans rfl; have hfz13_0 := blk_frozen BK241.out 0; have hfz13_1 := blk_frozen BK241.out 1))
      go_ret
      exact ⟨ri_, bel_⟩
    · rw [if_neg c5] at H
      have c5b0 : (a0_1 == a1_1) = false := beq_eq_false_iff_ne.mpr c5
      have c5b1 : (a0_1 != a1_1) = true := bne_iff_ne.mpr c5
      obtain rfl := Option.some.inj H
      go_enter Try.func72, Try.ntmps72
      go_wp2_with (first | ((with_reducible refine gate_dst (N := 2) rfl ?_); refine be_ 2 #[.slice A0_0 l0_0.length c0_0, .int .i64 a0_1] 101 ?_; intro gb240 hg w14 hbox hb; have BK240 := AM hbox; have GW240 := AM ((by rw [hg]; exact (below_size bel_) : w.heap.size ≤ gb240)); have GE240 := AM ((by rw [hg]; exact (below_size bel_) : w.heap.size ≤ gb240)); replace HB := AM (below_step bel_ hb); clear hb hbox hg) | ((with_reducible refine gate_dst (N := 3) rfl ?_); refine be_ 3 #[.slice A1_0 l1_0.length c1_0, .int .i64 a1_1] 101 ?_; intro gb241 hg w15 hbox hb; have BK241 := AM hbox; have GW241 := AM ((by rw [hg]; exact (below_size bel_) : w.heap.size ≤ gb241)); have GE241 := AM ((by rw [hg]; exact (below_size bel_) : w.heap.size ≤ gb241)); replace HB := AM (below_step bel_ hb); have NB240_241 := AM ((by rw [hg]; exact Nat.ne_of_lt (blk_lt (g := gb240) (o := .cells #[.slice A0_0 l0_0.length c0_0, .int .i64 a0_1] 101 (0, 0)) (bk_ BK240.out)) : gb240 ≠ gb241)); have NB241_240 := AM ((by rw [hg]; exact Nat.ne_of_gt (blk_lt (g := gb240) (o := .cells #[.slice A0_0 l0_0.length c0_0, .int .i64 a0_1] 101 (0, 0)) (bk_ BK240.out)) : gb241 ≠ gb240)); replace BK240 := AM (blk_below (g := gb240) (o := .cells #[.slice A0_0 l0_0.length c0_0, .int .i64 a0_1] 101 (0, 0)) (bk_ BK240.out) hb); clear hb hbox hg; have hnb16 := NB240_241.out; have hnc16 := NB241_240.out; have hcz17_0 : w15.cell? ⟨gb240, 0, none⟩ = some (.slice A0_0 l0_0.length c0_0) := (blk_cell BK240.out 0).trans rfl; have hcz17_1 : w15.cell? ⟨gb240, 1, none⟩ = some (.int .i64 a0_1) := (blk_cell BK240.out 1).trans rfl; have hfz17_0 := blk_frozen BK240.out 0; have hfz17_1 := blk_frozen BK240.out 1; have hcz18_0 : w15.cell? ⟨gb241, 0, none⟩ = some (.slice A1_0 l1_0.length c1_0) := (blk_cell BK241.out 0).trans rfl; have hcz18_1 : w15.cell? ⟨gb241, 1, none⟩ = some (.int .i64 a1_1) := (blk_cell BK241.out 1).trans rfl; have hfz18_0 := blk_frozen BK241.out 0; have hfz18_1 := blk_frozen BK241.out 1) | ((with_reducible refine gate_callee (f := 43) rfl ?_); refine gl_ (some 9) Try.func43 #[.slice A0_0 l0_0.length c0_0, .slice A1_0 l1_0.length c1_0] ?_; (with_reducible refine (laws_eqPlaceS.calls k _ _ l0_0 _ _ l1_0 true _ ?side1 ?side2 ?side3 ?side4 A3.out).mono ?_); (case side1 => repeat (first | exact (Kd.C_below HR0_0.out HB.out) | (with_reducible refine Kd.C_alloc ?_ _) | (with_reducible refine Kd.C_drewN ?_ _) | (with_reducible refine Kd.C_drew ?_))); (case side2 => exact HC0_0.out); (case side3 => repeat (first | exact (Kd.C_below HR1_0.out HB.out) | (with_reducible refine Kd.C_alloc ?_ _) | (with_reducible refine Kd.C_drewN ?_ _) | (with_reducible refine Kd.C_drew ?_))); (case side4 => exact HC1_0.out); rintro e w19 ⟨rfl, hb⟩; refine ⟨_, rfl, ?_⟩; replace BK240 := AM (blk_below (g := gb240) (o := .cells #[.slice A0_0 l0_0.length c0_0, .int .i64 a0_1] 101 (0, 0)) (bk_ BK240.out) hb); replace BK241 := AM (blk_below (g := gb241) (o := .cells #[.slice A1_0 l1_0.length c1_0, .int .i64 a1_1] 101 (0, 0)) (bk_ BK241.out) hb); replace HB := AM (below_step bel_ hb); (try clear hb); (try clear hb2); (try clear hk); (try clear hi); have hcz20_0 : w19.cell? ⟨gb240, 0, none⟩ = some (.slice A0_0 l0_0.length c0_0) := (blk_cell BK240.out 0).trans rfl; have hcz20_1 : w19.cell? ⟨gb240, 1, none⟩ = some (.int .i64 a0_1) := (blk_cell BK240.out 1).trans rfl; have hfz20_0 := blk_frozen BK240.out 0; have hfz20_1 := blk_frozen BK240.out 1; have hcz21_0 : w19.cell? ⟨gb241, 0, none⟩ = some (.slice A1_0 l1_0.length c1_0) := (blk_cell BK241.out 0).trans rfl; have hcz21_1 : w19.cell? ⟨gb241, 1, none⟩ = some (.int .i64 a1_1) := (blk_cell BK241.out 1).trans rfl; have hfz21_0 := blk_frozen BK241.out 0; have hfz21_1 := blk_frozen BK241.out 1))
      go_ret
      exact ⟨ri_, bel_⟩
  · replace c4 := Bool.eq_false_iff.mpr c4
    subst c4
    rw [if_neg (show ¬ (false = true) by decide)] at H
    obtain rfl := Option.some.inj H
    go_enter Try.func72, Try.ntmps72
    go_wp2_with (first | ((with_reducible refine gate_dst (N := 2) rfl ?_); refine be_ 2 #[.slice A0_0 l0_0.length c0_0, .int .i64 a0_1] 101 ?_; intro gb240 hg w22 hbox hb; have BK240 := AM hbox; have GW240 := AM ((by rw [hg]; exact (below_size bel_) : w.heap.size ≤ gb240)); have GE240 := AM ((by rw [hg]; exact (below_size bel_) : w.heap.size ≤ gb240)); replace HB := AM (below_step bel_ hb); clear hb hbox hg) | ((with_reducible refine gate_dst (N := 3) rfl ?_); refine be_ 3 #[.slice A1_0 l1_0.length c1_0, .int .i64 a1_1] 101 ?_; intro gb241 hg w23 hbox hb; have BK241 := AM hbox; have GW241 := AM ((by rw [hg]; exact (below_size bel_) : w.heap.size ≤ gb241)); have GE241 := AM ((by rw [hg]; exact (below_size bel_) : w.heap.size ≤ gb241)); replace HB := AM (below_step bel_ hb); have NB240_241 := AM ((by rw [hg]; exact Nat.ne_of_lt (blk_lt (g := gb240) (o := .cells #[.slice A0_0 l0_0.length c0_0, .int .i64 a0_1] 101 (0, 0)) (bk_ BK240.out)) : gb240 ≠ gb241)); have NB241_240 := AM ((by rw [hg]; exact Nat.ne_of_gt (blk_lt (g := gb240) (o := .cells #[.slice A0_0 l0_0.length c0_0, .int .i64 a0_1] 101 (0, 0)) (bk_ BK240.out)) : gb241 ≠ gb240)); replace BK240 := AM (blk_below (g := gb240) (o := .cells #[.slice A0_0 l0_0.length c0_0, .int .i64 a0_1] 101 (0, 0)) (bk_ BK240.out) hb); clear hb hbox hg; have hnb24 := NB240_241.out; have hnc24 := NB241_240.out; have hcz25_0 : w23.cell? ⟨gb240, 0, none⟩ = some (.slice A0_0 l0_0.length c0_0) := (blk_cell BK240.out 0).trans rfl; have hcz25_1 : w23.cell? ⟨gb240, 1, none⟩ = some (.int .i64 a0_1) := (blk_cell BK240.out 1).trans rfl; have hfz25_0 := blk_frozen BK240.out 0; have hfz25_1 := blk_frozen BK240.out 1; have hcz26_0 : w23.cell? ⟨gb241, 0, none⟩ = some (.slice A1_0 l1_0.length c1_0) := (blk_cell BK241.out 0).trans rfl; have hcz26_1 : w23.cell? ⟨gb241, 1, none⟩ = some (.int .i64 a1_1) := (blk_cell BK241.out 1).trans rfl; have hfz26_0 := blk_frozen BK241.out 0; have hfz26_1 := blk_frozen BK241.out 1) | ((with_reducible refine gate_callee (f := 43) rfl ?_); refine gl_ (some 9) Try.func43 #[.slice A0_0 l0_0.length c0_0, .slice A1_0 l1_0.length c1_0] ?_; (with_reducible refine (laws_eqPlaceS.calls k _ _ l0_0 _ _ l1_0 false _ ?side1 ?side2 ?side3 ?side4 A3.out).mono ?_); (case side1 => repeat (first | exact (Kd.C_below HR0_0.out HB.out) | (with_reducible refine Kd.C_alloc ?_ _) | (with_reducible refine Kd.C_drewN ?_ _) | (with_reducible refine Kd.C_drew ?_))); (case side2 => exact HC0_0.out); (case side3 => repeat (first | exact (Kd.C_below HR1_0.out HB.out) | (with_reducible refine Kd.C_alloc ?_ _) | (with_reducible refine Kd.C_drewN ?_ _) | (with_reducible refine Kd.C_drew ?_))); (case side4 => exact HC1_0.out); rintro e w27 ⟨rfl, hb⟩; refine ⟨_, rfl, ?_⟩; replace BK240 := AM (blk_below (g := gb240) (o := .cells #[.slice A0_0 l0_0.length c0_0, .int .i64 a0_1] 101 (0, 0)) (bk_ BK240.out) hb); replace BK241 := AM (blk_below (g := gb241) (o := .cells #[.slice A1_0 l1_0.length c1_0, .int .i64 a1_1] 101 (0, 0)) (bk_ BK241.out) hb); replace HB := AM (below_step bel_ hb); (try clear hb); (try clear hb2); (try clear hk); (try clear hi)))
    go_ret
    exact ⟨ri_, bel_⟩

/-! ### laws_markText: function 121 -/
def laws_markText.l0 : Nat → Int → ByteArray → Option (ByteArray)
  | 0, _, _ => none
  | k + 1, x0, x3 => if x0 > 0 then ((some (([(wrap64 (48 + (Int.tmod x0 10))) % 256] : List Int) : List Int)).bind fun y243 => (if (strOfNums y243).size + x3.size ≤ 9223372036854775807 then (laws_markText.l0 k (wrap64 (Int.tdiv x0 10)) ((strOfNums y243) ++ x3)) else (none))) else (if 1 + x3.size ≤ 9223372036854775807 then (some ((⟨#[109]⟩ : ByteArray) ++ x3)) else (none))
def laws_markText.f (k : Nat) (a0 : Int) : Option (ByteArray) := if a0 ≤ 0 then (some (⟨#[109, 48]⟩ : ByteArray)) else (laws_markText.l0 k a0 (⟨#[]⟩ : ByteArray))
theorem laws_markText.mono_l : ∀ k, (∀ y0 y1, LeO (laws_markText.l0 k y0 y1) (laws_markText.l0 (k + 1) y0 y1))
  | 0 => fun _ _ r h => by simp [laws_markText.l0] at h
  | k + 1 => by
    have ih0 := laws_markText.mono_l k
    · intro y0 y1
      unfold laws_markText.l0
      repeat' first
      | (with_reducible exact ih0 _ _)
      | (with_reducible exact LeO.refl _)
      | (with_reducible exact LeO.none _)
      | (with_reducible refine LeO.ite ?_ ?_)
      | (with_reducible refine LeO.bind ?_ (fun _ => ?_))
      | exact ih0 _ _
      | exact LeO.none _
      | refine LeO.ite ?_ ?_
      | refine LeO.bind ?_ (fun _ => ?_)
theorem laws_markText.mono : ∀ a0 k, LeO (laws_markText.f k a0) (laws_markText.f (k + 1) a0) := by
  intro a0 k
  have ih0 := laws_markText.mono_l k
  unfold laws_markText.f
  repeat' first
      | (with_reducible exact ih0 _ _)
      | (with_reducible exact LeO.refl _)
      | (with_reducible exact LeO.none _)
      | (with_reducible refine LeO.ite ?_ ?_)
      | (with_reducible refine LeO.bind ?_ (fun _ => ?_))
      | exact ih0 _ _
      | exact LeO.none _
      | refine LeO.ite ?_ ?_
      | refine LeO.bind ?_ (fun _ => ?_)
set_option maxHeartbeats 8000000 in
set_option maxRecDepth 100000 in
theorem laws_markText.calls (k : Nat) (a0 : Int) (r : ByteArray) (w : World) (h : laws_markText.f k a0 = some r) :
    Calls Try.prog 121 #[.int .i64 a0] w fun e w' => e = .returned (.string r) ∧ Below w.heap.size w w' := by
  have HB := AM (Below.refl w.heap.size w)
  have H : (if a0 ≤ 0 then (some (⟨#[109, 48]⟩ : ByteArray)) else (laws_markText.l0 k a0 (⟨#[]⟩ : ByteArray))) = some r := h
  clear h
  by_cases c2 : a0 ≤ 0
  · rw [if_pos c2] at H
    have c2b0 : decide (a0 ≤ 0) = true := decide_eq_true c2
    clear c2
    obtain rfl := Option.some.inj H
    go_enter Try.func121, Try.ntmps121
    go_wp2
    go_ret
    exact ⟨ri_, bel_⟩
  · rw [if_neg c2] at H
    have c2b0 : decide (a0 ≤ 0) = false := decide_eq_false c2
    clear c2
    have H' := AM H
    clear H
    go_enter Try.func121, Try.ntmps121
    go_wp2
    go_loopg [0, 3] k (fun kq v0 v3 w' => ∃ (x0_1 : Int) (x3_1 : ByteArray), v0 = .int .i64 x0_1 ∧ v3 = .string x3_1 ∧ Aside0 (laws_markText.l0 kq x0_1 x3_1 = some r) ∧ Aside0 (kq ≤ k) ∧ Aside0 (Below w.heap.size w w'))
    case atStart => exact ⟨(a0), ((⟨#[]⟩ : ByteArray)), (by first | rfl | (simp; done) | (simp [*]; done)), (by first | rfl | (simp; done) | (simp [*]; done)), H', ⟨Nat.le_refl _⟩, ⟨bel_⟩⟩
    case round =>
      clear H'
      try clear c1
      try clear c2
      try clear c2b0
      try clear p2
      obtain ⟨x0_1, x3_1, rfl, rfl, HA, HK1, HB⟩ := hrel
      cases gk with
      | zero => exact absurd HA.out (by simp [laws_markText.l0])
      | succ k1 =>
        have H := HA.out
        clear HA
        simp only [laws_markText.l0] at H
        by_cases c3 : x0_1 > 0
        · rw [if_pos c3] at H
          have c3b0 : decide (0 < x0_1) = true := decide_eq_true c3
          clear c3
          obtain ⟨y243, hy243⟩ : ∃ y_ : List Int, y_ = (([(wrap64 (48 + (Int.tmod x0_1 10))) % 256] : List Int)) := ⟨_, rfl⟩
          replace H : (if (strOfNums y243).size + x3_1.size ≤ 9223372036854775807 then (laws_markText.l0 k1 (wrap64 (Int.tdiv x0_1 10)) ((strOfNums y243) ++ x3_1)) else (none)) = some r := by first | (rw [hy243]; with_reducible exact H) | (have H2_ := (Option.bind_some _ _).symm.trans H; rw [hy243]; with_reducible exact H2_) | (have H2_ := (Option.bind_some _ _).symm.trans H; with_reducible exact H2_) | with_reducible exact H | (rw [hy243]; exact H) | exact H
          have Ny243 := AM hy243
          clear hy243
          by_cases c4 : (strOfNums y243).size + x3_1.size ≤ 9223372036854775807
          · rw [if_pos c4] at H
            have c4b0 := eq_true c4
            have c4b1 : decide ((strOfNums y243).size + x3_1.size ≤ 9223372036854775807) = true := decide_eq_true c4
            try have c4b2 : (9223372036854775807 < (strOfNums y243).size + x3_1.size) = False := eq_false (Nat.not_lt.2 c4)
            have H' := AM H
            clear H
            go_wp2_with (first | ((with_reducible refine gate_dst (N := 12) rfl ?_); refine Kd.R_lit (Kd.int .u8) _ 5 ?hg (N := 12) ?hd (xs := ([(wrap64 (48 + (Int.tmod x0_1 10))) % 256] : List Int)) (inner := [.int .u8 ((wrap64 (48 + (Int.tmod x0_1 10))) % 256)]) (ok := fun _ => True) (okp := fun _ => True) ?hr ?hp (fun _ hk => hk) trivial (Below.refl _ _) (Nat.le_refl _) (by simp) ?_; (case hd => rfl); (case hg => rfl); (case hr => first | (go_simp; done) | (go_simp; rfl)); (case hp => exact (Reps.one (show Kd.M (Kd.int .u8) _ _ _ ((wrap64 (48 + (Int.tmod x0_1 10))) % 256) [.int .u8 ((wrap64 (48 + (Int.tmod x0_1 10))) % 256)] from rfl) (Reps.none _ _))); intro v244 w5 ho6 hb hg_ hnew_; clear hg_ hnew_; (first | rw [← Ny243.out] at ho6 | (simp only [Int.reduceToNat] at ho6; rw [← Ny243.out] at ho6)); have HO245 := AM (Kd.R_lower ho6 (below_size bel_)); replace HB := AM (below_step bel_ hb); clear hb ho6; have hcv7 := own_string (P := Try.prog) Try.underlying22 Try.underlying5 Try.underlying9 (Kd.own_of_R HO245.out)))
            go_roundg k1
            case measure => have := HK1.out; omega
            case rel => exact ⟨(wrap64 (Int.tdiv x0_1 10)), ((strOfNums y243) ++ x3_1), (by first | rfl | (simp; done) | (simp [*]; done)), (by first | rfl | (simp; done) | (simp [*]; done)), H', ⟨by have := HK1.out; omega⟩, ⟨bel_⟩⟩
          · rw [if_neg c4] at H
            exact absurd H (by simp)
        · rw [if_neg c3] at H
          have c3b0 : decide (0 < x0_1) = false := decide_eq_false c3
          clear c3
          by_cases c8 : 1 + x3_1.size ≤ 9223372036854775807
          · rw [if_pos c8] at H
            have c8b0 := eq_true c8
            have c8b1 : decide (1 + x3_1.size ≤ 9223372036854775807) = true := decide_eq_true c8
            try have c8b2 : (9223372036854775807 < 1 + x3_1.size) = False := eq_false (Nat.not_lt.2 c8)
            obtain rfl := Option.some.inj H
            go_wp2
            go_ret
            exact ⟨ri_, bel_⟩
          · rw [if_neg c8] at H
            exact absurd H (by simp)

/-! ### laws_markPlaceS: function 68 -/
def laws_markPlaceS.l0 : Nat → List (S50) → Int → Int → Option (Int × (List (S50)))
  | 0, _, _, _ => none
  | k + 1, x0, x1, x5 => if x5 < (x0.length : Int) then ((laws_markText.f k x1).bind fun t246 => (if 0 ≤ x5 then ((some (x0.set (x5 : Int).toNat (⟨t246, (rd_T50 x0 x5).f1, (rd_T50 x0 x5).f2, (rd_T50 x0 x5).f3, (rd_T50 x0 x5).f4⟩ : S50) : List (S50))).bind fun y247 => ((laws_markText.f k (wrap64 (x1 + 1))).bind fun t248 => ((some (y247.set (x5 : Int).toNat (⟨(rd_T50 y247 x5).f0, t248, (rd_T50 y247 x5).f2, (rd_T50 y247 x5).f3, (rd_T50 y247 x5).f4⟩ : S50) : List (S50))).bind fun y249 => ((some (y249.set (x5 : Int).toNat (⟨(rd_T50 y249 x5).f0, (rd_T50 y249 x5).f1, wrap64 ((wrap64 (x1 + 1)) + 1), (rd_T50 y249 x5).f3, (rd_T50 y249 x5).f4⟩ : S50) : List (S50))).bind fun y250 => ((some (y250.set (x5 : Int).toNat (⟨(rd_T50 y250 x5).f0, (rd_T50 y250 x5).f1, (rd_T50 y250 x5).f2, wrap64 ((wrap64 ((wrap64 (x1 + 1)) + 1)) + 1), (rd_T50 y250 x5).f4⟩ : S50) : List (S50))).bind fun y251 => (laws_markPlaceS.l0 k (y251.set (x5 : Int).toNat (⟨(rd_T50 y251 x5).f0, (rd_T50 y251 x5).f1, (rd_T50 y251 x5).f2, (rd_T50 y251 x5).f3, wrap64 ((wrap64 ((wrap64 ((wrap64 (x1 + 1)) + 1)) + 1)) + 1)⟩ : S50)) (wrap64 ((wrap64 ((wrap64 ((wrap64 ((wrap64 (x1 + 1)) + 1)) + 1)) + 1)) + 1)) (wrap64 (x5 + 1)))))))) else (none))) else (some (x1, x0))
def laws_markPlaceS.f (k : Nat) (l0 : List (S50)) (a1 : Int) : Option (Int × (List (S50))) := laws_markPlaceS.l0 k l0 a1 0
theorem laws_markPlaceS.mono_l : ∀ k, (∀ y0 y1 y2, LeO (laws_markPlaceS.l0 k y0 y1 y2) (laws_markPlaceS.l0 (k + 1) y0 y1 y2))
  | 0 => fun _ _ _ r h => by simp [laws_markPlaceS.l0] at h
  | k + 1 => by
    have ih0 := laws_markPlaceS.mono_l k
    · intro y0 y1 y2
      unfold laws_markPlaceS.l0
      repeat' first
      | (with_reducible exact ih0 _ _ _)
      | (with_reducible exact laws_markText.mono _ _)
      | (with_reducible exact LeO.refl _)
      | (with_reducible exact LeO.none _)
      | (with_reducible refine LeO.ite ?_ ?_)
      | (with_reducible refine LeO.bind ?_ (fun _ => ?_))
      | exact ih0 _ _ _
      | exact laws_markText.mono _ _
      | exact LeO.none _
      | refine LeO.ite ?_ ?_
      | refine LeO.bind ?_ (fun _ => ?_)
theorem laws_markPlaceS.mono : ∀ a0 a1 k, LeO (laws_markPlaceS.f k a0 a1) (laws_markPlaceS.f (k + 1) a0 a1) := by
  intro a0 a1 k
  have ih0 := laws_markPlaceS.mono_l k
  unfold laws_markPlaceS.f
  repeat' first
      | (with_reducible exact ih0 _ _ _)
      | (with_reducible exact laws_markText.mono _ _)
      | (with_reducible exact LeO.refl _)
      | (with_reducible exact LeO.none _)
      | (with_reducible refine LeO.ite ?_ ?_)
      | (with_reducible refine LeO.bind ?_ (fun _ => ?_))
      | exact ih0 _ _ _
      | exact laws_markText.mono _ _
      | exact LeO.none _
      | refine LeO.ite ?_ ?_
      | refine LeO.bind ?_ (fun _ => ?_)
set_option maxHeartbeats 8000000 in
set_option maxRecDepth 100000 in
theorem laws_markPlaceS.calls (k : Nat) (P0_ : Nat → Prop) (u9000_ : Value) (l0 : List (S50)) (a1 : Int) (r1 : Int) (r2 : List (S50)) (w0 w : World) (hB : Below w0.heap.size w0 w) (ho0 : Kd.R k50 50 w w0.heap.size P0_ u9000_ l0) (h : laws_markPlaceS.f k l0 a1 = some (r1, r2)) :
    Calls Try.prog 68 #[u9000_, .int .i64 a1] w fun e w' => e = .returned (.int .i64 r1) ∧ Kd.R k50 50 w' w0.heap.size (fun k_ => (P0_ k_ ∨ w.heap.size ≤ k_)) u9000_ r2 ∧ Below w0.heap.size w0 w' ∧ Kept w w' (fun k_ => P0_ k_) := by
  have HO0 := AM (show Kd.R k50 50 w w0.heap.size (fun k_ => (P0_ k_ ∨ w.heap.size ≤ k_)) u9000_ l0 from Kd.R_mono ho0 (fun k_ hk => (.inl hk)))
  have HK := AM (Kept.refl w (fun k_ => P0_ k_))
  have HW0 := AM hB.size
  have HB := AM hB
  clear hB
  have H : (laws_markPlaceS.l0 k l0 a1 0) = some (r1, r2) := h
  clear h
  have H' := AM H
  clear H
  go_enter Try.func68, Try.ntmps68
  go_wp2
  go_loopg [1, 5] k (fun kq v1 v5 w' => ∃ (x0_1 : List (S50)) (x1_1 : Int) (x5_1 : Int), v1 = .int .i64 x1_1 ∧ v5 = .int .i64 x5_1 ∧ Aside0 (laws_markPlaceS.l0 kq x0_1 x1_1 x5_1 = some (r1, r2)) ∧ Aside0 (kq ≤ k) ∧ Aside0 (Kd.R k50 50 w' w0.heap.size (fun k_ => (P0_ k_ ∨ w.heap.size ≤ k_)) u9000_ x0_1) ∧ Aside0 (Kept w w' (fun k_ => P0_ k_)) ∧ Aside0 (Below w0.heap.size w0 w'))
  case atStart => exact ⟨(l0), (a1), (0), (by first | rfl | (simp; done) | (simp [*]; done)), (by first | rfl | (simp; done) | (simp [*]; done)), H', ⟨Nat.le_refl _⟩, ⟨ro_ HO0.out⟩, ⟨kt_⟩, ⟨bel_⟩⟩
  case round =>
    clear H'
    try clear p2
    obtain ⟨x0_1, x1_1, x5_1, rfl, rfl, HA, HK1, HO_0, HK, HB⟩ := hrel
    cases gk with
    | zero => exact absurd HA.out (by simp [laws_markPlaceS.l0])
    | succ k1 =>
      have H := HA.out
      clear HA
      simp only [laws_markPlaceS.l0] at H
      by_cases c3 : x5_1 < (x0_1.length : Int)
      · rw [if_pos c3] at H
        have c3b0 : decide (x5_1 < (x0_1.length : Int)) = true := decide_eq_true c3
        clear c3
        obtain ⟨t246, A4, H⟩ := OB H
        try dsimp only at H
        replace A4 := AM A4
        by_cases c5 : 0 ≤ x5_1
        · rw [if_pos c5] at H
          have c5b0 : decide (0 ≤ x5_1) = true := decide_eq_true c5
          clear c5
          obtain ⟨y247, hy247⟩ : ∃ y_ : List (S50), y_ = (x0_1.set (x5_1 : Int).toNat (⟨t246, (rd_T50 x0_1 x5_1).f1, (rd_T50 x0_1 x5_1).f2, (rd_T50 x0_1 x5_1).f3, (rd_T50 x0_1 x5_1).f4⟩ : S50)) := ⟨_, rfl⟩
          replace H : ((laws_markText.f k1 (wrap64 (x1_1 + 1))).bind fun t248 => ((some (y247.set (x5_1 : Int).toNat (⟨(rd_T50 y247 x5_1).f0, t248, (rd_T50 y247 x5_1).f2, (rd_T50 y247 x5_1).f3, (rd_T50 y247 x5_1).f4⟩ : S50) : List (S50))).bind fun y249 => ((some (y249.set (x5_1 : Int).toNat (⟨(rd_T50 y249 x5_1).f0, (rd_T50 y249 x5_1).f1, wrap64 ((wrap64 (x1_1 + 1)) + 1), (rd_T50 y249 x5_1).f3, (rd_T50 y249 x5_1).f4⟩ : S50) : List (S50))).bind fun y250 => ((some (y250.set (x5_1 : Int).toNat (⟨(rd_T50 y250 x5_1).f0, (rd_T50 y250 x5_1).f1, (rd_T50 y250 x5_1).f2, wrap64 ((wrap64 ((wrap64 (x1_1 + 1)) + 1)) + 1), (rd_T50 y250 x5_1).f4⟩ : S50) : List (S50))).bind fun y251 => (laws_markPlaceS.l0 k1 (y251.set (x5_1 : Int).toNat (⟨(rd_T50 y251 x5_1).f0, (rd_T50 y251 x5_1).f1, (rd_T50 y251 x5_1).f2, (rd_T50 y251 x5_1).f3, wrap64 ((wrap64 ((wrap64 ((wrap64 (x1_1 + 1)) + 1)) + 1)) + 1)⟩ : S50)) (wrap64 ((wrap64 ((wrap64 ((wrap64 ((wrap64 (x1_1 + 1)) + 1)) + 1)) + 1)) + 1)) (wrap64 (x5_1 + 1))))))) = some (r1, r2) := by first | (rw [hy247]; with_reducible exact H) | (have H2_ := (Option.bind_some _ _).symm.trans H; rw [hy247]; with_reducible exact H2_) | (have H2_ := (Option.bind_some _ _).symm.trans H; with_reducible exact H2_) | with_reducible exact H | (rw [hy247]; exact H) | exact H
          have Ny247 := AM hy247
          clear hy247
          obtain ⟨t248, A7, H⟩ := OB H
          try dsimp only at H
          replace A7 := AM A7
          obtain ⟨y249, hy249⟩ : ∃ y_ : List (S50), y_ = (y247.set (x5_1 : Int).toNat (⟨(rd_T50 y247 x5_1).f0, t248, (rd_T50 y247 x5_1).f2, (rd_T50 y247 x5_1).f3, (rd_T50 y247 x5_1).f4⟩ : S50)) := ⟨_, rfl⟩
          replace H : ((some (y249.set (x5_1 : Int).toNat (⟨(rd_T50 y249 x5_1).f0, (rd_T50 y249 x5_1).f1, wrap64 ((wrap64 (x1_1 + 1)) + 1), (rd_T50 y249 x5_1).f3, (rd_T50 y249 x5_1).f4⟩ : S50) : List (S50))).bind fun y250 => ((some (y250.set (x5_1 : Int).toNat (⟨(rd_T50 y250 x5_1).f0, (rd_T50 y250 x5_1).f1, (rd_T50 y250 x5_1).f2, wrap64 ((wrap64 ((wrap64 (x1_1 + 1)) + 1)) + 1), (rd_T50 y250 x5_1).f4⟩ : S50) : List (S50))).bind fun y251 => (laws_markPlaceS.l0 k1 (y251.set (x5_1 : Int).toNat (⟨(rd_T50 y251 x5_1).f0, (rd_T50 y251 x5_1).f1, (rd_T50 y251 x5_1).f2, (rd_T50 y251 x5_1).f3, wrap64 ((wrap64 ((wrap64 ((wrap64 (x1_1 + 1)) + 1)) + 1)) + 1)⟩ : S50)) (wrap64 ((wrap64 ((wrap64 ((wrap64 ((wrap64 (x1_1 + 1)) + 1)) + 1)) + 1)) + 1)) (wrap64 (x5_1 + 1))))) = some (r1, r2) := by first | (rw [hy249]; with_reducible exact H) | (have H2_ := (Option.bind_some _ _).symm.trans H; rw [hy249]; with_reducible exact H2_) | (have H2_ := (Option.bind_some _ _).symm.trans H; with_reducible exact H2_) | with_reducible exact H | (rw [hy249]; exact H) | exact H
          have Ny249 := AM hy249
          clear hy249
          obtain ⟨y250, hy250⟩ : ∃ y_ : List (S50), y_ = (y249.set (x5_1 : Int).toNat (⟨(rd_T50 y249 x5_1).f0, (rd_T50 y249 x5_1).f1, wrap64 ((wrap64 (x1_1 + 1)) + 1), (rd_T50 y249 x5_1).f3, (rd_T50 y249 x5_1).f4⟩ : S50)) := ⟨_, rfl⟩
          replace H : ((some (y250.set (x5_1 : Int).toNat (⟨(rd_T50 y250 x5_1).f0, (rd_T50 y250 x5_1).f1, (rd_T50 y250 x5_1).f2, wrap64 ((wrap64 ((wrap64 (x1_1 + 1)) + 1)) + 1), (rd_T50 y250 x5_1).f4⟩ : S50) : List (S50))).bind fun y251 => (laws_markPlaceS.l0 k1 (y251.set (x5_1 : Int).toNat (⟨(rd_T50 y251 x5_1).f0, (rd_T50 y251 x5_1).f1, (rd_T50 y251 x5_1).f2, (rd_T50 y251 x5_1).f3, wrap64 ((wrap64 ((wrap64 ((wrap64 (x1_1 + 1)) + 1)) + 1)) + 1)⟩ : S50)) (wrap64 ((wrap64 ((wrap64 ((wrap64 ((wrap64 (x1_1 + 1)) + 1)) + 1)) + 1)) + 1)) (wrap64 (x5_1 + 1)))) = some (r1, r2) := by first | (rw [hy250]; with_reducible exact H) | (have H2_ := (Option.bind_some _ _).symm.trans H; rw [hy250]; with_reducible exact H2_) | (have H2_ := (Option.bind_some _ _).symm.trans H; with_reducible exact H2_) | with_reducible exact H | (rw [hy250]; exact H) | exact H
          have Ny250 := AM hy250
          clear hy250
          obtain ⟨y251, hy251⟩ : ∃ y_ : List (S50), y_ = (y250.set (x5_1 : Int).toNat (⟨(rd_T50 y250 x5_1).f0, (rd_T50 y250 x5_1).f1, (rd_T50 y250 x5_1).f2, wrap64 ((wrap64 ((wrap64 (x1_1 + 1)) + 1)) + 1), (rd_T50 y250 x5_1).f4⟩ : S50)) := ⟨_, rfl⟩
          replace H : (laws_markPlaceS.l0 k1 (y251.set (x5_1 : Int).toNat (⟨(rd_T50 y251 x5_1).f0, (rd_T50 y251 x5_1).f1, (rd_T50 y251 x5_1).f2, (rd_T50 y251 x5_1).f3, wrap64 ((wrap64 ((wrap64 ((wrap64 (x1_1 + 1)) + 1)) + 1)) + 1)⟩ : S50)) (wrap64 ((wrap64 ((wrap64 ((wrap64 ((wrap64 (x1_1 + 1)) + 1)) + 1)) + 1)) + 1)) (wrap64 (x5_1 + 1))) = some (r1, r2) := by first | (rw [hy251]; with_reducible exact H) | (have H2_ := (Option.bind_some _ _).symm.trans H; rw [hy251]; with_reducible exact H2_) | (have H2_ := (Option.bind_some _ _).symm.trans H; with_reducible exact H2_) | with_reducible exact H | (rw [hy251]; exact H) | exact H
          have Ny251 := AM hy251
          clear hy251
          obtain ⟨y252, hy252⟩ : ∃ y_ : List (S50), y_ = (y251.set (x5_1 : Int).toNat (⟨(rd_T50 y251 x5_1).f0, (rd_T50 y251 x5_1).f1, (rd_T50 y251 x5_1).f2, (rd_T50 y251 x5_1).f3, wrap64 ((wrap64 ((wrap64 ((wrap64 (x1_1 + 1)) + 1)) + 1)) + 1)⟩ : S50)) := ⟨_, rfl⟩
          replace H : (laws_markPlaceS.l0 k1 y252 (wrap64 ((wrap64 ((wrap64 ((wrap64 ((wrap64 (x1_1 + 1)) + 1)) + 1)) + 1)) + 1)) (wrap64 (x5_1 + 1))) = some (r1, r2) := by first | (rw [hy252]; with_reducible exact H) | (have H2_ := (Option.bind_some _ _).symm.trans H; rw [hy252]; with_reducible exact H2_) | (have H2_ := (Option.bind_some _ _).symm.trans H; with_reducible exact H2_) | with_reducible exact H | (rw [hy252]; exact H) | exact H
          have Ny252 := AM hy252
          clear hy252
          have H' := AM H
          clear H
          obtain ⟨Ao12, co12, eo12⟩ := Kd.R_slice HO_0.out
          subst eo12
          go_wp2_with (first | ((with_reducible refine gate_callee (f := 121) rfl ?_); refine gl_ (some 15) Try.func121 #[.int .i64 x1_1] ?_; (with_reducible refine (laws_markText.calls k1 x1_1 t246 _ A4.out).mono ?_); rintro e w13 ⟨rfl, hb⟩; refine ⟨_, rfl, ?_⟩; replace HO_0 := AM (Kd.R_below (ro_ HO_0.out) hb); replace HK := AM (Kept.below (S := (fun k_ => P0_ k_)) kt_ hb); replace HB := AM (below_step bel_ hb); (try clear hb); (try clear hb2); (try clear hk); (try clear hi); have p6 : 0 ≤ (x5_1 : Int) := of_decide_eq_true (by first | (with_reducible assumption) | assumption); have q6 : (x5_1 : Int) < ((x0_1.length : Int) : Int) := of_decide_eq_true (by first | (with_reducible assumption) | assumption); obtain ⟨go6, co6, eo6, gb6, gl6, cl6, HG6⟩ := Kd.R_form HO_0.out (by omega); (first | cases eo6 | (injection eo6 with ea_ en_ ec_; (first | subst ea_ | (injection ea_ with ea_; subst ea_)); subst ec_; clear en_)); have GB6 := AM gb6; have GG6 := AM HG6; clear gb6 gl6 HG6; have HMgo6 := AM (show (P0_ go6 ∨ w.heap.size ≤ go6) from (HO_0.out.1 _ rfl)); obtain ⟨ce6, hcl6, hM6, hcc6, hfr6⟩ := Kd.R_elem HO_0.out z50 (x5_1 : Int) p6 q6; obtain rfl := k50_openM hM6; have hx6_0 : w13.cell? ⟨go6, (x5_1 : Int).toNat * 5, none⟩ = some (.string ((rd_T50 x0_1 x5_1).f0)) := hcc6 0 _ rfl; have hx6_1 : w13.cell? ⟨go6, (x5_1 : Int).toNat * 5 + 1, none⟩ = some (.string ((rd_T50 x0_1 x5_1).f1)) := hcc6 1 _ rfl; have hx6_2 : w13.cell? ⟨go6, (x5_1 : Int).toNat * 5 + 2, none⟩ = some (.int .i64 ((rd_T50 x0_1 x5_1).f2)) := hcc6 2 _ rfl; have hx6_3 : w13.cell? ⟨go6, (x5_1 : Int).toNat * 5 + 3, none⟩ = some (.int .i64 ((rd_T50 x0_1 x5_1).f3)) := hcc6 3 _ rfl; have hx6_4 : w13.cell? ⟨go6, (x5_1 : Int).toNat * 5 + 4, none⟩ = some (.int .i64 ((rd_T50 x0_1 x5_1).f4)) := hcc6 4 _ rfl; have hf6_0 : w13.frozen? ⟨go6, (x5_1 : Int).toNat * 5, none⟩ = false := hfr6 0; have hf6_1 : w13.frozen? ⟨go6, (x5_1 : Int).toNat * 5 + 1, none⟩ = false := hfr6 1; have hf6_2 : w13.frozen? ⟨go6, (x5_1 : Int).toNat * 5 + 2, none⟩ = false := hfr6 2; have hf6_3 : w13.frozen? ⟨go6, (x5_1 : Int).toNat * 5 + 3, none⟩ = false := hfr6 3; have hf6_4 : w13.frozen? ⟨go6, (x5_1 : Int).toNat * 5 + 4, none⟩ = false := hfr6 4; clear hcl6 hcc6 hfr6 hM6; replace p6 := eq_true p6; replace q6 := eq_true q6; have HX14 := AM (show Kd.R k50 50 w13 w0.heap.size (fun k_ => (P0_ k_ ∨ w.heap.size ≤ k_)) (.slice (some ⟨go6, 0, none⟩) x0_1.length co12) x0_1 from (ro_ HO_0.out)); obtain ⟨ce14, hcl14, hM14, hcc14, hfr14⟩ := Kd.R_elem HX14.out z50 (x5_1 : Int) (of_decide_eq_true (by first | (with_reducible assumption) | assumption)) (by have h_ : (x5_1 : Int) < ((x0_1.length : Int) : Int) := of_decide_eq_true (by first | (with_reducible assumption) | assumption); first | exact h_ | (have e_ := (Kd.R_reads' HO_0.out).1; omega) | simpa using h_); obtain rfl := k50_openM hM14; have HP14 := Kd.R_seg HX14.out (x5_1 : Int) (of_decide_eq_true (by first | (with_reducible assumption) | assumption)) (by have h_ : (x5_1 : Int) < ((x0_1.length : Int) : Int) := of_decide_eq_true (by first | (with_reducible assumption) | assumption); first | exact h_ | (have e_ := (Kd.R_reads' HO_0.out).1; omega) | simpa using h_) (seg := [.string t246]) (j := 0) hcl14 hcc14 (show 1 ≤ 5 from by decide) (x' := (⟨t246, (rd_T50 x0_1 x5_1).f1, (rd_T50 x0_1 x5_1).f2, (rd_T50 x0_1 x5_1).f3, (rd_T50 x0_1 x5_1).f4⟩ : S50)) (k50_mkM _ _ _ (⟨t246, (rd_T50 x0_1 x5_1).f1, (rd_T50 x0_1 x5_1).f2, (rd_T50 x0_1 x5_1).f3, (rd_T50 x0_1 x5_1).f4⟩ : S50) ) (fun _ hk => hk); have hx14_0 := hcc14 0 _ rfl; (try simp only [show (k50).sz = 5 from rfl, Nat.mul_one, Nat.add_zero] at hx14_0); have hf14_0 := hfr14 0; (try simp only [show (k50).sz = 5 from rfl, Nat.mul_one, Nat.add_zero] at hf14_0); clear hcl14 hcc14 hfr14 hM14) | ((with_reducible refine gate_store (t := 9) (p := 17) rfl ?_); refine store_event (t := 9) (p := 17) (v := ?vo_w15) (w1 := (w13.setCell ⟨go6, (x5_1 : Int).toNat * 5, none⟩ (.string t246))) ?hg ?ho ?hn ?hr ?_; (case ho => rfl); (case hg => rfl); (case hn => rfl); (case hr => first | (go_simp; done) | (go_simp; rfl)); intro w15 hw; have hg : w13.grownBy w15 (some go6) := (by rw [hw]; exact HP14.2); have hp_ : Kd.R k50 50 w15 w0.heap.size (fun k_ => (P0_ k_ ∨ w.heap.size ≤ k_)) (.slice (some ⟨go6, 0, none⟩) x0_1.length co12) y247 := (by rw [hw, Ny247.out]; exact HP14.1); clear HP14; replace HB := AM ((by rw [hw]; exact below_set (HB.out) GB6.out : Below w0.heap.size w0 w15)); replace HK := AM (Kept.of_grown (S := (fun k_ => P0_ k_)) hg kt_ (fun k_ e_ => (HO_0.out.1 k_ e_))); replace HO_0 := AM hp_; clear hg hw hp_) | ((with_reducible refine gate_callee (f := 121) rfl ?_); refine gl_ (some 23) Try.func121 #[.int .i64 (wrap64 (x1_1 + 1))] ?_; (with_reducible refine (laws_markText.calls k1 (wrap64 (x1_1 + 1)) t248 _ A7.out).mono ?_); rintro e w16 ⟨rfl, hb⟩; refine ⟨_, rfl, ?_⟩; replace HO_0 := AM (Kd.R_below (ro_ HO_0.out) hb); replace HK := AM (Kept.below (S := (fun k_ => P0_ k_)) kt_ hb); replace HB := AM (below_step bel_ hb); (try clear hb); (try clear hb2); (try clear hk); (try clear hi); have p8 : 0 ≤ (x5_1 : Int) := of_decide_eq_true (by first | (with_reducible assumption) | assumption); have q8 : (x5_1 : Int) < ((x0_1.length : Int) : Int) := of_decide_eq_true (by first | (with_reducible assumption) | assumption); obtain ⟨ce8, hcl8, hM8, hcc8, hfr8⟩ := Kd.R_elem HO_0.out z50 (x5_1 : Int) p8 q8; obtain rfl := k50_openM hM8; have hx8_0 : w16.cell? ⟨go6, (x5_1 : Int).toNat * 5, none⟩ = some (.string ((rd_T50 y247 x5_1).f0)) := hcc8 0 _ rfl; have hx8_1 : w16.cell? ⟨go6, (x5_1 : Int).toNat * 5 + 1, none⟩ = some (.string ((rd_T50 y247 x5_1).f1)) := hcc8 1 _ rfl; have hx8_2 : w16.cell? ⟨go6, (x5_1 : Int).toNat * 5 + 2, none⟩ = some (.int .i64 ((rd_T50 y247 x5_1).f2)) := hcc8 2 _ rfl; have hx8_3 : w16.cell? ⟨go6, (x5_1 : Int).toNat * 5 + 3, none⟩ = some (.int .i64 ((rd_T50 y247 x5_1).f3)) := hcc8 3 _ rfl; have hx8_4 : w16.cell? ⟨go6, (x5_1 : Int).toNat * 5 + 4, none⟩ = some (.int .i64 ((rd_T50 y247 x5_1).f4)) := hcc8 4 _ rfl; have hf8_0 : w16.frozen? ⟨go6, (x5_1 : Int).toNat * 5, none⟩ = false := hfr8 0; have hf8_1 : w16.frozen? ⟨go6, (x5_1 : Int).toNat * 5 + 1, none⟩ = false := hfr8 1; have hf8_2 : w16.frozen? ⟨go6, (x5_1 : Int).toNat * 5 + 2, none⟩ = false := hfr8 2; have hf8_3 : w16.frozen? ⟨go6, (x5_1 : Int).toNat * 5 + 3, none⟩ = false := hfr8 3; have hf8_4 : w16.frozen? ⟨go6, (x5_1 : Int).toNat * 5 + 4, none⟩ = false := hfr8 4; clear hcl8 hcc8 hfr8 hM8; replace p8 := eq_true p8; replace q8 := eq_true q8; have HX17 := AM (show Kd.R k50 50 w16 w0.heap.size (fun k_ => (P0_ k_ ∨ w.heap.size ≤ k_)) (.slice (some ⟨go6, 0, none⟩) x0_1.length co12) y247 from (ro_ HO_0.out)); obtain ⟨ce17, hcl17, hM17, hcc17, hfr17⟩ := Kd.R_elem HX17.out z50 (x5_1 : Int) (of_decide_eq_true (by first | (with_reducible assumption) | assumption)) (by have h_ : (x5_1 : Int) < ((x0_1.length : Int) : Int) := of_decide_eq_true (by first | (with_reducible assumption) | assumption); first | exact h_ | (have e_ := (Kd.R_reads' HO_0.out).1; omega) | simpa using h_); obtain rfl := k50_openM hM17; have HP17 := Kd.R_seg HX17.out (x5_1 : Int) (of_decide_eq_true (by first | (with_reducible assumption) | assumption)) (by have h_ : (x5_1 : Int) < ((x0_1.length : Int) : Int) := of_decide_eq_true (by first | (with_reducible assumption) | assumption); first | exact h_ | (have e_ := (Kd.R_reads' HO_0.out).1; omega) | simpa using h_) (seg := [.string t248]) (j := 1) hcl17 hcc17 (show 2 ≤ 5 from by decide) (x' := (⟨(rd_T50 y247 x5_1).f0, t248, (rd_T50 y247 x5_1).f2, (rd_T50 y247 x5_1).f3, (rd_T50 y247 x5_1).f4⟩ : S50)) (k50_mkM _ _ _ (⟨(rd_T50 y247 x5_1).f0, t248, (rd_T50 y247 x5_1).f2, (rd_T50 y247 x5_1).f3, (rd_T50 y247 x5_1).f4⟩ : S50) ) (fun _ hk => hk); have hx17_1 := hcc17 1 _ rfl; (try simp only [show (k50).sz = 5 from rfl, Nat.mul_one, Nat.add_zero] at hx17_1); have hf17_1 := hfr17 1; (try simp only [show (k50).sz = 5 from rfl, Nat.mul_one, Nat.add_zero] at hf17_1); clear hcl17 hcc17 hfr17 hM17) | ((with_reducible refine gate_store (t := 9) (p := 25) rfl ?_); refine store_event (t := 9) (p := 25) (v := ?vo_w18) (w1 := (w16.setCell ⟨go6, (x5_1 : Int).toNat * 5 + 1, none⟩ (.string t248))) ?hg ?ho ?hn ?hr ?_; (case ho => rfl); (case hg => rfl); (case hn => rfl); (case hr => first | (go_simp; done) | (go_simp; rfl)); intro w18 hw; have hg : w16.grownBy w18 (some go6) := (by rw [hw]; exact HP17.2); have hp_ : Kd.R k50 50 w18 w0.heap.size (fun k_ => (P0_ k_ ∨ w.heap.size ≤ k_)) (.slice (some ⟨go6, 0, none⟩) x0_1.length co12) y249 := (by rw [hw, Ny249.out]; exact HP17.1); clear HP17; replace HB := AM ((by rw [hw]; exact below_set (HB.out) GB6.out : Below w0.heap.size w0 w18)); replace HK := AM (Kept.of_grown (S := (fun k_ => P0_ k_)) hg kt_ (fun k_ e_ => (HO_0.out.1 k_ e_))); replace HO_0 := AM hp_; clear hg hw hp_; have p9 : 0 ≤ (x5_1 : Int) := of_decide_eq_true (by first | (with_reducible assumption) | assumption); have q9 : (x5_1 : Int) < ((x0_1.length : Int) : Int) := of_decide_eq_true (by first | (with_reducible assumption) | assumption); obtain ⟨ce9, hcl9, hM9, hcc9, hfr9⟩ := Kd.R_elem HO_0.out z50 (x5_1 : Int) p9 q9; obtain rfl := k50_openM hM9; have hx9_0 : w18.cell? ⟨go6, (x5_1 : Int).toNat * 5, none⟩ = some (.string ((rd_T50 y249 x5_1).f0)) := hcc9 0 _ rfl; have hx9_1 : w18.cell? ⟨go6, (x5_1 : Int).toNat * 5 + 1, none⟩ = some (.string ((rd_T50 y249 x5_1).f1)) := hcc9 1 _ rfl; have hx9_2 : w18.cell? ⟨go6, (x5_1 : Int).toNat * 5 + 2, none⟩ = some (.int .i64 ((rd_T50 y249 x5_1).f2)) := hcc9 2 _ rfl; have hx9_3 : w18.cell? ⟨go6, (x5_1 : Int).toNat * 5 + 3, none⟩ = some (.int .i64 ((rd_T50 y249 x5_1).f3)) := hcc9 3 _ rfl; have hx9_4 : w18.cell? ⟨go6, (x5_1 : Int).toNat * 5 + 4, none⟩ = some (.int .i64 ((rd_T50 y249 x5_1).f4)) := hcc9 4 _ rfl; have hf9_0 : w18.frozen? ⟨go6, (x5_1 : Int).toNat * 5, none⟩ = false := hfr9 0; have hf9_1 : w18.frozen? ⟨go6, (x5_1 : Int).toNat * 5 + 1, none⟩ = false := hfr9 1; have hf9_2 : w18.frozen? ⟨go6, (x5_1 : Int).toNat * 5 + 2, none⟩ = false := hfr9 2; have hf9_3 : w18.frozen? ⟨go6, (x5_1 : Int).toNat * 5 + 3, none⟩ = false := hfr9 3; have hf9_4 : w18.frozen? ⟨go6, (x5_1 : Int).toNat * 5 + 4, none⟩ = false := hfr9 4; clear hcl9 hcc9 hfr9 hM9; replace p9 := eq_true p9; replace q9 := eq_true q9; have HX19 := AM (show Kd.R k50 50 w18 w0.heap.size (fun k_ => (P0_ k_ ∨ w.heap.size ≤ k_)) (.slice (some ⟨go6, 0, none⟩) x0_1.length co12) y249 from (ro_ HO_0.out)); obtain ⟨ce19, hcl19, hM19, hcc19, hfr19⟩ := Kd.R_elem HX19.out z50 (x5_1 : Int) (of_decide_eq_true (by first | (with_reducible assumption) | assumption)) (by have h_ : (x5_1 : Int) < ((x0_1.length : Int) : Int) := of_decide_eq_true (by first | (with_reducible assumption) | assumption); first | exact h_ | (have e_ := (Kd.R_reads' HO_0.out).1; omega) | simpa using h_); obtain rfl := k50_openM hM19; have HP19 := Kd.R_seg HX19.out (x5_1 : Int) (of_decide_eq_true (by first | (with_reducible assumption) | assumption)) (by have h_ : (x5_1 : Int) < ((x0_1.length : Int) : Int) := of_decide_eq_true (by first | (with_reducible assumption) | assumption); first | exact h_ | (have e_ := (Kd.R_reads' HO_0.out).1; omega) | simpa using h_) (seg := [.int .i64 (wrap64 ((wrap64 (x1_1 + 1)) + 1))]) (j := 2) hcl19 hcc19 (show 3 ≤ 5 from by decide) (x' := (⟨(rd_T50 y249 x5_1).f0, (rd_T50 y249 x5_1).f1, wrap64 ((wrap64 (x1_1 + 1)) + 1), (rd_T50 y249 x5_1).f3, (rd_T50 y249 x5_1).f4⟩ : S50)) (k50_mkM _ _ _ (⟨(rd_T50 y249 x5_1).f0, (rd_T50 y249 x5_1).f1, wrap64 ((wrap64 (x1_1 + 1)) + 1), (rd_T50 y249 x5_1).f3, (rd_T50 y249 x5_1).f4⟩ : S50) ) (fun _ hk => hk); have hx19_2 := hcc19 2 _ rfl; (try simp only [show (k50).sz = 5 from rfl, Nat.mul_one, Nat.add_zero] at hx19_2); have hf19_2 := hfr19 2; (try simp only [show (k50).sz = 5 from rfl, Nat.mul_one, Nat.add_zero] at hf19_2); clear hcl19 hcc19 hfr19 hM19) | ((with_reducible refine gate_store (t := 2) (p := 32) rfl ?_); refine store_event (t := 2) (p := 32) (v := ?vo_w20) (w1 := (w18.setCell ⟨go6, (x5_1 : Int).toNat * 5 + 2, none⟩ (.int .i64 (wrap64 ((wrap64 (x1_1 + 1)) + 1))))) ?hg ?ho ?hn ?hr ?_; (case ho => rfl); (case hg => rfl); (case hn => rfl); (case hr => first | (go_simp; done) | (go_simp; rfl)); intro w20 hw; have hg : w18.grownBy w20 (some go6) := (by rw [hw]; exact HP19.2); have hp_ : Kd.R k50 50 w20 w0.heap.size (fun k_ => (P0_ k_ ∨ w.heap.size ≤ k_)) (.slice (some ⟨go6, 0, none⟩) x0_1.length co12) y250 := (by rw [hw, Ny250.out]; exact HP19.1); clear HP19; replace HB := AM ((by rw [hw]; exact below_set (HB.out) GB6.out : Below w0.heap.size w0 w20)); replace HK := AM (Kept.of_grown (S := (fun k_ => P0_ k_)) hg kt_ (fun k_ e_ => (HO_0.out.1 k_ e_))); replace HO_0 := AM hp_; clear hg hw hp_; have p10 : 0 ≤ (x5_1 : Int) := of_decide_eq_true (by first | (with_reducible assumption) | assumption); have q10 : (x5_1 : Int) < ((x0_1.length : Int) : Int) := of_decide_eq_true (by first | (with_reducible assumption) | assumption); obtain ⟨ce10, hcl10, hM10, hcc10, hfr10⟩ := Kd.R_elem HO_0.out z50 (x5_1 : Int) p10 q10; obtain rfl := k50_openM hM10; have hx10_0 : w20.cell? ⟨go6, (x5_1 : Int).toNat * 5, none⟩ = some (.string ((rd_T50 y250 x5_1).f0)) := hcc10 0 _ rfl; have hx10_1 : w20.cell? ⟨go6, (x5_1 : Int).toNat * 5 + 1, none⟩ = some (.string ((rd_T50 y250 x5_1).f1)) := hcc10 1 _ rfl; have hx10_2 : w20.cell? ⟨go6, (x5_1 : Int).toNat * 5 + 2, none⟩ = some (.int .i64 ((rd_T50 y250 x5_1).f2)) := hcc10 2 _ rfl; have hx10_3 : w20.cell? ⟨go6, (x5_1 : Int).toNat * 5 + 3, none⟩ = some (.int .i64 ((rd_T50 y250 x5_1).f3)) := hcc10 3 _ rfl; have hx10_4 : w20.cell? ⟨go6, (x5_1 : Int).toNat * 5 + 4, none⟩ = some (.int .i64 ((rd_T50 y250 x5_1).f4)) := hcc10 4 _ rfl; have hf10_0 : w20.frozen? ⟨go6, (x5_1 : Int).toNat * 5, none⟩ = false := hfr10 0; have hf10_1 : w20.frozen? ⟨go6, (x5_1 : Int).toNat * 5 + 1, none⟩ = false := hfr10 1; have hf10_2 : w20.frozen? ⟨go6, (x5_1 : Int).toNat * 5 + 2, none⟩ = false := hfr10 2; have hf10_3 : w20.frozen? ⟨go6, (x5_1 : Int).toNat * 5 + 3, none⟩ = false := hfr10 3; have hf10_4 : w20.frozen? ⟨go6, (x5_1 : Int).toNat * 5 + 4, none⟩ = false := hfr10 4; clear hcl10 hcc10 hfr10 hM10; replace p10 := eq_true p10; replace q10 := eq_true q10; have HX21 := AM (show Kd.R k50 50 w20 w0.heap.size (fun k_ => (P0_ k_ ∨ w.heap.size ≤ k_)) (.slice (some ⟨go6, 0, none⟩) x0_1.length co12) y250 from (ro_ HO_0.out)); obtain ⟨ce21, hcl21, hM21, hcc21, hfr21⟩ := Kd.R_elem HX21.out z50 (x5_1 : Int) (of_decide_eq_true (by first | (with_reducible assumption) | assumption)) (by have h_ : (x5_1 : Int) < ((x0_1.length : Int) : Int) := of_decide_eq_true (by first | (with_reducible assumption) | assumption); first | exact h_ | (have e_ := (Kd.R_reads' HO_0.out).1; omega) | simpa using h_); obtain rfl := k50_openM hM21; have HP21 := Kd.R_seg HX21.out (x5_1 : Int) (of_decide_eq_true (by first | (with_reducible assumption) | assumption)) (by have h_ : (x5_1 : Int) < ((x0_1.length : Int) : Int) := of_decide_eq_true (by first | (with_reducible assumption) | assumption); first | exact h_ | (have e_ := (Kd.R_reads' HO_0.out).1; omega) | simpa using h_) (seg := [.int .i64 (wrap64 ((wrap64 ((wrap64 (x1_1 + 1)) + 1)) + 1))]) (j := 3) hcl21 hcc21 (show 4 ≤ 5 from by decide) (x' := (⟨(rd_T50 y250 x5_1).f0, (rd_T50 y250 x5_1).f1, (rd_T50 y250 x5_1).f2, wrap64 ((wrap64 ((wrap64 (x1_1 + 1)) + 1)) + 1), (rd_T50 y250 x5_1).f4⟩ : S50)) (k50_mkM _ _ _ (⟨(rd_T50 y250 x5_1).f0, (rd_T50 y250 x5_1).f1, (rd_T50 y250 x5_1).f2, wrap64 ((wrap64 ((wrap64 (x1_1 + 1)) + 1)) + 1), (rd_T50 y250 x5_1).f4⟩ : S50) ) (fun _ hk => hk); have hx21_3 := hcc21 3 _ rfl; (try simp only [show (k50).sz = 5 from rfl, Nat.mul_one, Nat.add_zero] at hx21_3); have hf21_3 := hfr21 3; (try simp only [show (k50).sz = 5 from rfl, Nat.mul_one, Nat.add_zero] at hf21_3); clear hcl21 hcc21 hfr21 hM21) | ((with_reducible refine gate_store (t := 2) (p := 39) rfl ?_); refine store_event (t := 2) (p := 39) (v := ?vo_w22) (w1 := (w20.setCell ⟨go6, (x5_1 : Int).toNat * 5 + 3, none⟩ (.int .i64 (wrap64 ((wrap64 ((wrap64 (x1_1 + 1)) + 1)) + 1))))) ?hg ?ho ?hn ?hr ?_; (case ho => rfl); (case hg => rfl); (case hn => rfl); (case hr => first | (go_simp; done) | (go_simp; rfl)); intro w22 hw; have hg : w20.grownBy w22 (some go6) := (by rw [hw]; exact HP21.2); have hp_ : Kd.R k50 50 w22 w0.heap.size (fun k_ => (P0_ k_ ∨ w.heap.size ≤ k_)) (.slice (some ⟨go6, 0, none⟩) x0_1.length co12) y251 := (by rw [hw, Ny251.out]; exact HP21.1); clear HP21; replace HB := AM ((by rw [hw]; exact below_set (HB.out) GB6.out : Below w0.heap.size w0 w22)); replace HK := AM (Kept.of_grown (S := (fun k_ => P0_ k_)) hg kt_ (fun k_ e_ => (HO_0.out.1 k_ e_))); replace HO_0 := AM hp_; clear hg hw hp_; have p11 : 0 ≤ (x5_1 : Int) := of_decide_eq_true (by first | (with_reducible assumption) | assumption); have q11 : (x5_1 : Int) < ((x0_1.length : Int) : Int) := of_decide_eq_true (by first | (with_reducible assumption) | assumption); obtain ⟨ce11, hcl11, hM11, hcc11, hfr11⟩ := Kd.R_elem HO_0.out z50 (x5_1 : Int) p11 q11; obtain rfl := k50_openM hM11; have hx11_0 : w22.cell? ⟨go6, (x5_1 : Int).toNat * 5, none⟩ = some (.string ((rd_T50 y251 x5_1).f0)) := hcc11 0 _ rfl; have hx11_1 : w22.cell? ⟨go6, (x5_1 : Int).toNat * 5 + 1, none⟩ = some (.string ((rd_T50 y251 x5_1).f1)) := hcc11 1 _ rfl; have hx11_2 : w22.cell? ⟨go6, (x5_1 : Int).toNat * 5 + 2, none⟩ = some (.int .i64 ((rd_T50 y251 x5_1).f2)) := hcc11 2 _ rfl; have hx11_3 : w22.cell? ⟨go6, (x5_1 : Int).toNat * 5 + 3, none⟩ = some (.int .i64 ((rd_T50 y251 x5_1).f3)) := hcc11 3 _ rfl; have hx11_4 : w22.cell? ⟨go6, (x5_1 : Int).toNat * 5 + 4, none⟩ = some (.int .i64 ((rd_T50 y251 x5_1).f4)) := hcc11 4 _ rfl; have hf11_0 : w22.frozen? ⟨go6, (x5_1 : Int).toNat * 5, none⟩ = false := hfr11 0; have hf11_1 : w22.frozen? ⟨go6, (x5_1 : Int).toNat * 5 + 1, none⟩ = false := hfr11 1; have hf11_2 : w22.frozen? ⟨go6, (x5_1 : Int).toNat * 5 + 2, none⟩ = false := hfr11 2; have hf11_3 : w22.frozen? ⟨go6, (x5_1 : Int).toNat * 5 + 3, none⟩ = false := hfr11 3; have hf11_4 : w22.frozen? ⟨go6, (x5_1 : Int).toNat * 5 + 4, none⟩ = false := hfr11 4; clear hcl11 hcc11 hfr11 hM11; replace p11 := eq_true p11; replace q11 := eq_true q11; have HX23 := AM (show Kd.R k50 50 w22 w0.heap.size (fun k_ => (P0_ k_ ∨ w.heap.size ≤ k_)) (.slice (some ⟨go6, 0, none⟩) x0_1.length co12) y251 from (ro_ HO_0.out)); obtain ⟨ce23, hcl23, hM23, hcc23, hfr23⟩ := Kd.R_elem HX23.out z50 (x5_1 : Int) (of_decide_eq_true (by first | (with_reducible assumption) | assumption)) (by have h_ : (x5_1 : Int) < ((x0_1.length : Int) : Int) := of_decide_eq_true (by first | (with_reducible assumption) | assumption); first | exact h_ | (have e_ := (Kd.R_reads' HO_0.out).1; omega) | simpa using h_); obtain rfl := k50_openM hM23; have HP23 := Kd.R_seg HX23.out (x5_1 : Int) (of_decide_eq_true (by first | (with_reducible assumption) | assumption)) (by have h_ : (x5_1 : Int) < ((x0_1.length : Int) : Int) := of_decide_eq_true (by first | (with_reducible assumption) | assumption); first | exact h_ | (have e_ := (Kd.R_reads' HO_0.out).1; omega) | simpa using h_) (seg := [.int .i64 (wrap64 ((wrap64 ((wrap64 ((wrap64 (x1_1 + 1)) + 1)) + 1)) + 1))]) (j := 4) hcl23 hcc23 (show 5 ≤ 5 from by decide) (x' := (⟨(rd_T50 y251 x5_1).f0, (rd_T50 y251 x5_1).f1, (rd_T50 y251 x5_1).f2, (rd_T50 y251 x5_1).f3, wrap64 ((wrap64 ((wrap64 ((wrap64 (x1_1 + 1)) + 1)) + 1)) + 1)⟩ : S50)) (k50_mkM _ _ _ (⟨(rd_T50 y251 x5_1).f0, (rd_T50 y251 x5_1).f1, (rd_T50 y251 x5_1).f2, (rd_T50 y251 x5_1).f3, wrap64 ((wrap64 ((wrap64 ((wrap64 (x1_1 + 1)) + 1)) + 1)) + 1)⟩ : S50) ) (fun _ hk => hk); have hx23_4 := hcc23 4 _ rfl; (try simp only [show (k50).sz = 5 from rfl, Nat.mul_one, Nat.add_zero] at hx23_4); have hf23_4 := hfr23 4; (try simp only [show (k50).sz = 5 from rfl, Nat.mul_one, Nat.add_zero] at hf23_4); clear hcl23 hcc23 hfr23 hM23) | ((with_reducible refine gate_store (t := 2) (p := 46) rfl ?_); refine store_event (t := 2) (p := 46) (v := ?vo_w24) (w1 := (w22.setCell ⟨go6, (x5_1 : Int).toNat * 5 + 4, none⟩ (.int .i64 (wrap64 ((wrap64 ((wrap64 ((wrap64 (x1_1 + 1)) + 1)) + 1)) + 1))))) ?hg ?ho ?hn ?hr ?_; (case ho => rfl); (case hg => rfl); (case hn => rfl); (case hr => first | (go_simp; done) | (go_simp; rfl)); intro w24 hw; have hg : w22.grownBy w24 (some go6) := (by rw [hw]; exact HP23.2); have hp_ : Kd.R k50 50 w24 w0.heap.size (fun k_ => (P0_ k_ ∨ w.heap.size ≤ k_)) (.slice (some ⟨go6, 0, none⟩) x0_1.length co12) y252 := (by rw [hw, Ny252.out]; exact HP23.1); clear HP23; replace HB := AM ((by rw [hw]; exact below_set (HB.out) GB6.out : Below w0.heap.size w0 w24)); replace HK := AM (Kept.of_grown (S := (fun k_ => P0_ k_)) hg kt_ (fun k_ e_ => (HO_0.out.1 k_ e_))); replace HO_0 := AM hp_; clear hg hw hp_))
          go_roundg k1
          case measure => have := HK1.out; omega
          case rel => exact ⟨(y252), (wrap64 ((wrap64 ((wrap64 ((wrap64 ((wrap64 (x1_1 + 1)) + 1)) + 1)) + 1)) + 1)), (wrap64 (x5_1 + 1)), (by first | rfl | (simp; done) | (simp [*]; done)), (by first | rfl | (simp; done) | (simp [*]; done)), H', ⟨by have := HK1.out; omega⟩, ⟨ro_ HO_0.out⟩, ⟨kt_⟩, ⟨bel_⟩⟩
        · rw [if_neg c5] at H
          exact absurd H (by simp)
      · rw [if_neg c3] at H
        have c3b0 : decide (x5_1 < (x0_1.length : Int)) = false := decide_eq_false c3
        clear c3
        simp only [Option.some.injEq, Prod.mk.injEq] at H
        obtain ⟨rfl, rfl⟩ := H
        obtain ⟨Ao25, co25, eo25⟩ := Kd.R_slice HO_0.out
        subst eo25
        go_wp2
        go_ret
        exact ⟨ri_, ro_ HO_0.out, bel_, kt_⟩

/-! ### laws_markPlacesOut: function 73 -/
def laws_markPlacesOut.f (k : Nat) (l0_0 : List (S50)) (a0_1 : Int) (a1 : Int) : Option (Int × (List (S50))) := (laws_markPlaceS.f k l0_0 a1).bind fun bt254 => (some (bt254.1, bt254.2))
theorem laws_markPlacesOut.mono : ∀ a0 a1 a2 k, LeO (laws_markPlacesOut.f k a0 a1 a2) (laws_markPlacesOut.f (k + 1) a0 a1 a2) := by
  intro a0 a1 a2 k
  unfold laws_markPlacesOut.f
  repeat' first
      | (with_reducible exact laws_markPlaceS.mono _ _ _)
      | (with_reducible exact LeO.refl _)
      | (with_reducible exact LeO.none _)
      | (with_reducible refine LeO.ite ?_ ?_)
      | (with_reducible refine LeO.bind ?_ (fun _ => ?_))
      | exact laws_markPlaceS.mono _ _ _
      | exact LeO.none _
      | refine LeO.ite ?_ ?_
      | refine LeO.bind ?_ (fun _ => ?_)
set_option maxHeartbeats 8000000 in
set_option maxRecDepth 100000 in
theorem laws_markPlacesOut.calls (k : Nat) (P0_0_ : Nat → Prop) (u9000_ : Value) (l0_0 : List (S50)) (a0_1 : Int) (a1 : Int) (r1 : Int) (r2 : List (S50)) (w0 w : World) (hB : Below w0.heap.size w0 w) (ho0_0 : Kd.R k50 50 w w0.heap.size P0_0_ u9000_ l0_0) (h : laws_markPlacesOut.f k l0_0 a0_1 a1 = some (r1, r2)) :
    Calls Try.prog 73 #[.agg #[u9000_, .int .i64 a0_1], .int .i64 a1] w fun e w' => e = .returned (.int .i64 r1) ∧ Kd.R k50 50 w' w0.heap.size (fun k_ => (P0_0_ k_ ∨ w.heap.size ≤ k_)) u9000_ r2 ∧ Below w0.heap.size w0 w' ∧ Kept w w' (fun k_ => P0_0_ k_) := by
  have hu101 := Try.underlying101
  have HO0_0 := AM (show Kd.R k50 50 w w0.heap.size (fun k_ => (P0_0_ k_ ∨ w.heap.size ≤ k_)) u9000_ l0_0 from Kd.R_mono ho0_0 (fun k_ hk => (.inl hk)))
  have HK := AM (Kept.refl w (fun k_ => P0_0_ k_))
  have HW0 := AM hB.size
  have HB := AM hB
  clear hB
  have H : ((laws_markPlaceS.f k l0_0 a1).bind fun bt254 => (some (bt254.1, bt254.2))) = some (r1, r2) := h
  clear h
  obtain ⟨⟨t254, t255⟩, A3, H⟩ := OB H
  try dsimp only at H
  replace A3 := AM A3
  simp only [Option.some.injEq, Prod.mk.injEq] at H
  obtain ⟨rfl, rfl⟩ := H
  obtain ⟨Ao4, co4, eo4⟩ := Kd.R_slice HO0_0.out
  subst eo4
  go_enter Try.func73, Try.ntmps73
  go_wp2_with (first | ((with_reducible refine gate_dst (N := 2) rfl ?_); refine be_ 2 #[.slice Ao4 l0_0.length co4, .int .i64 a0_1] 101 ?_; intro gb253 hg w5 hbox hb; replace HO0_0 := AM (Kd.R_below (ro_ HO0_0.out) hb); have BK253 := AM hbox; have GW253 := AM ((by rw [hg]; exact (by first | exact HK.out.1 | exact (show Kept w _ (fun k_ => P0_0_ k_) from kt_).1) : w.heap.size ≤ gb253)); replace HK := AM (Kept.below (S := (fun k_ => P0_0_ k_)) kt_ hb); have GE253 := AM ((by rw [hg]; exact (below_size bel_) : w0.heap.size ≤ gb253)); replace HB := AM (below_step bel_ hb); clear hb hbox hg; have hcz6_0 : w5.cell? ⟨gb253, 0, none⟩ = some (.slice Ao4 l0_0.length co4) := (blk_cell BK253.out 0).trans rfl; have hcz6_1 : w5.cell? ⟨gb253, 1, none⟩ = some (.int .i64 a0_1) := (blk_cell BK253.out 1).trans rfl; have hfz6_0 := blk_frozen BK253.out 0; have hfz6_1 := blk_frozen BK253.out 1) | ((with_reducible refine gate_callee (f := 68) rfl ?_); refine gl_ (some 8) Try.func68 #[.slice Ao4 l0_0.length co4, .int .i64 a1] ?_; (with_reducible refine (laws_markPlaceS.calls k (fun k_ => some k_ = (.slice Ao4 l0_0.length co4 : Value).ownBlock) (.slice Ao4 l0_0.length co4) l0_0 a1 t254 t255 w0 _ ?side1 ?side2 A3.out).mono ?_); (case side1 => repeat (first | (with_reducible first | exact HB.out | apply below_alloc | apply pw_below_drewN | apply below_drew1 | refine below_set ?_ GE253.out) | exact HB.out)); (case side2 => exact Kd.R_tight rfl HO0_0.out); rintro e w7 ⟨rfl, hy0, hb, hkp⟩; refine ⟨_, rfl, ?_⟩; replace BK253 := AM (blk_kept (bk_ BK253.out) hkp (fun hs_ => (fun e_ => (Kd.R_ne HO0_0.out BK253.out (by decide)) e_) hs_)); replace HK := AM (Kept.then_ (S := (fun k_ => P0_0_ k_)) (by repeat (first | (with_reducible first | exact HK.out | apply Kept.alloc | apply Kept.drewN | apply Kept.drew | refine Kept.setCell ?_ (.inr GW253.out) _) | exact HK.out)) hkp (fun k_ hs_ => (fun e_ => (HO0_0.out.1 k_ e_.symm)) hs_)); replace HO0_0 := AM (Kd.R_reok rfl hy0 (fun k_ e_ => HO0_0.out.1 k_ e_)); replace HB := AM hb; (try clear hb); (try clear hkp); (try clear hy0)))
  go_ret
  exact ⟨ri_, ro_ HO0_0.out, bel_, by repeat (first | (with_reducible first | exact HK.out | apply Kept.alloc | apply Kept.drewN | apply Kept.drew | refine Kept.setCell ?_ (.inr GW253.out) _) | exact HK.out)⟩

end Go.Proofs.Yteljfdhjbnlgoaa.PFnExactPlacesRead
