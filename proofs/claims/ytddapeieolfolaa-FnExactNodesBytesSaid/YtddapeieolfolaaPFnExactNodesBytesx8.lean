-- A program of this session wrote this text: a changed copy of the kit print, with given functions.
import Derived.Test.YtddapeieolfolaaPFnExactNodesBytesx0
import Derived.Test.YtddapeieolfolaaPFnExactNodesBytesx1
import Derived.Test.YtddapeieolfolaaPFnExactNodesBytesx4
import Derived.Test.YtddapeieolfolaaPFnExactNodesBytesx5
import Derived.Test.YtddapeieolfolaaPFnExactNodesBytesx7
namespace Go.Proofs.Ytddapeieolfolaa.PFnExactNodesBytes
open Go.RowKit Go.Proofs.YtddapeieolfolaaW.PrintWords Go.Proofs.YtddapeieolfolaaW.PrintLast Go.Proofs.YtddapeieolfolaaW.PrintMore Go.Proofs.Ytddapeieolfolaa.Aut
attribute [local go_sem] max2_int min2_int max_two min_two max_three min_three max_four min_four   -- for this text's walks alone
set_option linter.unusedVariables false
set_option linter.unusedSimpArgs false

/-! ### laws_eqStringS: function 102 -/
def laws_eqStringS.l0 : Nat → List ByteArray → List ByteArray → Int → Option (Bool)
  | 0, _, _, _ => none
  | k + 1, x0, x1, x5 => if x5 < (x0.length : Int) then (if 0 ≤ x5 then (if x5 < (x1.length : Int) then (if (rdOf ByteArray.empty x0 x5).toList = (rdOf ByteArray.empty x1 x5).toList then (laws_eqStringS.l0 k x0 x1 (wrap64 (x5 + 1))) else (some false)) else (none)) else (none)) else (some true)
def laws_eqStringS.f (k : Nat) (l0 : List ByteArray) (l1 : List ByteArray) : Option (Bool) := if (l0.length : Int) = (l1.length : Int) then (laws_eqStringS.l0 k l0 l1 0) else (some false)
theorem laws_eqStringS.mono_l : ∀ k, (∀ y0 y1 y2, LeO (laws_eqStringS.l0 k y0 y1 y2) (laws_eqStringS.l0 (k + 1) y0 y1 y2))
  | 0 => fun _ _ _ r h => by simp [laws_eqStringS.l0] at h
  | k + 1 => by
    have ih0 := laws_eqStringS.mono_l k
    · intro y0 y1 y2
      unfold laws_eqStringS.l0
      repeat' first
      | (with_reducible exact ih0 _ _ _)
      | (with_reducible exact LeO.refl _)
      | (with_reducible exact LeO.none _)
      | (with_reducible refine LeO.ite ?_ ?_)
      | (with_reducible refine LeO.bind ?_ (fun _ => ?_))
      | exact ih0 _ _ _
      | exact LeO.none _
      | refine LeO.ite ?_ ?_
      | refine LeO.bind ?_ (fun _ => ?_)
theorem laws_eqStringS.mono : ∀ a0 a1 k, LeO (laws_eqStringS.f k a0 a1) (laws_eqStringS.f (k + 1) a0 a1) := by
  intro a0 a1 k
  have ih0 := laws_eqStringS.mono_l k
  unfold laws_eqStringS.f
  repeat' first
      | (with_reducible exact ih0 _ _ _)
      | (with_reducible exact LeO.refl _)
      | (with_reducible exact LeO.none _)
      | (with_reducible refine LeO.ite ?_ ?_)
      | (with_reducible refine LeO.bind ?_ (fun _ => ?_))
      | exact ih0 _ _ _
      | exact LeO.none _
      | refine LeO.ite ?_ ?_
      | refine LeO.bind ?_ (fun _ => ?_)
set_option maxHeartbeats 8000000 in
set_option maxRecDepth 100000 in
theorem laws_eqStringS.calls (k : Nat) (A0 : Option Addr) (c0 : Nat) (l0 : List ByteArray) (A1 : Option Addr) (c1 : Nat) (l1 : List ByteArray) (r : Bool) (w : World) (hr0 : Kd.C Kd.string w A0 l0.length l0) (hc0 : l0.length ≤ c0) (hr1 : Kd.C Kd.string w A1 l1.length l1) (hc1 : l1.length ≤ c1) (h : laws_eqStringS.f k l0 l1 = some r) :
    Calls Try.prog 102 #[.slice A0 l0.length c0, .slice A1 l1.length c1] w fun e w' => e = .returned (.bool r) ∧ Drawn0 w w' := by
  have HR0 := AM hr0
  have HC0 := AM hc0
  clear hr0 hc0
  have HR1 := AM hr1
  have HC1 := AM hc1
  clear hr1 hc1
  have H : (if (l0.length : Int) = (l1.length : Int) then (laws_eqStringS.l0 k l0 l1 0) else (some false)) = some r := h
  clear h
  by_cases c3 : (l0.length : Int) = (l1.length : Int)
  · rw [if_pos c3] at H
    have c3b0 : ((l0.length : Int) == (l1.length : Int)) = true := beq_iff_eq.mpr c3
    have c3b1 : ((l0.length : Int) != (l1.length : Int)) = false := bne_eq_false_iff_eq.mpr c3
    have c3b2 : (l0.length == l1.length) = true := by first | simpa using c3 | (simp at c3 ⊢; omega)
    clear c3
    have H' := AM H
    clear H
    go_enter Try.func102, Try.ntmps102
    go_wp2
    repeat (go_quiet (fail); try go_wp2)
    go_loopg [5] k (fun kq v5 w' => ∃ (x5_1 : Int), v5 = .int .i64 x5_1 ∧ Aside0 (laws_eqStringS.l0 kq l0 l1 x5_1 = some r) ∧ Aside0 (kq ≤ k) ∧ Drawn0 w w')
    case atStart => exact ⟨(0), (by first | rfl | (simp; done) | (simp [*]; done)), H', ⟨Nat.le_refl _⟩, by repeat (first | exact Drawn0.refl _ | apply Drawn0.step)⟩
    case round =>
      clear H'
      try clear c1
      try clear p2
      try clear c3
      try clear c3b0
      try clear c3b1
      try clear c3b2
      obtain ⟨x5_1, rfl, HA, HK1, ⟨m1, rfl⟩⟩ := hrel
      cases gk with
      | zero => exact absurd HA.out (by simp [laws_eqStringS.l0])
      | succ k1 =>
        have H := HA.out
        clear HA
        simp only [laws_eqStringS.l0] at H
        by_cases c4 : x5_1 < (l0.length : Int)
        · rw [if_pos c4] at H
          have c4b0 : decide (x5_1 < (l0.length : Int)) = true := decide_eq_true c4
          clear c4
          by_cases c5 : 0 ≤ x5_1
          · rw [if_pos c5] at H
            have c5b0 : decide (0 ≤ x5_1) = true := decide_eq_true c5
            clear c5
            by_cases c6 : x5_1 < (l1.length : Int)
            · rw [if_pos c6] at H
              have c6b0 : decide (x5_1 < (l1.length : Int)) = true := decide_eq_true c6
              clear c6
              by_cases c7 : (rdOf ByteArray.empty l0 x5_1).toList = (rdOf ByteArray.empty l1 x5_1).toList
              · rw [if_pos c7] at H
                have c7b0 : ((rdOf ByteArray.empty l0 x5_1).toList == (rdOf ByteArray.empty l1 x5_1).toList) = true := beq_iff_eq.mpr c7
                have c7b1 : ((rdOf ByteArray.empty l0 x5_1).toList != (rdOf ByteArray.empty l1 x5_1).toList) = false := bne_eq_false_iff_eq.mpr c7
                clear c7
                have H' := AM H
                clear H
                have p193 : 0 ≤ (x5_1 : Int) := of_decide_eq_true (by first | (with_reducible assumption) | assumption)
                have q193 : x5_1 < (l0.length : Int) := of_decide_eq_true (by first | (with_reducible assumption) | assumption)
                obtain ⟨ad193, e193, hx193_0⟩ := Kd.at_string HR0.out x5_1 p193 q193
                cases e193
                replace p193 := eq_true p193
                replace q193 := eq_true q193
                have p194 : 0 ≤ (x5_1 : Int) := of_decide_eq_true (by first | (with_reducible assumption) | assumption)
                have q194 : x5_1 < (l1.length : Int) := of_decide_eq_true (by first | (with_reducible assumption) | assumption)
                obtain ⟨ad194, e194, hx194_0⟩ := Kd.at_string HR1.out x5_1 p194 q194
                cases e194
                replace p194 := eq_true p194
                replace q194 := eq_true q194
                go_wp2
                repeat (go_quiet (fail); try go_wp2)
                go_roundg k1
                case measure => have := HK1.out; omega
                case rel => exact ⟨(wrap64 (x5_1 + 1)), (by first | rfl | (simp; done) | (simp [*]; done)), H', ⟨by have := HK1.out; omega⟩, by repeat (first | exact Drawn0.refl _ | apply Drawn0.step)⟩
              · rw [if_neg c7] at H
                have c7b0 : ((rdOf ByteArray.empty l0 x5_1).toList == (rdOf ByteArray.empty l1 x5_1).toList) = false := beq_eq_false_iff_ne.mpr c7
                have c7b1 : ((rdOf ByteArray.empty l0 x5_1).toList != (rdOf ByteArray.empty l1 x5_1).toList) = true := bne_iff_ne.mpr c7
                obtain rfl := Option.some.inj H
                have p193 : 0 ≤ (x5_1 : Int) := of_decide_eq_true (by first | (with_reducible assumption) | assumption)
                have q193 : x5_1 < (l0.length : Int) := of_decide_eq_true (by first | (with_reducible assumption) | assumption)
                obtain ⟨ad193, e193, hx193_0⟩ := Kd.at_string HR0.out x5_1 p193 q193
                cases e193
                replace p193 := eq_true p193
                replace q193 := eq_true q193
                have p194 : 0 ≤ (x5_1 : Int) := of_decide_eq_true (by first | (with_reducible assumption) | assumption)
                have q194 : x5_1 < (l1.length : Int) := of_decide_eq_true (by first | (with_reducible assumption) | assumption)
                obtain ⟨ad194, e194, hx194_0⟩ := Kd.at_string HR1.out x5_1 p194 q194
                cases e194
                replace p194 := eq_true p194
                replace q194 := eq_true q194
                go_wp2
                repeat (go_quiet (fail); try go_wp2)
                go_ret
                exact ⟨by first | rfl | (simp; done) | (simp [*]; done), by repeat (first | exact Drawn0.refl _ | apply Drawn0.step)⟩
            · rw [if_neg c6] at H
              exact absurd H (by simp)
          · rw [if_neg c5] at H
            exact absurd H (by simp)
        · rw [if_neg c4] at H
          have c4b0 : decide (x5_1 < (l0.length : Int)) = false := decide_eq_false c4
          clear c4
          obtain rfl := Option.some.inj H
          go_wp2
          repeat (go_quiet (fail); try go_wp2)
          go_ret
          exact ⟨by first | rfl | (simp; done) | (simp [*]; done), by repeat (first | exact Drawn0.refl _ | apply Drawn0.step)⟩
  · rw [if_neg c3] at H
    have c3b0 : ((l0.length : Int) == (l1.length : Int)) = false := beq_eq_false_iff_ne.mpr c3
    have c3b1 : ((l0.length : Int) != (l1.length : Int)) = true := bne_iff_ne.mpr c3
    have c3b2 : (l0.length == l1.length) = false := by first | simpa using c3 | (simp at c3 ⊢; omega)
    obtain rfl := Option.some.inj H
    go_enter Try.func102, Try.ntmps102
    go_wp2
    repeat (go_quiet (fail); try go_wp2)
    go_ret
    exact ⟨by first | rfl | (simp; done) | (simp [*]; done), by repeat (first | exact Drawn0.refl _ | apply Drawn0.step)⟩

/-! ### laws_eqNode: function 54 -/
def laws_eqNode.f (k : Nat) (a0_0 : ByteArray) (a0_1 : Bool) (a0_2 : Int) (l0_3 : List ByteArray) (a1_0 : ByteArray) (a1_1 : Bool) (a1_2 : Int) (l1_3 : List ByteArray) : Option (Bool) := if a0_0.toList = a1_0.toList then (if (a0_1 != a1_1) = true then (some false) else (if a0_2 = a1_2 then ((laws_eqStringS.f k l0_3 l1_3).bind fun t197 => (if t197 = true then (some true) else (some false))) else (some false))) else (some false)
theorem laws_eqNode.mono : ∀ a0 a1 a2 a3 a4 a5 a6 a7 k, LeO (laws_eqNode.f k a0 a1 a2 a3 a4 a5 a6 a7) (laws_eqNode.f (k + 1) a0 a1 a2 a3 a4 a5 a6 a7) := by
  intro a0 a1 a2 a3 a4 a5 a6 a7 k
  unfold laws_eqNode.f
  repeat' first
      | (with_reducible exact laws_eqStringS.mono _ _ _)
      | (with_reducible exact LeO.refl _)
      | (with_reducible exact LeO.none _)
      | (with_reducible refine LeO.ite ?_ ?_)
      | (with_reducible refine LeO.bind ?_ (fun _ => ?_))
      | exact laws_eqStringS.mono _ _ _
      | exact LeO.none _
      | refine LeO.ite ?_ ?_
      | refine LeO.bind ?_ (fun _ => ?_)
set_option maxHeartbeats 8000000 in
set_option maxRecDepth 100000 in
theorem laws_eqNode.calls (k : Nat) (a0_0 : ByteArray) (a0_1 : Bool) (a0_2 : Int) (A0_3 : Option Addr) (c0_3 : Nat) (l0_3 : List ByteArray) (a1_0 : ByteArray) (a1_1 : Bool) (a1_2 : Int) (A1_3 : Option Addr) (c1_3 : Nat) (l1_3 : List ByteArray) (r : Bool) (w : World) (hr0_3 : Kd.C Kd.string w A0_3 l0_3.length l0_3) (hc0_3 : l0_3.length ≤ c0_3) (hr1_3 : Kd.C Kd.string w A1_3 l1_3.length l1_3) (hc1_3 : l1_3.length ≤ c1_3) (h : laws_eqNode.f k a0_0 a0_1 a0_2 l0_3 a1_0 a1_1 a1_2 l1_3 = some r) :
    Calls Try.prog 54 #[.agg #[.string a0_0, .bool a0_1, .int .i64 a0_2, .slice A0_3 l0_3.length c0_3], .agg #[.string a1_0, .bool a1_1, .int .i64 a1_2, .slice A1_3 l1_3.length c1_3]] w fun e w' => e = .returned (.bool r) ∧ Below w.heap.size w w' := by
  have hu80 := Try.underlying80
  have HR0_3 := AM hr0_3
  have HC0_3 := AM hc0_3
  clear hr0_3 hc0_3
  have HR1_3 := AM hr1_3
  have HC1_3 := AM hc1_3
  clear hr1_3 hc1_3
  have HB := AM (Below.refl w.heap.size w)
  have H : (if a0_0.toList = a1_0.toList then (if (a0_1 != a1_1) = true then (some false) else (if a0_2 = a1_2 then ((laws_eqStringS.f k l0_3 l1_3).bind fun t197 => (if t197 = true then (some true) else (some false))) else (some false))) else (some false)) = some r := h
  clear h
  by_cases c3 : a0_0.toList = a1_0.toList
  · rw [if_pos c3] at H
    have c3b0 : (a0_0.toList == a1_0.toList) = true := beq_iff_eq.mpr c3
    have c3b1 : (a0_0.toList != a1_0.toList) = false := bne_eq_false_iff_eq.mpr c3
    clear c3
    by_cases c4 : (a0_1 != a1_1) = true
    · rw [if_pos c4] at H
      have c4b0 : (a0_1 != a1_1) = true := c4
      (try (have c4b1 : decide (a0_1 = a1_1) = false := by simpa using c4))
      (try (have c4b2 : (a0_1 == a1_1) = false := by simpa using c4))
      (try (have c4b3 : ¬ (a0_1 = a1_1) := by simpa using c4))
      clear c4
      obtain rfl := Option.some.inj H
      go_enter Try.func54, Try.ntmps54
      go_wp2_with (first | ((with_reducible refine gate_dst (N := 2) rfl ?_); refine be_ 2 #[.string a0_0, .bool a0_1, .int .i64 a0_2, .slice A0_3 l0_3.length c0_3] 80 ?_; intro gb195 hg w5 hbox hb; have BK195 := AM hbox; have GW195 := AM ((by rw [hg]; exact (below_size bel_) : w.heap.size ≤ gb195)); have GE195 := AM ((by rw [hg]; exact (below_size bel_) : w.heap.size ≤ gb195)); replace HB := AM (below_step bel_ hb); clear hb hbox hg) | ((with_reducible refine gate_dst (N := 3) rfl ?_); refine be_ 3 #[.string a1_0, .bool a1_1, .int .i64 a1_2, .slice A1_3 l1_3.length c1_3] 80 ?_; intro gb196 hg w6 hbox hb; have BK196 := AM hbox; have GW196 := AM ((by rw [hg]; exact (below_size bel_) : w.heap.size ≤ gb196)); have GE196 := AM ((by rw [hg]; exact (below_size bel_) : w.heap.size ≤ gb196)); replace HB := AM (below_step bel_ hb); have NB195_196 := AM ((by rw [hg]; exact Nat.ne_of_lt (blk_lt (g := gb195) (o := .cells #[.string a0_0, .bool a0_1, .int .i64 a0_2, .slice A0_3 l0_3.length c0_3] 80 (0, 0)) (bk_ BK195.out)) : gb195 ≠ gb196)); have NB196_195 := AM ((by rw [hg]; exact Nat.ne_of_gt (blk_lt (g := gb195) (o := .cells #[.string a0_0, .bool a0_1, .int .i64 a0_2, .slice A0_3 l0_3.length c0_3] 80 (0, 0)) (bk_ BK195.out)) : gb196 ≠ gb195)); replace BK195 := AM (blk_below (g := gb195) (o := .cells #[.string a0_0, .bool a0_1, .int .i64 a0_2, .slice A0_3 l0_3.length c0_3] 80 (0, 0)) (bk_ BK195.out) hb); clear hb hbox hg; have hnb7 := NB195_196.out; have hnc7 := NB196_195.out; have hcz8_0 : w6.cell? ⟨gb195, 0, none⟩ = some (.string a0_0) := (blk_cell BK195.out 0).trans rfl; have hcz8_1 : w6.cell? ⟨gb195, 1, none⟩ = some (.bool a0_1) := (blk_cell BK195.out 1).trans rfl; have hcz8_2 : w6.cell? ⟨gb195, 2, none⟩ = some (.int .i64 a0_2) := (blk_cell BK195.out 2).trans rfl; have hcz8_3 : w6.cell? ⟨gb195, 3, none⟩ = some (.slice A0_3 l0_3.length c0_3) := (blk_cell BK195.out 3).trans rfl; have hfz8_0 := blk_frozen BK195.out 0; have hfz8_1 := blk_frozen BK195.out 1; have hfz8_2 := blk_frozen BK195.out 2; have hfz8_3 := blk_frozen BK195.out 3; have hcz9_0 : w6.cell? ⟨gb196, 0, none⟩ = some (.string a1_0) := (blk_cell BK196.out 0).trans rfl; have hcz9_1 : w6.cell? ⟨gb196, 1, none⟩ = some (.bool a1_1) := (blk_cell BK196.out 1).trans rfl; have hcz9_2 : w6.cell? ⟨gb196, 2, none⟩ = some (.int .i64 a1_2) := (blk_cell BK196.out 2).trans rfl; have hcz9_3 : w6.cell? ⟨gb196, 3, none⟩ = some (.slice A1_3 l1_3.length c1_3) := (blk_cell BK196.out 3).trans rfl; have hfz9_0 := blk_frozen BK196.out 0; have hfz9_1 := blk_frozen BK196.out 1; have hfz9_2 := blk_frozen BK196.out 2; have hfz9_3 := blk_frozen BK196.out 3))
      go_ret
      exact ⟨ri_, bel_⟩
    · rw [if_neg c4] at H
      have c4b0 : (a0_1 != a1_1) = false := by simpa using c4
      (try (have c4b1 : decide (a0_1 = a1_1) = true := by simpa using c4))
      (try (have c4b2 : (a0_1 == a1_1) = true := by simpa using c4))
      clear c4
      by_cases c10 : a0_2 = a1_2
      · rw [if_pos c10] at H
        have c10b0 : (a0_2 == a1_2) = true := beq_iff_eq.mpr c10
        have c10b1 : (a0_2 != a1_2) = false := bne_eq_false_iff_eq.mpr c10
        clear c10
        obtain ⟨t197, A11, H⟩ := OB H
        try dsimp only at H
        replace A11 := AM A11
        by_cases c12 : t197 = true
        · subst c12
          rw [if_pos rfl] at H
          obtain rfl := Option.some.inj H
          go_enter Try.func54, Try.ntmps54
          go_wp2_with (first | ((with_reducible refine gate_dst (N := 2) rfl ?_); refine be_ 2 #[.string a0_0, .bool a0_1, .int .i64 a0_2, .slice A0_3 l0_3.length c0_3] 80 ?_; intro gb195 hg w13 hbox hb; have BK195 := AM hbox; have GW195 := AM ((by rw [hg]; exact (below_size bel_) : w.heap.size ≤ gb195)); have GE195 := AM ((by rw [hg]; exact (below_size bel_) : w.heap.size ≤ gb195)); replace HB := AM (below_step bel_ hb); clear hb hbox hg) | ((with_reducible refine gate_dst (N := 3) rfl ?_); refine be_ 3 #[.string a1_0, .bool a1_1, .int .i64 a1_2, .slice A1_3 l1_3.length c1_3] 80 ?_; intro gb196 hg w14 hbox hb; have BK196 := AM hbox; have GW196 := AM ((by rw [hg]; exact (below_size bel_) : w.heap.size ≤ gb196)); have GE196 := AM ((by rw [hg]; exact (below_size bel_) : w.heap.size ≤ gb196)); replace HB := AM (below_step bel_ hb); have NB195_196 := AM ((by rw [hg]; exact Nat.ne_of_lt (blk_lt (g := gb195) (o := .cells #[.string a0_0, .bool a0_1, .int .i64 a0_2, .slice A0_3 l0_3.length c0_3] 80 (0, 0)) (bk_ BK195.out)) : gb195 ≠ gb196)); have NB196_195 := AM ((by rw [hg]; exact Nat.ne_of_gt (blk_lt (g := gb195) (o := .cells #[.string a0_0, .bool a0_1, .int .i64 a0_2, .slice A0_3 l0_3.length c0_3] 80 (0, 0)) (bk_ BK195.out)) : gb196 ≠ gb195)); replace BK195 := AM (blk_below (g := gb195) (o := .cells #[.string a0_0, .bool a0_1, .int .i64 a0_2, .slice A0_3 l0_3.length c0_3] 80 (0, 0)) (bk_ BK195.out) hb); clear hb hbox hg; have hnb15 := NB195_196.out; have hnc15 := NB196_195.out; have hcz16_0 : w14.cell? ⟨gb195, 0, none⟩ = some (.string a0_0) := (blk_cell BK195.out 0).trans rfl; have hcz16_1 : w14.cell? ⟨gb195, 1, none⟩ = some (.bool a0_1) := (blk_cell BK195.out 1).trans rfl; have hcz16_2 : w14.cell? ⟨gb195, 2, none⟩ = some (.int .i64 a0_2) := (blk_cell BK195.out 2).trans rfl; have hcz16_3 : w14.cell? ⟨gb195, 3, none⟩ = some (.slice A0_3 l0_3.length c0_3) := (blk_cell BK195.out 3).trans rfl; have hfz16_0 := blk_frozen BK195.out 0; have hfz16_1 := blk_frozen BK195.out 1; have hfz16_2 := blk_frozen BK195.out 2; have hfz16_3 := blk_frozen BK195.out 3; have hcz17_0 : w14.cell? ⟨gb196, 0, none⟩ = some (.string a1_0) := (blk_cell BK196.out 0).trans rfl; have hcz17_1 : w14.cell? ⟨gb196, 1, none⟩ = some (.bool a1_1) := (blk_cell BK196.out 1).trans rfl; have hcz17_2 : w14.cell? ⟨gb196, 2, none⟩ = some (.int .i64 a1_2) := (blk_cell BK196.out 2).trans rfl; have hcz17_3 : w14.cell? ⟨gb196, 3, none⟩ = some (.slice A1_3 l1_3.length c1_3) := (blk_cell BK196.out 3).trans rfl; have hfz17_0 := blk_frozen BK196.out 0; have hfz17_1 := blk_frozen BK196.out 1; have hfz17_2 := blk_frozen BK196.out 2; have hfz17_3 := blk_frozen BK196.out 3) | ((with_reducible refine gate_callee (f := 102) rfl ?_); refine gl_ (some 24) Try.func102 #[.slice A0_3 l0_3.length c0_3, .slice A1_3 l1_3.length c1_3] ?_; (with_reducible refine (laws_eqStringS.calls k _ _ l0_3 _ _ l1_3 true _ ?side1 ?side2 ?side3 ?side4 A11.out).mono ?_); (case side1 => repeat (first | exact (Kd.C_below HR0_3.out HB.out) | (with_reducible refine Kd.C_alloc ?_ _) | (with_reducible refine Kd.C_drewN ?_ _) | (with_reducible refine Kd.C_drew ?_))); (case side2 => exact HC0_3.out); (case side3 => repeat (first | exact (Kd.C_below HR1_3.out HB.out) | (with_reducible refine Kd.C_alloc ?_ _) | (with_reducible refine Kd.C_drewN ?_ _) | (with_reducible refine Kd.C_drew ?_))); (case side4 => exact HC1_3.out); rintro e w' ⟨rfl, ⟨nd, rfl⟩⟩; refine ⟨_, rfl, ?_⟩))
          go_ret
          exact ⟨ri_, bel_⟩
        · replace c12 := Bool.eq_false_iff.mpr c12
          subst c12
          rw [if_neg (show ¬ (false = true) by decide)] at H
          obtain rfl := Option.some.inj H
          go_enter Try.func54, Try.ntmps54
          go_wp2_with (first | ((with_reducible refine gate_dst (N := 2) rfl ?_); refine be_ 2 #[.string a0_0, .bool a0_1, .int .i64 a0_2, .slice A0_3 l0_3.length c0_3] 80 ?_; intro gb195 hg w18 hbox hb; have BK195 := AM hbox; have GW195 := AM ((by rw [hg]; exact (below_size bel_) : w.heap.size ≤ gb195)); have GE195 := AM ((by rw [hg]; exact (below_size bel_) : w.heap.size ≤ gb195)); replace HB := AM (below_step bel_ hb); clear hb hbox hg) | ((with_reducible refine gate_dst (N := 3) rfl ?_); refine be_ 3 #[.string a1_0, .bool a1_1, .int .i64 a1_2, .slice A1_3 l1_3.length c1_3] 80 ?_; intro gb196 hg w19 hbox hb; have BK196 := AM hbox; have GW196 := AM ((by rw [hg]; exact (below_size bel_) : w.heap.size ≤ gb196)); have GE196 := AM ((by rw [hg]; exact (below_size bel_) : w.heap.size ≤ gb196)); replace HB := AM (below_step bel_ hb); have NB195_196 := AM ((by rw [hg]; exact Nat.ne_of_lt (blk_lt (g := gb195) (o := .cells #[.string a0_0, .bool a0_1, .int .i64 a0_2, .slice A0_3 l0_3.length c0_3] 80 (0, 0)) (bk_ BK195.out)) : gb195 ≠ gb196)); have NB196_195 := AM ((by rw [hg]; exact Nat.ne_of_gt (blk_lt (g := gb195) (o := .cells #[.string a0_0, .bool a0_1, .int .i64 a0_2, .slice A0_3 l0_3.length c0_3] 80 (0, 0)) (bk_ BK195.out)) : gb196 ≠ gb195)); replace BK195 := AM (blk_below (g := gb195) (o := .cells #[.string a0_0, .bool a0_1, .int .i64 a0_2, .slice A0_3 l0_3.length c0_3] 80 (0, 0)) (bk_ BK195.out) hb); clear hb hbox hg; have hnb20 := NB195_196.out; have hnc20 := NB196_195.out; have hcz21_0 : w19.cell? ⟨gb195, 0, none⟩ = some (.string a0_0) := (blk_cell BK195.out 0).trans rfl; have hcz21_1 : w19.cell? ⟨gb195, 1, none⟩ = some (.bool a0_1) := (blk_cell BK195.out 1).trans rfl; have hcz21_2 : w19.cell? ⟨gb195, 2, none⟩ = some (.int .i64 a0_2) := (blk_cell BK195.out 2).trans rfl; have hcz21_3 : w19.cell? ⟨gb195, 3, none⟩ = some (.slice A0_3 l0_3.length c0_3) := (blk_cell BK195.out 3).trans rfl; have hfz21_0 := blk_frozen BK195.out 0; have hfz21_1 := blk_frozen BK195.out 1; have hfz21_2 := blk_frozen BK195.out 2; have hfz21_3 := blk_frozen BK195.out 3; have hcz22_0 : w19.cell? ⟨gb196, 0, none⟩ = some (.string a1_0) := (blk_cell BK196.out 0).trans rfl; have hcz22_1 : w19.cell? ⟨gb196, 1, none⟩ = some (.bool a1_1) := (blk_cell BK196.out 1).trans rfl; have hcz22_2 : w19.cell? ⟨gb196, 2, none⟩ = some (.int .i64 a1_2) := (blk_cell BK196.out 2).trans rfl; have hcz22_3 : w19.cell? ⟨gb196, 3, none⟩ = some (.slice A1_3 l1_3.length c1_3) := (blk_cell BK196.out 3).trans rfl; have hfz22_0 := blk_frozen BK196.out 0; have hfz22_1 := blk_frozen BK196.out 1; have hfz22_2 := blk_frozen BK196.out 2; have hfz22_3 := blk_frozen BK196.out 3) | ((with_reducible refine gate_callee (f := 102) rfl ?_); refine gl_ (some 24) Try.func102 #[.slice A0_3 l0_3.length c0_3, .slice A1_3 l1_3.length c1_3] ?_; (with_reducible refine (laws_eqStringS.calls k _ _ l0_3 _ _ l1_3 false _ ?side1 ?side2 ?side3 ?side4 A11.out).mono ?_); (case side1 => repeat (first | exact (Kd.C_below HR0_3.out HB.out) | (with_reducible refine Kd.C_alloc ?_ _) | (with_reducible refine Kd.C_drewN ?_ _) | (with_reducible refine Kd.C_drew ?_))); (case side2 => exact HC0_3.out); (case side3 => repeat (first | exact (Kd.C_below HR1_3.out HB.out) | (with_reducible refine Kd.C_alloc ?_ _) | (with_reducible refine Kd.C_drewN ?_ _) | (with_reducible refine Kd.C_drew ?_))); (case side4 => exact HC1_3.out); rintro e w' ⟨rfl, ⟨nd, rfl⟩⟩; refine ⟨_, rfl, ?_⟩))
          go_ret
          exact ⟨ri_, bel_⟩
      · rw [if_neg c10] at H
        have c10b0 : (a0_2 == a1_2) = false := beq_eq_false_iff_ne.mpr c10
        have c10b1 : (a0_2 != a1_2) = true := bne_iff_ne.mpr c10
        obtain rfl := Option.some.inj H
        go_enter Try.func54, Try.ntmps54
        go_wp2_with (first | ((with_reducible refine gate_dst (N := 2) rfl ?_); refine be_ 2 #[.string a0_0, .bool a0_1, .int .i64 a0_2, .slice A0_3 l0_3.length c0_3] 80 ?_; intro gb195 hg w23 hbox hb; have BK195 := AM hbox; have GW195 := AM ((by rw [hg]; exact (below_size bel_) : w.heap.size ≤ gb195)); have GE195 := AM ((by rw [hg]; exact (below_size bel_) : w.heap.size ≤ gb195)); replace HB := AM (below_step bel_ hb); clear hb hbox hg) | ((with_reducible refine gate_dst (N := 3) rfl ?_); refine be_ 3 #[.string a1_0, .bool a1_1, .int .i64 a1_2, .slice A1_3 l1_3.length c1_3] 80 ?_; intro gb196 hg w24 hbox hb; have BK196 := AM hbox; have GW196 := AM ((by rw [hg]; exact (below_size bel_) : w.heap.size ≤ gb196)); have GE196 := AM ((by rw [hg]; exact (below_size bel_) : w.heap.size ≤ gb196)); replace HB := AM (below_step bel_ hb); have NB195_196 := AM ((by rw [hg]; exact Nat.ne_of_lt (blk_lt (g := gb195) (o := .cells #[.string a0_0, .bool a0_1, .int .i64 a0_2, .slice A0_3 l0_3.length c0_3] 80 (0, 0)) (bk_ BK195.out)) : gb195 ≠ gb196)); have NB196_195 := AM ((by rw [hg]; exact Nat.ne_of_gt (blk_lt (g := gb195) (o := .cells #[.string a0_0, .bool a0_1, .int .i64 a0_2, .slice A0_3 l0_3.length c0_3] 80 (0, 0)) (bk_ BK195.out)) : gb196 ≠ gb195)); replace BK195 := AM (blk_below (g := gb195) (o := .cells #[.string a0_0, .bool a0_1, .int .i64 a0_2, .slice A0_3 l0_3.length c0_3] 80 (0, 0)) (bk_ BK195.out) hb); clear hb hbox hg; have hnb25 := NB195_196.out; have hnc25 := NB196_195.out; have hcz26_0 : w24.cell? ⟨gb195, 0, none⟩ = some (.string a0_0) := (blk_cell BK195.out 0).trans rfl; have hcz26_1 : w24.cell? ⟨gb195, 1, none⟩ = some (.bool a0_1) := (blk_cell BK195.out 1).trans rfl; have hcz26_2 : w24.cell? ⟨gb195, 2, none⟩ = some (.int .i64 a0_2) := (blk_cell BK195.out 2).trans rfl; have hcz26_3 : w24.cell? ⟨gb195, 3, none⟩ = some (.slice A0_3 l0_3.length c0_3) := (blk_cell BK195.out 3).trans rfl; have hfz26_0 := blk_frozen BK195.out 0; have hfz26_1 := blk_frozen BK195.out 1; have hfz26_2 := blk_frozen BK195.out 2; have hfz26_3 := blk_frozen BK195.out 3; have hcz27_0 : w24.cell? ⟨gb196, 0, none⟩ = some (.string a1_0) := (blk_cell BK196.out 0).trans rfl; have hcz27_1 : w24.cell? ⟨gb196, 1, none⟩ = some (.bool a1_1) := (blk_cell BK196.out 1).trans rfl; have hcz27_2 : w24.cell? ⟨gb196, 2, none⟩ = some (.int .i64 a1_2) := (blk_cell BK196.out 2).trans rfl; have hcz27_3 : w24.cell? ⟨gb196, 3, none⟩ = some (.slice A1_3 l1_3.length c1_3) := (blk_cell BK196.out 3).trans rfl; have hfz27_0 := blk_frozen BK196.out 0; have hfz27_1 := blk_frozen BK196.out 1; have hfz27_2 := blk_frozen BK196.out 2; have hfz27_3 := blk_frozen BK196.out 3))
        go_ret
        exact ⟨ri_, bel_⟩
  · rw [if_neg c3] at H
    have c3b0 : (a0_0.toList == a1_0.toList) = false := beq_eq_false_iff_ne.mpr c3
    have c3b1 : (a0_0.toList != a1_0.toList) = true := bne_iff_ne.mpr c3
    obtain rfl := Option.some.inj H
    go_enter Try.func54, Try.ntmps54
    go_wp2_with (first | ((with_reducible refine gate_dst (N := 2) rfl ?_); refine be_ 2 #[.string a0_0, .bool a0_1, .int .i64 a0_2, .slice A0_3 l0_3.length c0_3] 80 ?_; intro gb195 hg w28 hbox hb; have BK195 := AM hbox; have GW195 := AM ((by rw [hg]; exact (below_size bel_) : w.heap.size ≤ gb195)); have GE195 := AM ((by rw [hg]; exact (below_size bel_) : w.heap.size ≤ gb195)); replace HB := AM (below_step bel_ hb); clear hb hbox hg) | ((with_reducible refine gate_dst (N := 3) rfl ?_); refine be_ 3 #[.string a1_0, .bool a1_1, .int .i64 a1_2, .slice A1_3 l1_3.length c1_3] 80 ?_; intro gb196 hg w29 hbox hb; have BK196 := AM hbox; have GW196 := AM ((by rw [hg]; exact (below_size bel_) : w.heap.size ≤ gb196)); have GE196 := AM ((by rw [hg]; exact (below_size bel_) : w.heap.size ≤ gb196)); replace HB := AM (below_step bel_ hb); have NB195_196 := AM ((by rw [hg]; exact Nat.ne_of_lt (blk_lt (g := gb195) (o := .cells #[.string a0_0, .bool a0_1, .int .i64 a0_2, .slice A0_3 l0_3.length c0_3] 80 (0, 0)) (bk_ BK195.out)) : gb195 ≠ gb196)); have NB196_195 := AM ((by rw [hg]; exact Nat.ne_of_gt (blk_lt (g := gb195) (o := .cells #[.string a0_0, .bool a0_1, .int .i64 a0_2, .slice A0_3 l0_3.length c0_3] 80 (0, 0)) (bk_ BK195.out)) : gb196 ≠ gb195)); replace BK195 := AM (blk_below (g := gb195) (o := .cells #[.string a0_0, .bool a0_1, .int .i64 a0_2, .slice A0_3 l0_3.length c0_3] 80 (0, 0)) (bk_ BK195.out) hb); clear hb hbox hg; have hnb30 := NB195_196.out; have hnc30 := NB196_195.out; have hcz31_0 : w29.cell? ⟨gb195, 0, none⟩ = some (.string a0_0) := (blk_cell BK195.out 0).trans rfl; have hcz31_1 : w29.cell? ⟨gb195, 1, none⟩ = some (.bool a0_1) := (blk_cell BK195.out 1).trans rfl; have hcz31_2 : w29.cell? ⟨gb195, 2, none⟩ = some (.int .i64 a0_2) := (blk_cell BK195.out 2).trans rfl; have hcz31_3 : w29.cell? ⟨gb195, 3, none⟩ = some (.slice A0_3 l0_3.length c0_3) := (blk_cell BK195.out 3).trans rfl; have hfz31_0 := blk_frozen BK195.out 0; have hfz31_1 := blk_frozen BK195.out 1; have hfz31_2 := blk_frozen BK195.out 2; have hfz31_3 := blk_frozen BK195.out 3; have hcz32_0 : w29.cell? ⟨gb196, 0, none⟩ = some (.string a1_0) := (blk_cell BK196.out 0).trans rfl; have hcz32_1 : w29.cell? ⟨gb196, 1, none⟩ = some (.bool a1_1) := (blk_cell BK196.out 1).trans rfl; have hcz32_2 : w29.cell? ⟨gb196, 2, none⟩ = some (.int .i64 a1_2) := (blk_cell BK196.out 2).trans rfl; have hcz32_3 : w29.cell? ⟨gb196, 3, none⟩ = some (.slice A1_3 l1_3.length c1_3) := (blk_cell BK196.out 3).trans rfl; have hfz32_0 := blk_frozen BK196.out 0; have hfz32_1 := blk_frozen BK196.out 1; have hfz32_2 := blk_frozen BK196.out 2; have hfz32_3 := blk_frozen BK196.out 3))
    go_ret
    exact ⟨ri_, bel_⟩

/-! ### laws_eqNodeS: function 16 -/
def laws_eqNodeS.l0 : Nat → List (S80) → List (S80) → Int → Option (Bool)
  | 0, _, _, _ => none
  | k + 1, x0, x1, x5 => if x5 < (x0.length : Int) then (if 0 ≤ x5 then (if x5 < (x1.length : Int) then ((laws_eqNode.f k ((rd_T80 x0 x5).f0) ((rd_T80 x0 x5).f1) ((rd_T80 x0 x5).f2) ((rd_T80 x0 x5).f3) ((rd_T80 x1 x5).f0) ((rd_T80 x1 x5).f1) ((rd_T80 x1 x5).f2) ((rd_T80 x1 x5).f3)).bind fun t200 => (if t200 = true then (laws_eqNodeS.l0 k x0 x1 (wrap64 (x5 + 1))) else (some false))) else (none)) else (none)) else (some true)
def laws_eqNodeS.f (k : Nat) (l0 : List (S80)) (l1 : List (S80)) : Option (Bool) := if (l0.length : Int) = (l1.length : Int) then (laws_eqNodeS.l0 k l0 l1 0) else (some false)
theorem laws_eqNodeS.mono_l : ∀ k, (∀ y0 y1 y2, LeO (laws_eqNodeS.l0 k y0 y1 y2) (laws_eqNodeS.l0 (k + 1) y0 y1 y2))
  | 0 => fun _ _ _ r h => by simp [laws_eqNodeS.l0] at h
  | k + 1 => by
    have ih0 := laws_eqNodeS.mono_l k
    · intro y0 y1 y2
      unfold laws_eqNodeS.l0
      repeat' first
      | (with_reducible exact ih0 _ _ _)
      | (with_reducible exact laws_eqNode.mono _ _ _ _ _ _ _ _ _)
      | (with_reducible exact LeO.refl _)
      | (with_reducible exact LeO.none _)
      | (with_reducible refine LeO.ite ?_ ?_)
      | (with_reducible refine LeO.bind ?_ (fun _ => ?_))
      | exact ih0 _ _ _
      | exact laws_eqNode.mono _ _ _ _ _ _ _ _ _
      | exact LeO.none _
      | refine LeO.ite ?_ ?_
      | refine LeO.bind ?_ (fun _ => ?_)
theorem laws_eqNodeS.mono : ∀ a0 a1 k, LeO (laws_eqNodeS.f k a0 a1) (laws_eqNodeS.f (k + 1) a0 a1) := by
  intro a0 a1 k
  have ih0 := laws_eqNodeS.mono_l k
  unfold laws_eqNodeS.f
  repeat' first
      | (with_reducible exact ih0 _ _ _)
      | (with_reducible exact laws_eqNode.mono _ _ _ _ _ _ _ _ _)
      | (with_reducible exact LeO.refl _)
      | (with_reducible exact LeO.none _)
      | (with_reducible refine LeO.ite ?_ ?_)
      | (with_reducible refine LeO.bind ?_ (fun _ => ?_))
      | exact ih0 _ _ _
      | exact laws_eqNode.mono _ _ _ _ _ _ _ _ _
      | exact LeO.none _
      | refine LeO.ite ?_ ?_
      | refine LeO.bind ?_ (fun _ => ?_)
def laws_eqNodeS.T6 : Bool × List (List Nat × List Nat) := (true, [([], []), ([], []), ([0, 1], [0, 1]), ([2], [2]), ([], []), ([], []), ([4, 5], [4, 5]), ([6], [6]), ([3, 7], [3, 7]), ([8], [8])])
def laws_eqNodeS.B6 : List Nat := [0, 0, 3, 7, 0, 0, 48, 112, 255, 511]
theorem laws_eqNodeS.tab6 : rtab .any (opsOf Try.f16 6) = laws_eqNodeS.T6 := by kernel_rfl
theorem laws_eqNodeS.bits6 : waitsOk laws_eqNodeS.T6.2 laws_eqNodeS.B6 = true := by kernel_rfl
set_option maxHeartbeats 8000000 in
set_option maxRecDepth 100000 in
theorem laws_eqNodeS.calls (k : Nat) (A0 : Option Addr) (c0 : Nat) (l0 : List (S80)) (A1 : Option Addr) (c1 : Nat) (l1 : List (S80)) (r : Bool) (w : World) (hr0 : Kd.C k80 w A0 l0.length l0) (hc0 : l0.length ≤ c0) (hr1 : Kd.C k80 w A1 l1.length l1) (hc1 : l1.length ≤ c1) (h : laws_eqNodeS.f k l0 l1 = some r) :
    Calls Try.prog 16 #[.slice A0 l0.length c0, .slice A1 l1.length c1] w fun e w' => e = .returned (.bool r) ∧ Below w.heap.size w w' := by
  have hu80 := Try.underlying80
  have HR0 := AM hr0
  have HC0 := AM hc0
  clear hr0 hc0
  have HR1 := AM hr1
  have HC1 := AM hc1
  clear hr1 hc1
  have HB := AM (Below.refl w.heap.size w)
  have H : (if (l0.length : Int) = (l1.length : Int) then (laws_eqNodeS.l0 k l0 l1 0) else (some false)) = some r := h
  clear h
  by_cases c3 : (l0.length : Int) = (l1.length : Int)
  · rw [if_pos c3] at H
    have c3b0 : ((l0.length : Int) == (l1.length : Int)) = true := beq_iff_eq.mpr c3
    have c3b1 : ((l0.length : Int) != (l1.length : Int)) = false := bne_eq_false_iff_eq.mpr c3
    have c3b2 : (l0.length == l1.length) = true := by first | simpa using c3 | (simp at c3 ⊢; omega)
    clear c3
    have H' := AM H
    clear H
    go_enter Try.func16, Try.ntmps16
    go_wp2
    go_loopg [5] k (fun kq v5 w' => ∃ (x5_1 : Int), v5 = .int .i64 x5_1 ∧ Aside0 (laws_eqNodeS.l0 kq l0 l1 x5_1 = some r) ∧ Aside0 (kq ≤ k) ∧ Aside0 (Below w.heap.size w w'))
    case atStart => exact ⟨(0), (by first | rfl | (simp; done) | (simp [*]; done)), H', ⟨Nat.le_refl _⟩, ⟨bel_⟩⟩
    case round =>
      clear H'
      try clear c1
      try clear p2
      try clear c3
      try clear c3b0
      try clear c3b1
      try clear c3b2
      obtain ⟨x5_1, rfl, HA, HK1, HB⟩ := hrel
      cases gk with
      | zero => exact absurd HA.out (by simp [laws_eqNodeS.l0])
      | succ k1 =>
        have H := HA.out
        clear HA
        simp only [laws_eqNodeS.l0] at H
        by_cases c4 : x5_1 < (l0.length : Int)
        · rw [if_pos c4] at H
          have c4b0 : decide (x5_1 < (l0.length : Int)) = true := decide_eq_true c4
          clear c4
          by_cases c5 : 0 ≤ x5_1
          · rw [if_pos c5] at H
            have c5b0 : decide (0 ≤ x5_1) = true := decide_eq_true c5
            clear c5
            by_cases c6 : x5_1 < (l1.length : Int)
            · rw [if_pos c6] at H
              have c6b0 : decide (x5_1 < (l1.length : Int)) = true := decide_eq_true c6
              clear c6
              obtain ⟨t200, A7, H⟩ := OB H
              try dsimp only at H
              replace A7 := AM A7
              by_cases c8 : t200 = true
              · subst c8
                rw [if_pos rfl] at H
                have H' := AM H
                clear H
                try go_wp2
                replace HB := AM (below_drew1 HB.out)
                have p198 : 0 ≤ (x5_1 : Int) := of_decide_eq_true (by first | (with_reducible assumption) | assumption)
                have q198 : x5_1 < (l0.length : Int) := of_decide_eq_true (by first | (with_reducible assumption) | assumption)
                obtain ⟨ad198, A198_3, c198_3, e198, hx198_0, hx198_1, hx198_2, hx198_3, hl198_3, hi198_3⟩ := at_T80 HR0.out x5_1 p198 q198
                have hw198_3 := hx198_3
                have hw198_2 := hx198_2
                have hw198_1 := hx198_1
                have hw198_0 := hx198_0
                cases e198
                replace hx198_0 := (HB.out.cell (World.block_lt_of_cell? w _ hx198_0)).trans hx198_0
                replace hx198_1 := (HB.out.cell (World.block_lt_of_cell? w _ hx198_1)).trans hx198_1
                replace hx198_2 := (HB.out.cell (World.block_lt_of_cell? w _ hx198_2)).trans hx198_2
                replace hx198_3 := (HB.out.cell (World.block_lt_of_cell? w _ hx198_3)).trans hx198_3
                have HR198_3 := AM hi198_3
                have HC198_3 := AM hl198_3
                clear hi198_3 hl198_3
                replace p198 := eq_true p198
                replace q198 := eq_true q198
                have p199 : 0 ≤ (x5_1 : Int) := of_decide_eq_true (by first | (with_reducible assumption) | assumption)
                have q199 : x5_1 < (l1.length : Int) := of_decide_eq_true (by first | (with_reducible assumption) | assumption)
                obtain ⟨ad199, A199_3, c199_3, e199, hx199_0, hx199_1, hx199_2, hx199_3, hl199_3, hi199_3⟩ := at_T80 HR1.out x5_1 p199 q199
                have hw199_3 := hx199_3
                have hw199_2 := hx199_2
                have hw199_1 := hx199_1
                have hw199_0 := hx199_0
                cases e199
                replace hx199_0 := (HB.out.cell (World.block_lt_of_cell? w _ hx199_0)).trans hx199_0
                replace hx199_1 := (HB.out.cell (World.block_lt_of_cell? w _ hx199_1)).trans hx199_1
                replace hx199_2 := (HB.out.cell (World.block_lt_of_cell? w _ hx199_2)).trans hx199_2
                replace hx199_3 := (HB.out.cell (World.block_lt_of_cell? w _ hx199_3)).trans hx199_3
                have HR199_3 := AM hi199_3
                have HC199_3 := AM hl199_3
                clear hi199_3 hl199_3
                replace p199 := eq_true p199
                replace q199 := eq_true q199
                refine start_ (n := 10) (S := fun w' => w'.cell? (ad198.add ((x5_1).toNat * 4)) = some (.string ((rd_T80 l0 x5_1).f0)) ∧ w'.cell? ⟨(ad198.add ((x5_1).toNat * 4)).block, (ad198.add ((x5_1).toNat * 4)).off + 1, none⟩ = some (.bool ((rd_T80 l0 x5_1).f1)) ∧ w'.cell? ⟨(ad198.add ((x5_1).toNat * 4)).block, (ad198.add ((x5_1).toNat * 4)).off + 2, none⟩ = some (.int .i64 ((rd_T80 l0 x5_1).f2)) ∧ w'.cell? ⟨(ad198.add ((x5_1).toNat * 4)).block, (ad198.add ((x5_1).toNat * 4)).off + 3, none⟩ = some (.slice A198_3 ((rd_T80 l0 x5_1).f3).length c198_3) ∧ w'.cell? (ad199.add ((x5_1).toNat * 4)) = some (.string ((rd_T80 l1 x5_1).f0)) ∧ w'.cell? ⟨(ad199.add ((x5_1).toNat * 4)).block, (ad199.add ((x5_1).toNat * 4)).off + 1, none⟩ = some (.bool ((rd_T80 l1 x5_1).f1)) ∧ w'.cell? ⟨(ad199.add ((x5_1).toNat * 4)).block, (ad199.add ((x5_1).toNat * 4)).off + 2, none⟩ = some (.int .i64 ((rd_T80 l1 x5_1).f2)) ∧ w'.cell? ⟨(ad199.add ((x5_1).toNat * 4)).block, (ad199.add ((x5_1).toNat * 4)).off + 3, none⟩ = some (.slice A199_3 ((rd_T80 l1 x5_1).f3).length c199_3)) (ds := []) #[false, false, false, false, false, false, false, false, false, false] (by kernel_rfl) rfl rfl ⟨((HB.out.cell (World.block_lt_of_cell? w _ hw198_0)).trans hw198_0), ((HB.out.cell (World.block_lt_of_cell? w _ hw198_1)).trans hw198_1), ((HB.out.cell (World.block_lt_of_cell? w _ hw198_2)).trans hw198_2), ((HB.out.cell (World.block_lt_of_cell? w _ hw198_3)).trans hw198_3), ((HB.out.cell (World.block_lt_of_cell? w _ hw199_0)).trans hw199_0), ((HB.out.cell (World.block_lt_of_cell? w _ hw199_1)).trans hw199_1), ((HB.out.cell (World.block_lt_of_cell? w _ hw199_2)).trans hw199_2), ((HB.out.cell (World.block_lt_of_cell? w _ hw199_3)).trans hw199_3)⟩ (fun hHeld => ?_); refine with_tabW laws_eqNodeS.tab6 laws_eqNodeS.bits6 (fun HT_ HW_ => ?_)
                generalize wr.drew = w9 at HB HR198_3 HR199_3 hx198_0 hx198_1 hx198_2 hx198_3 hx199_0 hx199_1 hx199_2 hx199_3 hHeld ⊢
                refine pu_ HT_ 0 (some 17) #[true, false, false, false, false, false, false, false, false, false] ?_
                refine pu_ HT_ 1 (some 18) #[true, true, false, false, false, false, false, false, false, false] ?_
                refine pu_ HT_ 2 (some 19) #[true, true, true, false, false, false, false, false, false, false] ?_
                refine pu_ HT_ 4 (some 21) #[true, true, true, false, true, false, false, false, false, false] ?_
                refine pu_ HT_ 5 (some 22) #[true, true, true, false, true, true, false, false, false, false] ?_
                refine pu_ HT_ 6 (some 23) #[true, true, true, false, true, true, true, false, false, false] ?_
                refine ta_ HT_ HW_ 3 (some 20) #[true, true, true, true, true, true, true, false, false, false] hHeld ?_
                refine ta_ HT_ HW_ 7 (some 24) #[true, true, true, true, true, true, true, true, false, false] hHeld ?_
                refine on_ HT_ 8 (some 25) #[true, true, true, true, true, true, true, true, true, false] (fun K hK => ?_)
                refine go1_ Try.func54 #[.agg #[.string ((rd_T80 l0 x5_1).f0), .bool ((rd_T80 l0 x5_1).f1), .int .i64 ((rd_T80 l0 x5_1).f2), .slice A198_3 ((rd_T80 l0 x5_1).f3).length c198_3], .agg #[.string ((rd_T80 l1 x5_1).f0), .bool ((rd_T80 l1 x5_1).f1), .int .i64 ((rd_T80 l1 x5_1).f2), .slice A199_3 ((rd_T80 l1 x5_1).f3).length c199_3]] ?_
                with_reducible refine (laws_eqNode.calls k1 ((rd_T80 l0 x5_1).f0) ((rd_T80 l0 x5_1).f1) ((rd_T80 l0 x5_1).f2) _ _ ((rd_T80 l0 x5_1).f3) ((rd_T80 l1 x5_1).f0) ((rd_T80 l1 x5_1).f1) ((rd_T80 l1 x5_1).f2) _ _ ((rd_T80 l1 x5_1).f3) true _ ?side1 ?side2 ?side3 ?side4 A7.out).mono ?_
                (case side1 => repeat (first | exact (Kd.C_below HR198_3.out HB.out) | (with_reducible refine Kd.C_alloc ?_ _) | (with_reducible refine Kd.C_drewN ?_ _) | (with_reducible refine Kd.C_drew ?_)))
                (case side2 => exact HC198_3.out)
                (case side3 => repeat (first | exact (Kd.C_below HR199_3.out HB.out) | (with_reducible refine Kd.C_alloc ?_ _) | (with_reducible refine Kd.C_drewN ?_ _) | (with_reducible refine Kd.C_drew ?_)))
                (case side4 => exact HC199_3.out)
                rintro e w10 ⟨rfl, hb⟩
                refine ⟨_, rfl, ?_⟩
                replace HB := AM (below_step bel_ hb)
                (try clear hb)
                (try clear hb2)
                (try clear hk)
                (try clear hi)
                refine hK.out _ _ ⟨((HB.out.cell (World.block_lt_of_cell? w _ hw198_0)).trans hw198_0), ((HB.out.cell (World.block_lt_of_cell? w _ hw198_1)).trans hw198_1), ((HB.out.cell (World.block_lt_of_cell? w _ hw198_2)).trans hw198_2), ((HB.out.cell (World.block_lt_of_cell? w _ hw198_3)).trans hw198_3), ((HB.out.cell (World.block_lt_of_cell? w _ hw199_0)).trans hw199_0), ((HB.out.cell (World.block_lt_of_cell? w _ hw199_1)).trans hw199_1), ((HB.out.cell (World.block_lt_of_cell? w _ hw199_2)).trans hw199_2), ((HB.out.cell (World.block_lt_of_cell? w _ hw199_3)).trans hw199_3)⟩ (fun hHeld => ?_)
                clear hK K
                refine nm_ ?_
                refine pu_ HT_ 9 (some 26) #[true, true, true, true, true, true, true, true, true, true] ?_
                refine dn_ HT_ ?_
                try go_wp2
                go_roundg k1
                case measure => have := HK1.out; omega
                case rel => exact ⟨(wrap64 (x5_1 + 1)), (by first | rfl | (simp; done) | (simp [*]; done)), H', ⟨by have := HK1.out; omega⟩, ⟨bel_⟩⟩
              · replace c8 := Bool.eq_false_iff.mpr c8
                subst c8
                rw [if_neg (show ¬ (false = true) by decide)] at H
                obtain rfl := Option.some.inj H
                try go_wp2
                replace HB := AM (below_drew1 HB.out)
                have p198 : 0 ≤ (x5_1 : Int) := of_decide_eq_true (by first | (with_reducible assumption) | assumption)
                have q198 : x5_1 < (l0.length : Int) := of_decide_eq_true (by first | (with_reducible assumption) | assumption)
                obtain ⟨ad198, A198_3, c198_3, e198, hx198_0, hx198_1, hx198_2, hx198_3, hl198_3, hi198_3⟩ := at_T80 HR0.out x5_1 p198 q198
                have hw198_3 := hx198_3
                have hw198_2 := hx198_2
                have hw198_1 := hx198_1
                have hw198_0 := hx198_0
                cases e198
                replace hx198_0 := (HB.out.cell (World.block_lt_of_cell? w _ hx198_0)).trans hx198_0
                replace hx198_1 := (HB.out.cell (World.block_lt_of_cell? w _ hx198_1)).trans hx198_1
                replace hx198_2 := (HB.out.cell (World.block_lt_of_cell? w _ hx198_2)).trans hx198_2
                replace hx198_3 := (HB.out.cell (World.block_lt_of_cell? w _ hx198_3)).trans hx198_3
                have HR198_3 := AM hi198_3
                have HC198_3 := AM hl198_3
                clear hi198_3 hl198_3
                replace p198 := eq_true p198
                replace q198 := eq_true q198
                have p199 : 0 ≤ (x5_1 : Int) := of_decide_eq_true (by first | (with_reducible assumption) | assumption)
                have q199 : x5_1 < (l1.length : Int) := of_decide_eq_true (by first | (with_reducible assumption) | assumption)
                obtain ⟨ad199, A199_3, c199_3, e199, hx199_0, hx199_1, hx199_2, hx199_3, hl199_3, hi199_3⟩ := at_T80 HR1.out x5_1 p199 q199
                have hw199_3 := hx199_3
                have hw199_2 := hx199_2
                have hw199_1 := hx199_1
                have hw199_0 := hx199_0
                cases e199
                replace hx199_0 := (HB.out.cell (World.block_lt_of_cell? w _ hx199_0)).trans hx199_0
                replace hx199_1 := (HB.out.cell (World.block_lt_of_cell? w _ hx199_1)).trans hx199_1
                replace hx199_2 := (HB.out.cell (World.block_lt_of_cell? w _ hx199_2)).trans hx199_2
                replace hx199_3 := (HB.out.cell (World.block_lt_of_cell? w _ hx199_3)).trans hx199_3
                have HR199_3 := AM hi199_3
                have HC199_3 := AM hl199_3
                clear hi199_3 hl199_3
                replace p199 := eq_true p199
                replace q199 := eq_true q199
                refine start_ (n := 10) (S := fun w' => w'.cell? (ad198.add ((x5_1).toNat * 4)) = some (.string ((rd_T80 l0 x5_1).f0)) ∧ w'.cell? ⟨(ad198.add ((x5_1).toNat * 4)).block, (ad198.add ((x5_1).toNat * 4)).off + 1, none⟩ = some (.bool ((rd_T80 l0 x5_1).f1)) ∧ w'.cell? ⟨(ad198.add ((x5_1).toNat * 4)).block, (ad198.add ((x5_1).toNat * 4)).off + 2, none⟩ = some (.int .i64 ((rd_T80 l0 x5_1).f2)) ∧ w'.cell? ⟨(ad198.add ((x5_1).toNat * 4)).block, (ad198.add ((x5_1).toNat * 4)).off + 3, none⟩ = some (.slice A198_3 ((rd_T80 l0 x5_1).f3).length c198_3) ∧ w'.cell? (ad199.add ((x5_1).toNat * 4)) = some (.string ((rd_T80 l1 x5_1).f0)) ∧ w'.cell? ⟨(ad199.add ((x5_1).toNat * 4)).block, (ad199.add ((x5_1).toNat * 4)).off + 1, none⟩ = some (.bool ((rd_T80 l1 x5_1).f1)) ∧ w'.cell? ⟨(ad199.add ((x5_1).toNat * 4)).block, (ad199.add ((x5_1).toNat * 4)).off + 2, none⟩ = some (.int .i64 ((rd_T80 l1 x5_1).f2)) ∧ w'.cell? ⟨(ad199.add ((x5_1).toNat * 4)).block, (ad199.add ((x5_1).toNat * 4)).off + 3, none⟩ = some (.slice A199_3 ((rd_T80 l1 x5_1).f3).length c199_3)) (ds := []) #[false, false, false, false, false, false, false, false, false, false] (by kernel_rfl) rfl rfl ⟨((HB.out.cell (World.block_lt_of_cell? w _ hw198_0)).trans hw198_0), ((HB.out.cell (World.block_lt_of_cell? w _ hw198_1)).trans hw198_1), ((HB.out.cell (World.block_lt_of_cell? w _ hw198_2)).trans hw198_2), ((HB.out.cell (World.block_lt_of_cell? w _ hw198_3)).trans hw198_3), ((HB.out.cell (World.block_lt_of_cell? w _ hw199_0)).trans hw199_0), ((HB.out.cell (World.block_lt_of_cell? w _ hw199_1)).trans hw199_1), ((HB.out.cell (World.block_lt_of_cell? w _ hw199_2)).trans hw199_2), ((HB.out.cell (World.block_lt_of_cell? w _ hw199_3)).trans hw199_3)⟩ (fun hHeld => ?_); refine with_tabW laws_eqNodeS.tab6 laws_eqNodeS.bits6 (fun HT_ HW_ => ?_)
                generalize wr.drew = w11 at HB HR198_3 HR199_3 hx198_0 hx198_1 hx198_2 hx198_3 hx199_0 hx199_1 hx199_2 hx199_3 hHeld ⊢
                refine pu_ HT_ 0 (some 17) #[true, false, false, false, false, false, false, false, false, false] ?_
                refine pu_ HT_ 1 (some 18) #[true, true, false, false, false, false, false, false, false, false] ?_
                refine pu_ HT_ 2 (some 19) #[true, true, true, false, false, false, false, false, false, false] ?_
                refine pu_ HT_ 4 (some 21) #[true, true, true, false, true, false, false, false, false, false] ?_
                refine pu_ HT_ 5 (some 22) #[true, true, true, false, true, true, false, false, false, false] ?_
                refine pu_ HT_ 6 (some 23) #[true, true, true, false, true, true, true, false, false, false] ?_
                refine ta_ HT_ HW_ 3 (some 20) #[true, true, true, true, true, true, true, false, false, false] hHeld ?_
                refine ta_ HT_ HW_ 7 (some 24) #[true, true, true, true, true, true, true, true, false, false] hHeld ?_
                refine on_ HT_ 8 (some 25) #[true, true, true, true, true, true, true, true, true, false] (fun K hK => ?_)
                refine go1_ Try.func54 #[.agg #[.string ((rd_T80 l0 x5_1).f0), .bool ((rd_T80 l0 x5_1).f1), .int .i64 ((rd_T80 l0 x5_1).f2), .slice A198_3 ((rd_T80 l0 x5_1).f3).length c198_3], .agg #[.string ((rd_T80 l1 x5_1).f0), .bool ((rd_T80 l1 x5_1).f1), .int .i64 ((rd_T80 l1 x5_1).f2), .slice A199_3 ((rd_T80 l1 x5_1).f3).length c199_3]] ?_
                with_reducible refine (laws_eqNode.calls k1 ((rd_T80 l0 x5_1).f0) ((rd_T80 l0 x5_1).f1) ((rd_T80 l0 x5_1).f2) _ _ ((rd_T80 l0 x5_1).f3) ((rd_T80 l1 x5_1).f0) ((rd_T80 l1 x5_1).f1) ((rd_T80 l1 x5_1).f2) _ _ ((rd_T80 l1 x5_1).f3) false _ ?side1 ?side2 ?side3 ?side4 A7.out).mono ?_
                (case side1 => repeat (first | exact (Kd.C_below HR198_3.out HB.out) | (with_reducible refine Kd.C_alloc ?_ _) | (with_reducible refine Kd.C_drewN ?_ _) | (with_reducible refine Kd.C_drew ?_)))
                (case side2 => exact HC198_3.out)
                (case side3 => repeat (first | exact (Kd.C_below HR199_3.out HB.out) | (with_reducible refine Kd.C_alloc ?_ _) | (with_reducible refine Kd.C_drewN ?_ _) | (with_reducible refine Kd.C_drew ?_)))
                (case side4 => exact HC199_3.out)
                rintro e w12 ⟨rfl, hb⟩
                refine ⟨_, rfl, ?_⟩
                replace HB := AM (below_step bel_ hb)
                (try clear hb)
                (try clear hb2)
                (try clear hk)
                (try clear hi)
                refine hK.out _ _ ⟨((HB.out.cell (World.block_lt_of_cell? w _ hw198_0)).trans hw198_0), ((HB.out.cell (World.block_lt_of_cell? w _ hw198_1)).trans hw198_1), ((HB.out.cell (World.block_lt_of_cell? w _ hw198_2)).trans hw198_2), ((HB.out.cell (World.block_lt_of_cell? w _ hw198_3)).trans hw198_3), ((HB.out.cell (World.block_lt_of_cell? w _ hw199_0)).trans hw199_0), ((HB.out.cell (World.block_lt_of_cell? w _ hw199_1)).trans hw199_1), ((HB.out.cell (World.block_lt_of_cell? w _ hw199_2)).trans hw199_2), ((HB.out.cell (World.block_lt_of_cell? w _ hw199_3)).trans hw199_3)⟩ (fun hHeld => ?_)
                clear hK K
                refine nm_ ?_
                refine pu_ HT_ 9 (some 26) #[true, true, true, true, true, true, true, true, true, true] ?_
                refine dn_ HT_ ?_
                try go_wp2
                go_ret
                exact ⟨ri_, bel_⟩
            · rw [if_neg c6] at H
              exact absurd H (by simp)
          · rw [if_neg c5] at H
            exact absurd H (by simp)
        · rw [if_neg c4] at H
          have c4b0 : decide (x5_1 < (l0.length : Int)) = false := decide_eq_false c4
          clear c4
          obtain rfl := Option.some.inj H
          go_wp2
          go_ret
          exact ⟨ri_, bel_⟩
  · rw [if_neg c3] at H
    have c3b0 : ((l0.length : Int) == (l1.length : Int)) = false := beq_eq_false_iff_ne.mpr c3
    have c3b1 : ((l0.length : Int) != (l1.length : Int)) = true := bne_iff_ne.mpr c3
    have c3b2 : (l0.length == l1.length) = false := by first | simpa using c3 | (simp at c3 ⊢; omega)
    obtain rfl := Option.some.inj H
    go_enter Try.func16, Try.ntmps16
    go_wp2
    go_ret
    exact ⟨ri_, bel_⟩

/-! ### laws_FnExactNodesBytes: function 4 -/
def laws_FnExactNodesBytes.f (k : Nat) (l0 : List (S78)) : Option (Bool) := (laws_szNodeS.f k l0 1048576).bind fun t201 => (if t201 < 0 then (some true) else ((laws_toNodeS.f k l0).bind fun t202 => ((spec_NodesBytes.f k t202).bind fun t205 => ((laws_toNodeS.f k l0).bind fun t206 => ((impl_NodesBytes.f k t206).bind fun t209 => (if t209.toList = t205.toList then ((laws_toNodeS.f k l0).bind fun t210 => ((laws_eqNodeS.f k t206 t210).bind fun t213 => (if t213 = true then (some true) else (some false)))) else (some false)))))))
theorem laws_FnExactNodesBytes.mono : ∀ a0 k, LeO (laws_FnExactNodesBytes.f k a0) (laws_FnExactNodesBytes.f (k + 1) a0) := by
  intro a0 k
  unfold laws_FnExactNodesBytes.f
  repeat' first
      | (with_reducible exact impl_NodesBytes.mono _ _)
      | (with_reducible exact laws_eqNodeS.mono _ _ _)
      | (with_reducible exact laws_szNodeS.mono _ _ _)
      | (with_reducible exact laws_toNodeS.mono _ _)
      | (with_reducible exact spec_NodesBytes.mono _ _)
      | (with_reducible exact LeO.refl _)
      | (with_reducible exact LeO.none _)
      | (with_reducible refine LeO.ite ?_ ?_)
      | (with_reducible refine LeO.bind ?_ (fun _ => ?_))
      | exact impl_NodesBytes.mono _ _
      | exact laws_eqNodeS.mono _ _ _
      | exact laws_szNodeS.mono _ _ _
      | exact laws_toNodeS.mono _ _
      | exact spec_NodesBytes.mono _ _
      | exact LeO.none _
      | refine LeO.ite ?_ ?_
      | refine LeO.bind ?_ (fun _ => ?_)
set_option maxHeartbeats 8000000 in
set_option maxRecDepth 100000 in
theorem laws_FnExactNodesBytes.calls (k : Nat) (A0 : Option Addr) (c0 : Nat) (l0 : List (S78)) (r : Bool) (w : World) (hr0 : Kd.C k78 w A0 l0.length l0) (hc0 : l0.length ≤ c0) (h : laws_FnExactNodesBytes.f k l0 = some r) :
    Calls Try.prog 4 #[.slice A0 l0.length c0] w fun e w' => e = .returned (.bool r) ∧ Below w.heap.size w w' := by
  have HR0 := AM hr0
  have HC0 := AM hc0
  clear hr0 hc0
  have HB := AM (Below.refl w.heap.size w)
  have H : ((laws_szNodeS.f k l0 1048576).bind fun t201 => (if t201 < 0 then (some true) else ((laws_toNodeS.f k l0).bind fun t202 => ((spec_NodesBytes.f k t202).bind fun t205 => ((laws_toNodeS.f k l0).bind fun t206 => ((impl_NodesBytes.f k t206).bind fun t209 => (if t209.toList = t205.toList then ((laws_toNodeS.f k l0).bind fun t210 => ((laws_eqNodeS.f k t206 t210).bind fun t213 => (if t213 = true then (some true) else (some false)))) else (some false)))))))) = some r := h
  clear h
  obtain ⟨t201, A2, H⟩ := OB H
  try dsimp only at H
  replace A2 := AM A2
  by_cases c3 : t201 < 0
  · rw [if_pos c3] at H
    have c3b0 : decide (t201 < 0) = true := decide_eq_true c3
    clear c3
    obtain rfl := Option.some.inj H
    go_enter Try.func4, Try.ntmps4
    go_wp2_with (first | ((with_reducible refine gate_callee (f := 12) rfl ?_); refine gl_ (some 9) Try.func12 #[.slice A0 l0.length c0, .int .i64 1048576] ?_; (with_reducible refine (laws_szNodeS.calls k _ _ l0 1048576 t201 _ ?side1 ?side2 A2.out).mono ?_); (case side1 => repeat (first | exact HR0.out | (with_reducible refine Kd.C_alloc ?_ _) | (with_reducible refine Kd.C_drewN ?_ _) | (with_reducible refine Kd.C_drew ?_))); (case side2 => exact HC0.out); rintro e w4 ⟨rfl, hb⟩; refine ⟨_, rfl, ?_⟩; replace HB := AM (below_step bel_ hb); (try clear hb); (try clear hb2); (try clear hk); (try clear hi)))
    go_ret
    exact ⟨ri_, bel_⟩
  · rw [if_neg c3] at H
    have c3b0 : decide (t201 < 0) = false := decide_eq_false c3
    clear c3
    obtain ⟨t202, A5, H⟩ := OB H
    try dsimp only at H
    replace A5 := AM A5
    obtain ⟨t205, A6, H⟩ := OB H
    try dsimp only at H
    replace A6 := AM A6
    obtain ⟨t206, A7, H⟩ := OB H
    try dsimp only at H
    replace A7 := AM A7
    obtain ⟨t209, A8, H⟩ := OB H
    try dsimp only at H
    replace A8 := AM A8
    by_cases c9 : t209.toList = t205.toList
    · rw [if_pos c9] at H
      have c9b0 : (t209.toList == t205.toList) = true := beq_iff_eq.mpr c9
      have c9b1 : (t209.toList != t205.toList) = false := bne_eq_false_iff_eq.mpr c9
      clear c9
      obtain ⟨t210, A10, H⟩ := OB H
      try dsimp only at H
      replace A10 := AM A10
      obtain ⟨t213, A11, H⟩ := OB H
      try dsimp only at H
      replace A11 := AM A11
      by_cases c12 : t213 = true
      · subst c12
        rw [if_pos rfl] at H
        obtain rfl := Option.some.inj H
        go_enter Try.func4, Try.ntmps4
        go_wp2_with (first | ((with_reducible refine gate_callee (f := 12) rfl ?_); refine gl_ (some 9) Try.func12 #[.slice A0 l0.length c0, .int .i64 1048576] ?_; (with_reducible refine (laws_szNodeS.calls k _ _ l0 1048576 t201 _ ?side1 ?side2 A2.out).mono ?_); (case side1 => repeat (first | exact HR0.out | (with_reducible refine Kd.C_alloc ?_ _) | (with_reducible refine Kd.C_drewN ?_ _) | (with_reducible refine Kd.C_drew ?_))); (case side2 => exact HC0.out); rintro e w13 ⟨rfl, hb⟩; refine ⟨_, rfl, ?_⟩; replace HB := AM (below_step bel_ hb); (try clear hb); (try clear hb2); (try clear hk); (try clear hi)) | ((with_reducible refine gate_callee (f := 14) rfl ?_); refine gl_ (some 13) Try.func14 #[.slice A0 l0.length c0] ?_; (with_reducible refine (laws_toNodeS.calls k _ _ l0 t202 _ ?side1 ?side2 A5.out).mono ?_); (case side1 => repeat (first | exact (Kd.C_below HR0.out HB.out) | (with_reducible refine Kd.C_alloc ?_ _) | (with_reducible refine Kd.C_drewN ?_ _) | (with_reducible refine Kd.C_drew ?_))); (case side2 => exact HC0.out); rintro e w14 ⟨v203, rfl, ho0, hb⟩; refine ⟨_, rfl, ?_⟩; have HO204 := AM (Kd.S_lower ho0 (below_size bel_)); replace HB := AM (below_step bel_ hb); (try clear hb); (try clear hb2); (try clear hk); (try clear hi); (try clear ho0); obtain ⟨Ao15, co15, eo15⟩ := Kd.S_slice HO204.out; subst eo15) | ((with_reducible refine gate_callee (f := 13) rfl ?_); refine gl_ (some 14) Try.func13 #[.slice Ao15 t202.length co15] ?_; (with_reducible refine (spec_NodesBytes.calls k _ _ t202 t205 _ ?side1 ?side2 A6.out).mono ?_); (case side1 => repeat (first | exact (Kd.S_reads' HO204.out).2.2 | (with_reducible refine Kd.C_alloc ?_ _) | (with_reducible refine Kd.C_drewN ?_ _) | (with_reducible refine Kd.C_drew ?_))); (case side2 => exact (Kd.S_reads' HO204.out).2.1); rintro e w16 ⟨rfl, hb⟩; refine ⟨_, rfl, ?_⟩; replace HO204 := AM (Kd.S_below (by (with_reducible repeat (first | apply Kd.S_alloc | apply Kd.S_drewN | apply Kd.S_drew)); exact HO204.out) hb); replace HB := AM (below_step bel_ hb); (try clear hb); (try clear hb2); (try clear hk); (try clear hi)) | ((with_reducible refine gate_callee (f := 14) rfl ?_); refine gl_ (some 16) Try.func14 #[.slice A0 l0.length c0] ?_; (with_reducible refine (laws_toNodeS.calls k _ _ l0 t206 _ ?side1 ?side2 A7.out).mono ?_); (case side1 => repeat (first | exact (Kd.C_below HR0.out HB.out) | (with_reducible refine Kd.C_alloc ?_ _) | (with_reducible refine Kd.C_drewN ?_ _) | (with_reducible refine Kd.C_drew ?_))); (case side2 => exact HC0.out); rintro e w17 ⟨v207, rfl, ho0, hb⟩; refine ⟨_, rfl, ?_⟩; have HO208 := AM (Kd.S_lower (Kd.S_new' ho0 (Kd.S_lt (by (with_reducible repeat (first | apply Kd.S_alloc | apply Kd.S_drewN | apply Kd.S_drew)); exact HO204.out))) (below_size bel_)); replace HO204 := AM (Kd.S_elder' (by (with_reducible repeat (first | apply Kd.S_alloc | apply Kd.S_drewN | apply Kd.S_drew)); exact HO204.out) (Kd.S_base ho0) hb); replace HB := AM (below_step bel_ hb); (try clear hb); (try clear hb2); (try clear hk); (try clear hi); (try clear ho0); obtain ⟨Ao18, co18, eo18⟩ := Kd.S_slice HO208.out; subst eo18) | ((with_reducible refine gate_callee (f := 15) rfl ?_); refine gl_ (some 18) Try.func15 #[.slice Ao18 t206.length co18] ?_; (with_reducible refine (impl_NodesBytes.calls k _ _ t206 t209 _ ?side1 ?side2 A8.out).mono ?_); (case side1 => repeat (first | exact (Kd.S_reads' HO208.out).2.2 | (with_reducible refine Kd.C_alloc ?_ _) | (with_reducible refine Kd.C_drewN ?_ _) | (with_reducible refine Kd.C_drew ?_))); (case side2 => exact (Kd.S_reads' HO208.out).2.1); rintro e w19 ⟨rfl, hb⟩; refine ⟨_, rfl, ?_⟩; replace HO204 := AM (Kd.S_below (by (with_reducible repeat (first | apply Kd.S_alloc | apply Kd.S_drewN | apply Kd.S_drew)); exact HO204.out) hb); replace HO208 := AM (Kd.S_below (by (with_reducible repeat (first | apply Kd.S_alloc | apply Kd.S_drewN | apply Kd.S_drew)); exact HO208.out) hb); replace HB := AM (below_step bel_ hb); (try clear hb); (try clear hb2); (try clear hk); (try clear hi)) | ((with_reducible refine gate_callee (f := 14) rfl ?_); refine gl_ (some 24) Try.func14 #[.slice A0 l0.length c0] ?_; (with_reducible refine (laws_toNodeS.calls k _ _ l0 t210 _ ?side1 ?side2 A10.out).mono ?_); (case side1 => repeat (first | exact (Kd.C_below HR0.out HB.out) | (with_reducible refine Kd.C_alloc ?_ _) | (with_reducible refine Kd.C_drewN ?_ _) | (with_reducible refine Kd.C_drew ?_))); (case side2 => exact HC0.out); rintro e w20 ⟨v211, rfl, ho0, hb⟩; refine ⟨_, rfl, ?_⟩; have HO212 := AM (Kd.S_lower (Kd.S_new' (Kd.S_new' ho0 (Kd.S_lt (by (with_reducible repeat (first | apply Kd.S_alloc | apply Kd.S_drewN | apply Kd.S_drew)); exact HO204.out))) (Kd.S_lt (by (with_reducible repeat (first | apply Kd.S_alloc | apply Kd.S_drewN | apply Kd.S_drew)); exact HO208.out))) (below_size bel_)); replace HO204 := AM (Kd.S_elder' (by (with_reducible repeat (first | apply Kd.S_alloc | apply Kd.S_drewN | apply Kd.S_drew)); exact HO204.out) (Kd.S_base ho0) hb); replace HO208 := AM (Kd.S_elder' (by (with_reducible repeat (first | apply Kd.S_alloc | apply Kd.S_drewN | apply Kd.S_drew)); exact HO208.out) (Kd.S_base ho0) hb); replace HB := AM (below_step bel_ hb); (try clear hb); (try clear hb2); (try clear hk); (try clear hi); (try clear ho0); obtain ⟨Ao21, co21, eo21⟩ := Kd.S_slice HO212.out; subst eo21) | ((with_reducible refine gate_callee (f := 16) rfl ?_); refine gl_ (some 25) Try.func16 #[.slice Ao18 t206.length co18, .slice Ao21 t210.length co21] ?_; (with_reducible refine (laws_eqNodeS.calls k _ _ t206 _ _ t210 true _ ?side1 ?side2 ?side3 ?side4 A11.out).mono ?_); (case side1 => repeat (first | exact (Kd.S_reads' HO208.out).2.2 | (with_reducible refine Kd.C_alloc ?_ _) | (with_reducible refine Kd.C_drewN ?_ _) | (with_reducible refine Kd.C_drew ?_))); (case side2 => exact (Kd.S_reads' HO208.out).2.1); (case side3 => repeat (first | exact (Kd.S_reads' HO212.out).2.2 | (with_reducible refine Kd.C_alloc ?_ _) | (with_reducible refine Kd.C_drewN ?_ _) | (with_reducible refine Kd.C_drew ?_))); (case side4 => exact (Kd.S_reads' HO212.out).2.1); rintro e w22 ⟨rfl, hb⟩; refine ⟨_, rfl, ?_⟩; replace HO204 := AM (Kd.S_below (by (with_reducible repeat (first | apply Kd.S_alloc | apply Kd.S_drewN | apply Kd.S_drew)); exact HO204.out) hb); replace HO208 := AM (Kd.S_below (by (with_reducible repeat (first | apply Kd.S_alloc | apply Kd.S_drewN | apply Kd.S_drew)); exact HO208.out) hb); replace HO212 := AM (Kd.S_below (by (with_reducible repeat (first | apply Kd.S_alloc | apply Kd.S_drewN | apply Kd.S_drew)); exact HO212.out) hb); replace HB := AM (below_step bel_ hb); (try clear hb); (try clear hb2); (try clear hk); (try clear hi)))
        go_ret
        exact ⟨ri_, bel_⟩
      · replace c12 := Bool.eq_false_iff.mpr c12
        subst c12
        rw [if_neg (show ¬ (false = true) by decide)] at H
        obtain rfl := Option.some.inj H
        go_enter Try.func4, Try.ntmps4
        go_wp2_with (first | ((with_reducible refine gate_callee (f := 12) rfl ?_); refine gl_ (some 9) Try.func12 #[.slice A0 l0.length c0, .int .i64 1048576] ?_; (with_reducible refine (laws_szNodeS.calls k _ _ l0 1048576 t201 _ ?side1 ?side2 A2.out).mono ?_); (case side1 => repeat (first | exact HR0.out | (with_reducible refine Kd.C_alloc ?_ _) | (with_reducible refine Kd.C_drewN ?_ _) | (with_reducible refine Kd.C_drew ?_))); (case side2 => exact HC0.out); rintro e w23 ⟨rfl, hb⟩; refine ⟨_, rfl, ?_⟩; replace HB := AM (below_step bel_ hb); (try clear hb); (try clear hb2); (try clear hk); (try clear hi)) | ((with_reducible refine gate_callee (f := 14) rfl ?_); refine gl_ (some 13) Try.func14 #[.slice A0 l0.length c0] ?_; (with_reducible refine (laws_toNodeS.calls k _ _ l0 t202 _ ?side1 ?side2 A5.out).mono ?_); (case side1 => repeat (first | exact (Kd.C_below HR0.out HB.out) | (with_reducible refine Kd.C_alloc ?_ _) | (with_reducible refine Kd.C_drewN ?_ _) | (with_reducible refine Kd.C_drew ?_))); (case side2 => exact HC0.out); rintro e w24 ⟨v203, rfl, ho0, hb⟩; refine ⟨_, rfl, ?_⟩; have HO204 := AM (Kd.S_lower ho0 (below_size bel_)); replace HB := AM (below_step bel_ hb); (try clear hb); (try clear hb2); (try clear hk); (try clear hi); (try clear ho0); obtain ⟨Ao25, co25, eo25⟩ := Kd.S_slice HO204.out; subst eo25) | ((with_reducible refine gate_callee (f := 13) rfl ?_); refine gl_ (some 14) Try.func13 #[.slice Ao25 t202.length co25] ?_; (with_reducible refine (spec_NodesBytes.calls k _ _ t202 t205 _ ?side1 ?side2 A6.out).mono ?_); (case side1 => repeat (first | exact (Kd.S_reads' HO204.out).2.2 | (with_reducible refine Kd.C_alloc ?_ _) | (with_reducible refine Kd.C_drewN ?_ _) | (with_reducible refine Kd.C_drew ?_))); (case side2 => exact (Kd.S_reads' HO204.out).2.1); rintro e w26 ⟨rfl, hb⟩; refine ⟨_, rfl, ?_⟩; replace HO204 := AM (Kd.S_below (by (with_reducible repeat (first | apply Kd.S_alloc | apply Kd.S_drewN | apply Kd.S_drew)); exact HO204.out) hb); replace HB := AM (below_step bel_ hb); (try clear hb); (try clear hb2); (try clear hk); (try clear hi)) | ((with_reducible refine gate_callee (f := 14) rfl ?_); refine gl_ (some 16) Try.func14 #[.slice A0 l0.length c0] ?_; (with_reducible refine (laws_toNodeS.calls k _ _ l0 t206 _ ?side1 ?side2 A7.out).mono ?_); (case side1 => repeat (first | exact (Kd.C_below HR0.out HB.out) | (with_reducible refine Kd.C_alloc ?_ _) | (with_reducible refine Kd.C_drewN ?_ _) | (with_reducible refine Kd.C_drew ?_))); (case side2 => exact HC0.out); rintro e w27 ⟨v207, rfl, ho0, hb⟩; refine ⟨_, rfl, ?_⟩; have HO208 := AM (Kd.S_lower (Kd.S_new' ho0 (Kd.S_lt (by (with_reducible repeat (first | apply Kd.S_alloc | apply Kd.S_drewN | apply Kd.S_drew)); exact HO204.out))) (below_size bel_)); replace HO204 := AM (Kd.S_elder' (by (with_reducible repeat (first | apply Kd.S_alloc | apply Kd.S_drewN | apply Kd.S_drew)); exact HO204.out) (Kd.S_base ho0) hb); replace HB := AM (below_step bel_ hb); (try clear hb); (try clear hb2); (try clear hk); (try clear hi); (try clear ho0); obtain ⟨Ao28, co28, eo28⟩ := Kd.S_slice HO208.out; subst eo28) | ((with_reducible refine gate_callee (f := 15) rfl ?_); refine gl_ (some 18) Try.func15 #[.slice Ao28 t206.length co28] ?_; (with_reducible refine (impl_NodesBytes.calls k _ _ t206 t209 _ ?side1 ?side2 A8.out).mono ?_); (case side1 => repeat (first | exact (Kd.S_reads' HO208.out).2.2 | (with_reducible refine Kd.C_alloc ?_ _) | (with_reducible refine Kd.C_drewN ?_ _) | (with_reducible refine Kd.C_drew ?_))); (case side2 => exact (Kd.S_reads' HO208.out).2.1); rintro e w29 ⟨rfl, hb⟩; refine ⟨_, rfl, ?_⟩; replace HO204 := AM (Kd.S_below (by (with_reducible repeat (first | apply Kd.S_alloc | apply Kd.S_drewN | apply Kd.S_drew)); exact HO204.out) hb); replace HO208 := AM (Kd.S_below (by (with_reducible repeat (first | apply Kd.S_alloc | apply Kd.S_drewN | apply Kd.S_drew)); exact HO208.out) hb); replace HB := AM (below_step bel_ hb); (try clear hb); (try clear hb2); (try clear hk); (try clear hi)) | ((with_reducible refine gate_callee (f := 14) rfl ?_); refine gl_ (some 24) Try.func14 #[.slice A0 l0.length c0] ?_; (with_reducible refine (laws_toNodeS.calls k _ _ l0 t210 _ ?side1 ?side2 A10.out).mono ?_); (case side1 => repeat (first | exact (Kd.C_below HR0.out HB.out) | (with_reducible refine Kd.C_alloc ?_ _) | (with_reducible refine Kd.C_drewN ?_ _) | (with_reducible refine Kd.C_drew ?_))); (case side2 => exact HC0.out); rintro e w30 ⟨v211, rfl, ho0, hb⟩; refine ⟨_, rfl, ?_⟩; have HO212 := AM (Kd.S_lower (Kd.S_new' (Kd.S_new' ho0 (Kd.S_lt (by (with_reducible repeat (first | apply Kd.S_alloc | apply Kd.S_drewN | apply Kd.S_drew)); exact HO204.out))) (Kd.S_lt (by (with_reducible repeat (first | apply Kd.S_alloc | apply Kd.S_drewN | apply Kd.S_drew)); exact HO208.out))) (below_size bel_)); replace HO204 := AM (Kd.S_elder' (by (with_reducible repeat (first | apply Kd.S_alloc | apply Kd.S_drewN | apply Kd.S_drew)); exact HO204.out) (Kd.S_base ho0) hb); replace HO208 := AM (Kd.S_elder' (by (with_reducible repeat (first | apply Kd.S_alloc | apply Kd.S_drewN | apply Kd.S_drew)); exact HO208.out) (Kd.S_base ho0) hb); replace HB := AM (below_step bel_ hb); (try clear hb); (try clear hb2); (try clear hk); (try clear hi); (try clear ho0); obtain ⟨Ao31, co31, eo31⟩ := Kd.S_slice HO212.out; subst eo31) | ((with_reducible refine gate_callee (f := 16) rfl ?_); refine gl_ (some 25) Try.func16 #[.slice Ao28 t206.length co28, .slice Ao31 t210.length co31] ?_; (with_reducible refine (laws_eqNodeS.calls k _ _ t206 _ _ t210 false _ ?side1 ?side2 ?side3 ?side4 A11.out).mono ?_); (case side1 => repeat (first | exact (Kd.S_reads' HO208.out).2.2 | (with_reducible refine Kd.C_alloc ?_ _) | (with_reducible refine Kd.C_drewN ?_ _) | (with_reducible refine Kd.C_drew ?_))); (case side2 => exact (Kd.S_reads' HO208.out).2.1); (case side3 => repeat (first | exact (Kd.S_reads' HO212.out).2.2 | (with_reducible refine Kd.C_alloc ?_ _) | (with_reducible refine Kd.C_drewN ?_ _) | (with_reducible refine Kd.C_drew ?_))); (case side4 => exact (Kd.S_reads' HO212.out).2.1); rintro e w32 ⟨rfl, hb⟩; refine ⟨_, rfl, ?_⟩; replace HO204 := AM (Kd.S_below (by (with_reducible repeat (first | apply Kd.S_alloc | apply Kd.S_drewN | apply Kd.S_drew)); exact HO204.out) hb); replace HO208 := AM (Kd.S_below (by (with_reducible repeat (first | apply Kd.S_alloc | apply Kd.S_drewN | apply Kd.S_drew)); exact HO208.out) hb); replace HO212 := AM (Kd.S_below (by (with_reducible repeat (first | apply Kd.S_alloc | apply Kd.S_drewN | apply Kd.S_drew)); exact HO212.out) hb); replace HB := AM (below_step bel_ hb); (try clear hb); (try clear hb2); (try clear hk); (try clear hi)))
        go_ret
        exact ⟨ri_, bel_⟩
    · rw [if_neg c9] at H
      have c9b0 : (t209.toList == t205.toList) = false := beq_eq_false_iff_ne.mpr c9
      have c9b1 : (t209.toList != t205.toList) = true := bne_iff_ne.mpr c9
      obtain rfl := Option.some.inj H
      go_enter Try.func4, Try.ntmps4
      go_wp2_with (first | ((with_reducible refine gate_callee (f := 12) rfl ?_); refine gl_ (some 9) Try.func12 #[.slice A0 l0.length c0, .int .i64 1048576] ?_; (with_reducible refine (laws_szNodeS.calls k _ _ l0 1048576 t201 _ ?side1 ?side2 A2.out).mono ?_); (case side1 => repeat (first | exact HR0.out | (with_reducible refine Kd.C_alloc ?_ _) | (with_reducible refine Kd.C_drewN ?_ _) | (with_reducible refine Kd.C_drew ?_))); (case side2 => exact HC0.out); rintro e w33 ⟨rfl, hb⟩; refine ⟨_, rfl, ?_⟩; replace HB := AM (below_step bel_ hb); (try clear hb); (try clear hb2); (try clear hk); (try clear hi)) | ((with_reducible refine gate_callee (f := 14) rfl ?_); refine gl_ (some 13) Try.func14 #[.slice A0 l0.length c0] ?_; (with_reducible refine (laws_toNodeS.calls k _ _ l0 t202 _ ?side1 ?side2 A5.out).mono ?_); (case side1 => repeat (first | exact (Kd.C_below HR0.out HB.out) | (with_reducible refine Kd.C_alloc ?_ _) | (with_reducible refine Kd.C_drewN ?_ _) | (with_reducible refine Kd.C_drew ?_))); (case side2 => exact HC0.out); rintro e w34 ⟨v203, rfl, ho0, hb⟩; refine ⟨_, rfl, ?_⟩; have HO204 := AM (Kd.S_lower ho0 (below_size bel_)); replace HB := AM (below_step bel_ hb); (try clear hb); (try clear hb2); (try clear hk); (try clear hi); (try clear ho0); obtain ⟨Ao35, co35, eo35⟩ := Kd.S_slice HO204.out; subst eo35) | ((with_reducible refine gate_callee (f := 13) rfl ?_); refine gl_ (some 14) Try.func13 #[.slice Ao35 t202.length co35] ?_; (with_reducible refine (spec_NodesBytes.calls k _ _ t202 t205 _ ?side1 ?side2 A6.out).mono ?_); (case side1 => repeat (first | exact (Kd.S_reads' HO204.out).2.2 | (with_reducible refine Kd.C_alloc ?_ _) | (with_reducible refine Kd.C_drewN ?_ _) | (with_reducible refine Kd.C_drew ?_))); (case side2 => exact (Kd.S_reads' HO204.out).2.1); rintro e w36 ⟨rfl, hb⟩; refine ⟨_, rfl, ?_⟩; replace HO204 := AM (Kd.S_below (by (with_reducible repeat (first | apply Kd.S_alloc | apply Kd.S_drewN | apply Kd.S_drew)); exact HO204.out) hb); replace HB := AM (below_step bel_ hb); (try clear hb); (try clear hb2); (try clear hk); (try clear hi)) | ((with_reducible refine gate_callee (f := 14) rfl ?_); refine gl_ (some 16) Try.func14 #[.slice A0 l0.length c0] ?_; (with_reducible refine (laws_toNodeS.calls k _ _ l0 t206 _ ?side1 ?side2 A7.out).mono ?_); (case side1 => repeat (first | exact (Kd.C_below HR0.out HB.out) | (with_reducible refine Kd.C_alloc ?_ _) | (with_reducible refine Kd.C_drewN ?_ _) | (with_reducible refine Kd.C_drew ?_))); (case side2 => exact HC0.out); rintro e w37 ⟨v207, rfl, ho0, hb⟩; refine ⟨_, rfl, ?_⟩; have HO208 := AM (Kd.S_lower (Kd.S_new' ho0 (Kd.S_lt (by (with_reducible repeat (first | apply Kd.S_alloc | apply Kd.S_drewN | apply Kd.S_drew)); exact HO204.out))) (below_size bel_)); replace HO204 := AM (Kd.S_elder' (by (with_reducible repeat (first | apply Kd.S_alloc | apply Kd.S_drewN | apply Kd.S_drew)); exact HO204.out) (Kd.S_base ho0) hb); replace HB := AM (below_step bel_ hb); (try clear hb); (try clear hb2); (try clear hk); (try clear hi); (try clear ho0); obtain ⟨Ao38, co38, eo38⟩ := Kd.S_slice HO208.out; subst eo38) | ((with_reducible refine gate_callee (f := 15) rfl ?_); refine gl_ (some 18) Try.func15 #[.slice Ao38 t206.length co38] ?_; (with_reducible refine (impl_NodesBytes.calls k _ _ t206 t209 _ ?side1 ?side2 A8.out).mono ?_); (case side1 => repeat (first | exact (Kd.S_reads' HO208.out).2.2 | (with_reducible refine Kd.C_alloc ?_ _) | (with_reducible refine Kd.C_drewN ?_ _) | (with_reducible refine Kd.C_drew ?_))); (case side2 => exact (Kd.S_reads' HO208.out).2.1); rintro e w39 ⟨rfl, hb⟩; refine ⟨_, rfl, ?_⟩; replace HO204 := AM (Kd.S_below (by (with_reducible repeat (first | apply Kd.S_alloc | apply Kd.S_drewN | apply Kd.S_drew)); exact HO204.out) hb); replace HO208 := AM (Kd.S_below (by (with_reducible repeat (first | apply Kd.S_alloc | apply Kd.S_drewN | apply Kd.S_drew)); exact HO208.out) hb); replace HB := AM (below_step bel_ hb); (try clear hb); (try clear hb2); (try clear hk); (try clear hi)))
      go_ret
      exact ⟨ri_, bel_⟩

end Go.Proofs.Ytddapeieolfolaa.PFnExactNodesBytes
