-- A program of this session wrote this text: a changed copy of the kit print, with given functions.
import Derived.Test.YtggbpjfgfenpdaaPFnExactNodesReadx0
import Derived.Test.YtggbpjfgfenpdaaPFnExactNodesReadx10
import Derived.Test.YtggbpjfgfenpdaaPFnExactNodesReadx17
namespace Go.Proofs.Ytggbpjfgfenpdaa.PFnExactNodesRead
open Go.RowKit Go.Proofs.YtggbpjfgfenpdaaW.PrintWords Go.Proofs.YtggbpjfgfenpdaaW.PrintLast Go.Proofs.YtggbpjfgfenpdaaW.PrintMore Go.Proofs.Ytggbpjfgfenpdaa.Aut
attribute [local go_sem] max2_int min2_int max_two min_two max_three min_three max_four min_four   -- for this text's walks alone
set_option linter.unusedVariables false
set_option linter.unusedSimpArgs false

/-! ### impl_NodesRead: function 20 -/
def impl_NodesRead.f (k : Nat) (a0 : ByteArray) : Option ((List (S74)) × Int) := (impl_isLong.f a0).bind fun t242 => (if t242 = true then (some (([] : List (S74)), 2)) else ((impl_readNodes.f k a0).bind fun bt243 => (if bt243.2 = true then (some (bt243.1, 0)) else (some (([] : List (S74)), 3)))))
theorem impl_NodesRead.mono : ∀ a0 k, LeO (impl_NodesRead.f k a0) (impl_NodesRead.f (k + 1) a0) := by
  intro a0 k
  unfold impl_NodesRead.f
  repeat' first
      | (with_reducible exact impl_readNodes.mono _ _)
      | (with_reducible exact LeO.refl _)
      | (with_reducible exact LeO.none _)
      | (with_reducible refine LeO.ite ?_ ?_)
      | (with_reducible refine LeO.bind ?_ (fun _ => ?_))
      | exact impl_readNodes.mono _ _
      | exact LeO.none _
      | refine LeO.ite ?_ ?_
      | refine LeO.bind ?_ (fun _ => ?_)
set_option maxHeartbeats 8000000 in
set_option maxRecDepth 100000 in
theorem impl_NodesRead.calls (k : Nat) (a0 : ByteArray) (r1 : List (S74)) (r2 : Int) (w : World) (h : impl_NodesRead.f k a0 = some (r1, r2)) :
    Calls Try.prog 20 #[.string a0] w fun e w' => ∃ v0_ : Value, e = .returned (.agg #[v0_, .int .i64 r2]) ∧ Kd.S k74 74 w' w.heap.size (fun _ => True) v0_ r1 ∧ Below w.heap.size w w' := by
  have hu37 := Try.underlying37
  have HB := AM (Below.refl w.heap.size w)
  have H : ((impl_isLong.f a0).bind fun t242 => (if t242 = true then (some (([] : List (S74)), 2)) else ((impl_readNodes.f k a0).bind fun bt243 => (if bt243.2 = true then (some (bt243.1, 0)) else (some (([] : List (S74)), 3)))))) = some (r1, r2) := h
  clear h
  obtain ⟨t242, A2, H⟩ := OB H
  try dsimp only at H
  replace A2 := AM A2
  by_cases c3 : t242 = true
  · subst c3
    rw [if_pos rfl] at H
    simp only [Option.some.injEq, Prod.mk.injEq] at H
    obtain ⟨rfl, rfl⟩ := H
    go_enter Try.func20, Try.ntmps20
    go_wp2_with (first | ((with_reducible refine gate_dst (N := 2) rfl ?_); refine be_ 2 #[.slice none 0 0, .int .i64 0] 37 ?_; intro gb241 hg w4 hbox hb; have BK241 := AM hbox; have GW241 := AM ((by rw [hg]; exact (below_size bel_) : w.heap.size ≤ gb241)); have GE241 := AM ((by rw [hg]; exact (below_size bel_) : w.heap.size ≤ gb241)); replace HB := AM (below_step bel_ hb); clear hb hbox hg) | ((with_reducible refine gate_callee (f := 56) rfl ?_); refine gl_ (some 6) Try.func56 #[.string a0] ?_; (with_reducible refine (impl_isLong.calls a0 true _ A2.out).mono ?_); rintro e w' ⟨rfl, ⟨nd, rfl⟩⟩; refine ⟨_, rfl, ?_⟩; (try (rw [drewN_self w4]; generalize hq_ : World.drewN w4 _ = w4; replace BK241 : Aside0 (w4.heap[gb241]? = some (.cells #[.slice none 0 0, .int .i64 0] 37 (0, 0))) := ⟨by rw [← hq_]; exact (bk_ BK241.out)⟩; replace HB : Aside0 (Below w.heap.size w w4) := ⟨by rw [← hq_]; exact bel_⟩; clear hq_)); have hcz5_0 : w4.cell? ⟨gb241, 0, none⟩ = some (.slice none 0 0) := (blk_cell BK241.out 0).trans rfl; have hcz5_1 : w4.cell? ⟨gb241, 1, none⟩ = some (.int .i64 0) := (blk_cell BK241.out 1).trans rfl; have hfz5_0 := blk_frozen BK241.out 0; have hfz5_1 := blk_frozen BK241.out 1))
    refine bodyPost_ret (results_cell_row rfl _ _ gb241 37 #[.slice none 0 0, .int .i64 2] (0, 0) _ rfl bka_ Try.underlying37 rfl (by kernel_rfl)) rfl ?_
    exact ⟨_, ri_, by first | exact Kd.S_nil _ _ _ _ _ | exact Kd.N_nil _ _ _ _ _ | exact Kd.V_nil _ _ _ _ _ | exact Kd.Q_nil _ _ _ _ _ | exact Kd.R_nil _ _ _ _ _, bel_⟩
  · replace c3 := Bool.eq_false_iff.mpr c3
    subst c3
    rw [if_neg (show ¬ (false = true) by decide)] at H
    obtain ⟨⟨t243, t244⟩, A6, H⟩ := OB H
    try dsimp only at H
    replace A6 := AM A6
    by_cases c7 : t244 = true
    · subst c7
      rw [if_pos rfl] at H
      simp only [Option.some.injEq, Prod.mk.injEq] at H
      obtain ⟨rfl, rfl⟩ := H
      go_enter Try.func20, Try.ntmps20
      go_wp2_with (first | ((with_reducible refine gate_dst (N := 2) rfl ?_); refine be_ 2 #[.slice none 0 0, .int .i64 0] 37 ?_; intro gb241 hg w8 hbox hb; have BK241 := AM hbox; have GW241 := AM ((by rw [hg]; exact (below_size bel_) : w.heap.size ≤ gb241)); have GE241 := AM ((by rw [hg]; exact (below_size bel_) : w.heap.size ≤ gb241)); replace HB := AM (below_step bel_ hb); clear hb hbox hg) | ((with_reducible refine gate_callee (f := 56) rfl ?_); refine gl_ (some 6) Try.func56 #[.string a0] ?_; (with_reducible refine (impl_isLong.calls a0 false _ A2.out).mono ?_); rintro e w' ⟨rfl, ⟨nd, rfl⟩⟩; refine ⟨_, rfl, ?_⟩; (try (rw [drewN_self w8]; generalize hq_ : World.drewN w8 _ = w8; replace BK241 : Aside0 (w8.heap[gb241]? = some (.cells #[.slice none 0 0, .int .i64 0] 37 (0, 0))) := ⟨by rw [← hq_]; exact (bk_ BK241.out)⟩; replace HB : Aside0 (Below w.heap.size w w8) := ⟨by rw [← hq_]; exact bel_⟩; clear hq_))) | ((with_reducible refine gate_callee (f := 57) rfl ?_); refine gl_ (some 10) Try.func57 #[.string a0] ?_; (with_reducible refine (impl_readNodes.calls k a0 t243 true _ A6.out).mono ?_); rintro e w9 ⟨v245, rfl, ho0, hb⟩; refine ⟨_, rfl, ?_⟩; have HO246 := AM (Kd.S_lower ho0 (below_size bel_)); replace BK241 := AM (blk_below (g := gb241) (o := .cells #[.slice none 0 0, .int .i64 0] 37 (0, 0)) (bk_ BK241.out) hb); replace HB := AM (below_step bel_ hb); (try clear hb); (try clear hb2); (try clear hk); (try clear hi); (try clear ho0); obtain ⟨Ao10, co10, eo10⟩ := Kd.S_slice HO246.out; subst eo10; have hcz11_0 : w9.cell? ⟨gb241, 0, none⟩ = some (.slice none 0 0) := (blk_cell BK241.out 0).trans rfl; have hcz11_1 : w9.cell? ⟨gb241, 1, none⟩ = some (.int .i64 0) := (blk_cell BK241.out 1).trans rfl; have hfz11_0 := blk_frozen BK241.out 0; have hfz11_1 := blk_frozen BK241.out 1))
      refine bodyPost_ret (results_cell_row rfl _ _ gb241 37 #[.slice Ao10 t243.length co10, .int .i64 0] (0, 0) _ rfl bka_ Try.underlying37 rfl (by kernel_rfl)) rfl ?_
      exact ⟨_, ri_, by (with_reducible repeat (first | apply Kd.S_alloc | apply Kd.S_drewN | apply Kd.S_drew)); exact Kd.S_mono (Kd.S_far (p := ⟨gb241, 1, none⟩) (Kd.S_far (p := ⟨gb241, 0, none⟩) (Kd.S_types HO246.out BK241.out (by decide)) (fun _ hk => hk.2) (.slice Ao10 t243.length co10)) (fun _ hk => hk.2) (.int .i64 0)) (fun _ hk => trivial), bel_⟩
    · replace c7 := Bool.eq_false_iff.mpr c7
      subst c7
      rw [if_neg (show ¬ (false = true) by decide)] at H
      simp only [Option.some.injEq, Prod.mk.injEq] at H
      obtain ⟨rfl, rfl⟩ := H
      go_enter Try.func20, Try.ntmps20
      go_wp2_with (first | ((with_reducible refine gate_dst (N := 2) rfl ?_); refine be_ 2 #[.slice none 0 0, .int .i64 0] 37 ?_; intro gb241 hg w12 hbox hb; have BK241 := AM hbox; have GW241 := AM ((by rw [hg]; exact (below_size bel_) : w.heap.size ≤ gb241)); have GE241 := AM ((by rw [hg]; exact (below_size bel_) : w.heap.size ≤ gb241)); replace HB := AM (below_step bel_ hb); clear hb hbox hg) | ((with_reducible refine gate_callee (f := 56) rfl ?_); refine gl_ (some 6) Try.func56 #[.string a0] ?_; (with_reducible refine (impl_isLong.calls a0 false _ A2.out).mono ?_); rintro e w' ⟨rfl, ⟨nd, rfl⟩⟩; refine ⟨_, rfl, ?_⟩; (try (rw [drewN_self w12]; generalize hq_ : World.drewN w12 _ = w12; replace BK241 : Aside0 (w12.heap[gb241]? = some (.cells #[.slice none 0 0, .int .i64 0] 37 (0, 0))) := ⟨by rw [← hq_]; exact (bk_ BK241.out)⟩; replace HB : Aside0 (Below w.heap.size w w12) := ⟨by rw [← hq_]; exact bel_⟩; clear hq_))) | ((with_reducible refine gate_callee (f := 57) rfl ?_); refine gl_ (some 10) Try.func57 #[.string a0] ?_; (with_reducible refine (impl_readNodes.calls k a0 t243 false _ A6.out).mono ?_); rintro e w13 ⟨v245, rfl, ho0, hb⟩; refine ⟨_, rfl, ?_⟩; have HO246 := AM (Kd.S_lower ho0 (below_size bel_)); replace BK241 := AM (blk_below (g := gb241) (o := .cells #[.slice none 0 0, .int .i64 0] 37 (0, 0)) (bk_ BK241.out) hb); replace HB := AM (below_step bel_ hb); (try clear hb); (try clear hb2); (try clear hk); (try clear hi); (try clear ho0); have hcz14_0 : w13.cell? ⟨gb241, 0, none⟩ = some (.slice none 0 0) := (blk_cell BK241.out 0).trans rfl; have hcz14_1 : w13.cell? ⟨gb241, 1, none⟩ = some (.int .i64 0) := (blk_cell BK241.out 1).trans rfl; have hfz14_0 := blk_frozen BK241.out 0; have hfz14_1 := blk_frozen BK241.out 1))
      refine bodyPost_ret (results_cell_row rfl _ _ gb241 37 #[.slice none 0 0, .int .i64 3] (0, 0) _ rfl bka_ Try.underlying37 rfl (by kernel_rfl)) rfl ?_
      exact ⟨_, ri_, by first | exact Kd.S_nil _ _ _ _ _ | exact Kd.N_nil _ _ _ _ _ | exact Kd.V_nil _ _ _ _ _ | exact Kd.Q_nil _ _ _ _ _ | exact Kd.R_nil _ _ _ _ _, bel_⟩

/-! ### laws_eqStringS: function 104 -/
def laws_eqStringS.l0 : Nat → List ByteArray → List ByteArray → Int → Option (Bool)
  | 0, _, _, _ => none
  | k + 1, x0, x1, x5 => if x5 < (x0.length : Int) then (if 0 ≤ x5 then (if x5 < (x1.length : Int) then (if (rdOf ByteArray.empty x0 x5).toList = (rdOf ByteArray.empty x1 x5).toList then (laws_eqStringS.l0 k x0 x1 (wrap64 (x5 + 1))) else (some false)) else (none)) else (none)) else (some true)
def laws_eqStringS.f (k : Nat) (l0 : List ByteArray) (l1 : List ByteArray) : Option (Bool) := if (l0.length : Int) = (l1.length : Int) then (laws_eqStringS.l0 k l0 l1 0) else (some false)
theorem laws_eqStringS.mono_l : ∀ k, (∀ y0 y1 y2, LeO (laws_eqStringS.l0 k y0 y1 y2) (laws_eqStringS.l0 (k + 1) y0 y1 y2))
  | 0 => fun _ _ _ r h => by simp [laws_eqStringS.l0] at h
  | k + 1 => by
    have ih0 := laws_eqStringS.mono_l k
    · intro y0 y1 y2
      unfold laws_eqStringS.l0
      repeat' first
      | (with_reducible exact ih0 _ _ _)
      | (with_reducible exact LeO.refl _)
      | (with_reducible exact LeO.none _)
      | (with_reducible refine LeO.ite ?_ ?_)
      | (with_reducible refine LeO.bind ?_ (fun _ => ?_))
      | exact ih0 _ _ _
      | exact LeO.none _
      | refine LeO.ite ?_ ?_
      | refine LeO.bind ?_ (fun _ => ?_)
theorem laws_eqStringS.mono : ∀ a0 a1 k, LeO (laws_eqStringS.f k a0 a1) (laws_eqStringS.f (k + 1) a0 a1) := by
  intro a0 a1 k
  have ih0 := laws_eqStringS.mono_l k
  unfold laws_eqStringS.f
  repeat' first
      | (with_reducible exact ih0 _ _ _)
      | (with_reducible exact LeO.refl _)
      | (with_reducible exact LeO.none _)
      | (with_reducible refine LeO.ite ?_ ?_)
      | (with_reducible refine LeO.bind ?_ (fun _ => ?_))
      | exact ih0 _ _ _
      | exact LeO.none _
      | refine LeO.ite ?_ ?_
      | refine LeO.bind ?_ (fun _ => ?_)
set_option maxHeartbeats 8000000 in
set_option maxRecDepth 100000 in
theorem laws_eqStringS.calls (k : Nat) (A0 : Option Addr) (c0 : Nat) (l0 : List ByteArray) (A1 : Option Addr) (c1 : Nat) (l1 : List ByteArray) (r : Bool) (w : World) (hr0 : Kd.C Kd.string w A0 l0.length l0) (hc0 : l0.length ≤ c0) (hr1 : Kd.C Kd.string w A1 l1.length l1) (hc1 : l1.length ≤ c1) (h : laws_eqStringS.f k l0 l1 = some r) :
    Calls Try.prog 104 #[.slice A0 l0.length c0, .slice A1 l1.length c1] w fun e w' => e = .returned (.bool r) ∧ Drawn0 w w' := by
  have HR0 := AM hr0
  have HC0 := AM hc0
  clear hr0 hc0
  have HR1 := AM hr1
  have HC1 := AM hc1
  clear hr1 hc1
  have H : (if (l0.length : Int) = (l1.length : Int) then (laws_eqStringS.l0 k l0 l1 0) else (some false)) = some r := h
  clear h
  by_cases c3 : (l0.length : Int) = (l1.length : Int)
  · rw [if_pos c3] at H
    have c3b0 : ((l0.length : Int) == (l1.length : Int)) = true := beq_iff_eq.mpr c3
    have c3b1 : ((l0.length : Int) != (l1.length : Int)) = false := bne_eq_false_iff_eq.mpr c3
    have c3b2 : (l0.length == l1.length) = true := by first | simpa using c3 | (simp at c3 ⊢; omega)
    clear c3
    have H' := AM H
    clear H
    go_enter Try.func104, Try.ntmps104
    go_wp2
    repeat (go_quiet (fail); try go_wp2)
    go_loopg [5] k (fun kq v5 w' => ∃ (x5_1 : Int), v5 = .int .i64 x5_1 ∧ Aside0 (laws_eqStringS.l0 kq l0 l1 x5_1 = some r) ∧ Aside0 (kq ≤ k) ∧ Drawn0 w w')
    case atStart => exact ⟨(0), (by first | rfl | (simp; done) | (simp [*]; done)), H', ⟨Nat.le_refl _⟩, by repeat (first | exact Drawn0.refl _ | apply Drawn0.step)⟩
    case round =>
      clear H'
      try clear c1
      try clear p2
      try clear c3
      try clear c3b0
      try clear c3b1
      try clear c3b2
      obtain ⟨x5_1, rfl, HA, HK1, ⟨m1, rfl⟩⟩ := hrel
      cases gk with
      | zero => exact absurd HA.out (by simp [laws_eqStringS.l0])
      | succ k1 =>
        have H := HA.out
        clear HA
        simp only [laws_eqStringS.l0] at H
        by_cases c4 : x5_1 < (l0.length : Int)
        · rw [if_pos c4] at H
          have c4b0 : decide (x5_1 < (l0.length : Int)) = true := decide_eq_true c4
          clear c4
          by_cases c5 : 0 ≤ x5_1
          · rw [if_pos c5] at H
            have c5b0 : decide (0 ≤ x5_1) = true := decide_eq_true c5
            clear c5
            by_cases c6 : x5_1 < (l1.length : Int)
            · rw [if_pos c6] at H
              have c6b0 : decide (x5_1 < (l1.length : Int)) = true := decide_eq_true c6
              clear c6
              by_cases c7 : (rdOf ByteArray.empty l0 x5_1).toList = (rdOf ByteArray.empty l1 x5_1).toList
              · rw [if_pos c7] at H
                have c7b0 : ((rdOf ByteArray.empty l0 x5_1).toList == (rdOf ByteArray.empty l1 x5_1).toList) = true := beq_iff_eq.mpr c7
                have c7b1 : ((rdOf ByteArray.empty l0 x5_1).toList != (rdOf ByteArray.empty l1 x5_1).toList) = false := bne_eq_false_iff_eq.mpr c7
                clear c7
                have H' := AM H
                clear H
                have p247 : 0 ≤ (x5_1 : Int) := of_decide_eq_true (by first | (with_reducible assumption) | assumption)
                have q247 : x5_1 < (l0.length : Int) := of_decide_eq_true (by first | (with_reducible assumption) | assumption)
                obtain ⟨ad247, e247, hx247_0⟩ := Kd.at_string HR0.out x5_1 p247 q247
                cases e247
                replace p247 := eq_true p247
                replace q247 := eq_true q247
                have p248 : 0 ≤ (x5_1 : Int) := of_decide_eq_true (by first | (with_reducible assumption) | assumption)
                have q248 : x5_1 < (l1.length : Int) := of_decide_eq_true (by first | (with_reducible assumption) | assumption)
                obtain ⟨ad248, e248, hx248_0⟩ := Kd.at_string HR1.out x5_1 p248 q248
                cases e248
                replace p248 := eq_true p248
                replace q248 := eq_true q248
                go_wp2
                repeat (go_quiet (fail); try go_wp2)
                go_roundg k1
                case measure => have := HK1.out; omega
                case rel => exact ⟨(wrap64 (x5_1 + 1)), (by first | rfl | (simp; done) | (simp [*]; done)), H', ⟨by have := HK1.out; omega⟩, by repeat (first | exact Drawn0.refl _ | apply Drawn0.step)⟩
              · rw [if_neg c7] at H
                have c7b0 : ((rdOf ByteArray.empty l0 x5_1).toList == (rdOf ByteArray.empty l1 x5_1).toList) = false := beq_eq_false_iff_ne.mpr c7
                have c7b1 : ((rdOf ByteArray.empty l0 x5_1).toList != (rdOf ByteArray.empty l1 x5_1).toList) = true := bne_iff_ne.mpr c7
                obtain rfl := Option.some.inj H
                have p247 : 0 ≤ (x5_1 : Int) := of_decide_eq_true (by first | (with_reducible assumption) | assumption)
                have q247 : x5_1 < (l0.length : Int) := of_decide_eq_true (by first | (with_reducible assumption) | assumption)
                obtain ⟨ad247, e247, hx247_0⟩ := Kd.at_string HR0.out x5_1 p247 q247
                cases e247
                replace p247 := eq_true p247
                replace q247 := eq_true q247
                have p248 : 0 ≤ (x5_1 : Int) := of_decide_eq_true (by first | (with_reducible assumption) | assumption)
                have q248 : x5_1 < (l1.length : Int) := of_decide_eq_true (by first | (with_reducible assumption) | assumption)
                obtain ⟨ad248, e248, hx248_0⟩ := Kd.at_string HR1.out x5_1 p248 q248
                cases e248
                replace p248 := eq_true p248
                replace q248 := eq_true q248
                go_wp2
                repeat (go_quiet (fail); try go_wp2)
                go_ret
                exact ⟨by first | rfl | (simp; done) | (simp [*]; done), by repeat (first | exact Drawn0.refl _ | apply Drawn0.step)⟩
            · rw [if_neg c6] at H
              exact absurd H (by simp)
          · rw [if_neg c5] at H
            exact absurd H (by simp)
        · rw [if_neg c4] at H
          have c4b0 : decide (x5_1 < (l0.length : Int)) = false := decide_eq_false c4
          clear c4
          obtain rfl := Option.some.inj H
          go_wp2
          repeat (go_quiet (fail); try go_wp2)
          go_ret
          exact ⟨by first | rfl | (simp; done) | (simp [*]; done), by repeat (first | exact Drawn0.refl _ | apply Drawn0.step)⟩
  · rw [if_neg c3] at H
    have c3b0 : ((l0.length : Int) == (l1.length : Int)) = false := beq_eq_false_iff_ne.mpr c3
    have c3b1 : ((l0.length : Int) != (l1.length : Int)) = true := bne_iff_ne.mpr c3
    have c3b2 : (l0.length == l1.length) = false := by first | simpa using c3 | (simp at c3 ⊢; omega)
    obtain rfl := Option.some.inj H
    go_enter Try.func104, Try.ntmps104
    go_wp2
    repeat (go_quiet (fail); try go_wp2)
    go_ret
    exact ⟨by first | rfl | (simp; done) | (simp [*]; done), by repeat (first | exact Drawn0.refl _ | apply Drawn0.step)⟩

/-! ### laws_eqNode: function 54 -/
def laws_eqNode.f (k : Nat) (a0_0 : ByteArray) (a0_1 : Bool) (a0_2 : Int) (l0_3 : List ByteArray) (a1_0 : ByteArray) (a1_1 : Bool) (a1_2 : Int) (l1_3 : List ByteArray) : Option (Bool) := if a0_0.toList = a1_0.toList then (if (a0_1 != a1_1) = true then (some false) else (if a0_2 = a1_2 then ((laws_eqStringS.f k l0_3 l1_3).bind fun t251 => (if t251 = true then (some true) else (some false))) else (some false))) else (some false)
theorem laws_eqNode.mono : ∀ a0 a1 a2 a3 a4 a5 a6 a7 k, LeO (laws_eqNode.f k a0 a1 a2 a3 a4 a5 a6 a7) (laws_eqNode.f (k + 1) a0 a1 a2 a3 a4 a5 a6 a7) := by
  intro a0 a1 a2 a3 a4 a5 a6 a7 k
  unfold laws_eqNode.f
  repeat' first
      | (with_reducible exact laws_eqStringS.mono _ _ _)
      | (with_reducible exact LeO.refl _)
      | (with_reducible exact LeO.none _)
      | (with_reducible refine LeO.ite ?_ ?_)
      | (with_reducible refine LeO.bind ?_ (fun _ => ?_))
      | exact laws_eqStringS.mono _ _ _
      | exact LeO.none _
      | refine LeO.ite ?_ ?_
      | refine LeO.bind ?_ (fun _ => ?_)
set_option maxHeartbeats 8000000 in
set_option maxRecDepth 100000 in
theorem laws_eqNode.calls (k : Nat) (a0_0 : ByteArray) (a0_1 : Bool) (a0_2 : Int) (A0_3 : Option Addr) (c0_3 : Nat) (l0_3 : List ByteArray) (a1_0 : ByteArray) (a1_1 : Bool) (a1_2 : Int) (A1_3 : Option Addr) (c1_3 : Nat) (l1_3 : List ByteArray) (r : Bool) (w : World) (hr0_3 : Kd.C Kd.string w A0_3 l0_3.length l0_3) (hc0_3 : l0_3.length ≤ c0_3) (hr1_3 : Kd.C Kd.string w A1_3 l1_3.length l1_3) (hc1_3 : l1_3.length ≤ c1_3) (h : laws_eqNode.f k a0_0 a0_1 a0_2 l0_3 a1_0 a1_1 a1_2 l1_3 = some r) :
    Calls Try.prog 54 #[.agg #[.string a0_0, .bool a0_1, .int .i64 a0_2, .slice A0_3 l0_3.length c0_3], .agg #[.string a1_0, .bool a1_1, .int .i64 a1_2, .slice A1_3 l1_3.length c1_3]] w fun e w' => e = .returned (.bool r) ∧ Below w.heap.size w w' := by
  have hu74 := Try.underlying74
  have HR0_3 := AM hr0_3
  have HC0_3 := AM hc0_3
  clear hr0_3 hc0_3
  have HR1_3 := AM hr1_3
  have HC1_3 := AM hc1_3
  clear hr1_3 hc1_3
  have HB := AM (Below.refl w.heap.size w)
  have H : (if a0_0.toList = a1_0.toList then (if (a0_1 != a1_1) = true then (some false) else (if a0_2 = a1_2 then ((laws_eqStringS.f k l0_3 l1_3).bind fun t251 => (if t251 = true then (some true) else (some false))) else (some false))) else (some false)) = some r := h
  clear h
  by_cases c3 : a0_0.toList = a1_0.toList
  · rw [if_pos c3] at H
    have c3b0 : (a0_0.toList == a1_0.toList) = true := beq_iff_eq.mpr c3
    have c3b1 : (a0_0.toList != a1_0.toList) = false := bne_eq_false_iff_eq.mpr c3
    clear c3
    by_cases c4 : (a0_1 != a1_1) = true
    · rw [if_pos c4] at H
      have c4b0 : (a0_1 != a1_1) = true := c4
      (try (have c4b1 : decide (a0_1 = a1_1) = false := by simpa using c4))
      (try (have c4b2 : (a0_1 == a1_1) = false := by simpa using c4))
      (try (have c4b3 : ¬ (a0_1 = a1_1) := by simpa using c4))
      clear c4
      obtain rfl := Option.some.inj H
      go_enter Try.func54, Try.ntmps54
      go_wp2_with (first | ((with_reducible refine gate_dst (N := 2) rfl ?_); refine be_ 2 #[.string a0_0, .bool a0_1, .int .i64 a0_2, .slice A0_3 l0_3.length c0_3] 74 ?_; intro gb249 hg w5 hbox hb; have BK249 := AM hbox; have GW249 := AM ((by rw [hg]; exact (below_size bel_) : w.heap.size ≤ gb249)); have GE249 := AM ((by rw [hg]; exact (below_size bel_) : w.heap.size ≤ gb249)); replace HB := AM (below_step bel_ hb); clear hb hbox hg) | ((with_reducible refine gate_dst (N := 3) rfl ?_); refine be_ 3 #[.string a1_0, .bool a1_1, .int .i64 a1_2, .slice A1_3 l1_3.length c1_3] 74 ?_; intro gb250 hg w6 hbox hb; have BK250 := AM hbox; have GW250 := AM ((by rw [hg]; exact (below_size bel_) : w.heap.size ≤ gb250)); have GE250 := AM ((by rw [hg]; exact (below_size bel_) : w.heap.size ≤ gb250)); replace HB := AM (below_step bel_ hb); have NB249_250 := AM ((by rw [hg]; exact Nat.ne_of_lt (blk_lt (g := gb249) (o := .cells #[.string a0_0, .bool a0_1, .int .i64 a0_2, .slice A0_3 l0_3.length c0_3] 74 (0, 0)) (bk_ BK249.out)) : gb249 ≠ gb250)); have NB250_249 := AM ((by rw [hg]; exact Nat.ne_of_gt (blk_lt (g := gb249) (o := .cells #[.string a0_0, .bool a0_1, .int .i64 a0_2, .slice A0_3 l0_3.length c0_3] 74 (0, 0)) (bk_ BK249.out)) : gb250 ≠ gb249)); replace BK249 := AM (blk_below (g := gb249) (o := .cells #[.string a0_0, .bool a0_1, .int .i64 a0_2, .slice A0_3 l0_3.length c0_3] 74 (0, 0)) (bk_ BK249.out) hb); clear hb hbox hg; have hnb7 := NB249_250.out; have hnc7 := NB250_249.out; have hcz8_0 : w6.cell? ⟨gb249, 0, none⟩ = some (.string a0_0) := (blk_cell BK249.out 0).trans rfl; have hcz8_1 : w6.cell? ⟨gb249, 1, none⟩ = some (.bool a0_1) := (blk_cell BK249.out 1).trans rfl; have hcz8_2 : w6.cell? ⟨gb249, 2, none⟩ = some (.int .i64 a0_2) := (blk_cell BK249.out 2).trans rfl; have hcz8_3 : w6.cell? ⟨gb249, 3, none⟩ = some (.slice A0_3 l0_3.length c0_3) := (blk_cell BK249.out 3).trans rfl; have hfz8_0 := blk_frozen BK249.out 0; have hfz8_1 := blk_frozen BK249.out 1; have hfz8_2 := blk_frozen BK249.out 2; have hfz8_3 := blk_frozen BK249.out 3; have hcz9_0 : w6.cell? ⟨gb250, 0, none⟩ = some (.string a1_0) := (blk_cell BK250.out 0).trans rfl; have hcz9_1 : w6.cell? ⟨gb250, 1, none⟩ = some (.bool a1_1) := (blk_cell BK250.out 1).trans rfl; have hcz9_2 : w6.cell? ⟨gb250, 2, none⟩ = some (.int .i64 a1_2) := (blk_cell BK250.out 2).trans rfl; have hcz9_3 : w6.cell? ⟨gb250, 3, none⟩ = some (.slice A1_3 l1_3.length c1_3) := (blk_cell BK250.out 3).trans rfl; have hfz9_0 := blk_frozen BK250.out 0; have hfz9_1 := blk_frozen BK250.out 1; have hfz9_2 := blk_frozen BK250.out 2; have hfz9_3 := blk_frozen BK250.out 3))
      go_ret
      exact ⟨ri_, bel_⟩
    · rw [if_neg c4] at H
      have c4b0 : (a0_1 != a1_1) = false := by simpa using c4
      (try (have c4b1 : decide (a0_1 = a1_1) = true := by simpa using c4))
      (try (have c4b2 : (a0_1 == a1_1) = true := by simpa using c4))
      clear c4
      by_cases c10 : a0_2 = a1_2
      · rw [if_pos c10] at H
        have c10b0 : (a0_2 == a1_2) = true := beq_iff_eq.mpr c10
        have c10b1 : (a0_2 != a1_2) = false := bne_eq_false_iff_eq.mpr c10
        clear c10
        obtain ⟨t251, A11, H⟩ := OB H
        try dsimp only at H
        replace A11 := AM A11
        by_cases c12 : t251 = true
        · subst c12
          rw [if_pos rfl] at H
          obtain rfl := Option.some.inj H
          go_enter Try.func54, Try.ntmps54
          go_wp2_with (first | ((with_reducible refine gate_dst (N := 2) rfl ?_); refine be_ 2 #[.string a0_0, .bool a0_1, .int .i64 a0_2, .slice A0_3 l0_3.length c0_3] 74 ?_; intro gb249 hg w13 hbox hb; have BK249 := AM hbox; have GW249 := AM ((by rw [hg]; exact (below_size bel_) : w.heap.size ≤ gb249)); have GE249 := AM ((by rw [hg]; exact (below_size bel_) : w.heap.size ≤ gb249)); replace HB := AM (below_step bel_ hb); clear hb hbox hg) | ((with_reducible refine gate_dst (N := 3) rfl ?_); refine be_ 3 #[.string a1_0, .bool a1_1, .int .i64 a1_2, .slice A1_3 l1_3.length c1_3] 74 ?_; intro gb250 hg w14 hbox hb; have BK250 := AM hbox; have GW250 := AM ((by rw [hg]; exact (below_size bel_) : w.heap.size ≤ gb250)); have GE250 := AM ((by rw [hg]; exact (below_size bel_) : w.heap.size ≤ gb250)); replace HB := AM (below_step bel_ hb); have NB249_250 := AM ((by rw [hg]; exact Nat.ne_of_lt (blk_lt (g := gb249) (o := .cells #[.string a0_0, .bool a0_1, .int .i64 a0_2, .slice A0_3 l0_3.length c0_3] 74 (0, 0)) (bk_ BK249.out)) : gb249 ≠ gb250)); have NB250_249 := AM ((by rw [hg]; exact Nat.ne_of_gt (blk_lt (g := gb249) (o := .cells #[.string a0_0, .bool a0_1, .int .i64 a0_2, .slice A0_3 l0_3.length c0_3] 74 (0, 0)) (bk_ BK249.out)) : gb250 ≠ gb249)); replace BK249 := AM (blk_below (g := gb249) (o := .cells #[.string a0_0, .bool a0_1, .int .i64 a0_2, .slice A0_3 l0_3.length c0_3] 74 (0, 0)) (bk_ BK249.out) hb); clear hb hbox hg; have hnb15 := NB249_250.out; have hnc15 := NB250_249.out; have hcz16_0 : w14.cell? ⟨gb249, 0, none⟩ = some (.string a0_0) := (blk_cell BK249.out 0).trans rfl; have hcz16_1 : w14.cell? ⟨gb249, 1, none⟩ = some (.bool a0_1) := (blk_cell BK249.out 1).trans rfl; have hcz16_2 : w14.cell? ⟨gb249, 2, none⟩ = some (.int .i64 a0_2) := (blk_cell BK249.out 2).trans rfl; have hcz16_3 : w14.cell? ⟨gb249, 3, none⟩ = some (.slice A0_3 l0_3.length c0_3) := (blk_cell BK249.out 3).trans rfl; have hfz16_0 := blk_frozen BK249.out 0; have hfz16_1 := blk_frozen BK249.out 1; have hfz16_2 := blk_frozen BK249.out 2; have hfz16_3 := blk_frozen BK249.out 3; have hcz17_0 : w14.cell? ⟨gb250, 0, none⟩ = some (.string a1_0) := (blk_cell BK250.out 0).trans rfl; have hcz17_1 : w14.cell? ⟨gb250, 1, none⟩ = some (.bool a1_1) := (blk_cell BK250.out 1).trans rfl; have hcz17_2 : w14.cell? ⟨gb250, 2, none⟩ = some (.int .i64 a1_2) := (blk_cell BK250.out 2).trans rfl; have hcz17_3 : w14.cell? ⟨gb250, 3, none⟩ = some (.slice A1_3 l1_3.length c1_3) := (blk_cell BK250.out 3).trans rfl; have hfz17_0 := blk_frozen BK250.out 0; have hfz17_1 := blk_frozen BK250.out 1; have hfz17_2 := blk_frozen BK250.out 2; have hfz17_3 := blk_frozen BK250.out 3) | ((with_reducible refine gate_callee (f := 104) rfl ?_); refine gl_ (some 24) Try.func104 #[.slice A0_3 l0_3.length c0_3, .slice A1_3 l1_3.length c1_3] ?_; (with_reducible refine (laws_eqStringS.calls k _ _ l0_3 _ _ l1_3 true _ ?side1 ?side2 ?side3 ?side4 A11.out).mono ?_); (case side1 => repeat (first | exact (Kd.C_below HR0_3.out HB.out) | (with_reducible refine Kd.C_alloc ?_ _) | (with_reducible refine Kd.C_drewN ?_ _) | (with_reducible refine Kd.C_drew ?_))); (case side2 => exact HC0_3.out); (case side3 => repeat (first | exact (Kd.C_below HR1_3.out HB.out) | (with_reducible refine Kd.C_alloc ?_ _) | (with_reducible refine Kd.C_drewN ?_ _) | (with_reducible refine Kd.C_drew ?_))); (case side4 => exact HC1_3.out); rintro e w' ⟨rfl, ⟨nd, rfl⟩⟩; refine ⟨_, rfl, ?_⟩))
          go_ret
          exact ⟨ri_, bel_⟩
        · replace c12 := Bool.eq_false_iff.mpr c12
          subst c12
          rw [if_neg (show ¬ (false = true) by decide)] at H
          obtain rfl := Option.some.inj H
          go_enter Try.func54, Try.ntmps54
          go_wp2_with (first | ((with_reducible refine gate_dst (N := 2) rfl ?_); refine be_ 2 #[.string a0_0, .bool a0_1, .int .i64 a0_2, .slice A0_3 l0_3.length c0_3] 74 ?_; intro gb249 hg w18 hbox hb; have BK249 := AM hbox; have GW249 := AM ((by rw [hg]; exact (below_size bel_) : w.heap.size ≤ gb249)); have GE249 := AM ((by rw [hg]; exact (below_size bel_) : w.heap.size ≤ gb249)); replace HB := AM (below_step bel_ hb); clear hb hbox hg) | ((with_reducible refine gate_dst (N := 3) rfl ?_); refine be_ 3 #[.string a1_0, .bool a1_1, .int .i64 a1_2, .slice A1_3 l1_3.length c1_3] 74 ?_; intro gb250 hg w19 hbox hb; have BK250 := AM hbox; have GW250 := AM ((by rw [hg]; exact (below_size bel_) : w.heap.size ≤ gb250)); have GE250 := AM ((by rw [hg]; exact (below_size bel_) : w.heap.size ≤ gb250)); replace HB := AM (below_step bel_ hb); have NB249_250 := AM ((by rw [hg]; exact Nat.ne_of_lt (blk_lt (g := gb249) (o := .cells #[.string a0_0, .bool a0_1, .int .i64 a0_2, .slice A0_3 l0_3.length c0_3] 74 (0, 0)) (bk_ BK249.out)) : gb249 ≠ gb250)); have NB250_249 := AM ((by rw [hg]; exact Nat.ne_of_gt (blk_lt (g := gb249) (o := .cells #[.string a0_0, .bool a0_1, .int .i64 a0_2, .slice A0_3 l0_3.length c0_3] 74 (0, 0)) (bk_ BK249.out)) : gb250 ≠ gb249)); replace BK249 := AM (blk_below (g := gb249) (o := .cells #[.string a0_0, .bool a0_1, .int .i64 a0_2, .slice A0_3 l0_3.length c0_3] 74 (0, 0)) (bk_ BK249.out) hb); clear hb hbox hg; have hnb20 := NB249_250.out; have hnc20 := NB250_249.out; have hcz21_0 : w19.cell? ⟨gb249, 0, none⟩ = some (.string a0_0) := (blk_cell BK249.out 0).trans rfl; have hcz21_1 : w19.cell? ⟨gb249, 1, none⟩ = some (.bool a0_1) := (blk_cell BK249.out 1).trans rfl; have hcz21_2 : w19.cell? ⟨gb249, 2, none⟩ = some (.int .i64 a0_2) := (blk_cell BK249.out 2).trans rfl; have hcz21_3 : w19.cell? ⟨gb249, 3, none⟩ = some (.slice A0_3 l0_3.length c0_3) := (blk_cell BK249.out 3).trans rfl; have hfz21_0 := blk_frozen BK249.out 0; have hfz21_1 := blk_frozen BK249.out 1; have hfz21_2 := blk_frozen BK249.out 2; have hfz21_3 := blk_frozen BK249.out 3; have hcz22_0 : w19.cell? ⟨gb250, 0, none⟩ = some (.string a1_0) := (blk_cell BK250.out 0).trans rfl; have hcz22_1 : w19.cell? ⟨gb250, 1, none⟩ = some (.bool a1_1) := (blk_cell BK250.out 1).trans rfl; have hcz22_2 : w19.cell? ⟨gb250, 2, none⟩ = some (.int .i64 a1_2) := (blk_cell BK250.out 2).trans rfl; have hcz22_3 : w19.cell? ⟨gb250, 3, none⟩ = some (.slice A1_3 l1_3.length c1_3) := (blk_cell BK250.out 3).trans rfl; have hfz22_0 := blk_frozen BK250.out 0; have hfz22_1 := blk_frozen BK250.out 1; have hfz22_2 := blk_frozen BK250.out 2; have hfz22_3 := blk_frozen BK250.out 3) | ((with_reducible refine gate_callee (f := 104) rfl ?_); refine gl_ (some 24) Try.func104 #[.slice A0_3 l0_3.length c0_3, .slice A1_3 l1_3.length c1_3] ?_; (with_reducible refine (laws_eqStringS.calls k _ _ l0_3 _ _ l1_3 false _ ?side1 ?side2 ?side3 ?side4 A11.out).mono ?_); (case side1 => repeat (first | exact (Kd.C_below HR0_3.out HB.out) | (with_reducible refine Kd.C_alloc ?_ _) | (with_reducible refine Kd.C_drewN ?_ _) | (with_reducible refine Kd.C_drew ?_))); (case side2 => exact HC0_3.out); (case side3 => repeat (first | exact (Kd.C_below HR1_3.out HB.out) | (with_reducible refine Kd.C_alloc ?_ _) | (with_reducible refine Kd.C_drewN ?_ _) | (with_reducible refine Kd.C_drew ?_))); (case side4 => exact HC1_3.out); rintro e w' ⟨rfl, ⟨nd, rfl⟩⟩; refine ⟨_, rfl, ?_⟩))
          go_ret
          exact ⟨ri_, bel_⟩
      · rw [if_neg c10] at H
        have c10b0 : (a0_2 == a1_2) = false := beq_eq_false_iff_ne.mpr c10
        have c10b1 : (a0_2 != a1_2) = true := bne_iff_ne.mpr c10
        obtain rfl := Option.some.inj H
        go_enter Try.func54, Try.ntmps54
        go_wp2_with (first | ((with_reducible refine gate_dst (N := 2) rfl ?_); refine be_ 2 #[.string a0_0, .bool a0_1, .int .i64 a0_2, .slice A0_3 l0_3.length c0_3] 74 ?_; intro gb249 hg w23 hbox hb; have BK249 := AM hbox; have GW249 := AM ((by rw [hg]; exact (below_size bel_) : w.heap.size ≤ gb249)); have GE249 := AM ((by rw [hg]; exact (below_size bel_) : w.heap.size ≤ gb249)); replace HB := AM (below_step bel_ hb); clear hb hbox hg) | ((with_reducible refine gate_dst (N := 3) rfl ?_); refine be_ 3 #[.string a1_0, .bool a1_1, .int .i64 a1_2, .slice A1_3 l1_3.length c1_3] 74 ?_; intro gb250 hg w24 hbox hb; have BK250 := AM hbox; have GW250 := AM ((by rw [hg]; exact (below_size bel_) : w.heap.size ≤ gb250)); have GE250 := AM ((by rw [hg]; exact (below_size bel_) : w.heap.size ≤ gb250)); replace HB := AM (below_step bel_ hb); have NB249_250 := AM ((by rw [hg]; exact Nat.ne_of_lt (blk_lt (g := gb249) (o := .cells #[.string a0_0, .bool a0_1, .int .i64 a0_2, .slice A0_3 l0_3.length c0_3] 74 (0, 0)) (bk_ BK249.out)) : gb249 ≠ gb250)); have NB250_249 := AM ((by rw [hg]; exact Nat.ne_of_gt (blk_lt (g := gb249) (o := .cells #[.string a0_0, .bool a0_1, .int .i64 a0_2, .slice A0_3 l0_3.length c0_3] 74 (0, 0)) (bk_ BK249.out)) : gb250 ≠ gb249)); replace BK249 := AM (blk_below (g := gb249) (o := .cells #[.string a0_0, .bool a0_1, .int .i64 a0_2, .slice A0_3 l0_3.length c0_3] 74 (0, 0)) (bk_ BK249.out) hb); clear hb hbox hg; have hnb25 := NB249_250.out; have hnc25 := NB250_249.out; have hcz26_0 : w24.cell? ⟨gb249, 0, none⟩ = some (.string a0_0) := (blk_cell BK249.out 0).trans rfl; have hcz26_1 : w24.cell? ⟨gb249, 1, none⟩ = some (.bool a0_1) := (blk_cell BK249.out 1).trans rfl; have hcz26_2 : w24.cell? ⟨gb249, 2, none⟩ = some (.int .i64 a0_2) := (blk_cell BK249.out 2).trans rfl; have hcz26_3 : w24.cell? ⟨gb249, 3, none⟩ = some (.slice A0_3 l0_3.length c0_3) := (blk_cell BK249.out 3).trans rfl; have hfz26_0 := blk_frozen BK249.out 0; have hfz26_1 := blk_frozen BK249.out 1; have hfz26_2 := blk_frozen BK249.out 2; have hfz26_3 := blk_frozen BK249.out 3; have hcz27_0 : w24.cell? ⟨gb250, 0, none⟩ = some (.string a1_0) := (blk_cell BK250.out 0).trans rfl; have hcz27_1 : w24.cell? ⟨gb250, 1, none⟩ = some (.bool a1_1) := (blk_cell BK250.out 1).trans rfl; have hcz27_2 : w24.cell? ⟨gb250, 2, none⟩ = some (.int .i64 a1_2) := (blk_cell BK250.out 2).trans rfl; have hcz27_3 : w24.cell? ⟨gb250, 3, none⟩ = some (.slice A1_3 l1_3.length c1_3) := (blk_cell BK250.out 3).trans rfl; have hfz27_0 := blk_frozen BK250.out 0; have hfz27_1 := blk_frozen BK250.out 1; have hfz27_2 := blk_frozen BK250.out 2; have hfz27_3 := blk_frozen BK250.out 3))
        go_ret
        exact ⟨ri_, bel_⟩
  · rw [if_neg c3] at H
    have c3b0 : (a0_0.toList == a1_0.toList) = false := beq_eq_false_iff_ne.mpr c3
    have c3b1 : (a0_0.toList != a1_0.toList) = true := bne_iff_ne.mpr c3
    obtain rfl := Option.some.inj H
    go_enter Try.func54, Try.ntmps54
    go_wp2_with (first | ((with_reducible refine gate_dst (N := 2) rfl ?_); refine be_ 2 #[.string a0_0, .bool a0_1, .int .i64 a0_2, .slice A0_3 l0_3.length c0_3] 74 ?_; intro gb249 hg w28 hbox hb; have BK249 := AM hbox; have GW249 := AM ((by rw [hg]; exact (below_size bel_) : w.heap.size ≤ gb249)); have GE249 := AM ((by rw [hg]; exact (below_size bel_) : w.heap.size ≤ gb249)); replace HB := AM (below_step bel_ hb); clear hb hbox hg) | ((with_reducible refine gate_dst (N := 3) rfl ?_); refine be_ 3 #[.string a1_0, .bool a1_1, .int .i64 a1_2, .slice A1_3 l1_3.length c1_3] 74 ?_; intro gb250 hg w29 hbox hb; have BK250 := AM hbox; have GW250 := AM ((by rw [hg]; exact (below_size bel_) : w.heap.size ≤ gb250)); have GE250 := AM ((by rw [hg]; exact (below_size bel_) : w.heap.size ≤ gb250)); replace HB := AM (below_step bel_ hb); have NB249_250 := AM ((by rw [hg]; exact Nat.ne_of_lt (blk_lt (g := gb249) (o := .cells #[.string a0_0, .bool a0_1, .int .i64 a0_2, .slice A0_3 l0_3.length c0_3] 74 (0, 0)) (bk_ BK249.out)) : gb249 ≠ gb250)); have NB250_249 := AM ((by rw [hg]; exact Nat.ne_of_gt (blk_lt (g := gb249) (o := .cells #[.string a0_0, .bool a0_1, .int .i64 a0_2, .slice A0_3 l0_3.length c0_3] 74 (0, 0)) (bk_ BK249.out)) : gb250 ≠ gb249)); replace BK249 := AM (blk_below (g := gb249) (o := .cells #[.string a0_0, .bool a0_1, .int .i64 a0_2, .slice A0_3 l0_3.length c0_3] 74 (0, 0)) (bk_ BK249.out) hb); clear hb hbox hg; have hnb30 := NB249_250.out; have hnc30 := NB250_249.out; have hcz31_0 : w29.cell? ⟨gb249, 0, none⟩ = some (.string a0_0) := (blk_cell BK249.out 0).trans rfl; have hcz31_1 : w29.cell? ⟨gb249, 1, none⟩ = some (.bool a0_1) := (blk_cell BK249.out 1).trans rfl; have hcz31_2 : w29.cell? ⟨gb249, 2, none⟩ = some (.int .i64 a0_2) := (blk_cell BK249.out 2).trans rfl; have hcz31_3 : w29.cell? ⟨gb249, 3, none⟩ = some (.slice A0_3 l0_3.length c0_3) := (blk_cell BK249.out 3).trans rfl; have hfz31_0 := blk_frozen BK249.out 0; have hfz31_1 := blk_frozen BK249.out 1; have hfz31_2 := blk_frozen BK249.out 2; have hfz31_3 := blk_frozen BK249.out 3; have hcz32_0 : w29.cell? ⟨gb250, 0, none⟩ = some (.string a1_0) := (blk_cell BK250.out 0).trans rfl; have hcz32_1 : w29.cell? ⟨gb250, 1, none⟩ = some (.bool a1_1) := (blk_cell BK250.out 1).trans rfl; have hcz32_2 : w29.cell? ⟨gb250, 2, none⟩ = some (.int .i64 a1_2) := (blk_cell BK250.out 2).trans rfl; have hcz32_3 : w29.cell? ⟨gb250, 3, none⟩ = some (.slice A1_3 l1_3.length c1_3) := (blk_cell BK250.out 3).trans rfl; have hfz32_0 := blk_frozen BK250.out 0; have hfz32_1 := blk_frozen BK250.out 1; have hfz32_2 := blk_frozen BK250.out 2; have hfz32_3 := blk_frozen BK250.out 3))
    go_ret
    exact ⟨ri_, bel_⟩

/-! ### laws_eqNodeS: function 18 -/
def laws_eqNodeS.l0 : Nat → List (S74) → List (S74) → Int → Option (Bool)
  | 0, _, _, _ => none
  | k + 1, x0, x1, x5 => if x5 < (x0.length : Int) then (if 0 ≤ x5 then (if x5 < (x1.length : Int) then ((laws_eqNode.f k ((rd_T74 x0 x5).f0) ((rd_T74 x0 x5).f1) ((rd_T74 x0 x5).f2) ((rd_T74 x0 x5).f3) ((rd_T74 x1 x5).f0) ((rd_T74 x1 x5).f1) ((rd_T74 x1 x5).f2) ((rd_T74 x1 x5).f3)).bind fun t254 => (if t254 = true then (laws_eqNodeS.l0 k x0 x1 (wrap64 (x5 + 1))) else (some false))) else (none)) else (none)) else (some true)
def laws_eqNodeS.f (k : Nat) (l0 : List (S74)) (l1 : List (S74)) : Option (Bool) := if (l0.length : Int) = (l1.length : Int) then (laws_eqNodeS.l0 k l0 l1 0) else (some false)
theorem laws_eqNodeS.mono_l : ∀ k, (∀ y0 y1 y2, LeO (laws_eqNodeS.l0 k y0 y1 y2) (laws_eqNodeS.l0 (k + 1) y0 y1 y2))
  | 0 => fun _ _ _ r h => by simp [laws_eqNodeS.l0] at h
  | k + 1 => by
    have ih0 := laws_eqNodeS.mono_l k
    · intro y0 y1 y2
      unfold laws_eqNodeS.l0
      repeat' first
      | (with_reducible exact ih0 _ _ _)
      | (with_reducible exact laws_eqNode.mono _ _ _ _ _ _ _ _ _)
      | (with_reducible exact LeO.refl _)
      | (with_reducible exact LeO.none _)
      | (with_reducible refine LeO.ite ?_ ?_)
      | (with_reducible refine LeO.bind ?_ (fun _ => ?_))
      | exact ih0 _ _ _
      | exact laws_eqNode.mono _ _ _ _ _ _ _ _ _
      | exact LeO.none _
      | refine LeO.ite ?_ ?_
      | refine LeO.bind ?_ (fun _ => ?_)
theorem laws_eqNodeS.mono : ∀ a0 a1 k, LeO (laws_eqNodeS.f k a0 a1) (laws_eqNodeS.f (k + 1) a0 a1) := by
  intro a0 a1 k
  have ih0 := laws_eqNodeS.mono_l k
  unfold laws_eqNodeS.f
  repeat' first
      | (with_reducible exact ih0 _ _ _)
      | (with_reducible exact laws_eqNode.mono _ _ _ _ _ _ _ _ _)
      | (with_reducible exact LeO.refl _)
      | (with_reducible exact LeO.none _)
      | (with_reducible refine LeO.ite ?_ ?_)
      | (with_reducible refine LeO.bind ?_ (fun _ => ?_))
      | exact ih0 _ _ _
      | exact laws_eqNode.mono _ _ _ _ _ _ _ _ _
      | exact LeO.none _
      | refine LeO.ite ?_ ?_
      | refine LeO.bind ?_ (fun _ => ?_)
def laws_eqNodeS.T6 : Bool × List (List Nat × List Nat) := (true, [([], []), ([], []), ([0, 1], [0, 1]), ([2], [2]), ([], []), ([], []), ([4, 5], [4, 5]), ([6], [6]), ([3, 7], [3, 7]), ([8], [8])])
def laws_eqNodeS.B6 : List Nat := [0, 0, 3, 7, 0, 0, 48, 112, 255, 511]
theorem laws_eqNodeS.tab6 : rtab .any (opsOf Try.f18 6) = laws_eqNodeS.T6 := by kernel_rfl
theorem laws_eqNodeS.bits6 : waitsOk laws_eqNodeS.T6.2 laws_eqNodeS.B6 = true := by kernel_rfl
set_option maxHeartbeats 8000000 in
set_option maxRecDepth 100000 in
theorem laws_eqNodeS.calls (k : Nat) (A0 : Option Addr) (c0 : Nat) (l0 : List (S74)) (A1 : Option Addr) (c1 : Nat) (l1 : List (S74)) (r : Bool) (w : World) (hr0 : Kd.C k74 w A0 l0.length l0) (hc0 : l0.length ≤ c0) (hr1 : Kd.C k74 w A1 l1.length l1) (hc1 : l1.length ≤ c1) (h : laws_eqNodeS.f k l0 l1 = some r) :
    Calls Try.prog 18 #[.slice A0 l0.length c0, .slice A1 l1.length c1] w fun e w' => e = .returned (.bool r) ∧ Below w.heap.size w w' := by
  have hu74 := Try.underlying74
  have HR0 := AM hr0
  have HC0 := AM hc0
  clear hr0 hc0
  have HR1 := AM hr1
  have HC1 := AM hc1
  clear hr1 hc1
  have HB := AM (Below.refl w.heap.size w)
  have H : (if (l0.length : Int) = (l1.length : Int) then (laws_eqNodeS.l0 k l0 l1 0) else (some false)) = some r := h
  clear h
  by_cases c3 : (l0.length : Int) = (l1.length : Int)
  · rw [if_pos c3] at H
    have c3b0 : ((l0.length : Int) == (l1.length : Int)) = true := beq_iff_eq.mpr c3
    have c3b1 : ((l0.length : Int) != (l1.length : Int)) = false := bne_eq_false_iff_eq.mpr c3
    have c3b2 : (l0.length == l1.length) = true := by first | simpa using c3 | (simp at c3 ⊢; omega)
    clear c3
    have H' := AM H
    clear H
    go_enter Try.func18, Try.ntmps18
    go_wp2
    go_loopg [5] k (fun kq v5 w' => ∃ (x5_1 : Int), v5 = .int .i64 x5_1 ∧ Aside0 (laws_eqNodeS.l0 kq l0 l1 x5_1 = some r) ∧ Aside0 (kq ≤ k) ∧ Aside0 (Below w.heap.size w w'))
    case atStart => exact ⟨(0), (by first | rfl | (simp; done) | (simp [*]; done)), H', ⟨Nat.le_refl _⟩, ⟨bel_⟩⟩
    case round =>
      clear H'
      try clear c1
      try clear p2
      try clear c3
      try clear c3b0
      try clear c3b1
      try clear c3b2
      obtain ⟨x5_1, rfl, HA, HK1, HB⟩ := hrel
      cases gk with
      | zero => exact absurd HA.out (by simp [laws_eqNodeS.l0])
      | succ k1 =>
        have H := HA.out
        clear HA
        simp only [laws_eqNodeS.l0] at H
        by_cases c4 : x5_1 < (l0.length : Int)
        · rw [if_pos c4] at H
          have c4b0 : decide (x5_1 < (l0.length : Int)) = true := decide_eq_true c4
          clear c4
          by_cases c5 : 0 ≤ x5_1
          · rw [if_pos c5] at H
            have c5b0 : decide (0 ≤ x5_1) = true := decide_eq_true c5
            clear c5
            by_cases c6 : x5_1 < (l1.length : Int)
            · rw [if_pos c6] at H
              have c6b0 : decide (x5_1 < (l1.length : Int)) = true := decide_eq_true c6
              clear c6
              obtain ⟨t254, A7, H⟩ := OB H
              try dsimp only at H
              replace A7 := AM A7
              by_cases c8 : t254 = true
              · subst c8
                rw [if_pos rfl] at H
                have H' := AM H
                clear H
                try go_wp2
                replace HB := AM (below_drew1 HB.out)
                have p252 : 0 ≤ (x5_1 : Int) := of_decide_eq_true (by first | (with_reducible assumption) | assumption)
                have q252 : x5_1 < (l0.length : Int) := of_decide_eq_true (by first | (with_reducible assumption) | assumption)
                obtain ⟨ad252, A252_3, c252_3, e252, hx252_0, hx252_1, hx252_2, hx252_3, hl252_3, hi252_3⟩ := at_T74 HR0.out x5_1 p252 q252
                have hw252_3 := hx252_3
                have hw252_2 := hx252_2
                have hw252_1 := hx252_1
                have hw252_0 := hx252_0
                cases e252
                replace hx252_0 := (HB.out.cell (World.block_lt_of_cell? w _ hx252_0)).trans hx252_0
                replace hx252_1 := (HB.out.cell (World.block_lt_of_cell? w _ hx252_1)).trans hx252_1
                replace hx252_2 := (HB.out.cell (World.block_lt_of_cell? w _ hx252_2)).trans hx252_2
                replace hx252_3 := (HB.out.cell (World.block_lt_of_cell? w _ hx252_3)).trans hx252_3
                have HR252_3 := AM hi252_3
                have HC252_3 := AM hl252_3
                clear hi252_3 hl252_3
                replace p252 := eq_true p252
                replace q252 := eq_true q252
                have p253 : 0 ≤ (x5_1 : Int) := of_decide_eq_true (by first | (with_reducible assumption) | assumption)
                have q253 : x5_1 < (l1.length : Int) := of_decide_eq_true (by first | (with_reducible assumption) | assumption)
                obtain ⟨ad253, A253_3, c253_3, e253, hx253_0, hx253_1, hx253_2, hx253_3, hl253_3, hi253_3⟩ := at_T74 HR1.out x5_1 p253 q253
                have hw253_3 := hx253_3
                have hw253_2 := hx253_2
                have hw253_1 := hx253_1
                have hw253_0 := hx253_0
                cases e253
                replace hx253_0 := (HB.out.cell (World.block_lt_of_cell? w _ hx253_0)).trans hx253_0
                replace hx253_1 := (HB.out.cell (World.block_lt_of_cell? w _ hx253_1)).trans hx253_1
                replace hx253_2 := (HB.out.cell (World.block_lt_of_cell? w _ hx253_2)).trans hx253_2
                replace hx253_3 := (HB.out.cell (World.block_lt_of_cell? w _ hx253_3)).trans hx253_3
                have HR253_3 := AM hi253_3
                have HC253_3 := AM hl253_3
                clear hi253_3 hl253_3
                replace p253 := eq_true p253
                replace q253 := eq_true q253
                refine start_ (n := 10) (S := fun w' => w'.cell? (ad252.add ((x5_1).toNat * 4)) = some (.string ((rd_T74 l0 x5_1).f0)) ∧ w'.cell? ⟨(ad252.add ((x5_1).toNat * 4)).block, (ad252.add ((x5_1).toNat * 4)).off + 1, none⟩ = some (.bool ((rd_T74 l0 x5_1).f1)) ∧ w'.cell? ⟨(ad252.add ((x5_1).toNat * 4)).block, (ad252.add ((x5_1).toNat * 4)).off + 2, none⟩ = some (.int .i64 ((rd_T74 l0 x5_1).f2)) ∧ w'.cell? ⟨(ad252.add ((x5_1).toNat * 4)).block, (ad252.add ((x5_1).toNat * 4)).off + 3, none⟩ = some (.slice A252_3 ((rd_T74 l0 x5_1).f3).length c252_3) ∧ w'.cell? (ad253.add ((x5_1).toNat * 4)) = some (.string ((rd_T74 l1 x5_1).f0)) ∧ w'.cell? ⟨(ad253.add ((x5_1).toNat * 4)).block, (ad253.add ((x5_1).toNat * 4)).off + 1, none⟩ = some (.bool ((rd_T74 l1 x5_1).f1)) ∧ w'.cell? ⟨(ad253.add ((x5_1).toNat * 4)).block, (ad253.add ((x5_1).toNat * 4)).off + 2, none⟩ = some (.int .i64 ((rd_T74 l1 x5_1).f2)) ∧ w'.cell? ⟨(ad253.add ((x5_1).toNat * 4)).block, (ad253.add ((x5_1).toNat * 4)).off + 3, none⟩ = some (.slice A253_3 ((rd_T74 l1 x5_1).f3).length c253_3)) (ds := []) #[false, false, false, false, false, false, false, false, false, false] (by kernel_rfl) rfl rfl ⟨((HB.out.cell (World.block_lt_of_cell? w _ hw252_0)).trans hw252_0), ((HB.out.cell (World.block_lt_of_cell? w _ hw252_1)).trans hw252_1), ((HB.out.cell (World.block_lt_of_cell? w _ hw252_2)).trans hw252_2), ((HB.out.cell (World.block_lt_of_cell? w _ hw252_3)).trans hw252_3), ((HB.out.cell (World.block_lt_of_cell? w _ hw253_0)).trans hw253_0), ((HB.out.cell (World.block_lt_of_cell? w _ hw253_1)).trans hw253_1), ((HB.out.cell (World.block_lt_of_cell? w _ hw253_2)).trans hw253_2), ((HB.out.cell (World.block_lt_of_cell? w _ hw253_3)).trans hw253_3)⟩ (fun hHeld => ?_); refine with_tabW laws_eqNodeS.tab6 laws_eqNodeS.bits6 (fun HT_ HW_ => ?_)
                generalize wr.drew = w9 at HB HR252_3 HR253_3 hx252_0 hx252_1 hx252_2 hx252_3 hx253_0 hx253_1 hx253_2 hx253_3 hHeld ⊢
                refine pu_ HT_ 0 (some 17) #[true, false, false, false, false, false, false, false, false, false] ?_
                refine pu_ HT_ 1 (some 18) #[true, true, false, false, false, false, false, false, false, false] ?_
                refine pu_ HT_ 2 (some 19) #[true, true, true, false, false, false, false, false, false, false] ?_
                refine pu_ HT_ 4 (some 21) #[true, true, true, false, true, false, false, false, false, false] ?_
                refine pu_ HT_ 5 (some 22) #[true, true, true, false, true, true, false, false, false, false] ?_
                refine pu_ HT_ 6 (some 23) #[true, true, true, false, true, true, true, false, false, false] ?_
                refine ta_ HT_ HW_ 3 (some 20) #[true, true, true, true, true, true, true, false, false, false] hHeld ?_
                refine ta_ HT_ HW_ 7 (some 24) #[true, true, true, true, true, true, true, true, false, false] hHeld ?_
                refine on_ HT_ 8 (some 25) #[true, true, true, true, true, true, true, true, true, false] (fun K hK => ?_)
                refine go1_ Try.func54 #[.agg #[.string ((rd_T74 l0 x5_1).f0), .bool ((rd_T74 l0 x5_1).f1), .int .i64 ((rd_T74 l0 x5_1).f2), .slice A252_3 ((rd_T74 l0 x5_1).f3).length c252_3], .agg #[.string ((rd_T74 l1 x5_1).f0), .bool ((rd_T74 l1 x5_1).f1), .int .i64 ((rd_T74 l1 x5_1).f2), .slice A253_3 ((rd_T74 l1 x5_1).f3).length c253_3]] ?_
                with_reducible refine (laws_eqNode.calls k1 ((rd_T74 l0 x5_1).f0) ((rd_T74 l0 x5_1).f1) ((rd_T74 l0 x5_1).f2) _ _ ((rd_T74 l0 x5_1).f3) ((rd_T74 l1 x5_1).f0) ((rd_T74 l1 x5_1).f1) ((rd_T74 l1 x5_1).f2) _ _ ((rd_T74 l1 x5_1).f3) true _ ?side1 ?side2 ?side3 ?side4 A7.out).mono ?_
                (case side1 => repeat (first | exact (Kd.C_below HR252_3.out HB.out) | (with_reducible refine Kd.C_alloc ?_ _) | (with_reducible refine Kd.C_drewN ?_ _) | (with_reducible refine Kd.C_drew ?_)))
                (case side2 => exact HC252_3.out)
                (case side3 => repeat (first | exact (Kd.C_below HR253_3.out HB.out) | (with_reducible refine Kd.C_alloc ?_ _) | (with_reducible refine Kd.C_drewN ?_ _) | (with_reducible refine Kd.C_drew ?_)))
                (case side4 => exact HC253_3.out)
                rintro e w10 ⟨rfl, hb⟩
                refine ⟨_, rfl, ?_⟩
                replace HB := AM (below_step bel_ hb)
                (try clear hb)
                (try clear hb2)
                (try clear hk)
                (try clear hi)
                refine hK.out _ _ ⟨((HB.out.cell (World.block_lt_of_cell? w _ hw252_0)).trans hw252_0), ((HB.out.cell (World.block_lt_of_cell? w _ hw252_1)).trans hw252_1), ((HB.out.cell (World.block_lt_of_cell? w _ hw252_2)).trans hw252_2), ((HB.out.cell (World.block_lt_of_cell? w _ hw252_3)).trans hw252_3), ((HB.out.cell (World.block_lt_of_cell? w _ hw253_0)).trans hw253_0), ((HB.out.cell (World.block_lt_of_cell? w _ hw253_1)).trans hw253_1), ((HB.out.cell (World.block_lt_of_cell? w _ hw253_2)).trans hw253_2), ((HB.out.cell (World.block_lt_of_cell? w _ hw253_3)).trans hw253_3)⟩ (fun hHeld => ?_)
                clear hK K
                refine nm_ ?_
                refine pu_ HT_ 9 (some 26) #[true, true, true, true, true, true, true, true, true, true] ?_
                refine dn_ HT_ ?_
                try go_wp2
                go_roundg k1
                case measure => have := HK1.out; omega
                case rel => exact ⟨(wrap64 (x5_1 + 1)), (by first | rfl | (simp; done) | (simp [*]; done)), H', ⟨by have := HK1.out; omega⟩, ⟨bel_⟩⟩
              · replace c8 := Bool.eq_false_iff.mpr c8
                subst c8
                rw [if_neg (show ¬ (false = true) by decide)] at H
                obtain rfl := Option.some.inj H
                try go_wp2
                replace HB := AM (below_drew1 HB.out)
                have p252 : 0 ≤ (x5_1 : Int) := of_decide_eq_true (by first | (with_reducible assumption) | assumption)
                have q252 : x5_1 < (l0.length : Int) := of_decide_eq_true (by first | (with_reducible assumption) | assumption)
                obtain ⟨ad252, A252_3, c252_3, e252, hx252_0, hx252_1, hx252_2, hx252_3, hl252_3, hi252_3⟩ := at_T74 HR0.out x5_1 p252 q252
                have hw252_3 := hx252_3
                have hw252_2 := hx252_2
                have hw252_1 := hx252_1
                have hw252_0 := hx252_0
                cases e252
                replace hx252_0 := (HB.out.cell (World.block_lt_of_cell? w _ hx252_0)).trans hx252_0
                replace hx252_1 := (HB.out.cell (World.block_lt_of_cell? w _ hx252_1)).trans hx252_1
                replace hx252_2 := (HB.out.cell (World.block_lt_of_cell? w _ hx252_2)).trans hx252_2
                replace hx252_3 := (HB.out.cell (World.block_lt_of_cell? w _ hx252_3)).trans hx252_3
                have HR252_3 := AM hi252_3
                have HC252_3 := AM hl252_3
                clear hi252_3 hl252_3
                replace p252 := eq_true p252
                replace q252 := eq_true q252
                have p253 : 0 ≤ (x5_1 : Int) := of_decide_eq_true (by first | (with_reducible assumption) | assumption)
                have q253 : x5_1 < (l1.length : Int) := of_decide_eq_true (by first | (with_reducible assumption) | assumption)
                obtain ⟨ad253, A253_3, c253_3, e253, hx253_0, hx253_1, hx253_2, hx253_3, hl253_3, hi253_3⟩ := at_T74 HR1.out x5_1 p253 q253
                have hw253_3 := hx253_3
                have hw253_2 := hx253_2
                have hw253_1 := hx253_1
                have hw253_0 := hx253_0
                cases e253
                replace hx253_0 := (HB.out.cell (World.block_lt_of_cell? w _ hx253_0)).trans hx253_0
                replace hx253_1 := (HB.out.cell (World.block_lt_of_cell? w _ hx253_1)).trans hx253_1
                replace hx253_2 := (HB.out.cell (World.block_lt_of_cell? w _ hx253_2)).trans hx253_2
                replace hx253_3 := (HB.out.cell (World.block_lt_of_cell? w _ hx253_3)).trans hx253_3
                have HR253_3 := AM hi253_3
                have HC253_3 := AM hl253_3
                clear hi253_3 hl253_3
                replace p253 := eq_true p253
                replace q253 := eq_true q253
                refine start_ (n := 10) (S := fun w' => w'.cell? (ad252.add ((x5_1).toNat * 4)) = some (.string ((rd_T74 l0 x5_1).f0)) ∧ w'.cell? ⟨(ad252.add ((x5_1).toNat * 4)).block, (ad252.add ((x5_1).toNat * 4)).off + 1, none⟩ = some (.bool ((rd_T74 l0 x5_1).f1)) ∧ w'.cell? ⟨(ad252.add ((x5_1).toNat * 4)).block, (ad252.add ((x5_1).toNat * 4)).off + 2, none⟩ = some (.int .i64 ((rd_T74 l0 x5_1).f2)) ∧ w'.cell? ⟨(ad252.add ((x5_1).toNat * 4)).block, (ad252.add ((x5_1).toNat * 4)).off + 3, none⟩ = some (.slice A252_3 ((rd_T74 l0 x5_1).f3).length c252_3) ∧ w'.cell? (ad253.add ((x5_1).toNat * 4)) = some (.string ((rd_T74 l1 x5_1).f0)) ∧ w'.cell? ⟨(ad253.add ((x5_1).toNat * 4)).block, (ad253.add ((x5_1).toNat * 4)).off + 1, none⟩ = some (.bool ((rd_T74 l1 x5_1).f1)) ∧ w'.cell? ⟨(ad253.add ((x5_1).toNat * 4)).block, (ad253.add ((x5_1).toNat * 4)).off + 2, none⟩ = some (.int .i64 ((rd_T74 l1 x5_1).f2)) ∧ w'.cell? ⟨(ad253.add ((x5_1).toNat * 4)).block, (ad253.add ((x5_1).toNat * 4)).off + 3, none⟩ = some (.slice A253_3 ((rd_T74 l1 x5_1).f3).length c253_3)) (ds := []) #[false, false, false, false, false, false, false, false, false, false] (by kernel_rfl) rfl rfl ⟨((HB.out.cell (World.block_lt_of_cell? w _ hw252_0)).trans hw252_0), ((HB.out.cell (World.block_lt_of_cell? w _ hw252_1)).trans hw252_1), ((HB.out.cell (World.block_lt_of_cell? w _ hw252_2)).trans hw252_2), ((HB.out.cell (World.block_lt_of_cell? w _ hw252_3)).trans hw252_3), ((HB.out.cell (World.block_lt_of_cell? w _ hw253_0)).trans hw253_0), ((HB.out.cell (World.block_lt_of_cell? w _ hw253_1)).trans hw253_1), ((HB.out.cell (World.block_lt_of_cell? w _ hw253_2)).trans hw253_2), ((HB.out.cell (World.block_lt_of_cell? w _ hw253_3)).trans hw253_3)⟩ (fun hHeld => ?_); refine with_tabW laws_eqNodeS.tab6 laws_eqNodeS.bits6 (fun HT_ HW_ => ?_)
                generalize wr.drew = w11 at HB HR252_3 HR253_3 hx252_0 hx252_1 hx252_2 hx252_3 hx253_0 hx253_1 hx253_2 hx253_3 hHeld ⊢
                refine pu_ HT_ 0 (some 17) #[true, false, false, false, false, false, false, false, false, false] ?_
                refine pu_ HT_ 1 (some 18) #[true, true, false, false, false, false, false, false, false, false] ?_
                refine pu_ HT_ 2 (some 19) #[true, true, true, false, false, false, false, false, false, false] ?_
                refine pu_ HT_ 4 (some 21) #[true, true, true, false, true, false, false, false, false, false] ?_
                refine pu_ HT_ 5 (some 22) #[true, true, true, false, true, true, false, false, false, false] ?_
                refine pu_ HT_ 6 (some 23) #[true, true, true, false, true, true, true, false, false, false] ?_
                refine ta_ HT_ HW_ 3 (some 20) #[true, true, true, true, true, true, true, false, false, false] hHeld ?_
                refine ta_ HT_ HW_ 7 (some 24) #[true, true, true, true, true, true, true, true, false, false] hHeld ?_
                refine on_ HT_ 8 (some 25) #[true, true, true, true, true, true, true, true, true, false] (fun K hK => ?_)
                refine go1_ Try.func54 #[.agg #[.string ((rd_T74 l0 x5_1).f0), .bool ((rd_T74 l0 x5_1).f1), .int .i64 ((rd_T74 l0 x5_1).f2), .slice A252_3 ((rd_T74 l0 x5_1).f3).length c252_3], .agg #[.string ((rd_T74 l1 x5_1).f0), .bool ((rd_T74 l1 x5_1).f1), .int .i64 ((rd_T74 l1 x5_1).f2), .slice A253_3 ((rd_T74 l1 x5_1).f3).length c253_3]] ?_
                with_reducible refine (laws_eqNode.calls k1 ((rd_T74 l0 x5_1).f0) ((rd_T74 l0 x5_1).f1) ((rd_T74 l0 x5_1).f2) _ _ ((rd_T74 l0 x5_1).f3) ((rd_T74 l1 x5_1).f0) ((rd_T74 l1 x5_1).f1) ((rd_T74 l1 x5_1).f2) _ _ ((rd_T74 l1 x5_1).f3) false _ ?side1 ?side2 ?side3 ?side4 A7.out).mono ?_
                (case side1 => repeat (first | exact (Kd.C_below HR252_3.out HB.out) | (with_reducible refine Kd.C_alloc ?_ _) | (with_reducible refine Kd.C_drewN ?_ _) | (with_reducible refine Kd.C_drew ?_)))
                (case side2 => exact HC252_3.out)
                (case side3 => repeat (first | exact (Kd.C_below HR253_3.out HB.out) | (with_reducible refine Kd.C_alloc ?_ _) | (with_reducible refine Kd.C_drewN ?_ _) | (with_reducible refine Kd.C_drew ?_)))
                (case side4 => exact HC253_3.out)
                rintro e w12 ⟨rfl, hb⟩
                refine ⟨_, rfl, ?_⟩
                replace HB := AM (below_step bel_ hb)
                (try clear hb)
                (try clear hb2)
                (try clear hk)
                (try clear hi)
                refine hK.out _ _ ⟨((HB.out.cell (World.block_lt_of_cell? w _ hw252_0)).trans hw252_0), ((HB.out.cell (World.block_lt_of_cell? w _ hw252_1)).trans hw252_1), ((HB.out.cell (World.block_lt_of_cell? w _ hw252_2)).trans hw252_2), ((HB.out.cell (World.block_lt_of_cell? w _ hw252_3)).trans hw252_3), ((HB.out.cell (World.block_lt_of_cell? w _ hw253_0)).trans hw253_0), ((HB.out.cell (World.block_lt_of_cell? w _ hw253_1)).trans hw253_1), ((HB.out.cell (World.block_lt_of_cell? w _ hw253_2)).trans hw253_2), ((HB.out.cell (World.block_lt_of_cell? w _ hw253_3)).trans hw253_3)⟩ (fun hHeld => ?_)
                clear hK K
                refine nm_ ?_
                refine pu_ HT_ 9 (some 26) #[true, true, true, true, true, true, true, true, true, true] ?_
                refine dn_ HT_ ?_
                try go_wp2
                go_ret
                exact ⟨ri_, bel_⟩
            · rw [if_neg c6] at H
              exact absurd H (by simp)
          · rw [if_neg c5] at H
            exact absurd H (by simp)
        · rw [if_neg c4] at H
          have c4b0 : decide (x5_1 < (l0.length : Int)) = false := decide_eq_false c4
          clear c4
          obtain rfl := Option.some.inj H
          go_wp2
          go_ret
          exact ⟨ri_, bel_⟩
  · rw [if_neg c3] at H
    have c3b0 : ((l0.length : Int) == (l1.length : Int)) = false := beq_eq_false_iff_ne.mpr c3
    have c3b1 : ((l0.length : Int) != (l1.length : Int)) = true := bne_iff_ne.mpr c3
    have c3b2 : (l0.length == l1.length) = false := by first | simpa using c3 | (simp at c3 ⊢; omega)
    obtain rfl := Option.some.inj H
    go_enter Try.func18, Try.ntmps18
    go_wp2
    go_ret
    exact ⟨ri_, bel_⟩

/-! ### laws_eqNodesOut: function 21 -/
def laws_eqNodesOut.f (k : Nat) (l0_0 : List (S74)) (a0_1 : Int) (l1_0 : List (S74)) (a1_1 : Int) : Option (Bool) := (laws_eqNodeS.f k l0_0 l1_0).bind fun t257 => (if t257 = true then (if a0_1 = a1_1 then (some true) else (some false)) else (some false))
theorem laws_eqNodesOut.mono : ∀ a0 a1 a2 a3 k, LeO (laws_eqNodesOut.f k a0 a1 a2 a3) (laws_eqNodesOut.f (k + 1) a0 a1 a2 a3) := by
  intro a0 a1 a2 a3 k
  unfold laws_eqNodesOut.f
  repeat' first
      | (with_reducible exact laws_eqNodeS.mono _ _ _)
      | (with_reducible exact LeO.refl _)
      | (with_reducible exact LeO.none _)
      | (with_reducible refine LeO.ite ?_ ?_)
      | (with_reducible refine LeO.bind ?_ (fun _ => ?_))
      | exact laws_eqNodeS.mono _ _ _
      | exact LeO.none _
      | refine LeO.ite ?_ ?_
      | refine LeO.bind ?_ (fun _ => ?_)
set_option maxHeartbeats 8000000 in
set_option maxRecDepth 100000 in
theorem laws_eqNodesOut.calls (k : Nat) (A0_0 : Option Addr) (c0_0 : Nat) (l0_0 : List (S74)) (a0_1 : Int) (A1_0 : Option Addr) (c1_0 : Nat) (l1_0 : List (S74)) (a1_1 : Int) (r : Bool) (w : World) (hr0_0 : Kd.C k74 w A0_0 l0_0.length l0_0) (hc0_0 : l0_0.length ≤ c0_0) (hr1_0 : Kd.C k74 w A1_0 l1_0.length l1_0) (hc1_0 : l1_0.length ≤ c1_0) (h : laws_eqNodesOut.f k l0_0 a0_1 l1_0 a1_1 = some r) :
    Calls Try.prog 21 #[.agg #[.slice A0_0 l0_0.length c0_0, .int .i64 a0_1], .agg #[.slice A1_0 l1_0.length c1_0, .int .i64 a1_1]] w fun e w' => e = .returned (.bool r) ∧ Below w.heap.size w w' := by
  have hu37 := Try.underlying37
  have HR0_0 := AM hr0_0
  have HC0_0 := AM hc0_0
  clear hr0_0 hc0_0
  have HR1_0 := AM hr1_0
  have HC1_0 := AM hc1_0
  clear hr1_0 hc1_0
  have HB := AM (Below.refl w.heap.size w)
  have H : ((laws_eqNodeS.f k l0_0 l1_0).bind fun t257 => (if t257 = true then (if a0_1 = a1_1 then (some true) else (some false)) else (some false))) = some r := h
  clear h
  obtain ⟨t257, A3, H⟩ := OB H
  try dsimp only at H
  replace A3 := AM A3
  by_cases c4 : t257 = true
  · subst c4
    rw [if_pos rfl] at H
    by_cases c5 : a0_1 = a1_1
    · rw [if_pos c5] at H
      have c5b0 : (a0_1 == a1_1) = true := beq_iff_eq.mpr c5
      have c5b1 : (a0_1 != a1_1) = false := bne_eq_false_iff_eq.mpr c5
      clear c5
      obtain rfl := Option.some.inj H
      go_enter Try.func21, Try.ntmps21
      go_wp2_with (first | ((with_reducible refine gate_dst (N := 2) rfl ?_); refine be_ 2 #[.slice A0_0 l0_0.length c0_0, .int .i64 a0_1] 37 ?_; intro gb255 hg w6 hbox hb; have BK255 := AM hbox; have GW255 := AM ((by rw [hg]; exact (below_size bel_) : w.heap.size ≤ gb255)); have GE255 := AM ((by rw [hg]; exact (below_size bel_) : w.heap.size ≤ gb255)); replace HB := AM (below_step bel_ hb); clear hb hbox hg) | ((with_reducible refine gate_dst (N := 3) rfl ?_); refine be_ 3 #[.slice A1_0 l1_0.length c1_0, .int .i64 a1_1] 37 ?_; intro gb256 hg w7 hbox hb; have BK256 := AM hbox; have GW256 := AM ((by rw [hg]; exact (below_size bel_) : w.heap.size ≤ gb256)); have GE256 := AM ((by rw [hg]; exact (below_size bel_) : w.heap.size ≤ gb256)); replace HB := AM (below_step bel_ hb); have NB255_256 := AM ((by rw [hg]; exact Nat.ne_of_lt (blk_lt (g := gb255) (o := .cells #[.slice A0_0 l0_0.length c0_0, .int .i64 a0_1] 37 (0, 0)) (bk_ BK255.out)) : gb255 ≠ gb256)); have NB256_255 := AM ((by rw [hg]; exact Nat.ne_of_gt (blk_lt (g := gb255) (o := .cells #[.slice A0_0 l0_0.length c0_0, .int .i64 a0_1] 37 (0, 0)) (bk_ BK255.out)) : gb256 ≠ gb255)); replace BK255 := AM (blk_below (g := gb255) (o := .cells #[.slice A0_0 l0_0.length c0_0, .int .i64 a0_1] 37 (0, 0)) (bk_ BK255.out) hb); clear hb hbox hg; have hnb8 := NB255_256.out; have hnc8 := NB256_255.out; have hcz9_0 : w7.cell? ⟨gb255, 0, none⟩ = some (.slice A0_0 l0_0.length c0_0) := (blk_cell BK255.out 0).trans rfl; have hcz9_1 : w7.cell? ⟨gb255, 1, none⟩ = some (.int .i64 a0_1) := (blk_cell BK255.out 1).trans rfl; have hfz9_0 := blk_frozen BK255.out 0; have hfz9_1 := blk_frozen BK255.out 1; have hcz10_0 : w7.cell? ⟨gb256, 0, none⟩ = some (.slice A1_0 l1_0.length c1_0) := (blk_cell BK256.out 0).trans rfl; have hcz10_1 : w7.cell? ⟨gb256, 1, none⟩ = some (.int .i64 a1_1) := (blk_cell BK256.out 1).trans rfl; have hfz10_0 := blk_frozen BK256.out 0; have hfz10_1 := blk_frozen BK256.out 1) | ((with_reducible refine gate_callee (f := 18) rfl ?_); refine gl_ (some 9) Try.func18 #[.slice A0_0 l0_0.length c0_0, .slice A1_0 l1_0.length c1_0] ?_; (with_reducible refine (laws_eqNodeS.calls k _ _ l0_0 _ _ l1_0 true _ ?side1 ?side2 ?side3 ?side4 A3.out).mono ?_); (case side1 => repeat (first | exact (Kd.C_below HR0_0.out HB.out) | (with_reducible refine Kd.C_alloc ?_ _) | (with_reducible refine Kd.C_drewN ?_ _) | (with_reducible refine Kd.C_drew ?_))); (case side2 => exact HC0_0.out); (case side3 => repeat (first | exact (Kd.C_below HR1_0.out HB.out) | (with_reducible refine Kd.C_alloc ?_ _) | (with_reducible refine Kd.C_drewN ?_ _) | (with_reducible refine Kd.C_drew ?_))); (case side4 => exact HC1_0.out); rintro e w11 ⟨rfl, hb⟩; refine ⟨_, rfl, ?_⟩; replace BK255 := AM (blk_below (g := gb255) (o := .cells #[.slice A0_0 l0_0.length c0_0, .int .i64 a0_1] 37 (0, 0)) (bk_ BK255.out) hb); replace BK256 := AM (blk_below (g := gb256) (o := .cells #[.slice A1_0 l1_0.length c1_0, .int .i64 a1_1] 37 (0, 0)) (bk_ BK256.out) hb); replace HB := AM (below_step bel_ hb); (try clear hb); (try clear hb2); (try clear hk); (try clear hi); have hcz12_0 : w11.cell? ⟨gb255, 0, none⟩ = some (.slice A0_0 l0_0.length c0_0) := (blk_cell BK255.out 0).trans rfl; have hcz12_1 : w11.cell? ⟨gb255, 1, none⟩ = some (.int .i64 a0_1) := (blk_cell BK255.out 1).trans rfl; have hfz12_0 := blk_frozen BK255.out 0; have hfz12_1 := blk_frozen BK255.out 1; have hcz13_0 : w11.cell? ⟨gb256, 0, none⟩ = some (.slice A1_0 l1_0.length c1_0) := (blk_cell BK256.out 0).trans rfl; have hcz13_1 : w11.cell? ⟨gb256, 1, none⟩ = some (.int .i64 a1_1) := (blk_cell BK256.out 1).trans rfl; have hfz13_0 := blk_frozen BK256.out 0; have hfz13_1 := blk_frozen BK256.out 1))
      go_ret
      exact ⟨ri_, bel_⟩
    · rw [if_neg c5] at H
      have c5b0 : (a0_1 == a1_1) = false := beq_eq_false_iff_ne.mpr c5
      have c5b1 : (a0_1 != a1_1) = true := bne_iff_ne.mpr c5
      obtain rfl := Option.some.inj H
      go_enter Try.func21, Try.ntmps21
      go_wp2_with (first | ((with_reducible refine gate_dst (N := 2) rfl ?_); refine be_ 2 #[.slice A0_0 l0_0.length c0_0, .int .i64 a0_1] 37 ?_; intro gb255 hg w14 hbox hb; have BK255 := AM hbox; have GW255 := AM ((by rw [hg]; exact (below_size bel_) : w.heap.size ≤ gb255)); have GE255 := AM ((by rw [hg]; exact (below_size bel_) : w.heap.size ≤ gb255)); replace HB := AM (below_step bel_ hb); clear hb hbox hg) | ((with_reducible refine gate_dst (N := 3) rfl ?_); refine be_ 3 #[.slice A1_0 l1_0.length c1_0, .int .i64 a1_1] 37 ?_; intro gb256 hg w15 hbox hb; have BK256 := AM hbox; have GW256 := AM ((by rw [hg]; exact (below_size bel_) : w.heap.size ≤ gb256)); have GE256 := AM ((by rw [hg]; exact (below_size bel_) : w.heap.size ≤ gb256)); replace HB := AM (below_step bel_ hb); have NB255_256 := AM ((by rw [hg]; exact Nat.ne_of_lt (blk_lt (g := gb255) (o := .cells #[.slice A0_0 l0_0.length c0_0, .int .i64 a0_1] 37 (0, 0)) (bk_ BK255.out)) : gb255 ≠ gb256)); have NB256_255 := AM ((by rw [hg]; exact Nat.ne_of_gt (blk_lt (g := gb255) (o := .cells #[.slice A0_0 l0_0.length c0_0, .int .i64 a0_1] 37 (0, 0)) (bk_ BK255.out)) : gb256 ≠ gb255)); replace BK255 := AM (blk_below (g := gb255) (o := .cells #[.slice A0_0 l0_0.length c0_0, .int .i64 a0_1] 37 (0, 0)) (bk_ BK255.out) hb); clear hb hbox hg; have hnb16 := NB255_256.out; have hnc16 := NB256_255.out; have hcz17_0 : w15.cell? ⟨gb255, 0, none⟩ = some (.slice A0_0 l0_0.length c0_0) := (blk_cell BK255.out 0).trans rfl; have hcz17_1 : w15.cell? ⟨gb255, 1, none⟩ = some (.int .i64 a0_1) := (blk_cell BK255.out 1).trans rfl; have hfz17_0 := blk_frozen BK255.out 0; have hfz17_1 := blk_frozen BK255.out 1; have hcz18_0 : w15.cell? ⟨gb256, 0, none⟩ = some (.slice A1_0 l1_0.length c1_0) := (blk_cell BK256.out 0).trans rfl; have hcz18_1 : w15.cell? ⟨gb256, 1, none⟩ = some (.int .i64 a1_1) := (blk_cell BK256.out 1).trans rfl; have hfz18_0 := blk_frozen BK256.out 0; have hfz18_1 := blk_frozen BK256.out 1) | ((with_reducible refine gate_callee (f := 18) rfl ?_); refine gl_ (some 9) Try.func18 #[.slice A0_0 l0_0.length c0_0, .slice A1_0 l1_0.length c1_0] ?_; (with_reducible refine (laws_eqNodeS.calls k _ _ l0_0 _ _ l1_0 true _ ?side1 ?side2 ?side3 ?side4 A3.out).mono ?_); (case side1 => repeat (first | exact (Kd.C_below HR0_0.out HB.out) | (with_reducible refine Kd.C_alloc ?_ _) | (with_reducible refine Kd.C_drewN ?_ _) | (with_reducible refine Kd.C_drew ?_))); (case side2 => exact HC0_0.out); (case side3 => repeat (first | exact (Kd.C_below HR1_0.out HB.out) | (with_reducible refine Kd.C_alloc ?_ _) | (with_reducible refine Kd.C_drewN ?_ _) | (with_reducible refine Kd.C_drew ?_))); (case side4 => exact HC1_0.out); rintro e w19 ⟨rfl, hb⟩; refine ⟨_, rfl, ?_⟩; replace BK255 := AM (blk_below (g := gb255) (o := .cells #[.slice A0_0 l0_0.length c0_0, .int .i64 a0_1] 37 (0, 0)) (bk_ BK255.out) hb); replace BK256 := AM (blk_below (g := gb256) (o := .cells #[.slice A1_0 l1_0.length c1_0, .int .i64 a1_1] 37 (0, 0)) (bk_ BK256.out) hb); replace HB := AM (below_step bel_ hb); (try clear hb); (try clear hb2); (try clear hk); (try clear hi); have hcz20_0 : w19.cell? ⟨gb255, 0, none⟩ = some (.slice A0_0 l0_0.length c0_0) := (blk_cell BK255.out 0).trans rfl; have hcz20_1 : w19.cell? ⟨gb255, 1, none⟩ = some (.int .i64 a0_1) := (blk_cell BK255.out 1).trans rfl; have hfz20_0 := blk_frozen BK255.out 0; have hfz20_1 := blk_frozen BK255.out 1; have hcz21_0 : w19.cell? ⟨gb256, 0, none⟩ = some (.slice A1_0 l1_0.length c1_0) := (blk_cell BK256.out 0).trans rfl; have hcz21_1 : w19.cell? ⟨gb256, 1, none⟩ = some (.int .i64 a1_1) := (blk_cell BK256.out 1).trans rfl; have hfz21_0 := blk_frozen BK256.out 0; have hfz21_1 := blk_frozen BK256.out 1))
      go_ret
      exact ⟨ri_, bel_⟩
  · replace c4 := Bool.eq_false_iff.mpr c4
    subst c4
    rw [if_neg (show ¬ (false = true) by decide)] at H
    obtain rfl := Option.some.inj H
    go_enter Try.func21, Try.ntmps21
    go_wp2_with (first | ((with_reducible refine gate_dst (N := 2) rfl ?_); refine be_ 2 #[.slice A0_0 l0_0.length c0_0, .int .i64 a0_1] 37 ?_; intro gb255 hg w22 hbox hb; have BK255 := AM hbox; have GW255 := AM ((by rw [hg]; exact (below_size bel_) : w.heap.size ≤ gb255)); have GE255 := AM ((by rw [hg]; exact (below_size bel_) : w.heap.size ≤ gb255)); replace HB := AM (below_step bel_ hb); clear hb hbox hg) | ((with_reducible refine gate_dst (N := 3) rfl ?_); refine be_ 3 #[.slice A1_0 l1_0.length c1_0, .int .i64 a1_1] 37 ?_; intro gb256 hg w23 hbox hb; have BK256 := AM hbox; have GW256 := AM ((by rw [hg]; exact (below_size bel_) : w.heap.size ≤ gb256)); have GE256 := AM ((by rw [hg]; exact (below_size bel_) : w.heap.size ≤ gb256)); replace HB := AM (below_step bel_ hb); have NB255_256 := AM ((by rw [hg]; exact Nat.ne_of_lt (blk_lt (g := gb255) (o := .cells #[.slice A0_0 l0_0.length c0_0, .int .i64 a0_1] 37 (0, 0)) (bk_ BK255.out)) : gb255 ≠ gb256)); have NB256_255 := AM ((by rw [hg]; exact Nat.ne_of_gt (blk_lt (g := gb255) (o := .cells #[.slice A0_0 l0_0.length c0_0, .int .i64 a0_1] 37 (0, 0)) (bk_ BK255.out)) : gb256 ≠ gb255)); replace BK255 := AM (blk_below (g := gb255) (o := .cells #[.slice A0_0 l0_0.length c0_0, .int .i64 a0_1] 37 (0, 0)) (bk_ BK255.out) hb); clear hb hbox hg; have hnb24 := NB255_256.out; have hnc24 := NB256_255.out; have hcz25_0 : w23.cell? ⟨gb255, 0, none⟩ = some (.slice A0_0 l0_0.length c0_0) := (blk_cell BK255.out 0).trans rfl; have hcz25_1 : w23.cell? ⟨gb255, 1, none⟩ = some (.int .i64 a0_1) := (blk_cell BK255.out 1).trans rfl; have hfz25_0 := blk_frozen BK255.out 0; have hfz25_1 := blk_frozen BK255.out 1; have hcz26_0 : w23.cell? ⟨gb256, 0, none⟩ = some (.slice A1_0 l1_0.length c1_0) := (blk_cell BK256.out 0).trans rfl; have hcz26_1 : w23.cell? ⟨gb256, 1, none⟩ = some (.int .i64 a1_1) := (blk_cell BK256.out 1).trans rfl; have hfz26_0 := blk_frozen BK256.out 0; have hfz26_1 := blk_frozen BK256.out 1) | ((with_reducible refine gate_callee (f := 18) rfl ?_); refine gl_ (some 9) Try.func18 #[.slice A0_0 l0_0.length c0_0, .slice A1_0 l1_0.length c1_0] ?_; (with_reducible refine (laws_eqNodeS.calls k _ _ l0_0 _ _ l1_0 false _ ?side1 ?side2 ?side3 ?side4 A3.out).mono ?_); (case side1 => repeat (first | exact (Kd.C_below HR0_0.out HB.out) | (with_reducible refine Kd.C_alloc ?_ _) | (with_reducible refine Kd.C_drewN ?_ _) | (with_reducible refine Kd.C_drew ?_))); (case side2 => exact HC0_0.out); (case side3 => repeat (first | exact (Kd.C_below HR1_0.out HB.out) | (with_reducible refine Kd.C_alloc ?_ _) | (with_reducible refine Kd.C_drewN ?_ _) | (with_reducible refine Kd.C_drew ?_))); (case side4 => exact HC1_0.out); rintro e w27 ⟨rfl, hb⟩; refine ⟨_, rfl, ?_⟩; replace BK255 := AM (blk_below (g := gb255) (o := .cells #[.slice A0_0 l0_0.length c0_0, .int .i64 a0_1] 37 (0, 0)) (bk_ BK255.out) hb); replace BK256 := AM (blk_below (g := gb256) (o := .cells #[.slice A1_0 l1_0.length c1_0, .int .i64 a1_1] 37 (0, 0)) (bk_ BK256.out) hb); replace HB := AM (below_step bel_ hb); (try clear hb); (try clear hb2); (try clear hk); (try clear hi)))
    go_ret
    exact ⟨ri_, bel_⟩

end Go.Proofs.Ytggbpjfgfenpdaa.PFnExactNodesRead
