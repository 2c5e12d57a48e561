-- A program of this session wrote this text: a changed copy of the kit print, with given functions.
import Derived.Test.YtfffdndeccipnaaPFnExactKeepx0
import Derived.Test.YtfffdndeccipnaaPFnExactKeepx5
namespace Go.Proofs.Ytfffdndeccipnaa.PFnExactKeep
open Go.RowKit Go.Proofs.YtfffdndeccipnaaW.PrintWords Go.Proofs.YtfffdndeccipnaaW.PrintLast Go.Proofs.YtfffdndeccipnaaW.PrintMore Go.Proofs.Ytfffdndeccipnaa.Aut
attribute [local go_sem] max2_int min2_int max_two min_two max_three min_three max_four min_four   -- for this text's walks alone
set_option linter.unusedVariables false
set_option linter.unusedSimpArgs false

/-! ### laws_toSnapS: function 31 -/
def laws_toSnapS.l0 : Nat → List (S129) → List (S132) → Int → Option ((List (S132)))
  | 0, _, _, _ => none
  | k + 1, x0, x3, x4 => if x4 < (x0.length : Int) then (if 0 ≤ x4 then ((laws_toSnap.f ((rd_T129 x0 x4).f0) ((rd_T129 x0 x4).f1) ((rd_T129 x0 x4).f2)).bind fun bt295 => (if x4 < (x3.length : Int) then (laws_toSnapS.l0 k x0 (x3.set (x4 : Int).toNat (⟨bt295.1, bt295.2.1, bt295.2.2⟩ : S132)) (wrap64 (x4 + 1))) else (none))) else (none)) else (some x3)
def laws_toSnapS.f (k : Nat) (l0 : List (S129)) : Option ((List (S132))) := if 0 ≤ (l0.length : Int) then (if ((l0.length : Int) : Int).toNat ≤ 7036874417766 then (laws_toSnapS.l0 k l0 (List.replicate ((l0.length : Int) : Int).toNat z132) 0) else (none)) else (none)
theorem laws_toSnapS.mono_l : ∀ k, (∀ y0 y1 y2, LeO (laws_toSnapS.l0 k y0 y1 y2) (laws_toSnapS.l0 (k + 1) y0 y1 y2))
  | 0 => fun _ _ _ r h => by simp [laws_toSnapS.l0] at h
  | k + 1 => by
    have ih0 := laws_toSnapS.mono_l k
    · intro y0 y1 y2
      unfold laws_toSnapS.l0
      repeat' first
      | (with_reducible exact ih0 _ _ _)
      | (with_reducible exact LeO.refl _)
      | (with_reducible exact LeO.none _)
      | (with_reducible refine LeO.ite ?_ ?_)
      | (with_reducible refine LeO.bind ?_ (fun _ => ?_))
      | exact ih0 _ _ _
      | exact LeO.none _
      | refine LeO.ite ?_ ?_
      | refine LeO.bind ?_ (fun _ => ?_)
theorem laws_toSnapS.mono : ∀ a0 k, LeO (laws_toSnapS.f k a0) (laws_toSnapS.f (k + 1) a0) := by
  intro a0 k
  have ih0 := laws_toSnapS.mono_l k
  unfold laws_toSnapS.f
  repeat' first
      | (with_reducible exact ih0 _ _ _)
      | (with_reducible exact LeO.refl _)
      | (with_reducible exact LeO.none _)
      | (with_reducible refine LeO.ite ?_ ?_)
      | (with_reducible refine LeO.bind ?_ (fun _ => ?_))
      | exact ih0 _ _ _
      | exact LeO.none _
      | refine LeO.ite ?_ ?_
      | refine LeO.bind ?_ (fun _ => ?_)
set_option maxHeartbeats 8000000 in
set_option maxRecDepth 100000 in
theorem laws_toSnapS.calls (k : Nat) (A0 : Option Addr) (c0 : Nat) (l0 : List (S129)) (r : List (S132)) (w : World) (hr0 : Kd.C k129 w A0 l0.length l0) (hc0 : l0.length ≤ c0) (h : laws_toSnapS.f k l0 = some r) :
    Calls Try.prog 31 #[.slice A0 l0.length c0] w fun e w' => ∃ v0_ : Value, e = .returned (v0_) ∧ Kd.R k132 132 w' w.heap.size (fun _ => True) v0_ r ∧ Below w.heap.size w w' := by
  have hu129 := Try.underlying129
  have hu132 := Try.underlying132
  have HR0 := AM hr0
  have HC0 := AM hc0
  clear hr0 hc0
  have HB := AM (Below.refl w.heap.size w)
  have H : (if 0 ≤ (l0.length : Int) then (if ((l0.length : Int) : Int).toNat ≤ 7036874417766 then (laws_toSnapS.l0 k l0 (List.replicate ((l0.length : Int) : Int).toNat z132) 0) else (none)) else (none)) = some r := h
  clear h
  by_cases c2 : 0 ≤ (l0.length : Int)
  · rw [if_pos c2] at H
    have c2b0 := eq_true c2
    have c2b1 : decide (0 ≤ (l0.length : Int)) = true := decide_eq_true c2
    clear c2
    by_cases c3 : ((l0.length : Int) : Int).toNat ≤ 7036874417766
    · rw [if_pos c3] at H
      have c3b0 := eq_true c3
      have c3b1 : decide (((l0.length : Int) : Int).toNat ≤ 7036874417766) = true := decide_eq_true c3
      clear c3
      obtain ⟨y291, hy291⟩ : ∃ y_ : List (S132), y_ = (List.replicate ((l0.length : Int) : Int).toNat z132) := ⟨_, rfl⟩
      replace H : (laws_toSnapS.l0 k l0 y291 0) = some r := by first | (rw [hy291]; with_reducible exact H) | (have H2_ := (Option.bind_some _ _).symm.trans H; rw [hy291]; with_reducible exact H2_) | (have H2_ := (Option.bind_some _ _).symm.trans H; with_reducible exact H2_) | with_reducible exact H | (rw [hy291]; exact H) | exact H
      have Ny291 := AM hy291
      clear hy291
      have H' := AM H
      clear H
      go_enter Try.func31, Try.ntmps31
      go_wp2_with (first | ((with_reducible refine gate_dst (N := 7) rfl ?_); refine Kd.R_make k132 _ 132 rfl (N := 7) rfl 58 _ _ rfl (l0.length : Int) rfl rfl Try.underlying58 (.agg #[(.string ⟨#[]⟩), (.int .i64 0), (.string ⟨#[]⟩)]) 40 info132 rfl (by decide) (by omega) z132 (ok := fun _ => True) (okp := fun _ => True) (k132_mkM _ _ _ z132 ) (fun _ hk => hk) trivial (of_decide_eq_true (by first | (with_reducible assumption) | assumption)) (Nat.le_trans (Nat.mul_le_mul_right _ (of_decide_eq_true (by first | (with_reducible assumption) | assumption) : (l0.length : Int).toNat ≤ 7036874417766)) (by omega)) (Below.refl _ _) (Nat.le_refl _) ?_; intro v292 w4 ho5 hb hg_ hnew_; clear hg_ hnew_; (first | rw [← Ny291.out] at ho5 | (simp only [Int.reduceToNat] at ho5; rw [← Ny291.out] at ho5)); have HO293 := AM (Kd.R_lower ho5 (below_size bel_)); replace HB := AM (below_step bel_ hb); clear hb ho5))
      go_loopg [4] k (fun kq v4 w' => ∃ (x3_1 : List (S132)) (x4_1 : Int), v4 = .int .i64 x4_1 ∧ Aside0 (laws_toSnapS.l0 kq l0 x3_1 x4_1 = some r) ∧ Aside0 (kq ≤ k) ∧ Aside0 (Kd.R k132 132 w' w.heap.size (fun _ => True) v292 x3_1) ∧ Aside0 (Below w.heap.size w w'))
      case atStart => exact ⟨(y291), (0), (by first | rfl | (simp; done) | (simp [*]; done)), H', ⟨Nat.le_refl _⟩, ⟨ro_ HO293.out⟩, ⟨bel_⟩⟩
      case round =>
        clear H'
        try clear c2
        try clear c2b0
        try clear c2b1
        try clear p2
        try clear c3
        try clear c3b0
        try clear c3b1
        obtain ⟨x3_1, x4_1, rfl, HA, HK1, HO_3, HB⟩ := hrel
        cases gk with
        | zero => exact absurd HA.out (by simp [laws_toSnapS.l0])
        | succ k1 =>
          have H := HA.out
          clear HA
          simp only [laws_toSnapS.l0] at H
          by_cases c6 : x4_1 < (l0.length : Int)
          · rw [if_pos c6] at H
            have c6b0 : decide (x4_1 < (l0.length : Int)) = true := decide_eq_true c6
            clear c6
            by_cases c7 : 0 ≤ x4_1
            · rw [if_pos c7] at H
              have c7b0 : decide (0 ≤ x4_1) = true := decide_eq_true c7
              clear c7
              obtain ⟨⟨t295, t296, t297⟩, A8, H⟩ := OB H
              try dsimp only at H
              replace A8 := AM A8
              by_cases c9 : x4_1 < (x3_1.length : Int)
              · rw [if_pos c9] at H
                have c9b0 : decide (x4_1 < (x3_1.length : Int)) = true := decide_eq_true c9
                clear c9
                obtain ⟨y298, hy298⟩ : ∃ y_ : List (S132), y_ = (x3_1.set (x4_1 : Int).toNat (⟨t295, t296, t297⟩ : S132)) := ⟨_, rfl⟩
                replace H : (laws_toSnapS.l0 k1 l0 y298 (wrap64 (x4_1 + 1))) = some r := by first | (rw [hy298]; with_reducible exact H) | (have H2_ := (Option.bind_some _ _).symm.trans H; rw [hy298]; with_reducible exact H2_) | (have H2_ := (Option.bind_some _ _).symm.trans H; with_reducible exact H2_) | with_reducible exact H | (rw [hy298]; exact H) | exact H
                have Ny298 := AM hy298
                clear hy298
                have H' := AM H
                clear H
                have p294 : 0 ≤ (x4_1 : Int) := of_decide_eq_true (by first | (with_reducible assumption) | assumption)
                have q294 : x4_1 < (l0.length : Int) := of_decide_eq_true (by first | (with_reducible assumption) | assumption)
                obtain ⟨ad294, e294, hx294_0, hx294_1, hx294_2⟩ := at_T129 HR0.out x4_1 p294 q294
                cases e294
                replace hx294_0 := (HB.out.cell (World.block_lt_of_cell? w _ hx294_0)).trans hx294_0
                replace hx294_1 := (HB.out.cell (World.block_lt_of_cell? w _ hx294_1)).trans hx294_1
                replace hx294_2 := (HB.out.cell (World.block_lt_of_cell? w _ hx294_2)).trans hx294_2
                replace p294 := eq_true p294
                replace q294 := eq_true q294
                go_wp2_with (first | ((with_reducible refine gate_callee (f := 100) rfl ?_); refine gl_ (some 20) Try.func100 #[.agg #[.string ((rd_T129 l0 x4_1).f0), .int .i64 ((rd_T129 l0 x4_1).f1), .string ((rd_T129 l0 x4_1).f2)]] ?_; (with_reducible refine (laws_toSnap.calls ((rd_T129 l0 x4_1).f0) ((rd_T129 l0 x4_1).f1) ((rd_T129 l0 x4_1).f2) t295 t296 t297 _ A8.out).mono ?_); rintro e w11 ⟨rfl, hb⟩; refine ⟨_, rfl, ?_⟩; replace HO_3 := AM (Kd.R_below (ro_ HO_3.out) hb); replace HB := AM (below_step bel_ hb); (try clear hb); (try clear hb2); (try clear hk); (try clear hi); have p10 : 0 ≤ (x4_1 : Int) := of_decide_eq_true (by first | (with_reducible assumption) | assumption); have q10 : (x4_1 : Int) < ((x3_1.length : Int) : Int) := of_decide_eq_true (by first | (with_reducible assumption) | assumption); obtain ⟨go10, co10, eo10, gb10, gl10, cl10, HG10⟩ := Kd.R_form HO_3.out (by omega); (first | cases eo10 | (injection eo10 with ea_ en_ ec_; (first | subst ea_ | (injection ea_ with ea_; subst ea_)); subst ec_; clear en_)); have GB10 := AM gb10; have GG10 := AM HG10; clear gb10 gl10 HG10; obtain ⟨ce10, hcl10, hM10, hcc10, hfr10⟩ := Kd.R_elem HO_3.out z132 (x4_1 : Int) p10 q10; obtain rfl := k132_openM hM10; have hx10_0 : w11.cell? ⟨go10, (x4_1 : Int).toNat * 3, none⟩ = some (.string ((rd_T132 x3_1 x4_1).f0)) := hcc10 0 _ rfl; have hx10_1 : w11.cell? ⟨go10, (x4_1 : Int).toNat * 3 + 1, none⟩ = some (.int .i64 ((rd_T132 x3_1 x4_1).f1)) := hcc10 1 _ rfl; have hx10_2 : w11.cell? ⟨go10, (x4_1 : Int).toNat * 3 + 2, none⟩ = some (.string ((rd_T132 x3_1 x4_1).f2)) := hcc10 2 _ rfl; have hf10_0 : w11.frozen? ⟨go10, (x4_1 : Int).toNat * 3, none⟩ = false := hfr10 0; have hf10_1 : w11.frozen? ⟨go10, (x4_1 : Int).toNat * 3 + 1, none⟩ = false := hfr10 1; have hf10_2 : w11.frozen? ⟨go10, (x4_1 : Int).toNat * 3 + 2, none⟩ = false := hfr10 2; clear hcl10 hcc10 hfr10 hM10; replace p10 := eq_true p10; replace q10 := eq_true q10; have HX12 := AM (show Kd.R k132 132 w11 w.heap.size (fun _ => True) (.slice (some ⟨go10, 0, none⟩) x3_1.length co10) x3_1 from (ro_ HO_3.out)); obtain ⟨ce12, hcl12, hM12, hcc12, hfr12⟩ := Kd.R_elem HX12.out z132 (x4_1 : Int) (of_decide_eq_true (by first | (with_reducible assumption) | assumption)) (by have h_ : (x4_1 : Int) < ((x3_1.length : Int) : Int) := of_decide_eq_true (by first | (with_reducible assumption) | assumption); first | exact h_ | (have e_ := (Kd.R_reads' HO_3.out).1; omega) | simpa using h_); obtain rfl := k132_openM hM12; have HP12 := Kd.R_seg HX12.out (x4_1 : Int) (of_decide_eq_true (by first | (with_reducible assumption) | assumption)) (by have h_ : (x4_1 : Int) < ((x3_1.length : Int) : Int) := of_decide_eq_true (by first | (with_reducible assumption) | assumption); first | exact h_ | (have e_ := (Kd.R_reads' HO_3.out).1; omega) | simpa using h_) (seg := [.string t295, .int .i64 t296, .string t297]) (j := 0) hcl12 hcc12 (show 3 ≤ 3 from by decide) (x' := (⟨t295, t296, t297⟩ : S132)) (k132_mkM _ _ _ (⟨t295, t296, t297⟩ : S132) ) (fun _ hk => hk); have hx12_0 := hcc12 0 _ rfl; (try simp only [show (k132).sz = 3 from rfl, Nat.mul_one, Nat.add_zero] at hx12_0); have hf12_0 := hfr12 0; (try simp only [show (k132).sz = 3 from rfl, Nat.mul_one, Nat.add_zero] at hf12_0); have hx12_1 := hcc12 1 _ rfl; (try simp only [show (k132).sz = 3 from rfl, Nat.mul_one, Nat.add_zero] at hx12_1); have hf12_1 := hfr12 1; (try simp only [show (k132).sz = 3 from rfl, Nat.mul_one, Nat.add_zero] at hf12_1); have hx12_2 := hcc12 2 _ rfl; (try simp only [show (k132).sz = 3 from rfl, Nat.mul_one, Nat.add_zero] at hx12_2); have hf12_2 := hfr12 2; (try simp only [show (k132).sz = 3 from rfl, Nat.mul_one, Nat.add_zero] at hf12_2); clear hcl12 hcc12 hfr12 hM12) | ((with_reducible refine gate_store (t := 132) (p := 21) rfl ?_); refine store_event (t := 132) (p := 21) (v := ?vo_w13) (w1 := (((w11.setCell ⟨go10, (x4_1 : Int).toNat * 3, none⟩ (.string t295)).setCell ⟨go10, (x4_1 : Int).toNat * 3 + 1, none⟩ (.int .i64 t296)).setCell ⟨go10, (x4_1 : Int).toNat * 3 + 2, none⟩ (.string t297))) ?hg ?ho ?hn ?hr ?_; (case ho => rfl); (case hg => rfl); (case hn => rfl); (case hr => first | (go_simp; done) | (go_simp; rfl)); intro w13 hw; have hg : w11.grownBy w13 (some go10) := (by rw [hw]; exact HP12.2); have hp_ : Kd.R k132 132 w13 w.heap.size (fun _ => True) (.slice (some ⟨go10, 0, none⟩) x3_1.length co10) y298 := (by rw [hw, Ny298.out]; exact HP12.1); clear HP12; replace HO_3 := AM hp_; replace HB := AM ((by rw [hw]; exact below_set (below_set (below_set (HB.out) GB10.out) GB10.out) GB10.out : Below w.heap.size w w13)); clear hg hw hp_))
                go_roundg k1
                case measure => have := HK1.out; omega
                case rel => exact ⟨(y298), (wrap64 (x4_1 + 1)), (by first | rfl | (simp; done) | (simp [*]; done)), H', ⟨by have := HK1.out; omega⟩, ⟨ro_ HO_3.out⟩, ⟨bel_⟩⟩
              · rw [if_neg c9] at H
                exact absurd H (by simp)
            · rw [if_neg c7] at H
              exact absurd H (by simp)
          · rw [if_neg c6] at H
            have c6b0 : decide (x4_1 < (l0.length : Int)) = false := decide_eq_false c6
            clear c6
            obtain rfl := Option.some.inj H
            go_wp2
            go_ret
            exact ⟨_, ri_, ro_ HO_3.out, bel_⟩
    · rw [if_neg c3] at H
      exact absurd H (by simp)
  · rw [if_neg c2] at H
    exact absurd H (by simp)

/-! ### impl_within: function 61 -/
def impl_within.f (a0 : Int) (a1 : Int) (a2 : Int) : Option (Bool) := if a0 ≥ a1 then (some (decide (a0 ≤ a2))) else (some false)
set_option maxHeartbeats 8000000 in
set_option maxRecDepth 100000 in
theorem impl_within.calls (a0 : Int) (a1 : Int) (a2 : Int) (r : Bool) (w : World) (h : impl_within.f a0 a1 a2 = some r) :
    Calls Try.prog 61 #[.int .i64 a0, .int .i64 a1, .int .i64 a2] w fun e w' => e = .returned (.bool r) ∧ Drawn0 w w' := by
  have H : (if a0 ≥ a1 then (some (decide (a0 ≤ a2))) else (some false)) = some r := h
  clear h
  by_cases c4 : a0 ≥ a1
  · rw [if_pos c4] at H
    have c4b0 : decide (a1 ≤ a0) = true := decide_eq_true c4
    clear c4
    obtain rfl := Option.some.inj H
    go_enter Try.func61, Try.ntmps61
    go_wp2
    go_ret
    exact ⟨by first | rfl | (simp; done) | (simp [*]; done), by repeat (first | exact Drawn0.refl _ | apply Drawn0.step)⟩
  · rw [if_neg c4] at H
    have c4b0 : decide (a1 ≤ a0) = false := decide_eq_false c4
    clear c4
    obtain rfl := Option.some.inj H
    go_enter Try.func61, Try.ntmps61
    go_wp2
    go_ret
    exact ⟨by first | rfl | (simp; done) | (simp [*]; done), by repeat (first | exact Drawn0.refl _ | apply Drawn0.step)⟩

/-! ### impl_PolicyRight: function 170 -/
def impl_PolicyRight.f (a0_0 : Int) (a0_1 : Int) (a0_2 : Int) (a0_3 : Int) : Option (Bool) := (impl_within.f a0_0 0 100).bind fun t300 => (if t300 = true then ((impl_within.f a0_1 0 100).bind fun t301 => (if t301 = true then ((impl_within.f a0_2 0 100).bind fun t302 => (if t302 = true then ((impl_within.f a0_3 0 100).bind fun t303 => (some t303)) else (some false))) else (some false))) else (some false))
set_option maxHeartbeats 8000000 in
set_option maxRecDepth 100000 in
theorem impl_PolicyRight.calls (a0_0 : Int) (a0_1 : Int) (a0_2 : Int) (a0_3 : Int) (r : Bool) (w : World) (h : impl_PolicyRight.f a0_0 a0_1 a0_2 a0_3 = some r) :
    Calls Try.prog 170 #[.agg #[.int .i64 a0_0, .int .i64 a0_1, .int .i64 a0_2, .int .i64 a0_3]] w fun e w' => e = .returned (.bool r) ∧ Below w.heap.size w w' := by
  have hu56 := Try.underlying56
  have HB := AM (Below.refl w.heap.size w)
  have H : ((impl_within.f a0_0 0 100).bind fun t300 => (if t300 = true then ((impl_within.f a0_1 0 100).bind fun t301 => (if t301 = true then ((impl_within.f a0_2 0 100).bind fun t302 => (if t302 = true then ((impl_within.f a0_3 0 100).bind fun t303 => (some t303)) else (some false))) else (some false))) else (some false))) = some r := h
  clear h
  obtain ⟨t300, A2, H⟩ := OB H
  try dsimp only at H
  replace A2 := AM A2
  by_cases c3 : t300 = true
  · subst c3
    rw [if_pos rfl] at H
    obtain ⟨t301, A4, H⟩ := OB H
    try dsimp only at H
    replace A4 := AM A4
    by_cases c5 : t301 = true
    · subst c5
      rw [if_pos rfl] at H
      obtain ⟨t302, A6, H⟩ := OB H
      try dsimp only at H
      replace A6 := AM A6
      by_cases c7 : t302 = true
      · subst c7
        rw [if_pos rfl] at H
        obtain ⟨t303, A8, H⟩ := OB H
        try dsimp only at H
        replace A8 := AM A8
        obtain rfl := Option.some.inj H
        go_enter Try.func170, Try.ntmps170
        go_wp2_with (first | ((with_reducible refine gate_dst (N := 1) rfl ?_); refine be_ 1 #[.int .i64 a0_0, .int .i64 a0_1, .int .i64 a0_2, .int .i64 a0_3] 56 ?_; intro gb299 hg w9 hbox hb; have BK299 := AM hbox; have GW299 := AM ((by rw [hg]; exact (below_size bel_) : w.heap.size ≤ gb299)); have GE299 := AM ((by rw [hg]; exact (below_size bel_) : w.heap.size ≤ gb299)); replace HB := AM (below_step bel_ hb); clear hb hbox hg; have hcz10_0 : w9.cell? ⟨gb299, 0, none⟩ = some (.int .i64 a0_0) := (blk_cell BK299.out 0).trans rfl; have hcz10_1 : w9.cell? ⟨gb299, 1, none⟩ = some (.int .i64 a0_1) := (blk_cell BK299.out 1).trans rfl; have hcz10_2 : w9.cell? ⟨gb299, 2, none⟩ = some (.int .i64 a0_2) := (blk_cell BK299.out 2).trans rfl; have hcz10_3 : w9.cell? ⟨gb299, 3, none⟩ = some (.int .i64 a0_3) := (blk_cell BK299.out 3).trans rfl; have hfz10_0 := blk_frozen BK299.out 0; have hfz10_1 := blk_frozen BK299.out 1; have hfz10_2 := blk_frozen BK299.out 2; have hfz10_3 := blk_frozen BK299.out 3) | ((with_reducible refine gate_callee (f := 61) rfl ?_); refine gl_ (some 5) Try.func61 #[.int .i64 a0_0, .int .i64 0, .int .i64 100] ?_; (with_reducible refine (impl_within.calls a0_0 0 100 true _ A2.out).mono ?_); rintro e w' ⟨rfl, ⟨nd, rfl⟩⟩; refine ⟨_, rfl, ?_⟩) | (go_at_call 61; (with_reducible refine (impl_within.calls a0_1 0 100 true _ A4.out).mono ?_); rintro e w' ⟨rfl, ⟨nd, rfl⟩⟩) | (go_at_call 61; (with_reducible refine (impl_within.calls a0_2 0 100 true _ A6.out).mono ?_); rintro e w' ⟨rfl, ⟨nd, rfl⟩⟩) | (go_at_call 61; (with_reducible refine (impl_within.calls a0_3 0 100 t303 _ A8.out).mono ?_); rintro e w' ⟨rfl, ⟨nd, rfl⟩⟩))
        go_ret
        exact ⟨ri_, bel_⟩
      · replace c7 := Bool.eq_false_iff.mpr c7
        subst c7
        rw [if_neg (show ¬ (false = true) by decide)] at H
        obtain rfl := Option.some.inj H
        go_enter Try.func170, Try.ntmps170
        go_wp2_with (first | ((with_reducible refine gate_dst (N := 1) rfl ?_); refine be_ 1 #[.int .i64 a0_0, .int .i64 a0_1, .int .i64 a0_2, .int .i64 a0_3] 56 ?_; intro gb299 hg w11 hbox hb; have BK299 := AM hbox; have GW299 := AM ((by rw [hg]; exact (below_size bel_) : w.heap.size ≤ gb299)); have GE299 := AM ((by rw [hg]; exact (below_size bel_) : w.heap.size ≤ gb299)); replace HB := AM (below_step bel_ hb); clear hb hbox hg; have hcz12_0 : w11.cell? ⟨gb299, 0, none⟩ = some (.int .i64 a0_0) := (blk_cell BK299.out 0).trans rfl; have hcz12_1 : w11.cell? ⟨gb299, 1, none⟩ = some (.int .i64 a0_1) := (blk_cell BK299.out 1).trans rfl; have hcz12_2 : w11.cell? ⟨gb299, 2, none⟩ = some (.int .i64 a0_2) := (blk_cell BK299.out 2).trans rfl; have hcz12_3 : w11.cell? ⟨gb299, 3, none⟩ = some (.int .i64 a0_3) := (blk_cell BK299.out 3).trans rfl; have hfz12_0 := blk_frozen BK299.out 0; have hfz12_1 := blk_frozen BK299.out 1; have hfz12_2 := blk_frozen BK299.out 2; have hfz12_3 := blk_frozen BK299.out 3) | ((with_reducible refine gate_callee (f := 61) rfl ?_); refine gl_ (some 5) Try.func61 #[.int .i64 a0_0, .int .i64 0, .int .i64 100] ?_; (with_reducible refine (impl_within.calls a0_0 0 100 true _ A2.out).mono ?_); rintro e w' ⟨rfl, ⟨nd, rfl⟩⟩; refine ⟨_, rfl, ?_⟩) | (go_at_call 61; (with_reducible refine (impl_within.calls a0_1 0 100 true _ A4.out).mono ?_); rintro e w' ⟨rfl, ⟨nd, rfl⟩⟩) | (go_at_call 61; (with_reducible refine (impl_within.calls a0_2 0 100 false _ A6.out).mono ?_); rintro e w' ⟨rfl, ⟨nd, rfl⟩⟩))
        go_ret
        exact ⟨ri_, bel_⟩
    · replace c5 := Bool.eq_false_iff.mpr c5
      subst c5
      rw [if_neg (show ¬ (false = true) by decide)] at H
      obtain rfl := Option.some.inj H
      go_enter Try.func170, Try.ntmps170
      go_wp2_with (first | ((with_reducible refine gate_dst (N := 1) rfl ?_); refine be_ 1 #[.int .i64 a0_0, .int .i64 a0_1, .int .i64 a0_2, .int .i64 a0_3] 56 ?_; intro gb299 hg w13 hbox hb; have BK299 := AM hbox; have GW299 := AM ((by rw [hg]; exact (below_size bel_) : w.heap.size ≤ gb299)); have GE299 := AM ((by rw [hg]; exact (below_size bel_) : w.heap.size ≤ gb299)); replace HB := AM (below_step bel_ hb); clear hb hbox hg; have hcz14_0 : w13.cell? ⟨gb299, 0, none⟩ = some (.int .i64 a0_0) := (blk_cell BK299.out 0).trans rfl; have hcz14_1 : w13.cell? ⟨gb299, 1, none⟩ = some (.int .i64 a0_1) := (blk_cell BK299.out 1).trans rfl; have hcz14_2 : w13.cell? ⟨gb299, 2, none⟩ = some (.int .i64 a0_2) := (blk_cell BK299.out 2).trans rfl; have hcz14_3 : w13.cell? ⟨gb299, 3, none⟩ = some (.int .i64 a0_3) := (blk_cell BK299.out 3).trans rfl; have hfz14_0 := blk_frozen BK299.out 0; have hfz14_1 := blk_frozen BK299.out 1; have hfz14_2 := blk_frozen BK299.out 2; have hfz14_3 := blk_frozen BK299.out 3) | ((with_reducible refine gate_callee (f := 61) rfl ?_); refine gl_ (some 5) Try.func61 #[.int .i64 a0_0, .int .i64 0, .int .i64 100] ?_; (with_reducible refine (impl_within.calls a0_0 0 100 true _ A2.out).mono ?_); rintro e w' ⟨rfl, ⟨nd, rfl⟩⟩; refine ⟨_, rfl, ?_⟩) | (go_at_call 61; (with_reducible refine (impl_within.calls a0_1 0 100 false _ A4.out).mono ?_); rintro e w' ⟨rfl, ⟨nd, rfl⟩⟩))
      go_ret
      exact ⟨ri_, bel_⟩
  · replace c3 := Bool.eq_false_iff.mpr c3
    subst c3
    rw [if_neg (show ¬ (false = true) by decide)] at H
    obtain rfl := Option.some.inj H
    go_enter Try.func170, Try.ntmps170
    go_wp2_with (first | ((with_reducible refine gate_dst (N := 1) rfl ?_); refine be_ 1 #[.int .i64 a0_0, .int .i64 a0_1, .int .i64 a0_2, .int .i64 a0_3] 56 ?_; intro gb299 hg w15 hbox hb; have BK299 := AM hbox; have GW299 := AM ((by rw [hg]; exact (below_size bel_) : w.heap.size ≤ gb299)); have GE299 := AM ((by rw [hg]; exact (below_size bel_) : w.heap.size ≤ gb299)); replace HB := AM (below_step bel_ hb); clear hb hbox hg; have hcz16_0 : w15.cell? ⟨gb299, 0, none⟩ = some (.int .i64 a0_0) := (blk_cell BK299.out 0).trans rfl; have hcz16_1 : w15.cell? ⟨gb299, 1, none⟩ = some (.int .i64 a0_1) := (blk_cell BK299.out 1).trans rfl; have hcz16_2 : w15.cell? ⟨gb299, 2, none⟩ = some (.int .i64 a0_2) := (blk_cell BK299.out 2).trans rfl; have hcz16_3 : w15.cell? ⟨gb299, 3, none⟩ = some (.int .i64 a0_3) := (blk_cell BK299.out 3).trans rfl; have hfz16_0 := blk_frozen BK299.out 0; have hfz16_1 := blk_frozen BK299.out 1; have hfz16_2 := blk_frozen BK299.out 2; have hfz16_3 := blk_frozen BK299.out 3) | ((with_reducible refine gate_callee (f := 61) rfl ?_); refine gl_ (some 5) Try.func61 #[.int .i64 a0_0, .int .i64 0, .int .i64 100] ?_; (with_reducible refine (impl_within.calls a0_0 0 100 false _ A2.out).mono ?_); rintro e w' ⟨rfl, ⟨nd, rfl⟩⟩; refine ⟨_, rfl, ?_⟩))
    go_ret
    exact ⟨ri_, bel_⟩

/-! ### impl_long: function 128 -/
def impl_long.f (a0 : ByteArray) : Option (Int) := some (a0.size : Int)
set_option maxHeartbeats 8000000 in
set_option maxRecDepth 100000 in
theorem impl_long.calls (a0 : ByteArray) (r : Int) (w : World) (h : impl_long.f a0 = some r) :
    Calls Try.prog 128 #[.string a0] w fun e w' => e = .returned (.int .i64 r) ∧ Drawn0 w w' := by
  have H : (some (a0.size : Int)) = some r := h
  clear h
  obtain rfl := Option.some.inj H
  go_enter Try.func128, Try.ntmps128
  go_wp2
  go_ret
  exact ⟨by first | rfl | (simp; done) | (simp [*]; done), by repeat (first | exact Drawn0.refl _ | apply Drawn0.step)⟩

/-! ### impl_isName: function 142 -/
def impl_isName.l0 : Nat → ByteArray → Int → Int → Int → Option (Bool)
  | 0, _, _, _, _ => none
  | k + 1, x0, x1, x8, x9 => if x9 < x8 then (if 0 ≤ x9 then (if x9 < (x0.size : Int) then (if (bt x0 x9) ≥ 97 then (if ((bt x0 x9) ≤ 122) then (impl_isName.l0 k x0 x1 x8 (wrap64 (x9 + 1))) else (if x9 = 0 then (some false) else (if (bt x0 x9) ≥ 48 then (if ((bt x0 x9) ≤ 57) then (impl_isName.l0 k x0 x1 x8 (wrap64 (x9 + 1))) else (if (bt x0 x9) = 45 then (impl_isName.l0 k x0 x1 x8 (wrap64 (x9 + 1))) else (some false))) else (if (bt x0 x9) = 45 then (impl_isName.l0 k x0 x1 x8 (wrap64 (x9 + 1))) else (some false))))) else (if x9 = 0 then (some false) else (if (bt x0 x9) ≥ 48 then (if ((bt x0 x9) ≤ 57) then (impl_isName.l0 k x0 x1 x8 (wrap64 (x9 + 1))) else (if (bt x0 x9) = 45 then (impl_isName.l0 k x0 x1 x8 (wrap64 (x9 + 1))) else (some false))) else (if (bt x0 x9) = 45 then (impl_isName.l0 k x0 x1 x8 (wrap64 (x9 + 1))) else (some false))))) else (none)) else (none)) else ((impl_long.f x0).bind fun t304 => ((impl_within.f t304 1 x1).bind fun t305 => (some t305)))
def impl_isName.f (k : Nat) (a0 : ByteArray) (a1 : Int) : Option (Bool) := impl_isName.l0 k a0 a1 (a0.size : Int) 0
theorem impl_isName.mono_l : ∀ k, (∀ y0 y1 y2 y3, LeO (impl_isName.l0 k y0 y1 y2 y3) (impl_isName.l0 (k + 1) y0 y1 y2 y3))
  | 0 => fun _ _ _ _ r h => by simp [impl_isName.l0] at h
  | k + 1 => by
    have ih0 := impl_isName.mono_l k
    · intro y0 y1 y2 y3
      unfold impl_isName.l0
      repeat' first
      | (with_reducible exact ih0 _ _ _ _)
      | (with_reducible exact LeO.refl _)
      | (with_reducible exact LeO.none _)
      | (with_reducible refine LeO.ite ?_ ?_)
      | (with_reducible refine LeO.bind ?_ (fun _ => ?_))
      | exact ih0 _ _ _ _
      | exact LeO.none _
      | refine LeO.ite ?_ ?_
      | refine LeO.bind ?_ (fun _ => ?_)
theorem impl_isName.mono : ∀ a0 a1 k, LeO (impl_isName.f k a0 a1) (impl_isName.f (k + 1) a0 a1) := by
  intro a0 a1 k
  have ih0 := impl_isName.mono_l k
  unfold impl_isName.f
  repeat' first
      | (with_reducible exact ih0 _ _ _ _)
      | (with_reducible exact LeO.refl _)
      | (with_reducible exact LeO.none _)
      | (with_reducible refine LeO.ite ?_ ?_)
      | (with_reducible refine LeO.bind ?_ (fun _ => ?_))
      | exact ih0 _ _ _ _
      | exact LeO.none _
      | refine LeO.ite ?_ ?_
      | refine LeO.bind ?_ (fun _ => ?_)
set_option maxHeartbeats 8000000 in
set_option maxRecDepth 100000 in
theorem impl_isName.calls (k : Nat) (a0 : ByteArray) (a1 : Int) (r : Bool) (w : World) (h : impl_isName.f k a0 a1 = some r) :
    Calls Try.prog 142 #[.string a0, .int .i64 a1] w fun e w' => e = .returned (.bool r) ∧ Drawn0 w w' := by
  have H : (impl_isName.l0 k a0 a1 (a0.size : Int) 0) = some r := h
  clear h
  have H' := AM H
  clear H
  go_enter Try.func142, Try.ntmps142
  go_wp2
  go_loopg [9] k (fun kq v9 w' => ∃ (x9_1 : Int), v9 = .int .i64 x9_1 ∧ Aside0 (impl_isName.l0 kq a0 a1 (a0.size : Int) x9_1 = some r) ∧ Aside0 (kq ≤ k) ∧ Drawn0 w w')
  case atStart => exact ⟨(0), (by first | rfl | (simp; done) | (simp [*]; done)), H', ⟨Nat.le_refl _⟩, by repeat (first | exact Drawn0.refl _ | apply Drawn0.step)⟩
  case round =>
    clear H'
    try clear c1
    try clear p2
    obtain ⟨x9_1, rfl, HA, HK1, ⟨m1, rfl⟩⟩ := hrel
    cases gk with
    | zero => exact absurd HA.out (by simp [impl_isName.l0])
    | succ k1 =>
      have H := HA.out
      clear HA
      simp only [impl_isName.l0] at H
      by_cases c3 : x9_1 < (a0.size : Int)
      · rw [if_pos c3] at H
        have c3b0 : decide (x9_1 < (a0.size : Int)) = true := decide_eq_true c3
        clear c3
        by_cases c4 : 0 ≤ x9_1
        · rw [if_pos c4] at H
          have c4b0 : decide (0 ≤ x9_1) = true := decide_eq_true c4
          clear c4
          by_cases c5 : x9_1 < (a0.size : Int)
          · rw [if_pos c5] at H
            have c5b0 : decide (x9_1 < (a0.size : Int)) = true := decide_eq_true c5
            clear c5
            by_cases c7 : (bt a0 x9_1) ≥ 97
            · rw [if_pos c7] at H
              have c7b0 : decide (97 ≤ (bt a0 x9_1)) = true := decide_eq_true c7
              clear c7
              by_cases c8 : ((bt a0 x9_1) ≤ 122)
              · rw [if_pos c8] at H
                have c8b0 : decide ((bt a0 x9_1) ≤ 122) = true := decide_eq_true c8
                clear c8
                have H' := AM H
                clear H
                have p6 : 0 ≤ (x9_1 : Int) := of_decide_eq_true (by first | (with_reducible assumption) | assumption)
                have q6 : x9_1 < (a0.size : Int) := of_decide_eq_true (by first | (with_reducible assumption) | assumption)
                have hx6 := bt_at a0 x9_1
                replace p6 := eq_true p6
                replace q6 := eq_true q6
                go_wp2
                go_roundg k1
                case measure => have := HK1.out; omega
                case rel => exact ⟨(wrap64 (x9_1 + 1)), (by first | rfl | (simp; done) | (simp [*]; done)), H', ⟨by have := HK1.out; omega⟩, by repeat (first | exact Drawn0.refl _ | apply Drawn0.step)⟩
              · rw [if_neg c8] at H
                have c8b0 : decide ((bt a0 x9_1) ≤ 122) = false := decide_eq_false c8
                clear c8
                by_cases c9 : x9_1 = 0
                · rw [if_pos c9] at H
                  have c9b0 : (x9_1 == 0) = true := beq_iff_eq.mpr c9
                  have c9b1 : (x9_1 != 0) = false := bne_eq_false_iff_eq.mpr c9
                  clear c9
                  obtain rfl := Option.some.inj H
                  have p6 : 0 ≤ (x9_1 : Int) := of_decide_eq_true (by first | (with_reducible assumption) | assumption)
                  have q6 : x9_1 < (a0.size : Int) := of_decide_eq_true (by first | (with_reducible assumption) | assumption)
                  have hx6 := bt_at a0 x9_1
                  replace p6 := eq_true p6
                  replace q6 := eq_true q6
                  go_wp2
                  go_ret
                  exact ⟨by first | rfl | (simp; done) | (simp [*]; done), by repeat (first | exact Drawn0.refl _ | apply Drawn0.step)⟩
                · rw [if_neg c9] at H
                  have c9b0 : (x9_1 == 0) = false := beq_eq_false_iff_ne.mpr c9
                  have c9b1 : (x9_1 != 0) = true := bne_iff_ne.mpr c9
                  by_cases c10 : (bt a0 x9_1) ≥ 48
                  · rw [if_pos c10] at H
                    have c10b0 : decide (48 ≤ (bt a0 x9_1)) = true := decide_eq_true c10
                    clear c10
                    by_cases c11 : ((bt a0 x9_1) ≤ 57)
                    · rw [if_pos c11] at H
                      have c11b0 : decide ((bt a0 x9_1) ≤ 57) = true := decide_eq_true c11
                      clear c11
                      have H' := AM H
                      clear H
                      have p6 : 0 ≤ (x9_1 : Int) := of_decide_eq_true (by first | (with_reducible assumption) | assumption)
                      have q6 : x9_1 < (a0.size : Int) := of_decide_eq_true (by first | (with_reducible assumption) | assumption)
                      have hx6 := bt_at a0 x9_1
                      replace p6 := eq_true p6
                      replace q6 := eq_true q6
                      go_wp2
                      go_roundg k1
                      case measure => have := HK1.out; omega
                      case rel => exact ⟨(wrap64 (x9_1 + 1)), (by first | rfl | (simp; done) | (simp [*]; done)), H', ⟨by have := HK1.out; omega⟩, by repeat (first | exact Drawn0.refl _ | apply Drawn0.step)⟩
                    · rw [if_neg c11] at H
                      have c11b0 : decide ((bt a0 x9_1) ≤ 57) = false := decide_eq_false c11
                      clear c11
                      by_cases c12 : (bt a0 x9_1) = 45
                      · rw [if_pos c12] at H
                        have c12b0 : ((bt a0 x9_1) == 45) = true := beq_iff_eq.mpr c12
                        have c12b1 : ((bt a0 x9_1) != 45) = false := bne_eq_false_iff_eq.mpr c12
                        clear c12
                        have H' := AM H
                        clear H
                        have p6 : 0 ≤ (x9_1 : Int) := of_decide_eq_true (by first | (with_reducible assumption) | assumption)
                        have q6 : x9_1 < (a0.size : Int) := of_decide_eq_true (by first | (with_reducible assumption) | assumption)
                        have hx6 := bt_at a0 x9_1
                        replace p6 := eq_true p6
                        replace q6 := eq_true q6
                        go_wp2
                        go_roundg k1
                        case measure => have := HK1.out; omega
                        case rel => exact ⟨(wrap64 (x9_1 + 1)), (by first | rfl | (simp; done) | (simp [*]; done)), H', ⟨by have := HK1.out; omega⟩, by repeat (first | exact Drawn0.refl _ | apply Drawn0.step)⟩
                      · rw [if_neg c12] at H
                        have c12b0 : ((bt a0 x9_1) == 45) = false := beq_eq_false_iff_ne.mpr c12
                        have c12b1 : ((bt a0 x9_1) != 45) = true := bne_iff_ne.mpr c12
                        obtain rfl := Option.some.inj H
                        have p6 : 0 ≤ (x9_1 : Int) := of_decide_eq_true (by first | (with_reducible assumption) | assumption)
                        have q6 : x9_1 < (a0.size : Int) := of_decide_eq_true (by first | (with_reducible assumption) | assumption)
                        have hx6 := bt_at a0 x9_1
                        replace p6 := eq_true p6
                        replace q6 := eq_true q6
                        go_wp2
                        go_ret
                        exact ⟨by first | rfl | (simp; done) | (simp [*]; done), by repeat (first | exact Drawn0.refl _ | apply Drawn0.step)⟩
                  · rw [if_neg c10] at H
                    have c10b0 : decide (48 ≤ (bt a0 x9_1)) = false := decide_eq_false c10
                    clear c10
                    by_cases c13 : (bt a0 x9_1) = 45
                    · rw [if_pos c13] at H
                      have c13b0 : ((bt a0 x9_1) == 45) = true := beq_iff_eq.mpr c13
                      have c13b1 : ((bt a0 x9_1) != 45) = false := bne_eq_false_iff_eq.mpr c13
                      clear c13
                      have H' := AM H
                      clear H
                      have p6 : 0 ≤ (x9_1 : Int) := of_decide_eq_true (by first | (with_reducible assumption) | assumption)
                      have q6 : x9_1 < (a0.size : Int) := of_decide_eq_true (by first | (with_reducible assumption) | assumption)
                      have hx6 := bt_at a0 x9_1
                      replace p6 := eq_true p6
                      replace q6 := eq_true q6
                      go_wp2
                      go_roundg k1
                      case measure => have := HK1.out; omega
                      case rel => exact ⟨(wrap64 (x9_1 + 1)), (by first | rfl | (simp; done) | (simp [*]; done)), H', ⟨by have := HK1.out; omega⟩, by repeat (first | exact Drawn0.refl _ | apply Drawn0.step)⟩
                    · rw [if_neg c13] at H
                      have c13b0 : ((bt a0 x9_1) == 45) = false := beq_eq_false_iff_ne.mpr c13
                      have c13b1 : ((bt a0 x9_1) != 45) = true := bne_iff_ne.mpr c13
                      obtain rfl := Option.some.inj H
                      have p6 : 0 ≤ (x9_1 : Int) := of_decide_eq_true (by first | (with_reducible assumption) | assumption)
                      have q6 : x9_1 < (a0.size : Int) := of_decide_eq_true (by first | (with_reducible assumption) | assumption)
                      have hx6 := bt_at a0 x9_1
                      replace p6 := eq_true p6
                      replace q6 := eq_true q6
                      go_wp2
                      go_ret
                      exact ⟨by first | rfl | (simp; done) | (simp [*]; done), by repeat (first | exact Drawn0.refl _ | apply Drawn0.step)⟩
            · rw [if_neg c7] at H
              have c7b0 : decide (97 ≤ (bt a0 x9_1)) = false := decide_eq_false c7
              clear c7
              by_cases c14 : x9_1 = 0
              · rw [if_pos c14] at H
                have c14b0 : (x9_1 == 0) = true := beq_iff_eq.mpr c14
                have c14b1 : (x9_1 != 0) = false := bne_eq_false_iff_eq.mpr c14
                clear c14
                obtain rfl := Option.some.inj H
                have p6 : 0 ≤ (x9_1 : Int) := of_decide_eq_true (by first | (with_reducible assumption) | assumption)
                have q6 : x9_1 < (a0.size : Int) := of_decide_eq_true (by first | (with_reducible assumption) | assumption)
                have hx6 := bt_at a0 x9_1
                replace p6 := eq_true p6
                replace q6 := eq_true q6
                go_wp2
                go_ret
                exact ⟨by first | rfl | (simp; done) | (simp [*]; done), by repeat (first | exact Drawn0.refl _ | apply Drawn0.step)⟩
              · rw [if_neg c14] at H
                have c14b0 : (x9_1 == 0) = false := beq_eq_false_iff_ne.mpr c14
                have c14b1 : (x9_1 != 0) = true := bne_iff_ne.mpr c14
                by_cases c15 : (bt a0 x9_1) ≥ 48
                · rw [if_pos c15] at H
                  have c15b0 : decide (48 ≤ (bt a0 x9_1)) = true := decide_eq_true c15
                  clear c15
                  by_cases c16 : ((bt a0 x9_1) ≤ 57)
                  · rw [if_pos c16] at H
                    have c16b0 : decide ((bt a0 x9_1) ≤ 57) = true := decide_eq_true c16
                    clear c16
                    have H' := AM H
                    clear H
                    have p6 : 0 ≤ (x9_1 : Int) := of_decide_eq_true (by first | (with_reducible assumption) | assumption)
                    have q6 : x9_1 < (a0.size : Int) := of_decide_eq_true (by first | (with_reducible assumption) | assumption)
                    have hx6 := bt_at a0 x9_1
                    replace p6 := eq_true p6
                    replace q6 := eq_true q6
                    go_wp2
                    go_roundg k1
                    case measure => have := HK1.out; omega
                    case rel => exact ⟨(wrap64 (x9_1 + 1)), (by first | rfl | (simp; done) | (simp [*]; done)), H', ⟨by have := HK1.out; omega⟩, by repeat (first | exact Drawn0.refl _ | apply Drawn0.step)⟩
                  · rw [if_neg c16] at H
                    have c16b0 : decide ((bt a0 x9_1) ≤ 57) = false := decide_eq_false c16
                    clear c16
                    by_cases c17 : (bt a0 x9_1) = 45
                    · rw [if_pos c17] at H
                      have c17b0 : ((bt a0 x9_1) == 45) = true := beq_iff_eq.mpr c17
                      have c17b1 : ((bt a0 x9_1) != 45) = false := bne_eq_false_iff_eq.mpr c17
                      clear c17
                      have H' := AM H
                      clear H
                      have p6 : 0 ≤ (x9_1 : Int) := of_decide_eq_true (by first | (with_reducible assumption) | assumption)
                      have q6 : x9_1 < (a0.size : Int) := of_decide_eq_true (by first | (with_reducible assumption) | assumption)
                      have hx6 := bt_at a0 x9_1
                      replace p6 := eq_true p6
                      replace q6 := eq_true q6
                      go_wp2
                      go_roundg k1
                      case measure => have := HK1.out; omega
                      case rel => exact ⟨(wrap64 (x9_1 + 1)), (by first | rfl | (simp; done) | (simp [*]; done)), H', ⟨by have := HK1.out; omega⟩, by repeat (first | exact Drawn0.refl _ | apply Drawn0.step)⟩
                    · rw [if_neg c17] at H
                      have c17b0 : ((bt a0 x9_1) == 45) = false := beq_eq_false_iff_ne.mpr c17
                      have c17b1 : ((bt a0 x9_1) != 45) = true := bne_iff_ne.mpr c17
                      obtain rfl := Option.some.inj H
                      have p6 : 0 ≤ (x9_1 : Int) := of_decide_eq_true (by first | (with_reducible assumption) | assumption)
                      have q6 : x9_1 < (a0.size : Int) := of_decide_eq_true (by first | (with_reducible assumption) | assumption)
                      have hx6 := bt_at a0 x9_1
                      replace p6 := eq_true p6
                      replace q6 := eq_true q6
                      go_wp2
                      go_ret
                      exact ⟨by first | rfl | (simp; done) | (simp [*]; done), by repeat (first | exact Drawn0.refl _ | apply Drawn0.step)⟩
                · rw [if_neg c15] at H
                  have c15b0 : decide (48 ≤ (bt a0 x9_1)) = false := decide_eq_false c15
                  clear c15
                  by_cases c18 : (bt a0 x9_1) = 45
                  · rw [if_pos c18] at H
                    have c18b0 : ((bt a0 x9_1) == 45) = true := beq_iff_eq.mpr c18
                    have c18b1 : ((bt a0 x9_1) != 45) = false := bne_eq_false_iff_eq.mpr c18
                    clear c18
                    have H' := AM H
                    clear H
                    have p6 : 0 ≤ (x9_1 : Int) := of_decide_eq_true (by first | (with_reducible assumption) | assumption)
                    have q6 : x9_1 < (a0.size : Int) := of_decide_eq_true (by first | (with_reducible assumption) | assumption)
                    have hx6 := bt_at a0 x9_1
                    replace p6 := eq_true p6
                    replace q6 := eq_true q6
                    go_wp2
                    go_roundg k1
                    case measure => have := HK1.out; omega
                    case rel => exact ⟨(wrap64 (x9_1 + 1)), (by first | rfl | (simp; done) | (simp [*]; done)), H', ⟨by have := HK1.out; omega⟩, by repeat (first | exact Drawn0.refl _ | apply Drawn0.step)⟩
                  · rw [if_neg c18] at H
                    have c18b0 : ((bt a0 x9_1) == 45) = false := beq_eq_false_iff_ne.mpr c18
                    have c18b1 : ((bt a0 x9_1) != 45) = true := bne_iff_ne.mpr c18
                    obtain rfl := Option.some.inj H
                    have p6 : 0 ≤ (x9_1 : Int) := of_decide_eq_true (by first | (with_reducible assumption) | assumption)
                    have q6 : x9_1 < (a0.size : Int) := of_decide_eq_true (by first | (with_reducible assumption) | assumption)
                    have hx6 := bt_at a0 x9_1
                    replace p6 := eq_true p6
                    replace q6 := eq_true q6
                    go_wp2
                    go_ret
                    exact ⟨by first | rfl | (simp; done) | (simp [*]; done), by repeat (first | exact Drawn0.refl _ | apply Drawn0.step)⟩
          · rw [if_neg c5] at H
            exact absurd H (by simp)
        · rw [if_neg c4] at H
          exact absurd H (by simp)
      · rw [if_neg c3] at H
        have c3b0 : decide (x9_1 < (a0.size : Int)) = false := decide_eq_false c3
        clear c3
        obtain ⟨t304, A19, H⟩ := OB H
        try dsimp only at H
        replace A19 := AM A19
        obtain ⟨t305, A20, H⟩ := OB H
        try dsimp only at H
        replace A20 := AM A20
        obtain rfl := Option.some.inj H
        go_wp2_with (first | ((with_reducible refine gate_callee (f := 128) rfl ?_); refine gl_ (some 41) Try.func128 #[.string a0] ?_; (with_reducible refine (impl_long.calls a0 t304 _ A19.out).mono ?_); rintro e w' ⟨rfl, ⟨nd, rfl⟩⟩; refine ⟨_, rfl, ?_⟩) | ((with_reducible refine gate_callee (f := 61) rfl ?_); refine gl_ (some 43) Try.func61 #[.int .i64 t304, .int .i64 1, .int .i64 a1] ?_; (with_reducible refine (impl_within.calls t304 1 a1 t305 _ A20.out).mono ?_); rintro e w' ⟨rfl, ⟨nd, rfl⟩⟩; refine ⟨_, rfl, ?_⟩))
        go_ret
        exact ⟨by first | rfl | (simp; done) | (simp [*]; done), by repeat (first | exact Drawn0.refl _ | apply Drawn0.step)⟩

/-! ### impl_isSnapName: function 249 -/
def impl_isSnapName.f (k : Nat) (a0 : ByteArray) : Option (Bool) := (impl_isName.f k a0 20).bind fun t306 => (some t306)
theorem impl_isSnapName.mono : ∀ a0 k, LeO (impl_isSnapName.f k a0) (impl_isSnapName.f (k + 1) a0) := by
  intro a0 k
  unfold impl_isSnapName.f
  repeat' first
      | (with_reducible exact impl_isName.mono _ _ _)
      | (with_reducible exact LeO.refl _)
      | (with_reducible exact LeO.none _)
      | (with_reducible refine LeO.ite ?_ ?_)
      | (with_reducible refine LeO.bind ?_ (fun _ => ?_))
      | exact impl_isName.mono _ _ _
      | exact LeO.none _
      | refine LeO.ite ?_ ?_
      | refine LeO.bind ?_ (fun _ => ?_)
set_option maxHeartbeats 8000000 in
set_option maxRecDepth 100000 in
theorem impl_isSnapName.calls (k : Nat) (a0 : ByteArray) (r : Bool) (w : World) (h : impl_isSnapName.f k a0 = some r) :
    Calls Try.prog 249 #[.string a0] w fun e w' => e = .returned (.bool r) ∧ Drawn0 w w' := by
  have H : ((impl_isName.f k a0 20).bind fun t306 => (some t306)) = some r := h
  clear h
  obtain ⟨t306, A2, H⟩ := OB H
  try dsimp only at H
  replace A2 := AM A2
  obtain rfl := Option.some.inj H
  go_enter Try.func249, Try.ntmps249
  go_wp2_with (first | ((with_reducible refine gate_callee (f := 142) rfl ?_); refine gl_ (some 4) Try.func142 #[.string a0, .int .i64 20] ?_; (with_reducible refine (impl_isName.calls k a0 20 t306 _ A2.out).mono ?_); rintro e w' ⟨rfl, ⟨nd, rfl⟩⟩; refine ⟨_, rfl, ?_⟩))
  go_ret
  exact ⟨by first | rfl | (simp; done) | (simp [*]; done), by repeat (first | exact Drawn0.refl _ | apply Drawn0.step)⟩

/-! ### impl_isDay: function 250 -/
def impl_isDay.f (a0 : Int) : Option (Bool) := (impl_within.f a0 0 1000000).bind fun t307 => (some t307)
set_option maxHeartbeats 8000000 in
set_option maxRecDepth 100000 in
theorem impl_isDay.calls (a0 : Int) (r : Bool) (w : World) (h : impl_isDay.f a0 = some r) :
    Calls Try.prog 250 #[.int .i64 a0] w fun e w' => e = .returned (.bool r) ∧ Drawn0 w w' := by
  have H : ((impl_within.f a0 0 1000000).bind fun t307 => (some t307)) = some r := h
  clear h
  obtain ⟨t307, A2, H⟩ := OB H
  try dsimp only at H
  replace A2 := AM A2
  obtain rfl := Option.some.inj H
  go_enter Try.func250, Try.ntmps250
  go_wp2_with (first | ((with_reducible refine gate_callee (f := 61) rfl ?_); refine gl_ (some 4) Try.func61 #[.int .i64 a0, .int .i64 0, .int .i64 1000000] ?_; (with_reducible refine (impl_within.calls a0 0 1000000 t307 _ A2.out).mono ?_); rintro e w' ⟨rfl, ⟨nd, rfl⟩⟩; refine ⟨_, rfl, ?_⟩))
  go_ret
  exact ⟨by first | rfl | (simp; done) | (simp [*]; done), by repeat (first | exact Drawn0.refl _ | apply Drawn0.step)⟩

/-! ### impl_SnapRight: function 214 -/
def impl_SnapRight.f (k : Nat) (a0_0 : ByteArray) (a0_1 : Int) (a0_2 : ByteArray) : Option (Bool) := (impl_isSnapName.f k a0_0).bind fun t309 => (if t309 = true then ((impl_isDay.f a0_1).bind fun t310 => (if t310 = true then (some ((a0_2.size : Int) == 32)) else (some false))) else (some false))
theorem impl_SnapRight.mono : ∀ a0 a1 a2 k, LeO (impl_SnapRight.f k a0 a1 a2) (impl_SnapRight.f (k + 1) a0 a1 a2) := by
  intro a0 a1 a2 k
  unfold impl_SnapRight.f
  repeat' first
      | (with_reducible exact impl_isSnapName.mono _ _)
      | (with_reducible exact LeO.refl _)
      | (with_reducible exact LeO.none _)
      | (with_reducible refine LeO.ite ?_ ?_)
      | (with_reducible refine LeO.bind ?_ (fun _ => ?_))
      | exact impl_isSnapName.mono _ _
      | exact LeO.none _
      | refine LeO.ite ?_ ?_
      | refine LeO.bind ?_ (fun _ => ?_)
set_option maxHeartbeats 8000000 in
set_option maxRecDepth 100000 in
theorem impl_SnapRight.calls (k : Nat) (a0_0 : ByteArray) (a0_1 : Int) (a0_2 : ByteArray) (r : Bool) (w : World) (h : impl_SnapRight.f k a0_0 a0_1 a0_2 = some r) :
    Calls Try.prog 214 #[.agg #[.string a0_0, .int .i64 a0_1, .string a0_2]] w fun e w' => e = .returned (.bool r) ∧ Below w.heap.size w w' := by
  have hu132 := Try.underlying132
  have HB := AM (Below.refl w.heap.size w)
  have H : ((impl_isSnapName.f k a0_0).bind fun t309 => (if t309 = true then ((impl_isDay.f a0_1).bind fun t310 => (if t310 = true then (some ((a0_2.size : Int) == 32)) else (some false))) else (some false))) = some r := h
  clear h
  obtain ⟨t309, A2, H⟩ := OB H
  try dsimp only at H
  replace A2 := AM A2
  by_cases c3 : t309 = true
  · subst c3
    rw [if_pos rfl] at H
    obtain ⟨t310, A4, H⟩ := OB H
    try dsimp only at H
    replace A4 := AM A4
    by_cases c5 : t310 = true
    · subst c5
      rw [if_pos rfl] at H
      obtain rfl := Option.some.inj H
      go_enter Try.func214, Try.ntmps214
      go_wp2_with (first | ((with_reducible refine gate_dst (N := 1) rfl ?_); (try (refine gate_guard (by rfl) ?_; dsimp only)); refine be_ 1 #[.string a0_0, .int .i64 a0_1, .string a0_2] 132 ?_; intro gb308 hg w6 hbox hb; have BK308 := AM hbox; have GW308 := AM ((by rw [hg]; exact (below_size bel_) : w.heap.size ≤ gb308)); have GE308 := AM ((by rw [hg]; exact (below_size bel_) : w.heap.size ≤ gb308)); replace HB := AM (below_step bel_ hb); clear hb hbox hg; have hcz7_0 : w6.cell? ⟨gb308, 0, none⟩ = some (.string a0_0) := (blk_cell BK308.out 0).trans rfl; have hcz7_1 : w6.cell? ⟨gb308, 1, none⟩ = some (.int .i64 a0_1) := (blk_cell BK308.out 1).trans rfl; have hcz7_2 : w6.cell? ⟨gb308, 2, none⟩ = some (.string a0_2) := (blk_cell BK308.out 2).trans rfl; have hfz7_0 := blk_frozen BK308.out 0; have hfz7_1 := blk_frozen BK308.out 1; have hfz7_2 := blk_frozen BK308.out 2) | ((with_reducible refine gate_callee (f := 249) rfl ?_); refine gl_ (some 5) Try.func249 #[.string a0_0] ?_; (with_reducible refine (impl_isSnapName.calls k a0_0 true _ A2.out).mono ?_); rintro e w' ⟨rfl, ⟨nd, rfl⟩⟩; refine ⟨_, rfl, ?_⟩) | (go_at_call 250; (with_reducible refine (impl_isDay.calls a0_1 true _ A4.out).mono ?_); rintro e w' ⟨rfl, ⟨nd, rfl⟩⟩))
      go_ret
      exact ⟨ri_, bel_⟩
    · replace c5 := Bool.eq_false_iff.mpr c5
      subst c5
      rw [if_neg (show ¬ (false = true) by decide)] at H
      obtain rfl := Option.some.inj H
      go_enter Try.func214, Try.ntmps214
      go_wp2_with (first | ((with_reducible refine gate_dst (N := 1) rfl ?_); (try (refine gate_guard (by rfl) ?_; dsimp only)); refine be_ 1 #[.string a0_0, .int .i64 a0_1, .string a0_2] 132 ?_; intro gb308 hg w8 hbox hb; have BK308 := AM hbox; have GW308 := AM ((by rw [hg]; exact (below_size bel_) : w.heap.size ≤ gb308)); have GE308 := AM ((by rw [hg]; exact (below_size bel_) : w.heap.size ≤ gb308)); replace HB := AM (below_step bel_ hb); clear hb hbox hg; have hcz9_0 : w8.cell? ⟨gb308, 0, none⟩ = some (.string a0_0) := (blk_cell BK308.out 0).trans rfl; have hcz9_1 : w8.cell? ⟨gb308, 1, none⟩ = some (.int .i64 a0_1) := (blk_cell BK308.out 1).trans rfl; have hcz9_2 : w8.cell? ⟨gb308, 2, none⟩ = some (.string a0_2) := (blk_cell BK308.out 2).trans rfl; have hfz9_0 := blk_frozen BK308.out 0; have hfz9_1 := blk_frozen BK308.out 1; have hfz9_2 := blk_frozen BK308.out 2) | ((with_reducible refine gate_callee (f := 249) rfl ?_); refine gl_ (some 5) Try.func249 #[.string a0_0] ?_; (with_reducible refine (impl_isSnapName.calls k a0_0 true _ A2.out).mono ?_); rintro e w' ⟨rfl, ⟨nd, rfl⟩⟩; refine ⟨_, rfl, ?_⟩) | (go_at_call 250; (with_reducible refine (impl_isDay.calls a0_1 false _ A4.out).mono ?_); rintro e w' ⟨rfl, ⟨nd, rfl⟩⟩))
      go_ret
      exact ⟨ri_, bel_⟩
  · replace c3 := Bool.eq_false_iff.mpr c3
    subst c3
    rw [if_neg (show ¬ (false = true) by decide)] at H
    obtain rfl := Option.some.inj H
    go_enter Try.func214, Try.ntmps214
    go_wp2_with (first | ((with_reducible refine gate_dst (N := 1) rfl ?_); (try (refine gate_guard (by rfl) ?_; dsimp only)); refine be_ 1 #[.string a0_0, .int .i64 a0_1, .string a0_2] 132 ?_; intro gb308 hg w10 hbox hb; have BK308 := AM hbox; have GW308 := AM ((by rw [hg]; exact (below_size bel_) : w.heap.size ≤ gb308)); have GE308 := AM ((by rw [hg]; exact (below_size bel_) : w.heap.size ≤ gb308)); replace HB := AM (below_step bel_ hb); clear hb hbox hg; have hcz11_0 : w10.cell? ⟨gb308, 0, none⟩ = some (.string a0_0) := (blk_cell BK308.out 0).trans rfl; have hcz11_1 : w10.cell? ⟨gb308, 1, none⟩ = some (.int .i64 a0_1) := (blk_cell BK308.out 1).trans rfl; have hcz11_2 : w10.cell? ⟨gb308, 2, none⟩ = some (.string a0_2) := (blk_cell BK308.out 2).trans rfl; have hfz11_0 := blk_frozen BK308.out 0; have hfz11_1 := blk_frozen BK308.out 1; have hfz11_2 := blk_frozen BK308.out 2) | ((with_reducible refine gate_callee (f := 249) rfl ?_); refine gl_ (some 5) Try.func249 #[.string a0_0] ?_; (with_reducible refine (impl_isSnapName.calls k a0_0 false _ A2.out).mono ?_); rintro e w' ⟨rfl, ⟨nd, rfl⟩⟩; refine ⟨_, rfl, ?_⟩))
    go_ret
    exact ⟨ri_, bel_⟩

end Go.Proofs.Ytfffdndeccipnaa.PFnExactKeep
