/- Functions of the law FnExactNodesRead: the print's, with walks of this session's own. No statement is proved here. -/
import Derived.WalkLawsBesides
import Derived.Test.YtggbpjfgfenpdaaVRegFnExactNodesRead
-- A program of this session wrote this text: a changed copy of the kit print, with given functions.
import Derived.Test.YtggbpjfgfenpdaaPFnExactNodesReadx0
namespace Go.Proofs.Ytggbpjfgfenpdaa.PFnExactNodesRead
open Go.RowKit Go.Proofs.YtggbpjfgfenpdaaW.PrintWords Go.Proofs.YtggbpjfgfenpdaaW.PrintLast Go.Proofs.YtggbpjfgfenpdaaW.PrintMore Go.Proofs.Ytggbpjfgfenpdaa.Reg Go.Proofs.Ytggbpjfgfenpdaa.Aut
attribute [local go_sem] max2_int min2_int max_two min_two max_three min_three max_four min_four   -- for this text's walks alone
set_option linter.unusedVariables false
set_option linter.unusedSimpArgs false

/-! ### laws_markText: function 63 -/
def laws_markText.l0 : Nat → Int → ByteArray → Option (ByteArray)
  | 0, _, _ => none
  | k + 1, x0, x3 => if x0 > 0 then ((some (([(wrap64 (48 + (Int.tmod x0 10))) % 256] : List Int) : List Int)).bind fun y258 => (if (strOfNums y258).size + x3.size ≤ 9223372036854775807 then (laws_markText.l0 k (wrap64 (Int.tdiv x0 10)) ((strOfNums y258) ++ x3)) else (none))) else (if 1 + x3.size ≤ 9223372036854775807 then (some ((⟨#[109]⟩ : ByteArray) ++ x3)) else (none))
def laws_markText.f (k : Nat) (a0 : Int) : Option (ByteArray) := if a0 ≤ 0 then (some (⟨#[109, 48]⟩ : ByteArray)) else (laws_markText.l0 k a0 (⟨#[]⟩ : ByteArray))
theorem laws_markText.mono_l : ∀ k, (∀ y0 y1, LeO (laws_markText.l0 k y0 y1) (laws_markText.l0 (k + 1) y0 y1))
  | 0 => fun _ _ r h => by simp [laws_markText.l0] at h
  | k + 1 => by
    have ih0 := laws_markText.mono_l k
    · intro y0 y1
      unfold laws_markText.l0
      repeat' first
      | (with_reducible exact ih0 _ _)
      | (with_reducible exact LeO.refl _)
      | (with_reducible exact LeO.none _)
      | (with_reducible refine LeO.ite ?_ ?_)
      | (with_reducible refine LeO.bind ?_ (fun _ => ?_))
      | exact ih0 _ _
      | exact LeO.none _
      | refine LeO.ite ?_ ?_
      | refine LeO.bind ?_ (fun _ => ?_)
theorem laws_markText.mono : ∀ a0 k, LeO (laws_markText.f k a0) (laws_markText.f (k + 1) a0) := by
  intro a0 k
  have ih0 := laws_markText.mono_l k
  unfold laws_markText.f
  repeat' first
      | (with_reducible exact ih0 _ _)
      | (with_reducible exact LeO.refl _)
      | (with_reducible exact LeO.none _)
      | (with_reducible refine LeO.ite ?_ ?_)
      | (with_reducible refine LeO.bind ?_ (fun _ => ?_))
      | exact ih0 _ _
      | exact LeO.none _
      | refine LeO.ite ?_ ?_
      | refine LeO.bind ?_ (fun _ => ?_)
set_option maxHeartbeats 8000000 in
set_option maxRecDepth 100000 in
theorem laws_markText.calls (k : Nat) (a0 : Int) (r : ByteArray) (w : World) (h : laws_markText.f k a0 = some r) :
    Calls Try.prog 63 #[.int .i64 a0] w fun e w' => e = .returned (.string r) ∧ Below w.heap.size w w' := by
  have HB := AM (Below.refl w.heap.size w)
  have H : (if a0 ≤ 0 then (some (⟨#[109, 48]⟩ : ByteArray)) else (laws_markText.l0 k a0 (⟨#[]⟩ : ByteArray))) = some r := h
  clear h
  by_cases c2 : a0 ≤ 0
  · rw [if_pos c2] at H
    have c2b0 : decide (a0 ≤ 0) = true := decide_eq_true c2
    clear c2
    obtain rfl := Option.some.inj H
    go_enter Try.func63, Try.ntmps63
    go_wp2
    go_ret
    exact ⟨ri_, bel_⟩
  · rw [if_neg c2] at H
    have c2b0 : decide (a0 ≤ 0) = false := decide_eq_false c2
    clear c2
    have H' := AM H
    clear H
    go_enter Try.func63, Try.ntmps63
    go_wp2
    go_loopg [0, 3] k (fun kq v0 v3 w' => ∃ (x0_1 : Int) (x3_1 : ByteArray), v0 = .int .i64 x0_1 ∧ v3 = .string x3_1 ∧ Aside0 (laws_markText.l0 kq x0_1 x3_1 = some r) ∧ Aside0 (kq ≤ k) ∧ Aside0 (Below w.heap.size w w'))
    case atStart => exact ⟨(a0), ((⟨#[]⟩ : ByteArray)), (by first | rfl | (simp; done) | (simp [*]; done)), (by first | rfl | (simp; done) | (simp [*]; done)), H', ⟨Nat.le_refl _⟩, ⟨bel_⟩⟩
    case round =>
      clear H'
      try clear c2
      try clear c2b0
      try clear p2
      obtain ⟨x0_1, x3_1, rfl, rfl, HA, HK1, HB⟩ := hrel
      cases gk with
      | zero => exact absurd HA.out (by simp [laws_markText.l0])
      | succ k1 =>
        have H := HA.out
        clear HA
        simp only [laws_markText.l0] at H
        by_cases c3 : x0_1 > 0
        · rw [if_pos c3] at H
          have c3b0 : decide (0 < x0_1) = true := decide_eq_true c3
          clear c3
          obtain ⟨y258, hy258⟩ : ∃ y_ : List Int, y_ = (([(wrap64 (48 + (Int.tmod x0_1 10))) % 256] : List Int)) := ⟨_, rfl⟩
          replace H : (if (strOfNums y258).size + x3_1.size ≤ 9223372036854775807 then (laws_markText.l0 k1 (wrap64 (Int.tdiv x0_1 10)) ((strOfNums y258) ++ x3_1)) else (none)) = some r := by first | (rw [hy258]; with_reducible exact H) | (have H2_ := (Option.bind_some _ _).symm.trans H; rw [hy258]; with_reducible exact H2_) | (have H2_ := (Option.bind_some _ _).symm.trans H; with_reducible exact H2_) | with_reducible exact H | (rw [hy258]; exact H) | exact H
          have Ny258 := AM hy258
          clear hy258
          by_cases c4 : (strOfNums y258).size + x3_1.size ≤ 9223372036854775807
          · rw [if_pos c4] at H
            have c4b0 := eq_true c4
            have c4b1 : decide ((strOfNums y258).size + x3_1.size ≤ 9223372036854775807) = true := decide_eq_true c4
            try have c4b2 : (9223372036854775807 < (strOfNums y258).size + x3_1.size) = False := eq_false (Nat.not_lt.2 c4)
            have H' := AM H
            clear H
            go_wp2_with (first | ((with_reducible refine gate_dst (N := 12) rfl ?_); refine Kd.R_lit (Kd.int .u8) _ 5 ?hgL1 (N := 12) ?hdL1 (xs := ([(wrap64 (48 + (Int.tmod x0_1 10))) % 256] : List Int)) (inner := [.int .u8 ((wrap64 (48 + (Int.tmod x0_1 10))) % 256)]) (ok := fun _ => True) (okp := fun _ => True) ?hrL1 ?hpL1 (fun _ hk => hk) trivial (Below.refl _ _) (Nat.le_refl _) (by simp) ?_; (case hdL1 => rfl); (case hgL1 => rfl); (case hrL1 => first | (go_simp; done) | (go_simp; rfl)); (case hpL1 => exact (Reps.one (show Kd.M (Kd.int .u8) _ _ _ ((wrap64 (48 + (Int.tmod x0_1 10))) % 256) [.int .u8 ((wrap64 (48 + (Int.tmod x0_1 10))) % 256)] from rfl) (Reps.none _ _))); intro v259 w5 ho6 hb hg_ hnew_; clear hg_ hnew_; (first | rw [← Ny258.out] at ho6 | (simp only [Int.reduceToNat] at ho6; rw [← Ny258.out] at ho6)); have HO260 := AM (Kd.R_lower ho6 (below_size bel_)); replace HB := AM (below_step bel_ hb); clear hb ho6; have hcv7 := own_string (P := Try.prog) Try.underlying51 Try.underlying5 Try.underlying9 (Kd.own_of_R HO260.out)))
            go_roundg k1
            case measure => have := HK1.out; omega
            case rel => exact ⟨(wrap64 (Int.tdiv x0_1 10)), ((strOfNums y258) ++ x3_1), (by first | rfl | (simp; done) | (simp [*]; done)), (by first | rfl | (simp; done) | (simp [*]; done)), H', ⟨by have := HK1.out; omega⟩, ⟨bel_⟩⟩
          · rw [if_neg c4] at H
            exact absurd H (by simp)
        · rw [if_neg c3] at H
          have c3b0 : decide (0 < x0_1) = false := decide_eq_false c3
          clear c3
          by_cases c8 : 1 + x3_1.size ≤ 9223372036854775807
          · rw [if_pos c8] at H
            have c8b0 := eq_true c8
            have c8b1 : decide (1 + x3_1.size ≤ 9223372036854775807) = true := decide_eq_true c8
            try have c8b2 : (9223372036854775807 < 1 + x3_1.size) = False := eq_false (Nat.not_lt.2 c8)
            obtain rfl := Option.some.inj H
            go_wp2
            go_ret
            exact ⟨ri_, bel_⟩
          · rw [if_neg c8] at H
            exact absurd H (by simp)

/-! ### laws_markStringS: function 112 -/
def laws_markStringS.l0 : Nat → List ByteArray → Int → Int → Option (Int × List ByteArray)
  | 0, _, _, _ => none
  | k + 1, x0, x1, x5 => if x5 < (x0.length : Int) then ((laws_markText.f k x1).bind fun t261 => (if 0 ≤ x5 then (laws_markStringS.l0 k (x0.set (x5 : Int).toNat t261) (wrap64 (x1 + 1)) (wrap64 (x5 + 1))) else (none))) else (some (x1, x0))
def laws_markStringS.f (k : Nat) (l0 : List ByteArray) (a1 : Int) : Option (Int × List ByteArray) := laws_markStringS.l0 k l0 a1 0
theorem laws_markStringS.mono_l : ∀ k, (∀ y0 y1 y2, LeO (laws_markStringS.l0 k y0 y1 y2) (laws_markStringS.l0 (k + 1) y0 y1 y2))
  | 0 => fun _ _ _ r h => by simp [laws_markStringS.l0] at h
  | k + 1 => by
    have ih0 := laws_markStringS.mono_l k
    · intro y0 y1 y2
      unfold laws_markStringS.l0
      repeat' first
      | (with_reducible exact ih0 _ _ _)
      | (with_reducible exact laws_markText.mono _ _)
      | (with_reducible exact LeO.refl _)
      | (with_reducible exact LeO.none _)
      | (with_reducible refine LeO.ite ?_ ?_)
      | (with_reducible refine LeO.bind ?_ (fun _ => ?_))
      | exact ih0 _ _ _
      | exact laws_markText.mono _ _
      | exact LeO.none _
      | refine LeO.ite ?_ ?_
      | refine LeO.bind ?_ (fun _ => ?_)
theorem laws_markStringS.mono : ∀ a0 a1 k, LeO (laws_markStringS.f k a0 a1) (laws_markStringS.f (k + 1) a0 a1) := by
  intro a0 a1 k
  have ih0 := laws_markStringS.mono_l k
  unfold laws_markStringS.f
  repeat' first
      | (with_reducible exact ih0 _ _ _)
      | (with_reducible exact laws_markText.mono _ _)
      | (with_reducible exact LeO.refl _)
      | (with_reducible exact LeO.none _)
      | (with_reducible refine LeO.ite ?_ ?_)
      | (with_reducible refine LeO.bind ?_ (fun _ => ?_))
      | exact ih0 _ _ _
      | exact laws_markText.mono _ _
      | exact LeO.none _
      | refine LeO.ite ?_ ?_
      | refine LeO.bind ?_ (fun _ => ?_)
set_option maxHeartbeats 8000000 in
set_option maxRecDepth 100000 in
theorem laws_markStringS.calls (k : Nat) (P0_ : Nat → Prop) (u9000_ : Value) (l0 : List ByteArray) (a1 : Int) (r1 : Int) (r2 : List ByteArray) (w0 w : World) (hB : Below w0.heap.size w0 w) (ho0 : Kd.R Kd.string 9 w w0.heap.size P0_ u9000_ l0) (h : laws_markStringS.f k l0 a1 = some (r1, r2)) :
    Calls Try.prog 112 #[u9000_, .int .i64 a1] w fun e w' => e = .returned (.int .i64 r1) ∧ Kd.R Kd.string 9 w' w0.heap.size (fun k_ => (P0_ k_ ∨ w.heap.size ≤ k_)) u9000_ r2 ∧ Below w0.heap.size w0 w' ∧ Kept w w' (fun k_ => P0_ k_) := by
  have HO0 := AM (show Kd.R Kd.string 9 w w0.heap.size (fun k_ => (P0_ k_ ∨ w.heap.size ≤ k_)) u9000_ l0 from Kd.R_mono ho0 (fun k_ hk => (.inl hk)))
  have HK := AM (Kept.refl w (fun k_ => P0_ k_))
  have HW0 := AM hB.size
  have HB := AM hB
  clear hB
  have H : (laws_markStringS.l0 k l0 a1 0) = some (r1, r2) := h
  clear h
  have H' := AM H
  clear H
  go_enter Try.func112, Try.ntmps112
  go_wp2
  go_loopg [1, 5] k (fun kq v1 v5 w' => ∃ (x0_1 : List ByteArray) (x1_1 : Int) (x5_1 : Int), v1 = .int .i64 x1_1 ∧ v5 = .int .i64 x5_1 ∧ Aside0 (laws_markStringS.l0 kq x0_1 x1_1 x5_1 = some (r1, r2)) ∧ Aside0 (kq ≤ k) ∧ Aside0 (Kd.R Kd.string 9 w' w0.heap.size (fun k_ => (P0_ k_ ∨ w.heap.size ≤ k_)) u9000_ x0_1) ∧ Aside0 (Kept w w' (fun k_ => P0_ k_)) ∧ Aside0 (Below w0.heap.size w0 w'))
  case atStart => exact ⟨(l0), (a1), (0), (by first | rfl | (simp; done) | (simp [*]; done)), (by first | rfl | (simp; done) | (simp [*]; done)), H', ⟨Nat.le_refl _⟩, ⟨ro_ HO0.out⟩, ⟨kt_⟩, ⟨bel_⟩⟩
  case round =>
    clear H'
    try clear c1
    try clear p2
    obtain ⟨x0_1, x1_1, x5_1, rfl, rfl, HA, HK1, HO_0, HK, HB⟩ := hrel
    cases gk with
    | zero => exact absurd HA.out (by simp [laws_markStringS.l0])
    | succ k1 =>
      have H := HA.out
      clear HA
      simp only [laws_markStringS.l0] at H
      by_cases c3 : x5_1 < (x0_1.length : Int)
      · rw [if_pos c3] at H
        have c3b0 : decide (x5_1 < (x0_1.length : Int)) = true := decide_eq_true c3
        clear c3
        obtain ⟨t261, A4, H⟩ := OB H
        try dsimp only at H
        replace A4 := AM A4
        by_cases c5 : 0 ≤ x5_1
        · rw [if_pos c5] at H
          have c5b0 : decide (0 ≤ x5_1) = true := decide_eq_true c5
          clear c5
          obtain ⟨y262, hy262⟩ : ∃ y_ : List ByteArray, y_ = (x0_1.set (x5_1 : Int).toNat t261) := ⟨_, rfl⟩
          replace H : (laws_markStringS.l0 k1 y262 (wrap64 (x1_1 + 1)) (wrap64 (x5_1 + 1))) = some (r1, r2) := by first | (rw [hy262]; with_reducible exact H) | (have H2_ := (Option.bind_some _ _).symm.trans H; rw [hy262]; with_reducible exact H2_) | (have H2_ := (Option.bind_some _ _).symm.trans H; with_reducible exact H2_) | with_reducible exact H | (rw [hy262]; exact H) | exact H
          have Ny262 := AM hy262
          clear hy262
          have H' := AM H
          clear H
          obtain ⟨Ao7, co7, eo7⟩ := Kd.R_slice HO_0.out
          subst eo7
          go_wp2_with (first | ((with_reducible refine gate_callee (f := 63) rfl ?_); refine gl_ (some 15) Try.func63 #[.int .i64 x1_1] ?_; (with_reducible refine (laws_markText.calls k1 x1_1 t261 _ A4.out).mono ?_); rintro e w8 ⟨rfl, hb⟩; refine ⟨_, rfl, ?_⟩; replace HO_0 := AM (Kd.R_below (ro_ HO_0.out) hb); replace HK := AM (Kept.below (S := (fun k_ => P0_ k_)) kt_ hb); replace HB := AM (below_step bel_ hb); (try clear hb); (try clear hb2); (try clear hk); (try clear hi); have p6 : 0 ≤ (x5_1 : Int) := of_decide_eq_true (by first | (with_reducible assumption) | assumption); have q6 : (x5_1 : Int) < ((x0_1.length : Int) : Int) := of_decide_eq_true (by first | (with_reducible assumption) | assumption); obtain ⟨go6, co6, eo6, gb6, gl6, cl6, HG6⟩ := Kd.R_form HO_0.out (by omega); (first | cases eo6 | (injection eo6 with ea_ en_ ec_; (first | subst ea_ | (injection ea_ with ea_; subst ea_)); subst ec_; clear en_)); have GB6 := AM gb6; have GG6 := AM HG6; clear gb6 gl6 HG6; have HMgo6 := AM (show (P0_ go6 ∨ w.heap.size ≤ go6) from (HO_0.out.1 _ rfl)); obtain ⟨hx6_0, hf6_0⟩ := Kd.R_celln (⟨#[]⟩ : ByteArray) HO_0.out (x5_1 : Int) p6 q6; replace p6 := eq_true p6; replace q6 := eq_true q6; obtain ⟨hy9_, hz9_⟩ := Kd.R_celln (⟨#[]⟩ : ByteArray) HO_0.out (x5_1 : Int) (of_decide_eq_true (by first | (with_reducible assumption) | assumption)) (of_decide_eq_true (by first | (with_reducible assumption) | assumption)); have HP9 := Kd.R_putg HO_0.out (x5_1 : Int) t261) | ((with_reducible refine gate_store (t := 9) (p := 16) rfl ?_); refine store_event (t := 9) (p := 16) (v := ?vo_w10) (w1 := (w8.setCell ⟨go6, (x5_1 : Int).toNat, none⟩ (.string t261))) ?hg ?ho ?hn ?hr ?_; (case ho => rfl); (case hg => rfl); (case hn => rfl); (case hr => first | (go_simp; done) | (go_simp; rfl)); intro w10 hw; have hg : w8.grownBy w10 (some go6) := (by rw [hw]; exact HP9.2); have hp_ : Kd.R Kd.string 9 w10 w0.heap.size (fun k_ => (P0_ k_ ∨ w.heap.size ≤ k_)) (.slice (some ⟨go6, 0, none⟩) x0_1.length co7) y262 := (by rw [hw, Ny262.out]; exact HP9.1); clear HP9; replace HB := AM ((by rw [hw]; exact below_set (HB.out) GB6.out : Below w0.heap.size w0 w10)); replace HK := AM (Kept.of_grown (S := (fun k_ => P0_ k_)) hg kt_ (fun k_ e_ => (HO_0.out.1 k_ e_))); replace HO_0 := AM hp_; clear hg hw hp_))
          go_roundg k1
          case measure => have := HK1.out; omega
          case rel => exact ⟨(y262), (wrap64 (x1_1 + 1)), (wrap64 (x5_1 + 1)), (by first | rfl | (simp; done) | (simp [*]; done)), (by first | rfl | (simp; done) | (simp [*]; done)), H', ⟨by have := HK1.out; omega⟩, ⟨ro_ HO_0.out⟩, ⟨kt_⟩, ⟨bel_⟩⟩
        · rw [if_neg c5] at H
          exact absurd H (by simp)
      · rw [if_neg c3] at H
        have c3b0 : decide (x5_1 < (x0_1.length : Int)) = false := decide_eq_false c3
        clear c3
        simp only [Option.some.injEq, Prod.mk.injEq] at H
        obtain ⟨rfl, rfl⟩ := H
        obtain ⟨Ao11, co11, eo11⟩ := Kd.R_slice HO_0.out
        subst eo11
        go_wp2
        go_ret
        exact ⟨ri_, ro_ HO_0.out, bel_, kt_⟩

/-! ### laws_markNodeS: function 58 -/
theorem nd_put {W : World} {base g n cap : Nat} {ok : Nat → Prop} {xs : List S74} (h : Kd.S k74 74 W base ok (.slice (some ⟨g, 0, none⟩) n cap) xs) (i : Int) (h0 : 0 ≤ i) (h1 : i < n) (j : Nat) (hj : j + 1 ≤ 4) (u : Value) (x' : S74)
    (hx : ∀ v3 : Value, ([.string (rd_T74 xs i).f0, .bool (rd_T74 xs i).f1, .int .i64 (rd_T74 xs i).f2, v3] : List Value).take j ++ [u] ++ ([.string (rd_T74 xs i).f0, .bool (rd_T74 xs i).f1, .int .i64 (rd_T74 xs i).f2, v3] : List Value).drop (j + 1) = [.string x'.f0, .bool x'.f1, .int .i64 x'.f2, v3]) (h3 : x'.f3 = (rd_T74 xs i).f3) :
    Kd.S k74 74 (W.setCells g (i.toNat * 4 + j) [u]) base ok (.slice (some ⟨g, 0, none⟩) n cap) (xs.set i.toNat x') ∧ W.grownBy (W.setCells g (i.toNat * 4 + j) [u]) (some g) := by
  obtain ⟨oki, c, hcl, hM, hcc, hfr, hoki, hH⟩ := Kd.S_elem h z74 i h0 h1
  obtain ⟨v3, rfl, ge⟩ := k74_openM hM
  have e : (fun k => ok k ∧ ¬ (fun _ : Nat => False) k) = ok := by funext k; simp
  have hH' : Kd.H k74 74 W base (fun k => ok k ∧ ¬ (fun _ : Nat => False) k) (.slice (some ⟨g, 0, none⟩) n cap) xs i oki [.string (rd_T74 xs i).f0, .bool (rd_T74 xs i).f1, .int .i64 (rd_T74 xs i).f2, v3] := by rw [e]; exact hH
  refine Kd.S_seg (okp := oki) hH' h0 h1 (seg := [u]) (j := j) hj (x' := x') ?_ (fun k hk => .inl hk) (fun k hk => hk.elim)
  have hx2 := hx v3
  rw [show j + [u].length = j + 1 from rfl, hx2]
  exact k74_mkM _ _ _ x' (by rw [h3]; exact ge)
theorem nd_cells {W : World} {base g n cap : Nat} {ok : Nat → Prop} {xs : List S74} (h : Kd.S k74 74 W base ok (.slice (some ⟨g, 0, none⟩) n cap) xs) (i : Int) (h0 : 0 ≤ i) (h1 : i < n) :
    W.cell? ⟨g, i.toNat * 4, none⟩ = some (.string (rd_T74 xs i).f0) ∧ W.cell? ⟨g, i.toNat * 4 + 1, none⟩ = some (.bool (rd_T74 xs i).f1) ∧ W.cell? ⟨g, i.toNat * 4 + 2, none⟩ = some (.int .i64 (rd_T74 xs i).f2) ∧ (∀ j, W.frozen? ⟨g, i.toNat * 4 + j, none⟩ = false) := by
  obtain ⟨oki, c, hcl, hM, hcc, hfr, hoki, hH⟩ := Kd.S_elem h z74 i h0 h1
  obtain ⟨v3, rfl, ge⟩ := k74_openM hM
  exact ⟨hcc 0 _ rfl, hcc 1 _ rfl, hcc 2 _ rfl, hfr⟩
/-- the element's own row of strings, lent and given back. -/
theorem nd_in {W : World} {base g n cap : Nat} {ok : Nat → Prop} {xs : List S74} (h : Kd.S k74 74 W base ok (.slice (some ⟨g, 0, none⟩) n cap) xs) (i : Int) (h0 : 0 ≤ i) (h1 : i < n) :
    ∃ (v3 : Value) (oki : Nat → Prop), W.cell? ⟨g, i.toNat * 4 + 3, none⟩ = some v3 ∧ Kd.R Kd.string 9 W base oki v3 (rd_T74 xs i).f3 ∧ (∀ k, oki k → ok k ∧ k ≠ g) ∧
      ∀ (w1 : World) (ys : List ByteArray) (okq : Nat → Prop), Kd.R Kd.string 9 w1 base okq v3 ys → (∀ k, k < W.heap.size → ¬ oki k → w1.heap[k]? = W.heap[k]?) →
        Kd.S k74 74 w1 base ok (.slice (some ⟨g, 0, none⟩) n cap) (xs.set i.toNat ⟨(rd_T74 xs i).f0, (rd_T74 xs i).f1, (rd_T74 xs i).f2, ys⟩) := by
  obtain ⟨oki, c, hcl, hM, hcc, hfr, hoki, hH⟩ := Kd.S_elem h z74 i h0 h1
  obtain ⟨v3, rfl, ge⟩ := k74_openM hM
  refine ⟨v3, oki, hcc 3 _ rfl, ge, hoki, fun w1 ys okq hR hk => ?_⟩
  have ht := Kd.R_tight rfl hR
  obtain ⟨ho, f, hg⟩ := hH
  have hg2 := Kd.R_step hg (w1 := w1) (fun k hok hlt => hk k hlt hok.2)
  have hH2 : Kd.H k74 74 w1 base ok (.slice (some ⟨g, 0, none⟩) n cap) xs i oki _ := ⟨ho, f, hg2⟩
  exact Kd.H_back hH2 (x' := ⟨(rd_T74 xs i).f0, (rd_T74 xs i).f1, (rd_T74 xs i).f2, ys⟩) (k74_mkM _ _ _ ⟨(rd_T74 xs i).f0, (rd_T74 xs i).f1, (rd_T74 xs i).f2, ys⟩ ht) (fun k hk' => ge.1 k hk'.symm)
def laws_markNodeS.l0 : Nat → List (S74) → Int → Int → Option (Int × List (S74))
  | 0, _, _, _ => none
  | k + 1, x0, x1, x5 => if x5 < (x0.length : Int) then (if 0 ≤ x5 then ((laws_markText.f k x1).bind fun t => ((laws_markStringS.f k (rd_T74 x0 x5).f3 (wrap64 (wrap64 (wrap64 (x1 + 1) + 1) + 1))).bind fun p => (laws_markNodeS.l0 k (x0.set (x5 : Int).toNat (⟨t, ((wrap64 (x1 + 1)).tmod 3 == 0), wrap64 (wrap64 (x1 + 1) + 1), p.2⟩ : S74)) p.1 (wrap64 (x5 + 1))))) else (none)) else (some (x1, x0))
def laws_markNodeS.f (k : Nat) (l0 : List (S74)) (a1 : Int) : Option (Int × List (S74)) := laws_markNodeS.l0 k l0 a1 0
theorem laws_markNodeS.mono_l : ∀ k, (∀ y0 y1 y2, LeO (laws_markNodeS.l0 k y0 y1 y2) (laws_markNodeS.l0 (k + 1) y0 y1 y2))
  | 0 => fun _ _ _ r h => by simp [laws_markNodeS.l0] at h
  | k + 1 => by
    have ih0 := laws_markNodeS.mono_l k
    · intro y0 y1 y2
      unfold laws_markNodeS.l0
      repeat' first
      | (with_reducible exact ih0 _ _ _)
      | (with_reducible exact laws_markText.mono _ _)
      | (with_reducible exact laws_markStringS.mono _ _ _)
      | (with_reducible exact LeO.refl _)
      | (with_reducible refine LeO.ite ?_ ?_)
      | (with_reducible refine LeO.bind ?_ (fun _ => ?_))
theorem laws_markNodeS.mono : ∀ a0 a1 k, LeO (laws_markNodeS.f k a0 a1) (laws_markNodeS.f (k + 1) a0 a1) := fun _ _ k => laws_markNodeS.mono_l k _ _ _
theorem wset_set (xs : List S74) (i : Nat) (a b : S74) : (xs.set i a).set i b = xs.set i b := by simp
theorem wset_rd (xs : List S74) (i : Int) (h0 : 0 ≤ i) (h1 : i < (xs.length : Int)) (a : S74) : rd_T74 (xs.set i.toNat a) i = a := by
  unfold rd_T74
  rw [List.getD_eq_getElem?_getD, List.getElem?_set_self (by omega)]
  rfl
set_option maxHeartbeats 8000000 in
set_option maxRecDepth 100000 in
theorem laws_markNodeS.calls (k : Nat) (P0_ : Nat → Prop) (u9000_ : Value) (l0 : List (S74)) (a1 : Int) (r1 : Int) (r2 : List (S74)) (w0 w : World) (hB : Below w0.heap.size w0 w) (ho0 : Kd.S k74 74 w w0.heap.size P0_ u9000_ l0) (h : laws_markNodeS.f k l0 a1 = some (r1, r2)) :
    Calls Try.prog 58 #[u9000_, .int .i64 a1] w fun e w' => e = .returned (.int .i64 r1) ∧ Kd.S k74 74 w' w0.heap.size P0_ u9000_ r2 ∧ Below w0.heap.size w0 w' ∧ Kept w w' (fun k_ => P0_ k_) := by
  have hu := Try.underlying74
  have HO := AM ho0
  have HK := AM (Kept.refl w (fun k_ => P0_ k_))
  have HB := AM hB
  have HW0 := AM hB.size
  clear hB ho0
  have H' := AM (show laws_markNodeS.l0 k l0 a1 0 = some (r1, r2) from h)
  clear h
  go_enter Try.func58, Try.ntmps58
  go_wp2
  go_loopg [1, 5] k (fun kq v1 v5 w' => ∃ (xs : List (S74)) (q : Int) (x : Int), v1 = .int .i64 q ∧ v5 = .int .i64 x ∧ Aside0 (laws_markNodeS.l0 kq xs q x = some (r1, r2)) ∧ Aside0 (kq ≤ k) ∧ Aside0 (Kd.S k74 74 w' w0.heap.size P0_ u9000_ xs) ∧ Aside0 (Kept w w' (fun k_ => P0_ k_)) ∧ Aside0 (Below w0.heap.size w0 w'))
  case atStart => exact ⟨l0, a1, 0, rfl, rfl, H', ⟨Nat.le_refl _⟩, HO, HK, HB⟩
  case round =>
    clear H' HO HK HB
    obtain ⟨xs, q, x, rfl, rfl, HA, HK1, HO, HK, HB⟩ := hrel
    cases gk with
    | zero => exact absurd HA.out (by simp [laws_markNodeS.l0])
    | succ k1 =>
      have H := HA.out
      clear HA
      simp only [laws_markNodeS.l0] at H
      by_cases c3 : x < (xs.length : Int)
      · rw [if_pos c3] at H
        by_cases c4 : 0 ≤ x
        · rw [if_pos c4] at H
          obtain ⟨t, ht, H2⟩ := Option.bind_eq_some_iff.mp H
          clear H
          obtain ⟨⟨p1, p2⟩, hp, H⟩ := Option.bind_eq_some_iff.mp H2
          clear H2
          have HN := AM H
          have HT := AM ht
          have HP := AM hp
          clear H ht hp
          obtain ⟨g, cap, hv, hbg, hgl, hgc⟩ := Kd.S_form HO.out (by omega)
          subst hv
          obtain ⟨hx0, hx1, hx2, hfr⟩ := nd_cells HO.out x c4 c3
          have HF0 := AM hfr
          have hPg : P0_ g := (Kd.S_R HO.out).1 g (by simp [Value.ownBlock])
          have HPG := AM hPg
          have HBG := AM hbg
          have C3 := AM c3
          have C4 := AM c4
          have c3b0 : decide (x < (xs.length : Int)) = true := decide_eq_true c3
          have c4b0 := eq_true c4
          have c3b1 := eq_true c3
          clear c3 c4 hPg hfr hbg hgl hgc hx0 hx1 hx2
          go_wp2_with (first
            | ((with_reducible refine gate_callee (f := 63) rfl ?_); refine gl_ (some 15) Try.func63 #[.int .i64 q] ?_; (with_reducible refine (laws_markText.calls k1 q t _ HT.out).mono ?_); rintro e w2 ⟨rfl, hb⟩; refine ⟨_, rfl, ?_⟩; replace HO := AM (Kd.S_below HO.out hb); replace HK := AM (Kept.below HK.out hb); replace HB := AM (below_step HB.out hb); clear hb; have hcs_ := nd_cells HO.out x C4.out C3.out; have hcx9 := hcs_.1; have hfy9 : w2.frozen? ⟨g, x.toNat * 4, none⟩ = false := hcs_.2.2.2 0; clear hcs_)
            | ((with_reducible refine gate_store (t := 9) (p := 17) rfl ?_); refine store_event (t := 9) (p := 17) (v := ?vo0m) (w1 := w2.setCell ⟨g, x.toNat * 4, none⟩ (.string t)) ?hg0m ?ho0m ?hn0m ?hr0m ?_; (case ho0m => rfl); (case hg0m => rfl); (case hn0m => rfl); (case hr0m => first | (go_simp; done) | (go_simp; rfl)); intro w3 hw; have hp_ := nd_put (xs := xs) HO.out x C4.out C3.out 0 (by decide) (.string t) ⟨t, (rd_T74 xs x).f1, (rd_T74 xs x).f2, (rd_T74 xs x).f3⟩ (fun _ => rfl) rfl; have hk_ : Aside0 (Kept w w3 (fun k_ => P0_ k_)) := AM (by rw [hw]; exact Kept.of_grown hp_.2 HK.out (fun k_ hk_ => .inl (by injection hk_ with hk_; rw [← hk_]; exact HPG.out))); have hb_ : Aside0 (Below w0.heap.size w0 w3) := AM (by rw [hw]; exact HB.out.setCell (p := ⟨g, x.toNat * 4, none⟩) HBG.out _); replace hp_ := hp_.1; have ho_ : Aside0 (Kd.S k74 74 w3 w0.heap.size P0_ (.slice (some ⟨g, 0, none⟩) xs.length cap) (xs.set x.toNat ⟨t, (rd_T74 xs x).f1, (rd_T74 xs x).f2, (rd_T74 xs x).f3⟩)) := AM (by rw [hw]; exact hp_); clear HO HK HB hp_ hw; have HO := ho_; have HK := hk_; have HB := hb_; clear ho_ hk_ hb_; have hcs_ := nd_cells HO.out x C4.out C3.out; have hcy0 := hcs_.2.1; have hcw0 := hcs_.2.2.1; have hfx0 := hcs_.2.2.2 1; have hfw0 := hcs_.2.2.2 2; clear hcs_)
            | ((with_reducible refine gate_store (t := 4) (p := 26) rfl ?_); refine store_event (t := 4) (p := 26) (v := ?vo1m) (w1 := w3.setCell ⟨g, x.toNat * 4 + 1, none⟩ (.bool ((wrap64 (q + 1)).tmod 3 == 0))) ?hg1m ?ho1m ?hn1m ?hr1m ?_; (case ho1m => rfl); (case hg1m => rfl); (case hn1m => rfl); (case hr1m => first | (go_simp; done) | (go_simp; rfl)); intro w4 hw; have hp_ := nd_put (xs := (xs.set x.toNat ⟨t, (rd_T74 xs x).f1, (rd_T74 xs x).f2, (rd_T74 xs x).f3⟩)) HO.out x C4.out C3.out 1 (by decide) (.bool ((wrap64 (q + 1)).tmod 3 == 0)) ⟨t, ((wrap64 (q + 1)).tmod 3 == 0), (rd_T74 xs x).f2, (rd_T74 xs x).f3⟩ (fun _ => by rw [wset_rd _ _ C4.out C3.out]; rfl) (by rw [wset_rd _ _ C4.out C3.out]); have hk_ : Aside0 (Kept w w4 (fun k_ => P0_ k_)) := AM (by rw [hw]; exact Kept.of_grown hp_.2 HK.out (fun k_ hk_ => .inl (by injection hk_ with hk_; rw [← hk_]; exact HPG.out))); have hb_ : Aside0 (Below w0.heap.size w0 w4) := AM (by rw [hw]; exact HB.out.setCell (p := ⟨g, x.toNat * 4 + 1, none⟩) HBG.out _); replace hp_ := hp_.1; rw [wset_set] at hp_; have ho_ : Aside0 (Kd.S k74 74 w4 w0.heap.size P0_ (.slice (some ⟨g, 0, none⟩) xs.length cap) (xs.set x.toNat ⟨t, ((wrap64 (q + 1)).tmod 3 == 0), (rd_T74 xs x).f2, (rd_T74 xs x).f3⟩)) := AM (by rw [hw]; exact hp_); clear HO HK HB hp_ hw; have HO := ho_; have HK := hk_; have HB := hb_; clear ho_ hk_ hb_; have hcs_ := nd_cells HO.out x C4.out C3.out; have hcy1 := hcs_.2.1; have hcw1 := hcs_.2.2.1; have hfx1 := hcs_.2.2.2 1; have hfw1 := hcs_.2.2.2 2; clear hcs_)
            | ((with_reducible refine gate_store (t := 2) (p := 33) rfl ?_); refine store_event (t := 2) (p := 33) (v := ?vo2m) (w1 := w4.setCell ⟨g, x.toNat * 4 + 2, none⟩ (.int .i64 (wrap64 (wrap64 (q + 1) + 1)))) ?hg2m ?ho2m ?hn2m ?hr2m ?_; (case ho2m => rfl); (case hg2m => rfl); (case hn2m => rfl); (case hr2m => first | (go_simp; done) | (go_simp; rfl)); intro w5 hw; have hp_ := nd_put (xs := (xs.set x.toNat ⟨t, ((wrap64 (q + 1)).tmod 3 == 0), (rd_T74 xs x).f2, (rd_T74 xs x).f3⟩)) HO.out x C4.out C3.out 2 (by decide) (.int .i64 (wrap64 (wrap64 (q + 1) + 1))) ⟨t, ((wrap64 (q + 1)).tmod 3 == 0), (wrap64 (wrap64 (q + 1) + 1)), (rd_T74 xs x).f3⟩ (fun _ => by rw [wset_rd _ _ C4.out C3.out]; rfl) (by rw [wset_rd _ _ C4.out C3.out]); have hk_ : Aside0 (Kept w w5 (fun k_ => P0_ k_)) := AM (by rw [hw]; exact Kept.of_grown hp_.2 HK.out (fun k_ hk_ => .inl (by injection hk_ with hk_; rw [← hk_]; exact HPG.out))); have hb_ : Aside0 (Below w0.heap.size w0 w5) := AM (by rw [hw]; exact HB.out.setCell (p := ⟨g, x.toNat * 4 + 2, none⟩) HBG.out _); replace hp_ := hp_.1; rw [wset_set] at hp_; have ho_ : Aside0 (Kd.S k74 74 w5 w0.heap.size P0_ (.slice (some ⟨g, 0, none⟩) xs.length cap) (xs.set x.toNat ⟨t, ((wrap64 (q + 1)).tmod 3 == 0), (wrap64 (wrap64 (q + 1) + 1)), (rd_T74 xs x).f3⟩)) := AM (by rw [hw]; exact hp_); clear HO HK HB hp_ hw; have HO := ho_; have HK := hk_; have HB := hb_; clear ho_ hk_ hb_; obtain ⟨v3, oki, hx3, hR3, hoki, hback⟩ := nd_in HO.out x C4.out C3.out; rw [wset_rd _ _ C4.out C3.out] at hR3 hback; have HR3 := AM hR3; have HOK := AM hoki; have HBK := AM hback; clear hR3 hoki hback)
            | ((with_reducible refine gate_callee (f := 112) rfl ?_); refine gl_ (some 42) Try.func112 #[v3, .int .i64 (wrap64 (wrap64 (wrap64 (q + 1) + 1) + 1))] ?_; (with_reducible refine (laws_markStringS.calls k1 oki v3 _ _ p1 p2 w0 _ HB.out HR3.out HP.out).mono ?_); rintro e w6 ⟨rfl, hR, hb, hk⟩; refine ⟨_, rfl, ?_⟩; have ho_ := HBK.out w6 p2 _ hR (fun k_ hlt hn => hk.2 k_ hlt hn); rw [wset_set] at ho_; replace HO := AM ho_; replace HK := AM (Kept.then_ HK.out hk (fun k_ hq => .inl (HOK.out k_ hq).1)); replace HB := AM hb; clear hR hb hk ho_))
          go_roundg k1
          case measure => have := HK1.out; omega
          case rel => exact ⟨_, p1, (wrap64 (x + 1)), (by first | rfl | (simp; done)), (by first | rfl | (simp; done) | (simp [*]; done)), HN, ⟨by have := HK1.out; omega⟩, HO, HK, HB⟩
        · rw [if_neg c4] at H
          exact absurd H (by simp)
      · rw [if_neg c3] at H
        have c3b0 : decide (x < (xs.length : Int)) = false := decide_eq_false c3
        clear c3
        simp only [Option.some.injEq, Prod.mk.injEq] at H
        obtain ⟨rfl, rfl⟩ := H
        obtain ⟨Ao, co, eo⟩ := Kd.S_slice HO.out
        subst eo
        go_wp2
        go_ret
        exact ⟨rfl, HO.out, HB.out, HK.out⟩

/-! ### laws_markNodesOut: function 22 -/
def laws_markNodesOut.f (k : Nat) (l0 : List (S74)) (c : Int) (a1 : Int) : Option (Int × List (S74)) := laws_markNodeS.f k l0 a1
theorem laws_markNodesOut.mono : ∀ a0 a1 a2 k, LeO (laws_markNodesOut.f k a0 a1 a2) (laws_markNodesOut.f (k + 1) a0 a1 a2) := fun a0 _ a2 k => laws_markNodeS.mono a0 a2 k
set_option maxHeartbeats 8000000 in
set_option maxRecDepth 100000 in
theorem laws_markNodesOut.calls (k : Nat) (P0_ : Nat → Prop) (u9000_ : Value) (l0 : List (S74)) (c a1 : Int) (r1 : Int) (r2 : List (S74)) (w0 w : World) (hB : Below w0.heap.size w0 w) (ho0 : Kd.S k74 74 w w0.heap.size P0_ u9000_ l0) (h : laws_markNodesOut.f k l0 c a1 = some (r1, r2)) :
    Calls Try.prog 22 #[.agg #[u9000_, .int .i64 c], .int .i64 a1] w fun e w' => e = .returned (.int .i64 r1) ∧ Kd.S k74 74 w' w0.heap.size P0_ u9000_ r2 ∧ Below w0.heap.size w0 w' ∧ Kept w w' (fun k_ => P0_ k_) := by
  have hu := Try.underlying37
  obtain ⟨A0, c0, e⟩ := Kd.S_slice ho0
  subst e
  have HO := AM ho0
  have HK := AM (Kept.refl w (fun k_ => P0_ k_))
  have HB := AM hB
  have H := AM (show laws_markNodeS.f k l0 a1 = some (r1, r2) from h)
  clear ho0 hB h
  go_enter Try.func22, Try.ntmps22
  go_wp2_with (first
    | ((with_reducible refine gate_dst (N := 2) rfl ?_); refine be_ 2 #[.slice A0 l0.length c0, .int .i64 c] 37 ?_; intro gb hg w5 hbox hb; have BK := AM hbox; replace HO := AM (Kd.S_below HO.out hb); replace HK := AM (Kept.below HK.out hb); replace HB := AM (below_step HB.out hb); clear hb hbox hg; have hcz0 : w5.cell? ⟨gb, 0, none⟩ = some (.slice A0 l0.length c0) := (blk_cell BK.out 0).trans rfl; have hcz1 : w5.cell? ⟨gb, 1, none⟩ = some (.int .i64 c) := (blk_cell BK.out 1).trans rfl)
    | ((with_reducible refine gate_callee (f := 58) rfl ?_); refine gl_ (some 8) Try.func58 #[.slice A0 l0.length c0, .int .i64 a1] ?_; (with_reducible refine (laws_markNodeS.calls k P0_ _ l0 a1 r1 r2 w0 _ HB.out HO.out H.out).mono ?_); rintro e w7 ⟨rfl, ho, hb, hk⟩; refine ⟨_, rfl, ?_⟩; replace HO := AM ho; replace HK := AM (Kept.then_ HK.out hk (fun _ h => .inl h)); replace HB := AM hb; clear ho hb hk))
  go_ret
  exact ⟨rfl, HO.out, HB.out, HK.out⟩

/-! ### laws_heldStringS: function 113 -/
def laws_heldStringS.l0 : Nat → List ByteArray → Int → Int → Option (Int)
  | 0, _, _, _ => none
  | k + 1, x0, x1, x5 => if x5 < (x0.length : Int) then (if 0 ≤ x5 then ((laws_markText.f k x1).bind fun t264 => (if (rdOf ByteArray.empty x0 x5).toList = t264.toList then (laws_heldStringS.l0 k x0 (wrap64 (x1 + 1)) (wrap64 (x5 + 1))) else (some (-1)))) else (none)) else (some x1)
def laws_heldStringS.f (k : Nat) (l0 : List ByteArray) (a1 : Int) : Option (Int) := laws_heldStringS.l0 k l0 a1 0
theorem laws_heldStringS.mono_l : ∀ k, (∀ y0 y1 y2, LeO (laws_heldStringS.l0 k y0 y1 y2) (laws_heldStringS.l0 (k + 1) y0 y1 y2))
  | 0 => fun _ _ _ r h => by simp [laws_heldStringS.l0] at h
  | k + 1 => by
    have ih0 := laws_heldStringS.mono_l k
    · intro y0 y1 y2
      unfold laws_heldStringS.l0
      repeat' first
      | (with_reducible exact ih0 _ _ _)
      | (with_reducible exact laws_markText.mono _ _)
      | (with_reducible exact LeO.refl _)
      | (with_reducible exact LeO.none _)
      | (with_reducible refine LeO.ite ?_ ?_)
      | (with_reducible refine LeO.bind ?_ (fun _ => ?_))
      | exact ih0 _ _ _
      | exact laws_markText.mono _ _
      | exact LeO.none _
      | refine LeO.ite ?_ ?_
      | refine LeO.bind ?_ (fun _ => ?_)
theorem laws_heldStringS.mono : ∀ a0 a1 k, LeO (laws_heldStringS.f k a0 a1) (laws_heldStringS.f (k + 1) a0 a1) := by
  intro a0 a1 k
  have ih0 := laws_heldStringS.mono_l k
  unfold laws_heldStringS.f
  repeat' first
      | (with_reducible exact ih0 _ _ _)
      | (with_reducible exact laws_markText.mono _ _)
      | (with_reducible exact LeO.refl _)
      | (with_reducible exact LeO.none _)
      | (with_reducible refine LeO.ite ?_ ?_)
      | (with_reducible refine LeO.bind ?_ (fun _ => ?_))
      | exact ih0 _ _ _
      | exact laws_markText.mono _ _
      | exact LeO.none _
      | refine LeO.ite ?_ ?_
      | refine LeO.bind ?_ (fun _ => ?_)
set_option maxHeartbeats 8000000 in
set_option maxRecDepth 100000 in
theorem laws_heldStringS.calls (k : Nat) (A0 : Option Addr) (c0 : Nat) (l0 : List ByteArray) (a1 : Int) (r : Int) (w : World) (hr0 : Kd.C Kd.string w A0 l0.length l0) (hc0 : l0.length ≤ c0) (h : laws_heldStringS.f k l0 a1 = some r) :
    Calls Try.prog 113 #[.slice A0 l0.length c0, .int .i64 a1] w fun e w' => e = .returned (.int .i64 r) ∧ Below w.heap.size w w' := by
  have HR0 := AM hr0
  have HC0 := AM hc0
  clear hr0 hc0
  have HB := AM (Below.refl w.heap.size w)
  have H : (laws_heldStringS.l0 k l0 a1 0) = some r := h
  clear h
  have H' := AM H
  clear H
  go_enter Try.func113, Try.ntmps113
  go_wp2
  go_loopg [1, 5] k (fun kq v1 v5 w' => ∃ (x1_1 : Int) (x5_1 : Int), v1 = .int .i64 x1_1 ∧ v5 = .int .i64 x5_1 ∧ Aside0 (laws_heldStringS.l0 kq l0 x1_1 x5_1 = some r) ∧ Aside0 (kq ≤ k) ∧ Aside0 (Below w.heap.size w w'))
  case atStart => exact ⟨(a1), (0), (by first | rfl | (simp; done) | (simp [*]; done)), (by first | rfl | (simp; done) | (simp [*]; done)), H', ⟨Nat.le_refl _⟩, ⟨bel_⟩⟩
  case round =>
    clear H'
    try clear c1
    try clear p2
    obtain ⟨x1_1, x5_1, rfl, rfl, HA, HK1, HB⟩ := hrel
    cases gk with
    | zero => exact absurd HA.out (by simp [laws_heldStringS.l0])
    | succ k1 =>
      have H := HA.out
      clear HA
      simp only [laws_heldStringS.l0] at H
      by_cases c3 : x5_1 < (l0.length : Int)
      · rw [if_pos c3] at H
        have c3b0 : decide (x5_1 < (l0.length : Int)) = true := decide_eq_true c3
        clear c3
        by_cases c4 : 0 ≤ x5_1
        · rw [if_pos c4] at H
          have c4b0 : decide (0 ≤ x5_1) = true := decide_eq_true c4
          clear c4
          obtain ⟨t264, A5, H⟩ := OB H
          try dsimp only at H
          replace A5 := AM A5
          by_cases c6 : (rdOf ByteArray.empty l0 x5_1).toList = t264.toList
          · rw [if_pos c6] at H
            have c6b0 : ((rdOf ByteArray.empty l0 x5_1).toList == t264.toList) = true := beq_iff_eq.mpr c6
            have c6b1 : ((rdOf ByteArray.empty l0 x5_1).toList != t264.toList) = false := bne_eq_false_iff_eq.mpr c6
            clear c6
            have H' := AM H
            clear H
            try go_wp2
            replace HB := AM (below_drew1 HB.out)
            have p263 : 0 ≤ (x5_1 : Int) := of_decide_eq_true (by first | (with_reducible assumption) | assumption)
            have q263 : x5_1 < (l0.length : Int) := of_decide_eq_true (by first | (with_reducible assumption) | assumption)
            obtain ⟨ad263, e263, hx263_0⟩ := Kd.at_string HR0.out x5_1 p263 q263
            have hw263_0 := hx263_0
            cases e263
            replace hx263_0 := (HB.out.cell (World.block_lt_of_cell? w _ hx263_0)).trans hx263_0
            replace p263 := eq_true p263
            replace q263 := eq_true q263
            refine start_ (n := 7) (S := fun w' => w'.cell? (ad263.add (x5_1).toNat) = some (.string (rdOf ByteArray.empty l0 x5_1))) (ds := []) #[false, false, false, false, false, false, false] (by kernel_rfl) rfl rfl (((HB.out.cell (World.block_lt_of_cell? w _ hw263_0)).trans hw263_0)) (fun hHeld => ?_)
            generalize wr.drew = w7 at HB hx263_0 hHeld ⊢
            refine pure_ (i := 0) (N := some 12) (v := ?_) (a' := ?_) #[true, false, false, false, false, false, false] rfl rfl (by kernel_rfl) (fun _ _ _ h => h) (Or.inl ⟨by rfl, ?_⟩) ?_ ?_
            rotate_left
            · intro w'
              go_simp
              with_reducible rfl
            rotate_left
            · simp only [Act.put, List.setIfInBounds_toArray, List.set_cons_zero, List.set_cons_succ, i64_w, i32_w]
              rfl
            refine pure_ (i := 1) (N := some 13) (v := ?_) (a' := ?_) #[true, true, false, false, false, false, false] rfl rfl (by kernel_rfl) (fun _ _ _ h => h) (Or.inl ⟨by rfl, ?_⟩) ?_ ?_
            rotate_left
            · intro w'
              go_simp
              with_reducible rfl
            rotate_left
            · simp only [Act.put, List.setIfInBounds_toArray, List.set_cons_zero, List.set_cons_succ, i64_w, i32_w]
              rfl
            refine pure_ (i := 2) (N := some 14) (v := ?_) (a' := ?_) #[true, true, true, false, false, false, false] rfl rfl (by kernel_rfl) (fun _ _ _ h => h) (Or.inl ⟨by rfl, ?_⟩) ?_ ?_
            rotate_left
            · intro w'
              go_simp
              with_reducible rfl
            rotate_left
            · simp only [Act.put, List.setIfInBounds_toArray, List.set_cons_zero, List.set_cons_succ, i64_w, i32_w]
              rfl
            refine pure_ (i := 4) (N := some 16) (v := ?_) (a' := ?_) #[true, true, true, false, true, false, false] rfl rfl (by kernel_rfl) (fun _ _ _ h => h) (Or.inl ⟨by rfl, ?_⟩) ?_ ?_
            rotate_left
            · intro w'
              go_simp
              with_reducible rfl
            rotate_left
            · simp only [Act.put, List.setIfInBounds_toArray, List.set_cons_zero, List.set_cons_succ, i64_w, i32_w]
              rfl
            refine take_ (i := 3) (N := some 15) (v := ?_) (a' := ?_) #[true, true, true, true, true, false, false] rfl rfl (by kernel_rfl) (fun _ _ _ h => h) (Or.inl ⟨by rfl, ?_⟩) hHeld ?_ ?_
            rotate_left
            · intro w' s0
              go_simp
              with_reducible rfl
            rotate_left
            · simp only [Act.put, List.setIfInBounds_toArray, List.set_cons_zero, List.set_cons_succ, i64_w, i32_w]
              rfl
            refine one_ (i := 5) (N := some 17) #[true, true, true, true, true, true, false] rfl rfl (by kernel_rfl) (by decide) (fun K hK => ?_)
            refine go1_ Try.func63 #[.int .i64 x1_1] ?_
            with_reducible refine (laws_markText.calls k1 x1_1 t264 _ A5.out).mono ?_
            rintro e w8 ⟨rfl, hb⟩
            refine ⟨_, rfl, ?_⟩
            replace HB := AM (below_step bel_ hb)
            (try clear hb)
            (try clear hb2)
            (try clear hk)
            (try clear hi)
            refine hK.out _ _ (((HB.out.cell (World.block_lt_of_cell? w _ hw263_0)).trans hw263_0)) (fun hHeld => ?_)
            clear hK K
            refine nm_ ?_
            refine pure_ (i := 6) (N := some 18) (v := ?_) (a' := ?_) #[true, true, true, true, true, true, true] rfl rfl (by kernel_rfl) (fun _ _ _ h => h) (Or.inl ⟨by rfl, ?_⟩) ?_ ?_
            rotate_left
            · intro w'
              go_simp
              with_reducible rfl
            rotate_left
            · simp only [Act.put, List.setIfInBounds_toArray, List.set_cons_zero, List.set_cons_succ, i64_w, i32_w]
              rfl
            refine done_ (by kernel_rfl) ?_
            try go_wp2
            go_roundg k1
            case measure => have := HK1.out; omega
            case rel => exact ⟨(wrap64 (x1_1 + 1)), (wrap64 (x5_1 + 1)), (by first | rfl | (simp; done) | (simp [*]; done)), (by first | rfl | (simp; done) | (simp [*]; done)), H', ⟨by have := HK1.out; omega⟩, ⟨bel_⟩⟩
          · rw [if_neg c6] at H
            have c6b0 : ((rdOf ByteArray.empty l0 x5_1).toList == t264.toList) = false := beq_eq_false_iff_ne.mpr c6
            have c6b1 : ((rdOf ByteArray.empty l0 x5_1).toList != t264.toList) = true := bne_iff_ne.mpr c6
            obtain rfl := Option.some.inj H
            try go_wp2
            replace HB := AM (below_drew1 HB.out)
            have p263 : 0 ≤ (x5_1 : Int) := of_decide_eq_true (by first | (with_reducible assumption) | assumption)
            have q263 : x5_1 < (l0.length : Int) := of_decide_eq_true (by first | (with_reducible assumption) | assumption)
            obtain ⟨ad263, e263, hx263_0⟩ := Kd.at_string HR0.out x5_1 p263 q263
            have hw263_0 := hx263_0
            cases e263
            replace hx263_0 := (HB.out.cell (World.block_lt_of_cell? w _ hx263_0)).trans hx263_0
            replace p263 := eq_true p263
            replace q263 := eq_true q263
            refine start_ (n := 7) (S := fun w' => w'.cell? (ad263.add (x5_1).toNat) = some (.string (rdOf ByteArray.empty l0 x5_1))) (ds := []) #[false, false, false, false, false, false, false] (by kernel_rfl) rfl rfl (((HB.out.cell (World.block_lt_of_cell? w _ hw263_0)).trans hw263_0)) (fun hHeld => ?_)
            generalize wr.drew = w9 at HB hx263_0 hHeld ⊢
            refine pure_ (i := 0) (N := some 12) (v := ?_) (a' := ?_) #[true, false, false, false, false, false, false] rfl rfl (by kernel_rfl) (fun _ _ _ h => h) (Or.inl ⟨by rfl, ?_⟩) ?_ ?_
            rotate_left
            · intro w'
              go_simp
              with_reducible rfl
            rotate_left
            · simp only [Act.put, List.setIfInBounds_toArray, List.set_cons_zero, List.set_cons_succ, i64_w, i32_w]
              rfl
            refine pure_ (i := 1) (N := some 13) (v := ?_) (a' := ?_) #[true, true, false, false, false, false, false] rfl rfl (by kernel_rfl) (fun _ _ _ h => h) (Or.inl ⟨by rfl, ?_⟩) ?_ ?_
            rotate_left
            · intro w'
              go_simp
              with_reducible rfl
            rotate_left
            · simp only [Act.put, List.setIfInBounds_toArray, List.set_cons_zero, List.set_cons_succ, i64_w, i32_w]
              rfl
            refine pure_ (i := 2) (N := some 14) (v := ?_) (a' := ?_) #[true, true, true, false, false, false, false] rfl rfl (by kernel_rfl) (fun _ _ _ h => h) (Or.inl ⟨by rfl, ?_⟩) ?_ ?_
            rotate_left
            · intro w'
              go_simp
              with_reducible rfl
            rotate_left
            · simp only [Act.put, List.setIfInBounds_toArray, List.set_cons_zero, List.set_cons_succ, i64_w, i32_w]
              rfl
            refine pure_ (i := 4) (N := some 16) (v := ?_) (a' := ?_) #[true, true, true, false, true, false, false] rfl rfl (by kernel_rfl) (fun _ _ _ h => h) (Or.inl ⟨by rfl, ?_⟩) ?_ ?_
            rotate_left
            · intro w'
              go_simp
              with_reducible rfl
            rotate_left
            · simp only [Act.put, List.setIfInBounds_toArray, List.set_cons_zero, List.set_cons_succ, i64_w, i32_w]
              rfl
            refine take_ (i := 3) (N := some 15) (v := ?_) (a' := ?_) #[true, true, true, true, true, false, false] rfl rfl (by kernel_rfl) (fun _ _ _ h => h) (Or.inl ⟨by rfl, ?_⟩) hHeld ?_ ?_
            rotate_left
            · intro w' s0
              go_simp
              with_reducible rfl
            rotate_left
            · simp only [Act.put, List.setIfInBounds_toArray, List.set_cons_zero, List.set_cons_succ, i64_w, i32_w]
              rfl
            refine one_ (i := 5) (N := some 17) #[true, true, true, true, true, true, false] rfl rfl (by kernel_rfl) (by decide) (fun K hK => ?_)
            refine go1_ Try.func63 #[.int .i64 x1_1] ?_
            with_reducible refine (laws_markText.calls k1 x1_1 t264 _ A5.out).mono ?_
            rintro e w10 ⟨rfl, hb⟩
            refine ⟨_, rfl, ?_⟩
            replace HB := AM (below_step bel_ hb)
            (try clear hb)
            (try clear hb2)
            (try clear hk)
            (try clear hi)
            refine hK.out _ _ (((HB.out.cell (World.block_lt_of_cell? w _ hw263_0)).trans hw263_0)) (fun hHeld => ?_)
            clear hK K
            refine nm_ ?_
            refine pure_ (i := 6) (N := some 18) (v := ?_) (a' := ?_) #[true, true, true, true, true, true, true] rfl rfl (by kernel_rfl) (fun _ _ _ h => h) (Or.inl ⟨by rfl, ?_⟩) ?_ ?_
            rotate_left
            · intro w'
              go_simp
              with_reducible rfl
            rotate_left
            · simp only [Act.put, List.setIfInBounds_toArray, List.set_cons_zero, List.set_cons_succ, i64_w, i32_w]
              rfl
            refine done_ (by kernel_rfl) ?_
            try go_wp2
            go_ret
            exact ⟨ri_, bel_⟩
        · rw [if_neg c4] at H
          exact absurd H (by simp)
      · rw [if_neg c3] at H
        have c3b0 : decide (x5_1 < (l0.length : Int)) = false := decide_eq_false c3
        clear c3
        obtain rfl := Option.some.inj H
        go_wp2
        go_ret
        exact ⟨ri_, bel_⟩

end Go.Proofs.Ytggbpjfgfenpdaa.PFnExactNodesRead
