-- A program of this session wrote this text: a changed copy of the kit print, with given functions.
import Derived.Test.YtddapeieolfolaaKMFnExactNodesBytes
import Derived.Test.YtddapeieolfolaaPFnExactNodesBytesx0
import Derived.Test.YtddapeieolfolaaPFnExactNodesBytesx3
namespace Go.Proofs.Ytddapeieolfolaa.PFnExactNodesBytes
open Go.RowKit Go.Proofs.YtddapeieolfolaaW.PrintWords Go.Proofs.YtddapeieolfolaaW.PrintLast Go.Proofs.YtddapeieolfolaaW.PrintMore Go.Proofs.Ytddapeieolfolaa.Aut
attribute [local go_sem] max2_int min2_int max_two min_two max_three min_three max_four min_four   -- for this text's walks alone
set_option linter.unusedVariables false
set_option linter.unusedSimpArgs false

/-! ### spec_l01Fold: function 127 -/
def spec_l01Fold.f (a0 : Int) : Option (Int) := if a0 < 0 then (some (IntKind.u64.wrap ((IntKind.u64.wrap (2 * (IntKind.u64.wrap (wrap64 (-(wrap64 (a0 + 1))))))) + 1))) else (some (IntKind.u64.wrap (2 * (IntKind.u64.wrap (a0)))))
set_option maxHeartbeats 8000000 in
set_option maxRecDepth 100000 in
theorem spec_l01Fold.calls (a0 : Int) (r : Int) (w : World) (h : spec_l01Fold.f a0 = some r) :
    Calls Try.prog 127 #[.int .i64 a0] w fun e w' => e = .returned (.int .u64 r) ∧ Drawn0 w w' := by
  have H : (if a0 < 0 then (some (IntKind.u64.wrap ((IntKind.u64.wrap (2 * (IntKind.u64.wrap (wrap64 (-(wrap64 (a0 + 1))))))) + 1))) else (some (IntKind.u64.wrap (2 * (IntKind.u64.wrap (a0)))))) = some r := h
  clear h
  by_cases c2 : a0 < 0
  · rw [if_pos c2] at H
    have c2b0 : decide (a0 < 0) = true := decide_eq_true c2
    clear c2
    obtain rfl := Option.some.inj H
    go_enter Try.func127, Try.ntmps127
    go_wp2
    go_ret
    exact ⟨by first | rfl | (simp; done) | (simp [*]; done), by repeat (first | exact Drawn0.refl _ | apply Drawn0.step)⟩
  · rw [if_neg c2] at H
    have c2b0 : decide (a0 < 0) = false := decide_eq_false c2
    clear c2
    obtain rfl := Option.some.inj H
    go_enter Try.func127, Try.ntmps127
    go_wp2
    go_ret
    exact ⟨by first | rfl | (simp; done) | (simp [*]; done), by repeat (first | exact Drawn0.refl _ | apply Drawn0.step)⟩

/-! ### spec_PutNum: function 91 -/
def spec_PutNum.l0 : Nat → Int → List Int → Option (ByteArray)
  | 0, _, _ => none
  | k + 1, x3, x4 => if x3 ≥ 128 then (if x4.length < 140737488355328 then (spec_PutNum.l0 k (IntKind.u64.wrap (Int.tdiv x3 128)) (x4 ++ [(IntKind.u64.wrap ((Int.tmod x3 128) + 128)) % 256])) else (none)) else (if x4.length < 140737488355328 then (some (strOfNums (x4 ++ [(x3) % 256]))) else (none))
def spec_PutNum.f (k : Nat) (a0 : Int) : Option (ByteArray) := (spec_l01Fold.f a0).bind fun t113 => (spec_PutNum.l0 k t113 (([] : List Int)))
theorem spec_PutNum.mono_l : ∀ k, (∀ y0 y1, LeO (spec_PutNum.l0 k y0 y1) (spec_PutNum.l0 (k + 1) y0 y1))
  | 0 => fun _ _ r h => by simp [spec_PutNum.l0] at h
  | k + 1 => by
    have ih0 := spec_PutNum.mono_l k
    · intro y0 y1
      unfold spec_PutNum.l0
      repeat' first
      | (with_reducible exact ih0 _ _)
      | (with_reducible exact LeO.refl _)
      | (with_reducible exact LeO.none _)
      | (with_reducible refine LeO.ite ?_ ?_)
      | (with_reducible refine LeO.bind ?_ (fun _ => ?_))
      | exact ih0 _ _
      | exact LeO.none _
      | refine LeO.ite ?_ ?_
      | refine LeO.bind ?_ (fun _ => ?_)
theorem spec_PutNum.mono : ∀ a0 k, LeO (spec_PutNum.f k a0) (spec_PutNum.f (k + 1) a0) := by
  intro a0 k
  have ih0 := spec_PutNum.mono_l k
  unfold spec_PutNum.f
  repeat' first
      | (with_reducible exact ih0 _ _)
      | (with_reducible exact LeO.refl _)
      | (with_reducible exact LeO.none _)
      | (with_reducible refine LeO.ite ?_ ?_)
      | (with_reducible refine LeO.bind ?_ (fun _ => ?_))
      | exact ih0 _ _
      | exact LeO.none _
      | refine LeO.ite ?_ ?_
      | refine LeO.bind ?_ (fun _ => ?_)
set_option maxHeartbeats 8000000 in
set_option maxRecDepth 100000 in
theorem spec_PutNum.calls (k : Nat) (a0 : Int) (r : ByteArray) (w : World) (h : spec_PutNum.f k a0 = some r) :
    Calls Try.prog 91 #[.int .i64 a0] w fun e w' => e = .returned (.string r) ∧ Below w.heap.size w w' := by
  have HB := AM (Below.refl w.heap.size w)
  have H : ((spec_l01Fold.f a0).bind fun t113 => (spec_PutNum.l0 k t113 (([] : List Int)))) = some r := h
  clear h
  obtain ⟨t113, A2, H⟩ := OB H
  try dsimp only at H
  replace A2 := AM A2
  obtain ⟨y114, hy114⟩ : ∃ y_ : List Int, y_ = (([] : List Int)) := ⟨_, rfl⟩
  replace H : (spec_PutNum.l0 k t113 y114) = some r := by first | (rw [hy114]; with_reducible exact H) | (have H2_ := (Option.bind_some _ _).symm.trans H; rw [hy114]; with_reducible exact H2_) | (have H2_ := (Option.bind_some _ _).symm.trans H; with_reducible exact H2_) | with_reducible exact H | (rw [hy114]; exact H) | exact H
  have Ny114 := AM hy114
  clear hy114
  have H' := AM H
  clear H
  go_enter Try.func91, Try.ntmps91
  go_wp2_with (first | ((with_reducible refine gate_callee (f := 127) rfl ?_); refine gl_ (some 6) Try.func127 #[.int .i64 a0] ?_; (with_reducible refine (spec_l01Fold.calls a0 t113 _ A2.out).mono ?_); rintro e w' ⟨rfl, ⟨nd, rfl⟩⟩; refine ⟨_, rfl, ?_⟩) | ((with_reducible refine gate_dst (N := 7) rfl ?_); refine Kd.R_lit (Kd.int .u8) _ 5 ?hg (N := 7) ?hd (xs := ([] : List Int)) (inner := []) (ok := fun _ => True) (okp := fun _ => True) ?hr ?hp (fun _ hk => hk) trivial (Below.refl _ _) (Nat.le_refl _) (by simp) ?_; (case hd => rfl); (case hg => rfl); (case hr => first | (go_simp; done) | (go_simp; rfl)); (case hp => exact (Reps.none _ _)); intro v115 w3 ho4 hb hg_ hnew_; clear hg_ hnew_; (first | rw [← Ny114.out] at ho4 | (simp only [Int.reduceToNat] at ho4; rw [← Ny114.out] at ho4)); have HO116 := AM (Kd.R_lower ho4 (below_size bel_)); replace HB := AM (below_step bel_ hb); clear hb ho4))
  go_loopg [3, 4] k (fun kq v3 v4 w' => ∃ (x3_1 : Int) (x4_1 : List Int), v3 = .int .u64 x3_1 ∧ Aside0 (spec_PutNum.l0 kq x3_1 x4_1 = some r) ∧ Aside0 (kq ≤ k) ∧ Aside0 (Kd.R (Kd.int .u8) 5 w' w.heap.size (fun _ => True) v4 x4_1) ∧ Aside0 (Below w.heap.size w w'))
  case atStart => exact ⟨(t113), (y114), (by first | rfl | (simp; done) | (simp [*]; done)), H', ⟨Nat.le_refl _⟩, ⟨ro_ HO116.out⟩, ⟨bel_⟩⟩
  case round =>
    clear H'
    try clear c1
    try clear p2
    obtain ⟨x3_1, x4_1, rfl, HA, HK1, HO_4, HB⟩ := hrel
    cases gk with
    | zero => exact absurd HA.out (by simp [spec_PutNum.l0])
    | succ k1 =>
      have H := HA.out
      clear HA
      simp only [spec_PutNum.l0] at H
      by_cases c5 : x3_1 ≥ 128
      · rw [if_pos c5] at H
        have c5b0 : decide (128 ≤ x3_1) = true := decide_eq_true c5
        clear c5
        by_cases c6 : x4_1.length < 140737488355328
        · rw [if_pos c6] at H
          have LMc6 := AM c6
          clear c6
          obtain ⟨y117, hy117⟩ : ∃ y_ : List Int, y_ = (x4_1 ++ [(IntKind.u64.wrap ((Int.tmod x3_1 128) + 128)) % 256]) := ⟨_, rfl⟩
          replace H : (spec_PutNum.l0 k1 (IntKind.u64.wrap (Int.tdiv x3_1 128)) y117) = some r := by first | (rw [hy117]; with_reducible exact H) | (have H2_ := (Option.bind_some _ _).symm.trans H; rw [hy117]; with_reducible exact H2_) | (have H2_ := (Option.bind_some _ _).symm.trans H; with_reducible exact H2_) | with_reducible exact H | (rw [hy117]; exact H) | exact H
          have Ny117 := AM hy117
          clear hy117
          have H' := AM H
          clear H
          go_wp2_with (first | ((with_reducible refine gate_builtin (b := .append) (xs := #[.tmp 10, .tmp 15]) rfl ?_); at_builtin; refine Kd.R_append (Kd.int .u8) (w0 := w) w.heap.size rfl (.tmp 10) (.tmp 15) 22 5 (.int .u8 0) 1 rfl Try.underlying22 info5 rfl (by decide) (by omega) u4 x4_1 ((IntKind.u64.wrap ((Int.tmod x3_1 128) + 128)) % 256) [.int .u8 ((IntKind.u64.wrap ((Int.tmod x3_1 128) + 128)) % 256)] (fun _ => True) (fun _ => False) rfl rfl ?aP (fun _ hk => hk.elim) ?aF ?aO ?aB ?aS ?aL ?_; (case aP => exact rfl); (case aB => exact bel_); (case aF => exact (fun _ _ => trivial)); (case aO => exact (ro_ HO_4.out)); (case aS => exact (below_size bel_)); (case aL => have := LMc6.out; omega); intro v118 w7 ho hb hg hat; rw [← Ny117.out] at ho; have n0_ := AM hb; have n1_ := AM ho; clear HB; clear HO_4; have HB := n0_; have HO119 := n1_; clear n0_ n1_; clear ho hb hg hat))
          go_roundg k1
          case measure => have := HK1.out; omega
          case rel => exact ⟨(IntKind.u64.wrap (Int.tdiv x3_1 128)), (y117), (by first | rfl | (simp; done) | (simp [*]; done)), H', ⟨by have := HK1.out; omega⟩, ⟨ro_ HO119.out⟩, ⟨bel_⟩⟩
        · rw [if_neg c6] at H
          exact absurd H (by simp)
      · rw [if_neg c5] at H
        have c5b0 : decide (128 ≤ x3_1) = false := decide_eq_false c5
        clear c5
        by_cases c8 : x4_1.length < 140737488355328
        · rw [if_pos c8] at H
          have LMc8 := AM c8
          clear c8
          obtain ⟨y120, hy120⟩ : ∃ y_ : List Int, y_ = (x4_1 ++ [(x3_1) % 256]) := ⟨_, rfl⟩
          replace H : (some (strOfNums y120)) = some r := by first | (rw [hy120]; with_reducible exact H) | (have H2_ := (Option.bind_some _ _).symm.trans H; rw [hy120]; with_reducible exact H2_) | (have H2_ := (Option.bind_some _ _).symm.trans H; with_reducible exact H2_) | with_reducible exact H | (rw [hy120]; exact H) | exact H
          have Ny120 := AM hy120
          clear hy120
          obtain rfl := Option.some.inj H
          go_wp2_with (first | ((with_reducible refine gate_builtin (b := .append) (xs := #[.tmp 19, .tmp 22]) rfl ?_); at_builtin; refine Kd.R_append (Kd.int .u8) (w0 := w) w.heap.size rfl (.tmp 19) (.tmp 22) 22 5 (.int .u8 0) 1 rfl Try.underlying22 info5 rfl (by decide) (by omega) u4 x4_1 ((x3_1) % 256) [.int .u8 ((x3_1) % 256)] (fun _ => True) (fun _ => False) rfl rfl ?aP (fun _ hk => hk.elim) ?aF ?aO ?aB ?aS ?aL ?_; (case aP => exact rfl); (case aB => exact bel_); (case aF => exact (fun _ _ => trivial)); (case aO => exact (ro_ HO_4.out)); (case aS => exact (below_size bel_)); (case aL => have := LMc8.out; omega); intro v121 w9 ho hb hg hat; rw [← Ny120.out] at ho; have n0_ := AM hb; have n1_ := AM ho; clear HB; clear HO_4; have HB := n0_; have HO122 := n1_; clear n0_ n1_; clear ho hb hg hat; have hcv10 := own_string (P := Try.prog) Try.underlying22 Try.underlying5 Try.underlying9 (Kd.own_of_R HO122.out)))
          go_ret
          exact ⟨ri_, bel_⟩
        · rw [if_neg c8] at H
          exact absurd H (by simp)

/-! ### spec_PutText: function 92 -/
def spec_PutText.f (k : Nat) (a0 : ByteArray) : Option (ByteArray) := if (a0.size : Int) > 20000 then (some (⟨#[]⟩ : ByteArray)) else ((spec_PutNum.f k (a0.size : Int)).bind fun t123 => (if t123.size + a0.size ≤ 9223372036854775807 then (some (t123 ++ a0)) else (none)))
theorem spec_PutText.mono : ∀ a0 k, LeO (spec_PutText.f k a0) (spec_PutText.f (k + 1) a0) := by
  intro a0 k
  unfold spec_PutText.f
  repeat' first
      | (with_reducible exact spec_PutNum.mono _ _)
      | (with_reducible exact LeO.refl _)
      | (with_reducible exact LeO.none _)
      | (with_reducible refine LeO.ite ?_ ?_)
      | (with_reducible refine LeO.bind ?_ (fun _ => ?_))
      | exact spec_PutNum.mono _ _
      | exact LeO.none _
      | refine LeO.ite ?_ ?_
      | refine LeO.bind ?_ (fun _ => ?_)
set_option maxHeartbeats 8000000 in
set_option maxRecDepth 100000 in
theorem spec_PutText.calls (k : Nat) (a0 : ByteArray) (r : ByteArray) (w : World) (h : spec_PutText.f k a0 = some r) :
    Calls Try.prog 92 #[.string a0] w fun e w' => e = .returned (.string r) ∧ Below w.heap.size w w' := by
  have HB := AM (Below.refl w.heap.size w)
  have H : (if (a0.size : Int) > 20000 then (some (⟨#[]⟩ : ByteArray)) else ((spec_PutNum.f k (a0.size : Int)).bind fun t123 => (if t123.size + a0.size ≤ 9223372036854775807 then (some (t123 ++ a0)) else (none)))) = some r := h
  clear h
  by_cases c2 : (a0.size : Int) > 20000
  · rw [if_pos c2] at H
    have c2b0 : decide (20000 < (a0.size : Int)) = true := decide_eq_true c2
    have c2b1 : decide (20000 < a0.size) = true := decide_eq_true (by omega)
    clear c2
    obtain rfl := Option.some.inj H
    go_enter Try.func92, Try.ntmps92
    go_wp2
    go_ret
    exact ⟨ri_, bel_⟩
  · rw [if_neg c2] at H
    have c2b0 : decide (20000 < (a0.size : Int)) = false := decide_eq_false c2
    have c2b1 : decide (20000 < a0.size) = false := decide_eq_false (by omega)
    clear c2
    obtain ⟨t123, A3, H⟩ := OB H
    try dsimp only at H
    replace A3 := AM A3
    by_cases c4 : t123.size + a0.size ≤ 9223372036854775807
    · rw [if_pos c4] at H
      have c4b0 := eq_true c4
      have c4b1 : decide (t123.size + a0.size ≤ 9223372036854775807) = true := decide_eq_true c4
      try have c4b2 : (9223372036854775807 < t123.size + a0.size) = False := eq_false (Nat.not_lt.2 c4)
      obtain rfl := Option.some.inj H
      go_enter Try.func92, Try.ntmps92
      go_wp2_with (first | ((with_reducible refine gate_callee (f := 91) rfl ?_); refine gl_ (some 8) Try.func91 #[.int .i64 (a0.size : Int)] ?_; (with_reducible refine (spec_PutNum.calls k (a0.size : Int) t123 _ A3.out).mono ?_); rintro e w5 ⟨rfl, hb⟩; refine ⟨_, rfl, ?_⟩; replace HB := AM (below_step bel_ hb); (try clear hb); (try clear hb2); (try clear hk); (try clear hi)))
      go_ret
      exact ⟨ri_, bel_⟩
    · rw [if_neg c4] at H
      exact absurd H (by simp)

/-! ### spec_l11Bytes: function 49 -/
mutual
def spec_l11Bytes.l0 : Nat → List (S80) → List Int → Int → Option (ByteArray)
  | 0, _, _, _ => none
  | k + 1, x0, x3, x4 => if x4 < (x0.length : Int) then (if 0 ≤ x4 then ((spec_PutText.f k ((rd_T80 x0 x4).f0)).bind fun t129 => (if x3.length + t129.size < 140737488355328 then ((some (x3 ++ bytesOf t129 : List Int)).bind fun y130 => (if (rd_T80 x0 x4).f1 = true then (spec_l11Bytes.j1 k x0 y130 x4 1) else (spec_l11Bytes.j1 k x0 y130 x4 0))) else (none))) else (none)) else (some (strOfNums x3))
def spec_l11Bytes.j1 : Nat → List (S80) → List Int → Int → Int → Option (ByteArray)
  | 0, _, _, _, _ => none
  | k + 1, x0, x3, x4, x5 => (spec_PutNum.f k x5).bind fun t134 => (if x3.length + t134.size < 140737488355328 then ((some (x3 ++ bytesOf t134 : List Int)).bind fun y135 => (if 0 ≤ x4 then (if x4 < (x0.length : Int) then ((spec_PutNum.f k ((rd_T80 x0 x4).f2)).bind fun t139 => (if y135.length + t139.size < 140737488355328 then ((some (y135 ++ bytesOf t139 : List Int)).bind fun y140 => ((spec_PutNum.f k (((rd_T80 x0 x4).f3).length : Int)).bind fun t144 => (if y140.length + t144.size < 140737488355328 then (spec_l11Bytes.l1 k x0 (y140 ++ bytesOf t144) x4 0) else (none)))) else (none))) else (none)) else (none))) else (none))
def spec_l11Bytes.l1 : Nat → List (S80) → List Int → Int → Int → Option (ByteArray)
  | 0, _, _, _, _ => none
  | k + 1, x0, x3, x4, x6 => if 0 ≤ x4 then (if x4 < (x0.length : Int) then (if x6 < (((rd_T80 x0 x4).f3).length : Int) then (if 0 ≤ x6 then (if x3.length + (rdOf ByteArray.empty ((rd_T80 x0 x4).f3) x6).size < 140737488355328 then (spec_l11Bytes.l1 k x0 (x3 ++ bytesOf (rdOf ByteArray.empty ((rd_T80 x0 x4).f3) x6)) x4 (wrap64 (x6 + 1))) else (none)) else (none)) else (spec_l11Bytes.l0 k x0 x3 (wrap64 (x4 + 1)))) else (none)) else (none)
end
def spec_l11Bytes.f (k : Nat) (l0 : List (S80)) : Option (ByteArray) := (spec_PutNum.f k (l0.length : Int)).bind fun t124 => (if t124.size ≤ 140737488355327 then (spec_l11Bytes.l0 k l0 (bytesOf t124) 0) else (none))
theorem spec_l11Bytes.mono_l : ∀ k, (∀ y0 y1 y2, LeO (spec_l11Bytes.l0 k y0 y1 y2) (spec_l11Bytes.l0 (k + 1) y0 y1 y2)) ∧ (∀ y0 y1 y2 y3, LeO (spec_l11Bytes.j1 k y0 y1 y2 y3) (spec_l11Bytes.j1 (k + 1) y0 y1 y2 y3)) ∧ (∀ y0 y1 y2 y3, LeO (spec_l11Bytes.l1 k y0 y1 y2 y3) (spec_l11Bytes.l1 (k + 1) y0 y1 y2 y3))
  | 0 => ⟨fun _ _ _ r h => by simp [spec_l11Bytes.l0] at h, fun _ _ _ _ r h => by simp [spec_l11Bytes.j1] at h, fun _ _ _ _ r h => by simp [spec_l11Bytes.l1] at h⟩
  | k + 1 => by
    obtain ⟨ih0, ih1, ih2⟩ := spec_l11Bytes.mono_l k
    refine ⟨?_, ?_, ?_⟩
    · intro y0 y1 y2
      unfold spec_l11Bytes.l0
      repeat' first
      | (with_reducible exact ih0 _ _ _)
      | (with_reducible exact ih1 _ _ _ _)
      | (with_reducible exact ih2 _ _ _ _)
      | (with_reducible exact spec_PutNum.mono _ _)
      | (with_reducible exact spec_PutText.mono _ _)
      | (with_reducible exact LeO.refl _)
      | (with_reducible exact LeO.none _)
      | (with_reducible refine LeO.ite ?_ ?_)
      | (with_reducible refine LeO.bind ?_ (fun _ => ?_))
      | exact ih0 _ _ _
      | exact ih1 _ _ _ _
      | exact ih2 _ _ _ _
      | exact spec_PutNum.mono _ _
      | exact spec_PutText.mono _ _
      | exact LeO.none _
      | refine LeO.ite ?_ ?_
      | refine LeO.bind ?_ (fun _ => ?_)
    · intro y0 y1 y2 y3
      unfold spec_l11Bytes.j1
      repeat' first
      | (with_reducible exact ih0 _ _ _)
      | (with_reducible exact ih1 _ _ _ _)
      | (with_reducible exact ih2 _ _ _ _)
      | (with_reducible exact spec_PutNum.mono _ _)
      | (with_reducible exact spec_PutText.mono _ _)
      | (with_reducible exact LeO.refl _)
      | (with_reducible exact LeO.none _)
      | (with_reducible refine LeO.ite ?_ ?_)
      | (with_reducible refine LeO.bind ?_ (fun _ => ?_))
      | exact ih0 _ _ _
      | exact ih1 _ _ _ _
      | exact ih2 _ _ _ _
      | exact spec_PutNum.mono _ _
      | exact spec_PutText.mono _ _
      | exact LeO.none _
      | refine LeO.ite ?_ ?_
      | refine LeO.bind ?_ (fun _ => ?_)
    · intro y0 y1 y2 y3
      unfold spec_l11Bytes.l1
      repeat' first
      | (with_reducible exact ih0 _ _ _)
      | (with_reducible exact ih1 _ _ _ _)
      | (with_reducible exact ih2 _ _ _ _)
      | (with_reducible exact spec_PutNum.mono _ _)
      | (with_reducible exact spec_PutText.mono _ _)
      | (with_reducible exact LeO.refl _)
      | (with_reducible exact LeO.none _)
      | (with_reducible refine LeO.ite ?_ ?_)
      | (with_reducible refine LeO.bind ?_ (fun _ => ?_))
      | exact ih0 _ _ _
      | exact ih1 _ _ _ _
      | exact ih2 _ _ _ _
      | exact spec_PutNum.mono _ _
      | exact spec_PutText.mono _ _
      | exact LeO.none _
      | refine LeO.ite ?_ ?_
      | refine LeO.bind ?_ (fun _ => ?_)
theorem spec_l11Bytes.mono : ∀ a0 k, LeO (spec_l11Bytes.f k a0) (spec_l11Bytes.f (k + 1) a0) := by
  intro a0 k
  obtain ⟨ih0, ih1, ih2⟩ := spec_l11Bytes.mono_l k
  unfold spec_l11Bytes.f
  repeat' first
      | (with_reducible exact ih0 _ _ _)
      | (with_reducible exact ih1 _ _ _ _)
      | (with_reducible exact ih2 _ _ _ _)
      | (with_reducible exact spec_PutNum.mono _ _)
      | (with_reducible exact spec_PutText.mono _ _)
      | (with_reducible exact LeO.refl _)
      | (with_reducible exact LeO.none _)
      | (with_reducible refine LeO.ite ?_ ?_)
      | (with_reducible refine LeO.bind ?_ (fun _ => ?_))
      | exact ih0 _ _ _
      | exact ih1 _ _ _ _
      | exact ih2 _ _ _ _
      | exact spec_PutNum.mono _ _
      | exact spec_PutText.mono _ _
      | exact LeO.none _
      | refine LeO.ite ?_ ?_
      | refine LeO.bind ?_ (fun _ => ?_)
set_option maxHeartbeats 8000000 in
set_option maxRecDepth 100000 in
theorem spec_l11Bytes.calls (k : Nat) (A0 : Option Addr) (c0 : Nat) (l0 : List (S80)) (r : ByteArray) (w : World) (hr0 : Kd.C k80 w A0 l0.length l0) (hc0 : l0.length ≤ c0) (h : spec_l11Bytes.f k l0 = some r) :
    Calls Try.prog 49 #[.slice A0 l0.length c0] w fun e w' => e = .returned (.string r) ∧ Below w.heap.size w w' := by
  have HR0 := AM hr0
  have HC0 := AM hc0
  clear hr0 hc0
  have HB := AM (Below.refl w.heap.size w)
  have H : ((spec_PutNum.f k (l0.length : Int)).bind fun t124 => (if t124.size ≤ 140737488355327 then (spec_l11Bytes.l0 k l0 (bytesOf t124) 0) else (none))) = some r := h
  clear h
  obtain ⟨t124, A2, H⟩ := OB H
  try dsimp only at H
  replace A2 := AM A2
  by_cases c3 : t124.size ≤ 140737488355327
  · rw [if_pos c3] at H
    have c3b0 := eq_true c3
    have c3b1 : decide (t124.size ≤ 140737488355327) = true := decide_eq_true c3
    clear c3
    obtain ⟨y125, hy125⟩ : ∃ y_ : List Int, y_ = (bytesOf t124) := ⟨_, rfl⟩
    replace H : (spec_l11Bytes.l0 k l0 y125 0) = some r := by first | (rw [hy125]; with_reducible exact H) | (have H2_ := (Option.bind_some _ _).symm.trans H; rw [hy125]; with_reducible exact H2_) | (have H2_ := (Option.bind_some _ _).symm.trans H; with_reducible exact H2_) | with_reducible exact H | (rw [hy125]; exact H) | exact H
    have Ny125 := AM hy125
    clear hy125
    have H' := AM H
    clear H
    go_enter Try.func49, Try.ntmps49
    go_wp2_with (first | ((with_reducible refine gate_callee (f := 91) rfl ?_); refine gl_ (some 9) Try.func91 #[.int .i64 (l0.length : Int)] ?_; (with_reducible refine (spec_PutNum.calls k (l0.length : Int) t124 _ A2.out).mono ?_); rintro e w4 ⟨rfl, hb⟩; refine ⟨_, rfl, ?_⟩; replace HB := AM (below_step bel_ hb); (try clear hb); (try clear hb2); (try clear hk); (try clear hi)))
    obtain ⟨v126, w5, hcv_, ho6, hb⟩ := Km.conv_run (P := Try.prog) w4 5 9 22 t124 Try.underlying9 Try.underlying22 Try.underlying5 (Nat.le_trans (of_decide_eq_true (by first | (with_reducible assumption) | assumption)) (by omega)) (d := Kd.int .u8) (ok := fun _ => True)
    rw [hcv_]
    simp only [Result.andThen]
    rw [Oper.upon_value]
    clear hcv_
    (first | rw [← Ny125.out] at ho6 | (simp only [Int.reduceToNat] at ho6; rw [← Ny125.out] at ho6))
    have HO127 := AM (Km.R_lower ho6 (below_size bel_))
    replace HB := AM (below_step bel_ hb)
    clear hb ho6
    go_wp2
    go_loopg [3, 4] k (fun kq v3 v4 w' => ∃ (x3_1 : List Int) (x4_1 : Int), v4 = .int .i64 x4_1 ∧ Aside0 (spec_l11Bytes.l0 kq l0 x3_1 x4_1 = some r) ∧ Aside0 (kq ≤ k) ∧ Aside0 (Km.R (Kd.int .u8) 5 w' w.heap.size (fun _ => True) v3 x3_1) ∧ Aside0 (Below w.heap.size w w'))
    case atStart => exact ⟨(y125), (0), (by first | rfl | (simp; done) | (simp [*]; done)), H', ⟨Nat.le_refl _⟩, ⟨Km.ro_ HO127.out⟩, ⟨bel_⟩⟩
    case round =>
      clear H'
      try clear p2
      try clear c3
      try clear c3b0
      try clear c3b1
      try clear c4
      obtain ⟨x3_1, x4_1, rfl, HA, HK1, HO_3, HB⟩ := hrel
      cases gk with
      | zero => exact absurd HA.out (by simp [spec_l11Bytes.l0])
      | succ k1 =>
        have H := HA.out
        clear HA
        simp only [spec_l11Bytes.l0] at H
        by_cases c7 : x4_1 < (l0.length : Int)
        · rw [if_pos c7] at H
          have c7b0 : decide (x4_1 < (l0.length : Int)) = true := decide_eq_true c7
          clear c7
          by_cases c8 : 0 ≤ x4_1
          · rw [if_pos c8] at H
            have c8b0 : decide (0 ≤ x4_1) = true := decide_eq_true c8
            clear c8
            obtain ⟨t129, A9, H⟩ := OB H
            try dsimp only at H
            replace A9 := AM A9
            by_cases c10 : x3_1.length + t129.size < 140737488355328
            · rw [if_pos c10] at H
              have LMc10 := AM c10
              clear c10
              obtain ⟨y130, hy130⟩ : ∃ y_ : List Int, y_ = (x3_1 ++ bytesOf t129) := ⟨_, rfl⟩
              replace H : (if (rd_T80 l0 x4_1).f1 = true then (spec_l11Bytes.j1 k1 l0 y130 x4_1 1) else (spec_l11Bytes.j1 k1 l0 y130 x4_1 0)) = some r := by first | (rw [hy130]; with_reducible exact H) | (have H2_ := (Option.bind_some _ _).symm.trans H; rw [hy130]; with_reducible exact H2_) | (have H2_ := (Option.bind_some _ _).symm.trans H; with_reducible exact H2_) | with_reducible exact H | (rw [hy130]; exact H) | exact H
              have Ny130 := AM hy130
              clear hy130
              have HC11 := AM H
              clear H
              have p128 : 0 ≤ (x4_1 : Int) := of_decide_eq_true (by first | (with_reducible assumption) | assumption)
              have q128 : x4_1 < (l0.length : Int) := of_decide_eq_true (by first | (with_reducible assumption) | assumption)
              obtain ⟨ad128, A128_3, c128_3, e128, hx128_0, hx128_1, hx128_2, hx128_3, hl128_3, hi128_3⟩ := at_T80 HR0.out x4_1 p128 q128
              cases e128
              replace hx128_0 := (HB.out.cell (World.block_lt_of_cell? w _ hx128_0)).trans hx128_0
              replace hx128_1 := (HB.out.cell (World.block_lt_of_cell? w _ hx128_1)).trans hx128_1
              replace hx128_2 := (HB.out.cell (World.block_lt_of_cell? w _ hx128_2)).trans hx128_2
              replace hx128_3 := (HB.out.cell (World.block_lt_of_cell? w _ hx128_3)).trans hx128_3
              have HR128_3 := AM hi128_3
              have HC128_3 := AM hl128_3
              clear hi128_3 hl128_3
              replace p128 := eq_true p128
              replace q128 := eq_true q128
              go_upto_if 29 with (first | ((with_reducible refine gate_callee (f := 92) rfl ?_); refine gl_ (some 23) Try.func92 #[.string ((rd_T80 l0 x4_1).f0)] ?_; (with_reducible refine (spec_PutText.calls k1 ((rd_T80 l0 x4_1).f0) t129 _ A9.out).mono ?_); rintro e w12 ⟨rfl, hb⟩; refine ⟨_, rfl, ?_⟩; replace HO_3 := AM (Km.R_below (Km.ro_ HO_3.out) hb); replace HB := AM (below_step bel_ hb); (try clear hb); (try clear hb2); (try clear hk); (try clear hi)) | (at_builtin; refine Km.print_append_str (w0 := w) w.heap.size rfl (.tmp 17) _ 22 9 5 rfl Try.underlying22 Try.underlying9 info5 u3 x3_1 t129 rfl rfl ?aO ?aB ?aS ?aL ?_; (case aB => exact bel_); (case aO => exact (Km.ro_ HO_3.out)); (case aS => exact (below_size bel_)); (case aL => have := LMc10.out; omega); intro v131 w13 ho0 hb hg; have ho := ho0; clear ho0; have hat := True.intro; rw [← Ny130.out] at ho; change Km.R (Kd.int .u8) 5 w13 w.heap.size (fun _ => True) v131 y130 at ho; have n0_ := AM hb; have n1_ := AM ho; clear HB; clear HO_3; have HB := n0_; have HO132 := n1_; clear n0_ n1_; clear ho hb hg hat; have p133 : 0 ≤ (x4_1 : Int) := of_decide_eq_true (by first | (with_reducible assumption) | assumption); have q133 : x4_1 < (l0.length : Int) := of_decide_eq_true (by first | (with_reducible assumption) | assumption); obtain ⟨ad133, A133_3, c133_3, e133, hx133_0, hx133_1, hx133_2, hx133_3, hl133_3, hi133_3⟩ := at_T80 HR0.out x4_1 p133 q133; obtain rfl : ad128 = ad133 := (by injection e133); replace hx133_0 := (HB.out.cell (World.block_lt_of_cell? w _ hx133_0)).trans hx133_0; replace hx133_1 := (HB.out.cell (World.block_lt_of_cell? w _ hx133_1)).trans hx133_1; replace hx133_2 := (HB.out.cell (World.block_lt_of_cell? w _ hx133_2)).trans hx133_2; replace hx133_3 := (HB.out.cell (World.block_lt_of_cell? w _ hx133_3)).trans hx133_3; have HR133_3 := AM hi133_3; have HC133_3 := AM hl133_3; clear hi133_3 hl133_3; replace p133 := eq_true p133; replace q133 := eq_true q133))
              (try simp only [Act.put, List.setIfInBounds_toArray, List.set_cons_zero, List.set_cons_succ])
              go_cut [5] (fun v5 wc => ∃ (kq : Nat) (x5_10 : Int), v5 = .int .i64 x5_10 ∧ Aside0 (spec_l11Bytes.j1 kq l0 y130 x4_1 x5_10 = some r) ∧ Aside0 (kq ≤ k1) ∧ Aside0 (Km.R (Kd.int .u8) 5 wc w.heap.size (fun _ => True) v131 y130) ∧ Aside0 (Below w.heap.size w wc))
              case first =>
                have H := HC11.out
                clear HC11
                obtain ⟨bq14, hbq14⟩ : ∃ b_ : Bool, b_ = ((rd_T80 l0 x4_1).f1) := ⟨_, rfl⟩
                replace H : (if bq14 = true then (spec_l11Bytes.j1 k1 l0 y130 x4_1 1) else (spec_l11Bytes.j1 k1 l0 y130 x4_1 0)) = some r := by rw [← hbq14] at H; exact H
                have Nbq14 := AM hbq14
                clear hbq14
                (try rw [← Nbq14.out])
                by_cases c15 : bq14 = true
                · subst c15
                  rw [if_pos rfl] at H
                  have H' := AM H
                  clear H
                  go_wp2
                  go_meet
                  case rel => exact ⟨_, (1), (by first | rfl | (simp; done) | (simp [*]; done)), H', ⟨by have := HK1.out; first | omega | exact Nat.le_refl _⟩, ⟨Km.ro_ HO132.out⟩, ⟨bel_⟩⟩
                · replace c15 := Bool.eq_false_iff.mpr c15
                  subst c15
                  rw [if_neg (show ¬ (false = true) by decide)] at H
                  have H' := AM H
                  clear H
                  go_wp2
                  go_meet
                  case rel => exact ⟨_, (0), (by first | rfl | (simp; done) | (simp [*]; done)), H', ⟨by have := HK1.out; first | omega | exact Nat.le_refl _⟩, ⟨Km.ro_ HO132.out⟩, ⟨bel_⟩⟩
              case rest =>
                clear HC11
                try clear c1
                try clear p1
                try clear q1
                try clear hx1
                try clear p2
                try clear c3
                try clear c3b0
                try clear c3b1
                try clear c4
                try clear c7
                try clear c7b0
                try clear c8
                try clear c8b0
                try clear c9
                try clear c10
                try clear c12
                try clear p12
                try clear q12
                try clear hx12
                try clear c13
                try clear p13
                try clear q13
                try clear hx13
                try clear q14
                try clear c15
                try clear hx128_0
                try clear hx128_1
                try clear hx128_2
                try clear hx128_3
                try clear hx133_0
                try clear hx133_1
                try clear hx133_2
                try clear hx133_3
                try clear p128
                try clear p133
                try clear p2
                try clear q128
                try clear q133
                obtain ⟨kq, x5_10, rfl, HA, HJ10, HO_3, HB⟩ := hcut
                cases kq with
                | zero => exact absurd HA.out (by simp [spec_l11Bytes.j1])
                | succ kj10 =>
                  have H := HA.out
                  clear HA
                  simp only [spec_l11Bytes.j1] at H
                  obtain ⟨t134, A16, H⟩ := OB H
                  try dsimp only at H
                  replace A16 := AM A16
                  by_cases c17 : y130.length + t134.size < 140737488355328
                  · rw [if_pos c17] at H
                    have LMc17 := AM c17
                    clear c17
                    obtain ⟨y135, hy135⟩ : ∃ y_ : List Int, y_ = (y130 ++ bytesOf t134) := ⟨_, rfl⟩
                    replace H : (if 0 ≤ x4_1 then (if x4_1 < (l0.length : Int) then ((spec_PutNum.f kj10 ((rd_T80 l0 x4_1).f2)).bind fun t139 => (if y135.length + t139.size < 140737488355328 then ((some (y135 ++ bytesOf t139 : List Int)).bind fun y140 => ((spec_PutNum.f kj10 (((rd_T80 l0 x4_1).f3).length : Int)).bind fun t144 => (if y140.length + t144.size < 140737488355328 then (spec_l11Bytes.l1 kj10 l0 (y140 ++ bytesOf t144) x4_1 0) else (none)))) else (none))) else (none)) else (none)) = some r := by first | (rw [hy135]; with_reducible exact H) | (have H2_ := (Option.bind_some _ _).symm.trans H; rw [hy135]; with_reducible exact H2_) | (have H2_ := (Option.bind_some _ _).symm.trans H; with_reducible exact H2_) | with_reducible exact H | (rw [hy135]; exact H) | exact H
                    have Ny135 := AM hy135
                    clear hy135
                    by_cases c18 : 0 ≤ x4_1
                    · rw [if_pos c18] at H
                      have c18b0 : decide (0 ≤ x4_1) = true := decide_eq_true c18
                      clear c18
                      by_cases c19 : x4_1 < (l0.length : Int)
                      · rw [if_pos c19] at H
                        have c19b0 : decide (x4_1 < (l0.length : Int)) = true := decide_eq_true c19
                        clear c19
                        obtain ⟨t139, A20, H⟩ := OB H
                        try dsimp only at H
                        replace A20 := AM A20
                        by_cases c21 : y135.length + t139.size < 140737488355328
                        · rw [if_pos c21] at H
                          have LMc21 := AM c21
                          clear c21
                          obtain ⟨y140, hy140⟩ : ∃ y_ : List Int, y_ = (y135 ++ bytesOf t139) := ⟨_, rfl⟩
                          replace H : ((spec_PutNum.f kj10 (((rd_T80 l0 x4_1).f3).length : Int)).bind fun t144 => (if y140.length + t144.size < 140737488355328 then (spec_l11Bytes.l1 kj10 l0 (y140 ++ bytesOf t144) x4_1 0) else (none))) = some r := by first | (rw [hy140]; with_reducible exact H) | (have H2_ := (Option.bind_some _ _).symm.trans H; rw [hy140]; with_reducible exact H2_) | (have H2_ := (Option.bind_some _ _).symm.trans H; with_reducible exact H2_) | with_reducible exact H | (rw [hy140]; exact H) | exact H
                          have Ny140 := AM hy140
                          clear hy140
                          obtain ⟨t144, A22, H⟩ := OB H
                          try dsimp only at H
                          replace A22 := AM A22
                          by_cases c23 : y140.length + t144.size < 140737488355328
                          · rw [if_pos c23] at H
                            have LMc23 := AM c23
                            clear c23
                            obtain ⟨y145, hy145⟩ : ∃ y_ : List Int, y_ = (y140 ++ bytesOf t144) := ⟨_, rfl⟩
                            replace H : (spec_l11Bytes.l1 kj10 l0 y145 x4_1 0) = some r := by first | (rw [hy145]; with_reducible exact H) | (have H2_ := (Option.bind_some _ _).symm.trans H; rw [hy145]; with_reducible exact H2_) | (have H2_ := (Option.bind_some _ _).symm.trans H; with_reducible exact H2_) | with_reducible exact H | (rw [hy145]; exact H) | exact H
                            have Ny145 := AM hy145
                            clear hy145
                            have H' := AM H
                            clear H
                            go_wp2_with (first | ((with_reducible refine gate_callee (f := 91) rfl ?_); refine gl_ (some 32) Try.func91 #[.int .i64 x5_10] ?_; (with_reducible refine (spec_PutNum.calls kj10 x5_10 t134 _ A16.out).mono ?_); rintro e w24 ⟨rfl, hb⟩; refine ⟨_, rfl, ?_⟩; replace HO_3 := AM (Km.R_below (Km.ro_ HO_3.out) hb); replace HB := AM (below_step bel_ hb); (try clear hb); (try clear hb2); (try clear hk); (try clear hi)) | (at_builtin; refine Km.print_append_str (w0 := w) w.heap.size rfl (.tmp 30) _ 22 9 5 rfl Try.underlying22 Try.underlying9 info5 v131 y130 t134 rfl rfl ?aO ?aB ?aS ?aL ?_; (case aB => exact bel_); (case aO => exact (Km.ro_ HO_3.out)); (case aS => exact (below_size bel_)); (case aL => have := LMc17.out; omega); intro v136 w25 ho0 hb hg; have ho := ho0; clear ho0; have hat := True.intro; rw [← Ny135.out] at ho; change Km.R (Kd.int .u8) 5 w25 w.heap.size (fun _ => True) v136 y135 at ho; have n0_ := AM hb; have n1_ := AM ho; clear HB; clear HO_3; have HB := n0_; have HO137 := n1_; clear n0_ n1_; clear ho hb hg hat; have p138 : 0 ≤ (x4_1 : Int) := of_decide_eq_true (by first | (with_reducible assumption) | assumption); have q138 : x4_1 < (l0.length : Int) := of_decide_eq_true (by first | (with_reducible assumption) | assumption); obtain ⟨ad138, A138_3, c138_3, e138, hx138_0, hx138_1, hx138_2, hx138_3, hl138_3, hi138_3⟩ := at_T80 HR0.out x4_1 p138 q138; obtain rfl : ad128 = ad138 := (by injection e138); replace hx138_0 := (HB.out.cell (World.block_lt_of_cell? w _ hx138_0)).trans hx138_0; replace hx138_1 := (HB.out.cell (World.block_lt_of_cell? w _ hx138_1)).trans hx138_1; replace hx138_2 := (HB.out.cell (World.block_lt_of_cell? w _ hx138_2)).trans hx138_2; replace hx138_3 := (HB.out.cell (World.block_lt_of_cell? w _ hx138_3)).trans hx138_3; have HR138_3 := AM hi138_3; have HC138_3 := AM hl138_3; clear hi138_3 hl138_3; replace p138 := eq_true p138; replace q138 := eq_true q138) | ((with_reducible refine gate_callee (f := 91) rfl ?_); refine gl_ (some 40) Try.func91 #[.int .i64 ((rd_T80 l0 x4_1).f2)] ?_; (with_reducible refine (spec_PutNum.calls kj10 ((rd_T80 l0 x4_1).f2) t139 _ A20.out).mono ?_); rintro e w26 ⟨rfl, hb⟩; refine ⟨_, rfl, ?_⟩; replace HO137 := AM (Km.R_below (Km.ro_ HO137.out) hb); replace HB := AM (below_step bel_ hb); (try clear hb); (try clear hb2); (try clear hk); (try clear hi)) | (at_builtin; refine Km.print_append_str (w0 := w) w.heap.size rfl (.tmp 34) _ 22 9 5 rfl Try.underlying22 Try.underlying9 info5 v136 y135 t139 rfl rfl ?aO ?aB ?aS ?aL ?_; (case aB => exact bel_); (case aO => exact (Km.ro_ HO137.out)); (case aS => exact (below_size bel_)); (case aL => have := LMc21.out; omega); intro v141 w27 ho0 hb hg; have ho := ho0; clear ho0; have hat := True.intro; rw [← Ny140.out] at ho; change Km.R (Kd.int .u8) 5 w27 w.heap.size (fun _ => True) v141 y140 at ho; have n0_ := AM hb; have n1_ := AM ho; clear HB; clear HO137; have HB := n0_; have HO142 := n1_; clear n0_ n1_; clear ho hb hg hat; have p143 : 0 ≤ (x4_1 : Int) := of_decide_eq_true (by first | (with_reducible assumption) | assumption); have q143 : x4_1 < (l0.length : Int) := of_decide_eq_true (by first | (with_reducible assumption) | assumption); obtain ⟨ad143, A143_3, c143_3, e143, hx143_0, hx143_1, hx143_2, hx143_3, hl143_3, hi143_3⟩ := at_T80 HR0.out x4_1 p143 q143; obtain rfl : ad128 = ad143 := (by injection e143); replace hx143_0 := (HB.out.cell (World.block_lt_of_cell? w _ hx143_0)).trans hx143_0; replace hx143_1 := (HB.out.cell (World.block_lt_of_cell? w _ hx143_1)).trans hx143_1; replace hx143_2 := (HB.out.cell (World.block_lt_of_cell? w _ hx143_2)).trans hx143_2; replace hx143_3 := (HB.out.cell (World.block_lt_of_cell? w _ hx143_3)).trans hx143_3; have HR143_3 := AM hi143_3; have HC143_3 := AM hl143_3; clear hi143_3 hl143_3; replace p143 := eq_true p143; replace q143 := eq_true q143) | ((with_reducible refine gate_callee (f := 91) rfl ?_); refine gl_ (some 49) Try.func91 #[.int .i64 (((rd_T80 l0 x4_1).f3).length : Int)] ?_; (with_reducible refine (spec_PutNum.calls kj10 (((rd_T80 l0 x4_1).f3).length : Int) t144 _ A22.out).mono ?_); rintro e w28 ⟨rfl, hb⟩; refine ⟨_, rfl, ?_⟩; replace HO142 := AM (Km.R_below (Km.ro_ HO142.out) hb); replace HB := AM (below_step bel_ hb); (try clear hb); (try clear hb2); (try clear hk); (try clear hi)) | (at_builtin; refine Km.print_append_str (w0 := w) w.heap.size rfl (.tmp 42) _ 22 9 5 rfl Try.underlying22 Try.underlying9 info5 v141 y140 t144 rfl rfl ?aO ?aB ?aS ?aL ?_; (case aB => exact bel_); (case aO => exact (Km.ro_ HO142.out)); (case aS => exact (below_size bel_)); (case aL => have := LMc23.out; omega); intro v146 w29 ho0 hb hg; have ho := ho0; clear ho0; have hat := True.intro; rw [← Ny145.out] at ho; change Km.R (Kd.int .u8) 5 w29 w.heap.size (fun _ => True) v146 y145 at ho; have n0_ := AM hb; have n1_ := AM ho; clear HB; clear HO142; have HB := n0_; have HO147 := n1_; clear n0_ n1_; clear ho hb hg hat))
                            go_loopg [3, 6] kj10 (fun kq v3 v6 w' => ∃ (x3_3 : List Int) (x6_3 : Int), v6 = .int .i64 x6_3 ∧ Aside0 (spec_l11Bytes.l1 kq l0 x3_3 x4_1 x6_3 = some r) ∧ Aside0 (kq ≤ kj10) ∧ Aside0 (Km.R (Kd.int .u8) 5 w' w.heap.size (fun _ => True) v3 x3_3) ∧ Aside0 (Below w.heap.size w w'))
                            case atStart => exact ⟨(y145), (0), (by first | rfl | (simp; done) | (simp [*]; done)), H', ⟨Nat.le_refl _⟩, ⟨Km.ro_ HO147.out⟩, ⟨bel_⟩⟩
                            case round =>
                              clear H'
                              try clear c1
                              try clear p1
                              try clear q1
                              try clear hx1
                              try clear c2
                              try clear p2
                              try clear c3
                              try clear c3b0
                              try clear c3b1
                              try clear c4
                              try clear c7
                              try clear c7b0
                              try clear c8
                              try clear c8b0
                              try clear c9
                              try clear c10
                              try clear c12
                              try clear p12
                              try clear q12
                              try clear hx12
                              try clear c13
                              try clear p13
                              try clear q13
                              try clear hx13
                              try clear c14
                              try clear p14
                              try clear q14
                              try clear hx14
                              try clear c15
                              try clear c17
                              try clear c18
                              try clear c18b0
                              try clear c19
                              try clear c19b0
                              try clear c21
                              try clear c23
                              try clear hx128_0
                              try clear hx128_1
                              try clear hx128_2
                              try clear hx128_3
                              try clear hx133_0
                              try clear hx133_1
                              try clear hx133_2
                              try clear hx133_3
                              try clear hx138_0
                              try clear hx138_1
                              try clear hx138_2
                              try clear hx138_3
                              try clear hx143_0
                              try clear hx143_1
                              try clear hx143_2
                              try clear hx143_3
                              try clear p1
                              try clear p12
                              try clear p128
                              try clear p13
                              try clear p133
                              try clear p138
                              try clear p143
                              try clear p2
                              try clear q1
                              try clear q12
                              try clear q128
                              try clear q13
                              try clear q133
                              try clear q138
                              try clear q14
                              try clear q143
                              obtain ⟨x3_3, x6_3, rfl, HA, HK3, HO_3, HB⟩ := hrel
                              cases gk with
                              | zero => exact absurd HA.out (by simp [spec_l11Bytes.l1])
                              | succ k3 =>
                                have H := HA.out
                                clear HA
                                simp only [spec_l11Bytes.l1] at H
                                by_cases c30 : 0 ≤ x4_1
                                · rw [if_pos c30] at H
                                  have c30b0 : decide (0 ≤ x4_1) = true := decide_eq_true c30
                                  clear c30
                                  by_cases c31 : x4_1 < (l0.length : Int)
                                  · rw [if_pos c31] at H
                                    have c31b0 : decide (x4_1 < (l0.length : Int)) = true := decide_eq_true c31
                                    clear c31
                                    by_cases c32 : x6_3 < (((rd_T80 l0 x4_1).f3).length : Int)
                                    · rw [if_pos c32] at H
                                      have c32b0 : decide (x6_3 < (((rd_T80 l0 x4_1).f3).length : Int)) = true := decide_eq_true c32
                                      clear c32
                                      by_cases c33 : 0 ≤ x6_3
                                      · rw [if_pos c33] at H
                                        have c33b0 : decide (0 ≤ x6_3) = true := decide_eq_true c33
                                        clear c33
                                        by_cases c34 : x3_3.length + (rdOf ByteArray.empty ((rd_T80 l0 x4_1).f3) x6_3).size < 140737488355328
                                        · rw [if_pos c34] at H
                                          have LMc34 := AM c34
                                          clear c34
                                          obtain ⟨y151, hy151⟩ : ∃ y_ : List Int, y_ = (x3_3 ++ bytesOf (rdOf ByteArray.empty ((rd_T80 l0 x4_1).f3) x6_3)) := ⟨_, rfl⟩
                                          replace H : (spec_l11Bytes.l1 k3 l0 y151 x4_1 (wrap64 (x6_3 + 1))) = some r := by first | (rw [hy151]; with_reducible exact H) | (have H2_ := (Option.bind_some _ _).symm.trans H; rw [hy151]; with_reducible exact H2_) | (have H2_ := (Option.bind_some _ _).symm.trans H; with_reducible exact H2_) | with_reducible exact H | (rw [hy151]; exact H) | exact H
                                          have Ny151 := AM hy151
                                          clear hy151
                                          have H' := AM H
                                          clear H
                                          have p148 : 0 ≤ (x4_1 : Int) := of_decide_eq_true (by first | (with_reducible assumption) | assumption)
                                          have q148 : x4_1 < (l0.length : Int) := of_decide_eq_true (by first | (with_reducible assumption) | assumption)
                                          obtain ⟨ad148, A148_3, c148_3, e148, hx148_0, hx148_1, hx148_2, hx148_3, hl148_3, hi148_3⟩ := at_T80 HR0.out x4_1 p148 q148
                                          obtain rfl : ad128 = ad148 := (by injection e148)
                                          replace hx148_0 := (HB.out.cell (World.block_lt_of_cell? w _ hx148_0)).trans hx148_0
                                          replace hx148_1 := (HB.out.cell (World.block_lt_of_cell? w _ hx148_1)).trans hx148_1
                                          replace hx148_2 := (HB.out.cell (World.block_lt_of_cell? w _ hx148_2)).trans hx148_2
                                          replace hx148_3 := (HB.out.cell (World.block_lt_of_cell? w _ hx148_3)).trans hx148_3
                                          have HR148_3 := AM hi148_3
                                          have HC148_3 := AM hl148_3
                                          clear hi148_3 hl148_3
                                          replace p148 := eq_true p148
                                          replace q148 := eq_true q148
                                          have p149 : 0 ≤ (x4_1 : Int) := of_decide_eq_true (by first | (with_reducible assumption) | assumption)
                                          have q149 : x4_1 < (l0.length : Int) := of_decide_eq_true (by first | (with_reducible assumption) | assumption)
                                          obtain ⟨ad149, A149_3, c149_3, e149, hx149_0, hx149_1, hx149_2, hx149_3, hl149_3, hi149_3⟩ := at_T80 HR0.out x4_1 p149 q149
                                          obtain rfl : ad128 = ad149 := (by injection e149)
                                          replace hx149_0 := (HB.out.cell (World.block_lt_of_cell? w _ hx149_0)).trans hx149_0
                                          replace hx149_1 := (HB.out.cell (World.block_lt_of_cell? w _ hx149_1)).trans hx149_1
                                          replace hx149_2 := (HB.out.cell (World.block_lt_of_cell? w _ hx149_2)).trans hx149_2
                                          replace hx149_3 := (HB.out.cell (World.block_lt_of_cell? w _ hx149_3)).trans hx149_3
                                          have HR149_3 := AM hi149_3
                                          have HC149_3 := AM hl149_3
                                          clear hi149_3 hl149_3
                                          replace p149 := eq_true p149
                                          replace q149 := eq_true q149
                                          have ea_ := Option.some.inj (hx148_3.symm.trans hx149_3)
                                          injection ea_ with ea_ en_ ec_
                                          subst ea_
                                          subst ec_
                                          clear en_
                                          have p150 : 0 ≤ (x6_3 : Int) := of_decide_eq_true (by first | (with_reducible assumption) | assumption)
                                          have q150 : x6_3 < (((rd_T80 l0 x4_1).f3).length : Int) := of_decide_eq_true (by first | (with_reducible assumption) | assumption)
                                          obtain ⟨ad150, e150, hx150_0⟩ := Kd.at_string HR149_3.out x6_3 p150 q150
                                          cases e150
                                          replace hx150_0 := (HB.out.cell (World.block_lt_of_cell? w _ hx150_0)).trans hx150_0
                                          replace p150 := eq_true p150
                                          replace q150 := eq_true q150
                                          go_wp2_with (first | (at_builtin; refine Km.print_append_str (w0 := w) w.heap.size rfl (.tmp 61) _ 22 9 5 rfl Try.underlying22 Try.underlying9 info5 u3 x3_3 (rdOf ByteArray.empty ((rd_T80 l0 x4_1).f3) x6_3) rfl rfl ?aO ?aB ?aS ?aL ?_; (case aB => exact bel_); (case aO => exact (Km.ro_ HO_3.out)); (case aS => exact (below_size bel_)); (case aL => have := LMc34.out; omega); intro v152 w35 ho0 hb hg; have ho := ho0; clear ho0; have hat := True.intro; rw [← Ny151.out] at ho; change Km.R (Kd.int .u8) 5 w35 w.heap.size (fun _ => True) v152 y151 at ho; have n0_ := AM hb; have n1_ := AM ho; clear HB; clear HO_3; have HB := n0_; have HO153 := n1_; clear n0_ n1_; clear ho hb hg hat))
                                          go_roundg k3
                                          case measure => have := HK1.out; have := HJ10.out; have := HK3.out; omega
                                          case rel => exact ⟨(y151), (wrap64 (x6_3 + 1)), (by first | rfl | (simp; done) | (simp [*]; done)), H', ⟨by have := HK1.out; have := HJ10.out; have := HK3.out; omega⟩, ⟨Km.ro_ HO153.out⟩, ⟨bel_⟩⟩
                                        · rw [if_neg c34] at H
                                          exact absurd H (by simp)
                                      · rw [if_neg c33] at H
                                        exact absurd H (by simp)
                                    · rw [if_neg c32] at H
                                      have c32b0 : decide (x6_3 < (((rd_T80 l0 x4_1).f3).length : Int)) = false := decide_eq_false c32
                                      clear c32
                                      have H' := AM H
                                      clear H
                                      have p148 : 0 ≤ (x4_1 : Int) := of_decide_eq_true (by first | (with_reducible assumption) | assumption)
                                      have q148 : x4_1 < (l0.length : Int) := of_decide_eq_true (by first | (with_reducible assumption) | assumption)
                                      obtain ⟨ad148, A148_3, c148_3, e148, hx148_0, hx148_1, hx148_2, hx148_3, hl148_3, hi148_3⟩ := at_T80 HR0.out x4_1 p148 q148
                                      obtain rfl : ad128 = ad148 := (by injection e148)
                                      replace hx148_0 := (HB.out.cell (World.block_lt_of_cell? w _ hx148_0)).trans hx148_0
                                      replace hx148_1 := (HB.out.cell (World.block_lt_of_cell? w _ hx148_1)).trans hx148_1
                                      replace hx148_2 := (HB.out.cell (World.block_lt_of_cell? w _ hx148_2)).trans hx148_2
                                      replace hx148_3 := (HB.out.cell (World.block_lt_of_cell? w _ hx148_3)).trans hx148_3
                                      have HR148_3 := AM hi148_3
                                      have HC148_3 := AM hl148_3
                                      clear hi148_3 hl148_3
                                      replace p148 := eq_true p148
                                      replace q148 := eq_true q148
                                      go_wp2
                                      go_roundg k3
                                      case measure => have := HK1.out; have := HJ10.out; have := HK3.out; omega
                                      case rel => exact ⟨(x3_3), (wrap64 (x4_1 + 1)), (by first | rfl | (simp; done) | (simp [*]; done)), H', ⟨by have := HK1.out; have := HJ10.out; have := HK3.out; omega⟩, ⟨Km.ro_ HO_3.out⟩, ⟨bel_⟩⟩
                                  · rw [if_neg c31] at H
                                    exact absurd H (by simp)
                                · rw [if_neg c30] at H
                                  exact absurd H (by simp)
                          · rw [if_neg c23] at H
                            exact absurd H (by simp)
                        · rw [if_neg c21] at H
                          exact absurd H (by simp)
                      · rw [if_neg c19] at H
                        exact absurd H (by simp)
                    · rw [if_neg c18] at H
                      exact absurd H (by simp)
                  · rw [if_neg c17] at H
                    exact absurd H (by simp)
            · rw [if_neg c10] at H
              exact absurd H (by simp)
          · rw [if_neg c8] at H
            exact absurd H (by simp)
        · rw [if_neg c7] at H
          have c7b0 : decide (x4_1 < (l0.length : Int)) = false := decide_eq_false c7
          clear c7
          obtain rfl := Option.some.inj H
          have hcv36 := Km.own_string (P := Try.prog) Try.underlying22 Try.underlying5 Try.underlying9 HO_3.out
          go_wp2
          go_ret
          exact ⟨ri_, bel_⟩
  · rw [if_neg c3] at H
    exact absurd H (by simp)

/-! ### spec_NodesBytes: function 13 -/
def spec_NodesBytes.f (k : Nat) (l0 : List (S80)) : Option (ByteArray) := if (l0.length : Int) > 400 then (some (⟨#[]⟩ : ByteArray)) else ((spec_NodesRight.f k l0).bind fun t154 => (if t154 = true then ((spec_l11Bytes.f k l0).bind fun t155 => (some t155)) else (some (⟨#[]⟩ : ByteArray))))
theorem spec_NodesBytes.mono : ∀ a0 k, LeO (spec_NodesBytes.f k a0) (spec_NodesBytes.f (k + 1) a0) := by
  intro a0 k
  unfold spec_NodesBytes.f
  repeat' first
      | (with_reducible exact spec_NodesRight.mono _ _)
      | (with_reducible exact spec_l11Bytes.mono _ _)
      | (with_reducible exact LeO.refl _)
      | (with_reducible exact LeO.none _)
      | (with_reducible refine LeO.ite ?_ ?_)
      | (with_reducible refine LeO.bind ?_ (fun _ => ?_))
      | exact spec_NodesRight.mono _ _
      | exact spec_l11Bytes.mono _ _
      | exact LeO.none _
      | refine LeO.ite ?_ ?_
      | refine LeO.bind ?_ (fun _ => ?_)
set_option maxHeartbeats 8000000 in
set_option maxRecDepth 100000 in
theorem spec_NodesBytes.calls (k : Nat) (A0 : Option Addr) (c0 : Nat) (l0 : List (S80)) (r : ByteArray) (w : World) (hr0 : Kd.C k80 w A0 l0.length l0) (hc0 : l0.length ≤ c0) (h : spec_NodesBytes.f k l0 = some r) :
    Calls Try.prog 13 #[.slice A0 l0.length c0] w fun e w' => e = .returned (.string r) ∧ Below w.heap.size w w' := by
  have HR0 := AM hr0
  have HC0 := AM hc0
  clear hr0 hc0
  have HB := AM (Below.refl w.heap.size w)
  have H : (if (l0.length : Int) > 400 then (some (⟨#[]⟩ : ByteArray)) else ((spec_NodesRight.f k l0).bind fun t154 => (if t154 = true then ((spec_l11Bytes.f k l0).bind fun t155 => (some t155)) else (some (⟨#[]⟩ : ByteArray))))) = some r := h
  clear h
  by_cases c2 : (l0.length : Int) > 400
  · rw [if_pos c2] at H
    have c2b0 : decide (400 < (l0.length : Int)) = true := decide_eq_true c2
    have c2b1 : decide (400 < l0.length) = true := decide_eq_true (by omega)
    clear c2
    obtain rfl := Option.some.inj H
    go_enter Try.func13, Try.ntmps13
    go_wp2
    go_ret
    exact ⟨ri_, bel_⟩
  · rw [if_neg c2] at H
    have c2b0 : decide (400 < (l0.length : Int)) = false := decide_eq_false c2
    have c2b1 : decide (400 < l0.length) = false := decide_eq_false (by omega)
    clear c2
    obtain ⟨t154, A3, H⟩ := OB H
    try dsimp only at H
    replace A3 := AM A3
    by_cases c4 : t154 = true
    · subst c4
      rw [if_pos rfl] at H
      obtain ⟨t155, A5, H⟩ := OB H
      try dsimp only at H
      replace A5 := AM A5
      obtain rfl := Option.some.inj H
      go_enter Try.func13, Try.ntmps13
      go_wp2_with (first | (go_at_call 48; (with_reducible refine (spec_NodesRight.calls k _ _ l0 true _ ?side1 ?side2 A3.out).mono ?_); (case side1 => repeat (first | exact HR0.out | (with_reducible refine Kd.C_alloc ?_ _) | (with_reducible refine Kd.C_drewN ?_ _) | (with_reducible refine Kd.C_drew ?_))); (case side2 => exact HC0.out); rintro e w6 ⟨rfl, hb⟩; replace HB := AM (below_step bel_ hb); (try clear hb); (try clear hb2); (try clear hk); (try clear hi)) | ((with_reducible refine gate_callee (f := 49) rfl ?_); refine gl_ (some 12) Try.func49 #[.slice A0 l0.length c0] ?_; (with_reducible refine (spec_l11Bytes.calls k _ _ l0 t155 _ ?side1 ?side2 A5.out).mono ?_); (case side1 => repeat (first | exact (Kd.C_below HR0.out HB.out) | (with_reducible refine Kd.C_alloc ?_ _) | (with_reducible refine Kd.C_drewN ?_ _) | (with_reducible refine Kd.C_drew ?_))); (case side2 => exact HC0.out); rintro e w7 ⟨rfl, hb⟩; refine ⟨_, rfl, ?_⟩; replace HB := AM (below_step bel_ hb); (try clear hb); (try clear hb2); (try clear hk); (try clear hi)))
      go_ret
      exact ⟨ri_, bel_⟩
    · replace c4 := Bool.eq_false_iff.mpr c4
      subst c4
      rw [if_neg (show ¬ (false = true) by decide)] at H
      obtain rfl := Option.some.inj H
      go_enter Try.func13, Try.ntmps13
      go_wp2_with (first | (go_at_call 48; (with_reducible refine (spec_NodesRight.calls k _ _ l0 false _ ?side1 ?side2 A3.out).mono ?_); (case side1 => repeat (first | exact HR0.out | (with_reducible refine Kd.C_alloc ?_ _) | (with_reducible refine Kd.C_drewN ?_ _) | (with_reducible refine Kd.C_drew ?_))); (case side2 => exact HC0.out); rintro e w8 ⟨rfl, hb⟩; replace HB := AM (below_step bel_ hb); (try clear hb); (try clear hb2); (try clear hk); (try clear hi)))
      go_ret
      exact ⟨ri_, bel_⟩

end Go.Proofs.Ytddapeieolfolaa.PFnExactNodesBytes
