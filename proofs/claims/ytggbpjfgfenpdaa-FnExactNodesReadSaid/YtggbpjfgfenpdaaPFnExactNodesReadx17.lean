-- A program of this session wrote this text: a changed copy of the kit print, with given functions.
import Derived.Test.YtggbpjfgfenpdaaPFnExactNodesReadx0
import Derived.Test.YtggbpjfgfenpdaaPFnExactNodesReadx10
import Derived.Test.YtggbpjfgfenpdaaPFnExactNodesReadx11
import Derived.Test.YtggbpjfgfenpdaaPFnExactNodesReadx13
import Derived.Test.YtggbpjfgfenpdaaPFnExactNodesReadx15
import Derived.Test.YtggbpjfgfenpdaaPFnExactNodesReadx16
namespace Go.Proofs.Ytggbpjfgfenpdaa.PFnExactNodesRead
open Go.RowKit Go.Proofs.YtggbpjfgfenpdaaW.PrintWords Go.Proofs.YtggbpjfgfenpdaaW.PrintLast Go.Proofs.YtggbpjfgfenpdaaW.PrintMore Go.Proofs.Ytggbpjfgfenpdaa.Aut
attribute [local go_sem] max2_int min2_int max_two min_two max_three min_three max_four min_four   -- for this text's walks alone
set_option linter.unusedVariables false
set_option linter.unusedSimpArgs false

/-! ### impl_readNodes: function 57 -/
mutual
def impl_readNodes.l0 : Nat → Int → List (S74) → Int → ByteArray → Int → Bool → Option ((List (S74)) × Bool)
  | 0, _, _, _, _, _, _ => none
  | k + 1, x5, x6, x7, x189000, x189001, x189002 => if x7 < x5 then (if x7 ≤ 20 then (impl_readNodes.j1 k x5 x6 x7 (!x189002) x189000 x189001 x189002) else (impl_readNodes.j1 k x5 x6 x7 false x189000 x189001 x189002)) else (impl_readNodes.j1 k x5 x6 x7 false x189000 x189001 x189002)
def impl_readNodes.j1 : Nat → Int → List (S74) → Int → Bool → ByteArray → Int → Bool → Option ((List (S74)) × Bool)
  | 0, _, _, _, _, _, _, _ => none
  | k + 1, x5, x6, x7, x30, x189000, x189001, x189002 => if x30 = true then ((impl_reader_string.f k x189000 x189001 x189002).bind fun bt193 => ((impl_reader_num.f k bt193.2.1 bt193.2.2.1 bt193.2.2.2).bind fun bt198 => ((impl_reader_num.f k bt198.2.1 bt198.2.2.1 bt198.2.2.2).bind fun bt202 => (if bt202.2.2.2 = true then (impl_readNodes.j2 k x5 x6 x7 bt202.2.1 bt202.2.2.1 true bt193.1 (bt198.1 == 1) bt202.1) else ((impl_within.f bt198.1 0 1).bind fun t206 => (impl_readNodes.j2 k x5 x6 x7 bt202.2.1 bt202.2.2.1 (!t206) bt193.1 (bt198.1 == 1) bt202.1)))))) else ((impl_Node.f x6).bind fun t235 => (if x5 = t235 then ((impl_reader_isDone.f x189000 x189001 x189002).bind fun bt236 => (if bt236.1 = true then ((impl_NodesRight.f k x6).bind fun t240 => (if t240 = true then (some (x6, true)) else (some (([] : List (S74)), false)))) else (some (([] : List (S74)), false)))) else (some (([] : List (S74)), false))))
def impl_readNodes.j2 : Nat → Int → List (S74) → Int → ByteArray → Int → Bool → ByteArray → Bool → Int → Option ((List (S74)) × Bool)
  | 0, _, _, _, _, _, _, _, _, _ => none
  | k + 1, x5, x6, x7, x189000, x189001, x189002, x198000, x198001, x198002 => (impl_reader_num.f k x189000 x189001 x189002).bind fun bt207 => (impl_readNodes.l1 k x5 x6 x7 bt207.1 0 bt207.2.1 bt207.2.2.1 bt207.2.2.2 x198000 x198001 x198002 ([] : List ByteArray))
def impl_readNodes.l1 : Nat → Int → List (S74) → Int → Int → Int → ByteArray → Int → Bool → ByteArray → Bool → Int → List ByteArray → Option ((List (S74)) × Bool)
  | 0, _, _, _, _, _, _, _, _, _, _, _, _ => none
  | k + 1, x5, x6, x7, x10, x11, x189000, x189001, x189002, x198000, x198001, x198002, x198003 => if x11 < x10 then (if x11 ≤ 100 then (if x189002 = true then (if x6.length < 2513169434916 then (impl_readNodes.l0 k x5 (x6 ++ [(⟨x198000, x198001, x198002, x198003⟩ : S74)]) (wrap64 (x7 + 1)) x189000 x189001 true) else (none)) else ((impl_reader_take.f x189000 x189001 x189002 32).bind fun bt214 => (if x198003.length < 8796093022208 then (impl_readNodes.l1 k x5 x6 x7 x10 (wrap64 (x11 + 1)) bt214.2.1 bt214.2.2.1 bt214.2.2.2 x198000 x198001 x198002 (x198003 ++ [bt214.1])) else (none)))) else (if x189002 = true then (if x6.length < 2513169434916 then (impl_readNodes.l0 k x5 (x6 ++ [(⟨x198000, x198001, x198002, x198003⟩ : S74)]) (wrap64 (x7 + 1)) x189000 x189001 true) else (none)) else ((impl_size_string.f x198003).bind fun t224 => (if x6.length < 2513169434916 then (impl_readNodes.l0 k x5 (x6 ++ [(⟨x198000, x198001, x198002, x198003⟩ : S74)]) (wrap64 (x7 + 1)) x189000 x189001 (x10 != t224)) else (none))))) else (if x189002 = true then (if x6.length < 2513169434916 then (impl_readNodes.l0 k x5 (x6 ++ [(⟨x198000, x198001, x198002, x198003⟩ : S74)]) (wrap64 (x7 + 1)) x189000 x189001 true) else (none)) else ((impl_size_string.f x198003).bind fun t231 => (if x6.length < 2513169434916 then (impl_readNodes.l0 k x5 (x6 ++ [(⟨x198000, x198001, x198002, x198003⟩ : S74)]) (wrap64 (x7 + 1)) x189000 x189001 (x10 != t231)) else (none))))
end
def impl_readNodes.f (k : Nat) (a0 : ByteArray) : Option ((List (S74)) × Bool) := (impl_reader_num.f k a0 0 false).bind fun bt189 => (impl_readNodes.l0 k bt189.1 ([] : List (S74)) 0 bt189.2.1 bt189.2.2.1 bt189.2.2.2)
theorem impl_readNodes.mono_l : ∀ k, (∀ y0 y1 y2 y3 y4 y5, LeO (impl_readNodes.l0 k y0 y1 y2 y3 y4 y5) (impl_readNodes.l0 (k + 1) y0 y1 y2 y3 y4 y5)) ∧ (∀ y0 y1 y2 y3 y4 y5 y6, LeO (impl_readNodes.j1 k y0 y1 y2 y3 y4 y5 y6) (impl_readNodes.j1 (k + 1) y0 y1 y2 y3 y4 y5 y6)) ∧ (∀ y0 y1 y2 y3 y4 y5 y6 y7 y8, LeO (impl_readNodes.j2 k y0 y1 y2 y3 y4 y5 y6 y7 y8) (impl_readNodes.j2 (k + 1) y0 y1 y2 y3 y4 y5 y6 y7 y8)) ∧ (∀ y0 y1 y2 y3 y4 y5 y6 y7 y8 y9 y10 y11, LeO (impl_readNodes.l1 k y0 y1 y2 y3 y4 y5 y6 y7 y8 y9 y10 y11) (impl_readNodes.l1 (k + 1) y0 y1 y2 y3 y4 y5 y6 y7 y8 y9 y10 y11))
  | 0 => ⟨fun _ _ _ _ _ _ r h => by simp [impl_readNodes.l0] at h, fun _ _ _ _ _ _ _ r h => by simp [impl_readNodes.j1] at h, fun _ _ _ _ _ _ _ _ _ r h => by simp [impl_readNodes.j2] at h, fun _ _ _ _ _ _ _ _ _ _ _ _ r h => by simp [impl_readNodes.l1] at h⟩
  | k + 1 => by
    obtain ⟨ih0, ih1, ih2, ih3⟩ := impl_readNodes.mono_l k
    refine ⟨?_, ?_, ?_, ?_⟩
    · intro y0 y1 y2 y3 y4 y5
      unfold impl_readNodes.l0
      repeat' first
      | (with_reducible exact ih0 _ _ _ _ _ _)
      | (with_reducible exact ih1 _ _ _ _ _ _ _)
      | (with_reducible exact ih2 _ _ _ _ _ _ _ _ _)
      | (with_reducible exact ih3 _ _ _ _ _ _ _ _ _ _ _ _)
      | (with_reducible exact impl_NodesRight.mono _ _)
      | (with_reducible exact impl_reader_num.mono _ _ _ _)
      | (with_reducible exact impl_reader_string.mono _ _ _ _)
      | (with_reducible exact LeO.refl _)
      | (with_reducible exact LeO.none _)
      | (with_reducible refine LeO.ite ?_ ?_)
      | (with_reducible refine LeO.bind ?_ (fun _ => ?_))
      | exact ih0 _ _ _ _ _ _
      | exact ih1 _ _ _ _ _ _ _
      | exact ih2 _ _ _ _ _ _ _ _ _
      | exact ih3 _ _ _ _ _ _ _ _ _ _ _ _
      | exact impl_NodesRight.mono _ _
      | exact impl_reader_num.mono _ _ _ _
      | exact impl_reader_string.mono _ _ _ _
      | exact LeO.none _
      | refine LeO.ite ?_ ?_
      | refine LeO.bind ?_ (fun _ => ?_)
    · intro y0 y1 y2 y3 y4 y5 y6
      unfold impl_readNodes.j1
      repeat' first
      | (with_reducible exact ih0 _ _ _ _ _ _)
      | (with_reducible exact ih1 _ _ _ _ _ _ _)
      | (with_reducible exact ih2 _ _ _ _ _ _ _ _ _)
      | (with_reducible exact ih3 _ _ _ _ _ _ _ _ _ _ _ _)
      | (with_reducible exact impl_NodesRight.mono _ _)
      | (with_reducible exact impl_reader_num.mono _ _ _ _)
      | (with_reducible exact impl_reader_string.mono _ _ _ _)
      | (with_reducible exact LeO.refl _)
      | (with_reducible exact LeO.none _)
      | (with_reducible refine LeO.ite ?_ ?_)
      | (with_reducible refine LeO.bind ?_ (fun _ => ?_))
      | exact ih0 _ _ _ _ _ _
      | exact ih1 _ _ _ _ _ _ _
      | exact ih2 _ _ _ _ _ _ _ _ _
      | exact ih3 _ _ _ _ _ _ _ _ _ _ _ _
      | exact impl_NodesRight.mono _ _
      | exact impl_reader_num.mono _ _ _ _
      | exact impl_reader_string.mono _ _ _ _
      | exact LeO.none _
      | refine LeO.ite ?_ ?_
      | refine LeO.bind ?_ (fun _ => ?_)
    · intro y0 y1 y2 y3 y4 y5 y6 y7 y8
      unfold impl_readNodes.j2
      repeat' first
      | (with_reducible exact ih0 _ _ _ _ _ _)
      | (with_reducible exact ih1 _ _ _ _ _ _ _)
      | (with_reducible exact ih2 _ _ _ _ _ _ _ _ _)
      | (with_reducible exact ih3 _ _ _ _ _ _ _ _ _ _ _ _)
      | (with_reducible exact impl_NodesRight.mono _ _)
      | (with_reducible exact impl_reader_num.mono _ _ _ _)
      | (with_reducible exact impl_reader_string.mono _ _ _ _)
      | (with_reducible exact LeO.refl _)
      | (with_reducible exact LeO.none _)
      | (with_reducible refine LeO.ite ?_ ?_)
      | (with_reducible refine LeO.bind ?_ (fun _ => ?_))
      | exact ih0 _ _ _ _ _ _
      | exact ih1 _ _ _ _ _ _ _
      | exact ih2 _ _ _ _ _ _ _ _ _
      | exact ih3 _ _ _ _ _ _ _ _ _ _ _ _
      | exact impl_NodesRight.mono _ _
      | exact impl_reader_num.mono _ _ _ _
      | exact impl_reader_string.mono _ _ _ _
      | exact LeO.none _
      | refine LeO.ite ?_ ?_
      | refine LeO.bind ?_ (fun _ => ?_)
    · intro y0 y1 y2 y3 y4 y5 y6 y7 y8 y9 y10 y11
      unfold impl_readNodes.l1
      repeat' first
      | (with_reducible exact ih0 _ _ _ _ _ _)
      | (with_reducible exact ih1 _ _ _ _ _ _ _)
      | (with_reducible exact ih2 _ _ _ _ _ _ _ _ _)
      | (with_reducible exact ih3 _ _ _ _ _ _ _ _ _ _ _ _)
      | (with_reducible exact impl_NodesRight.mono _ _)
      | (with_reducible exact impl_reader_num.mono _ _ _ _)
      | (with_reducible exact impl_reader_string.mono _ _ _ _)
      | (with_reducible exact LeO.refl _)
      | (with_reducible exact LeO.none _)
      | (with_reducible refine LeO.ite ?_ ?_)
      | (with_reducible refine LeO.bind ?_ (fun _ => ?_))
      | exact ih0 _ _ _ _ _ _
      | exact ih1 _ _ _ _ _ _ _
      | exact ih2 _ _ _ _ _ _ _ _ _
      | exact ih3 _ _ _ _ _ _ _ _ _ _ _ _
      | exact impl_NodesRight.mono _ _
      | exact impl_reader_num.mono _ _ _ _
      | exact impl_reader_string.mono _ _ _ _
      | exact LeO.none _
      | refine LeO.ite ?_ ?_
      | refine LeO.bind ?_ (fun _ => ?_)
theorem impl_readNodes.mono : ∀ a0 k, LeO (impl_readNodes.f k a0) (impl_readNodes.f (k + 1) a0) := by
  intro a0 k
  obtain ⟨ih0, ih1, ih2, ih3⟩ := impl_readNodes.mono_l k
  unfold impl_readNodes.f
  repeat' first
      | (with_reducible exact ih0 _ _ _ _ _ _)
      | (with_reducible exact ih1 _ _ _ _ _ _ _)
      | (with_reducible exact ih2 _ _ _ _ _ _ _ _ _)
      | (with_reducible exact ih3 _ _ _ _ _ _ _ _ _ _ _ _)
      | (with_reducible exact impl_NodesRight.mono _ _)
      | (with_reducible exact impl_reader_num.mono _ _ _ _)
      | (with_reducible exact impl_reader_string.mono _ _ _ _)
      | (with_reducible exact LeO.refl _)
      | (with_reducible exact LeO.none _)
      | (with_reducible refine LeO.ite ?_ ?_)
      | (with_reducible refine LeO.bind ?_ (fun _ => ?_))
      | exact ih0 _ _ _ _ _ _
      | exact ih1 _ _ _ _ _ _ _
      | exact ih2 _ _ _ _ _ _ _ _ _
      | exact ih3 _ _ _ _ _ _ _ _ _ _ _ _
      | exact impl_NodesRight.mono _ _
      | exact impl_reader_num.mono _ _ _ _
      | exact impl_reader_string.mono _ _ _ _
      | exact LeO.none _
      | refine LeO.ite ?_ ?_
      | refine LeO.bind ?_ (fun _ => ?_)
def impl_readNodes.T15 : Bool × List (List Nat × List Nat) := (true, [([], []), ([0], [0]), ([], []), ([2], [2]), ([3], [3]), ([1, 4, 3], [1, 4]), ([0, 1, 2, 3, 4, 5], []), ([6, 5, 5, 0, 1, 2, 3, 4, 5], [5, 6])])
def impl_readNodes.B15 : List Nat := [0, 1, 0, 4, 12, 31, 63, 127]
theorem impl_readNodes.tab15 : rtab .any (opsOf Try.f57 15) = impl_readNodes.T15 := by kernel_rfl
theorem impl_readNodes.bits15 : waitsOk impl_readNodes.T15.2 impl_readNodes.B15 = true := by kernel_rfl
set_option maxHeartbeats 8000000 in
set_option maxRecDepth 100000 in
theorem impl_readNodes.calls (k : Nat) (a0 : ByteArray) (r1 : List (S74)) (r2 : Bool) (w : World) (h : impl_readNodes.f k a0 = some (r1, r2)) :
    Calls Try.prog 57 #[.string a0] w fun e w' => ∃ v0_ : Value, e = .returned (.tuple #[v0_, .bool r2]) ∧ Kd.S k74 74 w' w.heap.size (fun _ => True) v0_ r1 ∧ Below w.heap.size w w' := by
  have hu132 := Try.underlying132
  have hu74 := Try.underlying74
  have HB := AM (Below.refl w.heap.size w)
  have H : ((impl_reader_num.f k a0 0 false).bind fun bt189 => (impl_readNodes.l0 k bt189.1 ([] : List (S74)) 0 bt189.2.1 bt189.2.2.1 bt189.2.2.2)) = some (r1, r2) := h
  clear h
  obtain ⟨⟨t189, t190, t191, t192⟩, A2, H⟩ := OB H
  try dsimp only at H
  replace A2 := AM A2
  have H' := AM H
  clear H
  go_enter Try.func57, Try.ntmps57
  go_wp2_with (first | ((with_reducible refine gate_dst (N := 14) rfl ?_); refine be_ 14 #[.string a0, .int .i64 0, .bool false] 132 ?_; intro gb188 hg w3 hbox hb; have HI188 := AM ((⟨hbox, (by rw [hg]; exact (below_size bel_) : w.heap.size ≤ gb188)⟩ : IsS132 w w3 gb188 a0 0 false)); replace HB := AM (below_step bel_ hb); clear hb hbox hg) | ((with_reducible refine gate_callee (f := 108) rfl ?_); refine gl_ (some 16) Try.func108 #[.pointer (some ⟨gb188, 0, none⟩)] ?_; (with_reducible refine (impl_reader_num.calls k gb188 a0 0 false t189 t190 t191 t192 w _ ?side1 ?side2 A2.out).mono ?_); (case side1 => repeat (first | (with_reducible first | exact HI188.out | apply IsS132.alloc | apply IsS132.drewN | apply IsS132.drew | apply IsS132.set_0 | apply IsS132.set_1 | apply IsS132.set_2) | exact HI188.out)); (case side2 => repeat (first | (with_reducible first | exact HB.out | apply below_alloc | apply pw_below_drewN | apply below_drew1 | refine below_set ?_ (IsS132.ge HI188.out)) | exact HB.out)); rintro e w4 ⟨rfl, hi, hb, hk⟩; refine ⟨_, rfl, ?_⟩; replace HB := AM hb; replace HI188 := AM hi; (try clear hb); (try clear hb2); (try clear hk); (try clear hi)))
  go_loopg [6, 7] k (fun kq v6 v7 w' => ∃ (x6_1 : List (S74)) (x7_1 : Int) (x189000_1 : ByteArray) (x189001_1 : Int) (x189002_1 : Bool), v7 = .int .i64 x7_1 ∧ Aside0 (impl_readNodes.l0 kq t189 x6_1 x7_1 x189000_1 x189001_1 x189002_1 = some (r1, r2)) ∧ Aside0 (kq ≤ k) ∧ Aside0 (Kd.S k74 74 w' w.heap.size (fun _ => True) v6 x6_1) ∧ Aside0 (IsS132 w w' gb188 x189000_1 x189001_1 x189002_1) ∧ Aside0 (Below w.heap.size w w'))
  case atStart => exact ⟨(([] : List (S74))), (0), (t190), (t191), (t192), (by first | rfl | (simp; done) | (simp [*]; done)), H', ⟨Nat.le_refl _⟩, ⟨by first | exact Kd.S_nil _ _ _ _ _ | exact Kd.N_nil _ _ _ _ _ | exact Kd.V_nil _ _ _ _ _ | exact Kd.Q_nil _ _ _ _ _ | exact Kd.R_nil _ _ _ _ _⟩, ⟨is132_⟩, ⟨belg_ (IsS132.ge HI188.out)⟩⟩
  case round =>
    clear H'
    try clear c1
    try clear p2
    obtain ⟨x6_1, x7_1, x189000_1, x189001_1, x189002_1, rfl, HA, HK1, HO_6, HI188, HB⟩ := hrel
    cases gk with
    | zero => exact absurd HA.out (by simp [impl_readNodes.l0])
    | succ k1 =>
      have H := HA.out
      clear HA
      simp only [impl_readNodes.l0] at H
      have HC5 := AM H
      clear H
      go_upto_region 5 with (fail)
      go_cut [30] (fun v30 wc => ∃ (kq : Nat) (x30_4 : Bool), v30 = .bool x30_4 ∧ Aside0 (impl_readNodes.j1 kq t189 x6_1 x7_1 x30_4 x189000_1 x189001_1 x189002_1 = some (r1, r2)) ∧ Aside0 (kq ≤ k1) ∧ Aside0 (Kd.S k74 74 wc w.heap.size (fun _ => True) u6 x6_1) ∧ Aside0 (IsS132 w wc gb188 x189000_1 x189001_1 x189002_1) ∧ Aside0 (Below w.heap.size w wc))
      case first =>
        have H := HC5.out
        clear HC5
        by_cases c6 : x7_1 < t189
        · rw [if_pos c6] at H
          have c6b0 : decide (x7_1 < t189) = true := decide_eq_true c6
          clear c6
          (first | rw [c6b0] | (simp only [i64_w, i32_w]; rw [c6b0]) | skip)
          by_cases c7 : x7_1 ≤ 20
          · rw [if_pos c7] at H
            have c7b0 : decide (x7_1 ≤ 20) = true := decide_eq_true c7
            clear c7
            have H' := AM H
            clear H
            obtain ⟨HGz8, hgz8⟩ := HI188.out
            have hcz8_0 := cellS132_0 HGz8
            have hcz8_1 := cellS132_1 HGz8
            have hcz8_2 := cellS132_2 HGz8
            have hfz8_0 := blk_frozen HGz8 0
            have hfz8_1 := blk_frozen HGz8 1
            have hfz8_2 := blk_frozen HGz8 2
            clear HGz8 hgz8
            go_wp2
            go_meet
            case rel => exact ⟨_, (!x189002_1), (by first | rfl | (simp; done) | (simp [*]; done)), H', ⟨by have := HK1.out; first | omega | exact Nat.le_refl _⟩, ⟨by (with_reducible repeat (first | apply Kd.S_alloc | apply Kd.S_drewN | apply Kd.S_drew)); exact HO_6.out⟩, ⟨is132_⟩, ⟨belg_ (IsS132.ge HI188.out)⟩⟩
          · rw [if_neg c7] at H
            have c7b0 : decide (x7_1 ≤ 20) = false := decide_eq_false c7
            clear c7
            have H' := AM H
            clear H
            go_wp2
            go_meet
            case rel => exact ⟨_, (false), (by first | rfl | (simp; done) | (simp [*]; done)), H', ⟨by have := HK1.out; first | omega | exact Nat.le_refl _⟩, ⟨by (with_reducible repeat (first | apply Kd.S_alloc | apply Kd.S_drewN | apply Kd.S_drew)); exact HO_6.out⟩, ⟨is132_⟩, ⟨belg_ (IsS132.ge HI188.out)⟩⟩
        · rw [if_neg c6] at H
          have c6b0 : decide (x7_1 < t189) = false := decide_eq_false c6
          clear c6
          (first | rw [c6b0] | (simp only [i64_w, i32_w]; rw [c6b0]) | skip)
          have H' := AM H
          clear H
          go_wp2
          go_meet
          case rel => exact ⟨_, (false), (by first | rfl | (simp; done) | (simp [*]; done)), H', ⟨by have := HK1.out; first | omega | exact Nat.le_refl _⟩, ⟨by (with_reducible repeat (first | apply Kd.S_alloc | apply Kd.S_drewN | apply Kd.S_drew)); exact HO_6.out⟩, ⟨is132_⟩, ⟨belg_ (IsS132.ge HI188.out)⟩⟩
      case rest =>
        clear HC5
        try clear c1
        try clear p2
        try clear c5
        try clear c6
        try clear c6b0
        try clear c7
        try clear c7b0
        try clear hcz8_0
        try clear hcz8_1
        try clear hcz8_2
        try clear hfz8_0
        try clear hfz8_1
        try clear hfz8_2
        try clear p2
        obtain ⟨kq, x30_4, rfl, HA, HJ4, HO_6, HI188, HB⟩ := hcut
        cases kq with
        | zero => exact absurd HA.out (by simp [impl_readNodes.j1])
        | succ kj4 =>
          have H := HA.out
          clear HA
          simp only [impl_readNodes.j1] at H
          by_cases c9 : x30_4 = true
          · subst c9
            rw [if_pos rfl] at H
            obtain ⟨⟨t193, t194, t195, t196⟩, A10, H⟩ := OB H
            try dsimp only at H
            replace A10 := AM A10
            obtain ⟨⟨t198, t199, t200, t201⟩, A11, H⟩ := OB H
            try dsimp only at H
            replace A11 := AM A11
            obtain ⟨⟨t202, t203, t204, t205⟩, A12, H⟩ := OB H
            try dsimp only at H
            replace A12 := AM A12
            have HC13 := AM H
            clear H
            go_upto_region 10 with (first | ((with_reducible refine gate_callee (f := 109) rfl ?_); refine gl_ (some 34) Try.func109 #[.pointer (some ⟨gb188, 0, none⟩)] ?_; (with_reducible refine (impl_reader_string.calls kj4 gb188 x189000_1 x189001_1 x189002_1 t193 t194 t195 t196 w _ ?side1 ?side2 A10.out).mono ?_); (case side1 => repeat (first | (with_reducible first | exact HI188.out | apply IsS132.alloc | apply IsS132.drewN | apply IsS132.drew | apply IsS132.set_0 | apply IsS132.set_1 | apply IsS132.set_2) | exact HI188.out)); (case side2 => repeat (first | (with_reducible first | exact HB.out | apply below_alloc | apply pw_below_drewN | apply below_drew1 | refine below_set ?_ (IsS132.ge HI188.out)) | exact HB.out)); rintro e w14 ⟨rfl, hi, hb, hk⟩; refine ⟨_, rfl, ?_⟩; replace HO_6 := AM (Kd.S_mono (Kd.S_keep (IsS132.apartS (show IsS132 w _ gb188 x189000_1 x189001_1 x189002_1 from is132_) (by (with_reducible repeat (first | apply Kd.S_alloc | apply Kd.S_drewN | apply Kd.S_drew)); exact HO_6.out) (by decide)) hk (fun _ h => h.2)) (fun _ h => h.1)); replace HB := AM hb; replace HI188 := AM hi; (try clear hb); (try clear hb2); (try clear hk); (try clear hi)) | ((with_reducible refine gate_dst (N := 8) rfl ?_); refine be_ 8 #[.string (⟨#[]⟩ : ByteArray), .bool false, .int .i64 0, .slice none 0 0] 74 ?_; intro gb197 hg w15 hbox hb; replace HO_6 := AM (Kd.S_below (Kd.S_elderB (by (with_reducible repeat (first | apply Kd.S_alloc | apply Kd.S_drewN | apply Kd.S_drew)); exact HO_6.out) gb197 (Nat.le_of_eq hg.symm)) hb); have BK197 := AM hbox; have GW197 := AM ((by rw [hg]; exact (below_size (belg_ (IsS132.ge HI188.out))) : w.heap.size ≤ gb197)); have GE197 := AM ((by rw [hg]; exact (below_size (belg_ (IsS132.ge HI188.out))) : w.heap.size ≤ gb197)); replace HB := AM (below_step (belg_ (IsS132.ge HI188.out)) hb); have NB188_197 := AM ((by rw [hg]; exact Nat.ne_of_lt (IsS132.lt (show IsS132 w _ gb188 t194 t195 t196 from is132_)) : gb188 ≠ gb197)); have NB197_188 := AM ((by rw [hg]; exact Nat.ne_of_gt (IsS132.lt (show IsS132 w _ gb188 t194 t195 t196 from is132_)) : gb197 ≠ gb188)); replace HI188 := AM (IsS132.below is132_ hb); clear hb hbox hg; have hnb16 := NB197_188.out; have hnc16 := NB188_197.out; have hcz17_0 : w15.cell? ⟨gb197, 0, none⟩ = some (.string (⟨#[]⟩ : ByteArray)) := (blk_cell BK197.out 0).trans rfl; have hcz17_1 : w15.cell? ⟨gb197, 1, none⟩ = some (.bool false) := (blk_cell BK197.out 1).trans rfl; have hcz17_2 : w15.cell? ⟨gb197, 2, none⟩ = some (.int .i64 0) := (blk_cell BK197.out 2).trans rfl; have hcz17_3 : w15.cell? ⟨gb197, 3, none⟩ = some (.slice none 0 0) := (blk_cell BK197.out 3).trans rfl; have hfz17_0 := blk_frozen BK197.out 0; have hfz17_1 := blk_frozen BK197.out 1; have hfz17_2 := blk_frozen BK197.out 2; have hfz17_3 := blk_frozen BK197.out 3) | ((with_reducible refine gate_callee (f := 108) rfl ?_); refine gl_ (some 37) Try.func108 #[.pointer (some ⟨gb188, 0, none⟩)] ?_; (with_reducible refine (impl_reader_num.calls kj4 gb188 t194 t195 t196 t198 t199 t200 t201 w _ ?side1 ?side2 A11.out).mono ?_); (case side1 => repeat (first | (with_reducible first | exact HI188.out | apply IsS132.alloc | apply IsS132.drewN | apply IsS132.drew | apply IsS132.set_0 | apply IsS132.set_1 | apply IsS132.set_2 | refine IsS132.far ?_ NB188_197.out _) | exact HI188.out)); (case side2 => repeat (first | (with_reducible first | exact HB.out | apply below_alloc | apply pw_below_drewN | apply below_drew1 | refine below_set ?_ (IsS132.ge HI188.out) | refine below_set ?_ GE197.out) | exact HB.out)); rintro e w18 ⟨rfl, hi, hb, hk⟩; refine ⟨_, rfl, ?_⟩; replace HO_6 := AM (Kd.S_mono (Kd.S_keep (IsS132.apartS (show IsS132 w _ gb188 t194 t195 t196 from is132_) (by (with_reducible repeat (first | apply Kd.S_alloc | apply Kd.S_drewN | apply Kd.S_drew)); exact (Kd.S_mono (Kd.S_far (p := ⟨gb197, 3, none⟩) (Kd.S_far (p := ⟨gb197, 2, none⟩) (Kd.S_far (p := ⟨gb197, 1, none⟩) (Kd.S_far (p := ⟨gb197, 0, none⟩) (Kd.S_mono HO_6.out (fun k_ hk => (⟨hk, hk.2⟩ : _ ∧ k_ ≠ gb197))) (fun _ hk => hk.2) (.string t193)) (fun _ hk => hk.2) (.bool false)) (fun _ hk => hk.2) (.int .i64 0)) (fun _ hk => hk.2) (.slice none 0 0)) (fun _ h_ => h_.1))) (by decide)) hk (fun _ h => h.2)) (fun _ h => h.1)); replace BK197 := AM (KeepBut.blk hk (g' := gb197) (o := .cells #[.string t193, .bool false, .int .i64 0, .slice none 0 0] 74 (0, 0)) bka_ NB197_188.out (by simp)); replace HB := AM hb; replace HI188 := AM hi; (try clear hb); (try clear hb2); (try clear hk); (try clear hi)) | ((with_reducible refine gate_callee (f := 108) rfl ?_); refine gl_ (some 41) Try.func108 #[.pointer (some ⟨gb188, 0, none⟩)] ?_; (with_reducible refine (impl_reader_num.calls kj4 gb188 t199 t200 t201 t202 t203 t204 t205 w _ ?side1 ?side2 A12.out).mono ?_); (case side1 => repeat (first | (with_reducible first | exact HI188.out | apply IsS132.alloc | apply IsS132.drewN | apply IsS132.drew | apply IsS132.set_0 | apply IsS132.set_1 | apply IsS132.set_2 | refine IsS132.far ?_ NB188_197.out _) | exact HI188.out)); (case side2 => repeat (first | (with_reducible first | exact HB.out | apply below_alloc | apply pw_below_drewN | apply below_drew1 | refine below_set ?_ (IsS132.ge HI188.out) | refine below_set ?_ GE197.out) | exact HB.out)); rintro e w19 ⟨rfl, hi, hb, hk⟩; refine ⟨_, rfl, ?_⟩; replace HO_6 := AM (Kd.S_mono (Kd.S_keep (IsS132.apartS (show IsS132 w _ gb188 t199 t200 t201 from is132_) (by (with_reducible repeat (first | apply Kd.S_alloc | apply Kd.S_drewN | apply Kd.S_drew)); exact HO_6.out) (by decide)) hk (fun _ h => h.2)) (fun _ h => h.1)); replace BK197 := AM (KeepBut.blk hk (g' := gb197) (o := .cells #[.string t193, .bool false, .int .i64 0, .slice none 0 0] 74 (0, 0)) (bk_ BK197.out) NB197_188.out (by simp)); replace HB := AM hb; replace HI188 := AM hi; (try clear hb); (try clear hb2); (try clear hk); (try clear hi); have hcz20_0 : w19.cell? ⟨gb197, 0, none⟩ = some (.string t193) := (blk_cell BK197.out 0).trans rfl; have hcz20_1 : w19.cell? ⟨gb197, 1, none⟩ = some (.bool false) := (blk_cell BK197.out 1).trans rfl; have hcz20_2 : w19.cell? ⟨gb197, 2, none⟩ = some (.int .i64 0) := (blk_cell BK197.out 2).trans rfl; have hcz20_3 : w19.cell? ⟨gb197, 3, none⟩ = some (.slice none 0 0) := (blk_cell BK197.out 3).trans rfl; have hfz20_0 := blk_frozen BK197.out 0; have hfz20_1 := blk_frozen BK197.out 1; have hfz20_2 := blk_frozen BK197.out 2; have hfz20_3 := blk_frozen BK197.out 3))
            (try simp only [Act.put, List.setIfInBounds_toArray, List.set_cons_zero, List.set_cons_succ])
            go_cut [] (fun wc => ∃ (kq : Nat) (x189002_12 : Bool), Aside0 (impl_readNodes.j2 kq t189 x6_1 x7_1 t203 t204 x189002_12 t193 (t198 == 1) t202 = some (r1, r2)) ∧ Aside0 (kq ≤ kj4) ∧ Aside0 (Kd.S k74 74 wc w.heap.size (fun k_ => k_ ≠ gb197) u6 x6_1) ∧ Aside0 (wc.heap[gb197]? = some (.cells #[.string t193, .bool (t198 == 1), .int .i64 t202, (.slice none 0 0)] 74 (0, 0))) ∧ Aside0 (IsS132 w wc gb188 t203 t204 x189002_12) ∧ Aside0 (Below w.heap.size w wc))
            case first =>
              have H := HC13.out
              clear HC13
              by_cases c21 : t205 = true
              · subst c21
                rw [if_pos rfl] at H
                have H' := AM H
                clear H
                obtain ⟨HGz22, hgz22⟩ := HI188.out
                have hcz22_0 := cellS132_0 HGz22
                have hcz22_1 := cellS132_1 HGz22
                have hcz22_2 := cellS132_2 HGz22
                have hfz22_0 := blk_frozen HGz22 0
                have hfz22_1 := blk_frozen HGz22 1
                have hfz22_2 := blk_frozen HGz22 2
                clear HGz22 hgz22
                go_wp2
                go_meet
                case rel => exact ⟨_, (true), H', ⟨by have := HK1.out; have := HJ4.out; first | omega | exact Nat.le_refl _⟩, ⟨by (with_reducible repeat (first | apply Kd.S_alloc | apply Kd.S_drewN | apply Kd.S_drew)); exact Kd.S_mono (Kd.S_far (p := ⟨gb188, 2, none⟩) (Kd.S_far (p := ⟨gb197, 2, none⟩) (Kd.S_far (p := ⟨gb197, 1, none⟩) (IsS132.apartS HI188.out (Kd.S_mono HO_6.out (fun k_ hk => (⟨hk, hk.2⟩ : _ ∧ k_ ≠ gb197))) (by decide)) (fun _ hk => hk.1.2) (.bool (t198 == 1))) (fun _ hk => hk.1.2) (.int .i64 t202)) (fun _ hk => hk.2) (.bool true)) (fun _ hk => hk.1.1.2)⟩, ⟨bka_⟩, ⟨is132_⟩, ⟨belg_ (IsS132.ge HI188.out)⟩⟩
              · replace c21 := Bool.eq_false_iff.mpr c21
                subst c21
                rw [if_neg (show ¬ (false = true) by decide)] at H
                obtain ⟨t206, A23, H⟩ := OB H
                try dsimp only at H
                replace A23 := AM A23
                have H' := AM H
                clear H
                obtain ⟨HGz24, hgz24⟩ := HI188.out
                have hcz24_0 := cellS132_0 HGz24
                have hcz24_1 := cellS132_1 HGz24
                have hcz24_2 := cellS132_2 HGz24
                have hfz24_0 := blk_frozen HGz24 0
                have hfz24_1 := blk_frozen HGz24 1
                have hfz24_2 := blk_frozen HGz24 2
                clear HGz24 hgz24
                go_wp2_with (first | (go_at_call 91; (with_reducible refine (impl_within.calls t198 0 1 t206 _ A23.out).mono ?_); rintro e w' ⟨rfl, ⟨nd, rfl⟩⟩))
                go_meet
                case rel => exact ⟨_, (!t206), H', ⟨by have := HK1.out; have := HJ4.out; first | omega | exact Nat.le_refl _⟩, ⟨by (with_reducible repeat (first | apply Kd.S_alloc | apply Kd.S_drewN | apply Kd.S_drew)); exact Kd.S_mono (Kd.S_far (p := ⟨gb188, 2, none⟩) (Kd.S_far (p := ⟨gb197, 2, none⟩) (Kd.S_far (p := ⟨gb197, 1, none⟩) (IsS132.apartS HI188.out (Kd.S_mono HO_6.out (fun k_ hk => (⟨hk, hk.2⟩ : _ ∧ k_ ≠ gb197))) (by decide)) (fun _ hk => hk.1.2) (.bool (t198 == 1))) (fun _ hk => hk.1.2) (.int .i64 t202)) (fun _ hk => hk.2) (.bool (!t206))) (fun _ hk => hk.1.1.2)⟩, ⟨bka_⟩, ⟨is132_⟩, ⟨belg_ (IsS132.ge HI188.out)⟩⟩
            case rest =>
              clear HC13
              try clear c1
              try clear c2
              try clear p2
              try clear c5
              try clear c6
              try clear c6b0
              try clear c7
              try clear c7b0
              try clear c9
              try clear c10
              try clear c16
              try clear c21
              try clear hcz17_0
              try clear hcz17_1
              try clear hcz17_2
              try clear hcz17_3
              try clear hcz20_0
              try clear hcz20_1
              try clear hcz20_2
              try clear hcz20_3
              try clear hcz22_0
              try clear hcz22_1
              try clear hcz22_2
              try clear hcz24_0
              try clear hcz24_1
              try clear hcz24_2
              try clear hcz8_0
              try clear hcz8_1
              try clear hcz8_2
              try clear hfz17_0
              try clear hfz17_1
              try clear hfz17_2
              try clear hfz17_3
              try clear hfz20_0
              try clear hfz20_1
              try clear hfz20_2
              try clear hfz20_3
              try clear hfz22_0
              try clear hfz22_1
              try clear hfz22_2
              try clear hfz24_0
              try clear hfz24_1
              try clear hfz24_2
              try clear hfz8_0
              try clear hfz8_1
              try clear hfz8_2
              try clear p2
              obtain ⟨kq, x189002_12, HA, HJ12, HO_6, BK197, HI188, HB⟩ := hcut
              cases kq with
              | zero => exact absurd HA.out (by simp [impl_readNodes.j2])
              | succ kj12 =>
                have H := HA.out
                clear HA
                simp only [impl_readNodes.j2] at H
                obtain ⟨⟨t207, t208, t209, t210⟩, A25, H⟩ := OB H
                try dsimp only at H
                replace A25 := AM A25
                have H' := AM H
                clear H
                go_wp2_with (first | ((with_reducible refine gate_callee (f := 108) rfl ?_); refine gl_ (some 57) Try.func108 #[.pointer (some ⟨gb188, 0, none⟩)] ?_; (with_reducible refine (impl_reader_num.calls kj12 gb188 t203 t204 x189002_12 t207 t208 t209 t210 w _ ?side1 ?side2 A25.out).mono ?_); (case side1 => repeat (first | (with_reducible first | exact HI188.out | apply IsS132.alloc | apply IsS132.drewN | apply IsS132.drew | apply IsS132.set_0 | apply IsS132.set_1 | apply IsS132.set_2 | refine IsS132.far ?_ NB188_197.out _) | exact HI188.out)); (case side2 => repeat (first | (with_reducible first | exact HB.out | apply below_alloc | apply pw_below_drewN | apply below_drew1 | refine below_set ?_ (IsS132.ge HI188.out) | refine below_set ?_ GE197.out) | exact HB.out)); rintro e w26 ⟨rfl, hi, hb, hk⟩; refine ⟨_, rfl, ?_⟩; replace HO_6 := AM (Kd.S_mono (Kd.S_keep (IsS132.apartS (show IsS132 w _ gb188 t203 t204 x189002_12 from is132_) (by (with_reducible repeat (first | apply Kd.S_alloc | apply Kd.S_drewN | apply Kd.S_drew)); exact HO_6.out) (by decide)) hk (fun _ h => h.2)) (fun _ h => h.1)); replace BK197 := AM (KeepBut.blk hk (g' := gb197) (o := .cells #[.string t193, .bool (t198 == 1), .int .i64 t202, .slice none 0 0] 74 (0, 0)) (bk_ BK197.out) NB197_188.out (by simp)); replace HB := AM hb; replace HI188 := AM hi; (try clear hb); (try clear hb2); (try clear hk); (try clear hi)))
                go_loopg [11] kj12 (fun kq v11 w' => ∃ (x11_4 : Int) (x189000_4 : ByteArray) (x189001_4 : Int) (x189002_4 : Bool) (x198003_4 : List ByteArray) (u198003 : Value), v11 = .int .i64 x11_4 ∧ Aside0 (impl_readNodes.l1 kq t189 x6_1 x7_1 t207 x11_4 x189000_4 x189001_4 x189002_4 t193 (t198 == 1) t202 x198003_4 = some (r1, r2)) ∧ Aside0 (kq ≤ kj12) ∧ Aside0 (Kd.S k74 74 w' w.heap.size (fun k_ => some k_ ≠ (u198003 : Value).ownBlock ∧ k_ ≠ gb197) u6 x6_1) ∧ Aside0 (Kd.R Kd.string 9 w' w.heap.size (fun _ => True) u198003 x198003_4) ∧ Aside0 (w'.heap[gb197]? = some (.cells #[.string t193, .bool (t198 == 1), .int .i64 t202, u198003] 74 (0, 0))) ∧ Aside0 (IsS132 w w' gb188 x189000_4 x189001_4 x189002_4) ∧ Aside0 (Below w.heap.size w w'))
                case atStart => exact ⟨(0), (t208), (t209), (t210), (([] : List ByteArray)), (.slice none 0 0), (by first | rfl | (simp; done) | (simp [*]; done)), H', ⟨Nat.le_refl _⟩, ⟨by (with_reducible repeat (first | apply Kd.S_alloc | apply Kd.S_drewN | apply Kd.S_drew)); exact Kd.S_mono HO_6.out (fun _ hk => ⟨(by simp [Value.ownBlock]), hk⟩)⟩, ⟨by first | exact Kd.R_nil _ _ _ _ _ | exact Kd.N_nil _ _ _ _ _ | exact Kd.V_nil _ _ _ _ _ | exact Kd.Q_nil _ _ _ _ _ | exact Kd.S_nil _ _ _ _ _⟩, ⟨bk_ BK197.out⟩, ⟨is132_⟩, ⟨belg_ (IsS132.ge HI188.out)⟩⟩
                case round =>
                  clear H'
                  try clear c1
                  try clear c2
                  try clear p2
                  try clear c5
                  try clear c6
                  try clear c6b0
                  try clear c7
                  try clear c7b0
                  try clear c9
                  try clear c10
                  try clear c16
                  try clear c21
                  try clear hcz17_0
                  try clear hcz17_1
                  try clear hcz17_2
                  try clear hcz17_3
                  try clear hcz20_0
                  try clear hcz20_1
                  try clear hcz20_2
                  try clear hcz20_3
                  try clear hcz22_0
                  try clear hcz22_1
                  try clear hcz22_2
                  try clear hcz24_0
                  try clear hcz24_1
                  try clear hcz24_2
                  try clear hcz8_0
                  try clear hcz8_1
                  try clear hcz8_2
                  try clear hfz17_0
                  try clear hfz17_1
                  try clear hfz17_2
                  try clear hfz17_3
                  try clear hfz20_0
                  try clear hfz20_1
                  try clear hfz20_2
                  try clear hfz20_3
                  try clear hfz22_0
                  try clear hfz22_1
                  try clear hfz22_2
                  try clear hfz24_0
                  try clear hfz24_1
                  try clear hfz24_2
                  try clear hfz8_0
                  try clear hfz8_1
                  try clear hfz8_2
                  try clear p2
                  obtain ⟨x11_4, x189000_4, x189001_4, x189002_4, x198003_4, u198003, rfl, HA, HK4, HO_6, HO_198003, BK197, HI188, HB⟩ := hrel
                  cases gk with
                  | zero => exact absurd HA.out (by simp [impl_readNodes.l1])
                  | succ k4 =>
                    have H := HA.out
                    clear HA
                    simp only [impl_readNodes.l1] at H
                    by_cases c27 : x11_4 < t207
                    · rw [if_pos c27] at H
                      have c27b0 : decide (x11_4 < t207) = true := decide_eq_true c27
                      clear c27
                      by_cases c28 : x11_4 ≤ 100
                      · rw [if_pos c28] at H
                        have c28b0 : decide (x11_4 ≤ 100) = true := decide_eq_true c28
                        clear c28
                        by_cases c29 : x189002_4 = true
                        · subst c29
                          rw [if_pos rfl] at H
                          by_cases c30 : x6_1.length < 2513169434916
                          · rw [if_pos c30] at H
                            have LMc30 := AM c30
                            clear c30
                            obtain ⟨y211, hy211⟩ : ∃ y_ : List (S74), y_ = (x6_1 ++ [(⟨t193, (t198 == 1), t202, x198003_4⟩ : S74)]) := ⟨_, rfl⟩
                            replace H : (impl_readNodes.l0 k4 t189 y211 (wrap64 (x7_1 + 1)) x189000_4 x189001_4 true) = some (r1, r2) := by first | (rw [hy211]; with_reducible exact H) | (have H2_ := (Option.bind_some _ _).symm.trans H; rw [hy211]; with_reducible exact H2_) | (have H2_ := (Option.bind_some _ _).symm.trans H; with_reducible exact H2_) | with_reducible exact H | (rw [hy211]; exact H) | exact H
                            have Ny211 := AM hy211
                            clear hy211
                            have H' := AM H
                            clear H
                            obtain ⟨HGz31, hgz31⟩ := HI188.out
                            have hcz31_0 := cellS132_0 HGz31
                            have hcz31_1 := cellS132_1 HGz31
                            have hcz31_2 := cellS132_2 HGz31
                            have hfz31_0 := blk_frozen HGz31 0
                            have hfz31_1 := blk_frozen HGz31 1
                            have hfz31_2 := blk_frozen HGz31 2
                            clear HGz31 hgz31
                            go_wp2_with (first | ((with_reducible refine gate_store (t := 4) (p := 94) rfl ?_); refine store_event (t := 4) (p := 94) (v := ?vo_w32) (w1 := (wr.setCell ⟨gb188, 2, none⟩ (.bool true))) ?hg ?ho ?hn ?hr ?_; (case ho => rfl); (case hg => rfl); (case hn => rfl); (case hr => first | (go_simp; done) | (go_simp; rfl)); intro w32 hw; replace HO_6 : Aside0 (Kd.S k74 74 w32 w.heap.size (fun k_ => some k_ ≠ (u198003 : Value).ownBlock ∧ k_ ≠ gb197) u6 x6_1) := ⟨(by rw [hw]; exact (by (with_reducible repeat (first | apply Kd.S_alloc | apply Kd.S_drewN | apply Kd.S_drew)); exact Kd.S_mono (Kd.S_far (p := ⟨gb188, 2, none⟩) (IsS132.apartS HI188.out HO_6.out (by decide)) (fun _ hk => hk.2) (.bool true)) (fun _ hk => ⟨hk.1.1, hk.1.2⟩)))⟩; replace HO_198003 : Aside0 (Kd.R Kd.string 9 w32 w.heap.size (fun _ => True) u198003 x198003_4) := ⟨(by rw [hw]; exact (by (with_reducible repeat (first | apply Kd.R_alloc | apply Kd.R_drewN | apply Kd.R_drew)); exact Kd.R_mono (Kd.R_far (p := ⟨gb188, 2, none⟩) (IsS132.apart HI188.out HO_198003.out (by decide)) (fun _ hk => hk.2) (.bool true)) (fun _ hk => trivial)))⟩; replace BK197 : Aside0 (w32.heap[gb197]? = some (.cells #[.string t193, .bool (t198 == 1), .int .i64 t202, u198003] 74 (0, 0))) := ⟨(by rw [hw]; exact bka_)⟩; replace HB : Aside0 (Below w.heap.size w w32) := ⟨(by rw [hw]; exact (belg_ (IsS132.ge HI188.out)))⟩; replace HI188 : Aside0 (IsS132 w w32 gb188 x189000_4 x189001_4 true) := ⟨(by rw [hw]; exact is132_)⟩; clear hw; have hnb33 := NB197_188.out; have hnc33 := NB188_197.out; have hcz34_0 : w32.cell? ⟨gb197, 0, none⟩ = some (.string t193) := (blk_cell BK197.out 0).trans rfl; have hcz34_1 : w32.cell? ⟨gb197, 1, none⟩ = some (.bool (t198 == 1)) := (blk_cell BK197.out 1).trans rfl; have hcz34_2 : w32.cell? ⟨gb197, 2, none⟩ = some (.int .i64 t202) := (blk_cell BK197.out 2).trans rfl; have hcz34_3 : w32.cell? ⟨gb197, 3, none⟩ = some (u198003) := (blk_cell BK197.out 3).trans rfl; have hfz34_0 := blk_frozen BK197.out 0; have hfz34_1 := blk_frozen BK197.out 1; have hfz34_2 := blk_frozen BK197.out 2; have hfz34_3 := blk_frozen BK197.out 3; obtain ⟨Ao36, co36, eo36⟩ := Kd.R_slice HO_198003.out; subst eo36) | ((with_reducible refine gate_builtin (b := .append) (xs := #[.tmp 95, .tmp 97]) rfl ?_); at_builtin; refine Kd.S_append k74 (w0 := w) w.heap.size rfl (.tmp 95) (.tmp 97) 32 74 (.agg #[(.string ⟨#[]⟩), (.bool false), (.int .i64 0), (.slice none 0 0)]) 56 rfl Try.underlying32 info74 rfl (by decide) (by omega) u6 x6_1 (⟨t193, (t198 == 1), t202, x198003_4⟩ : S74) [.string t193, .bool (t198 == 1), .int .i64 t202, .slice Ao36 x198003_4.length co36] (fun k_ => k_ ≠ gb197) (fun k_ => some k_ = (.slice Ao36 x198003_4.length co36 : Value).ownBlock) rfl rfl ?aP (fun k_ hk_ => ((Kd.R_mono (ok' := fun k_ => ((fun k_ => k_ ≠ gb197)) k_ ∧ some k_ ≠ (u6 : Value).ownBlock) (Kd.R_types (Kd.R_apart' (HO_198003.out) (Kd.S_typed HO_6.out) (by decide)) BK197.out (by decide)) (fun k_ hk => ⟨hk.2, hk.1.2⟩))).1 k_ hk_.symm) ?aF ?aO ?aB ?aS ?aL ?_; (case aP => exact k74_mkM _ _ _ (⟨t193, (t198 == 1), t202, x198003_4⟩ : S74) (Kd.R_mono (Kd.R_tight rfl (Kd.R_mono (ok' := fun k_ => ((fun k_ => k_ ≠ gb197)) k_ ∧ some k_ ≠ (u6 : Value).ownBlock) (Kd.R_types (Kd.R_apart' (HO_198003.out) (Kd.S_typed HO_6.out) (by decide)) BK197.out (by decide)) (fun k_ hk => ⟨hk.2, hk.1.2⟩))) (fun _ h_ => h_))); (case aB => exact (belg_ (IsS132.ge HI188.out))); (case aF => exact (fun k_ hk => Kd.freshB (g := gb197) (o := .cells #[.string t193, .bool (t198 == 1), .int .i64 t202, .slice Ao36 x198003_4.length co36] 74 (0, 0)) (bk_ BK197.out) k_ hk)); (case aO => exact (by (with_reducible repeat (first | apply Kd.S_alloc | apply Kd.S_drewN | apply Kd.S_drew)); exact Kd.S_mono HO_6.out (fun k_ hk => ⟨hk.2, fun e_ => hk.1 e_⟩))); (case aS => exact (below_size (belg_ (IsS132.ge HI188.out)))); (case aL => have := LMc30.out; omega); intro v212 w35 ho hb hg hat; rw [← Ny211.out] at ho; have n0_ := AM (blk_grown (g := gb197) (o := .cells #[.string t193, .bool (t198 == 1), .int .i64 t202, .slice Ao36 x198003_4.length co36] 74 (0, 0)) (bk_ BK197.out) hg (Kd.S_away HO_6.out (fun _ hk => hk.2))); have n1_ := AM (IsS132.grown is132_ hg (IsS132.own_neS HI188.out HO_6.out (by decide))); have n2_ := AM hb; have n3_ := AM ho; clear BK197; clear HI188; clear HB; clear HO_6; clear HO_198003; have BK197 := n0_; have HI188 := n1_; have HB := n2_; have HO213 := n3_; clear n0_ n1_ n2_ n3_; clear ho hb hg hat))
                            go_roundg k4
                            case measure => have := HK1.out; have := HJ4.out; have := HJ12.out; have := HK4.out; omega
                            case rel => exact ⟨(y211), (wrap64 (x7_1 + 1)), (x189000_4), (x189001_4), (true), (by first | rfl | (simp; done) | (simp [*]; done)), H', ⟨by have := HK1.out; have := HJ4.out; have := HJ12.out; have := HK4.out; omega⟩, ⟨by (with_reducible repeat (first | apply Kd.S_alloc | apply Kd.S_drewN | apply Kd.S_drew)); exact Kd.S_mono HO213.out (fun _ hk => trivial)⟩, ⟨is132_⟩, ⟨belg_ (IsS132.ge HI188.out)⟩⟩
                          · rw [if_neg c30] at H
                            exact absurd H (by simp)
                        · replace c29 := Bool.eq_false_iff.mpr c29
                          subst c29
                          rw [if_neg (show ¬ (false = true) by decide)] at H
                          obtain ⟨⟨t214, t215, t216, t217⟩, A37, H⟩ := OB H
                          try dsimp only at H
                          replace A37 := AM A37
                          by_cases c38 : x198003_4.length < 8796093022208
                          · rw [if_pos c38] at H
                            have LMc38 := AM c38
                            clear c38
                            obtain ⟨y218, hy218⟩ : ∃ y_ : List ByteArray, y_ = (x198003_4 ++ [t214]) := ⟨_, rfl⟩
                            replace H : (impl_readNodes.l1 k4 t189 x6_1 x7_1 t207 (wrap64 (x11_4 + 1)) t215 t216 t217 t193 (t198 == 1) t202 y218) = some (r1, r2) := by first | (rw [hy218]; with_reducible exact H) | (have H2_ := (Option.bind_some _ _).symm.trans H; rw [hy218]; with_reducible exact H2_) | (have H2_ := (Option.bind_some _ _).symm.trans H; with_reducible exact H2_) | with_reducible exact H | (rw [hy218]; exact H) | exact H
                            have Ny218 := AM hy218
                            clear hy218
                            have H' := AM H
                            clear H
                            obtain ⟨HGz39, hgz39⟩ := HI188.out
                            have hcz39_0 := cellS132_0 HGz39
                            have hcz39_1 := cellS132_1 HGz39
                            have hcz39_2 := cellS132_2 HGz39
                            have hfz39_0 := blk_frozen HGz39 0
                            have hfz39_1 := blk_frozen HGz39 1
                            have hfz39_2 := blk_frozen HGz39 2
                            clear HGz39 hgz39
                            try go_wp2
                            replace HO_6 := AM (Kd.S_drew HO_6.out)
                            replace HO_198003 := AM (Kd.R_drew HO_198003.out)
                            replace BK197 := AM (blk_drew BK197.out)
                            replace HI188 := AM (IsS132.drew HI188.out)
                            replace HB := AM (below_drew1 HB.out)
                            refine start_ (n := 8) (S := fun w' => w'.cell? ⟨gb197, 0, none⟩ = some (.string t193) ∧ w'.cell? ⟨gb197, 1, none⟩ = some (.bool (t198 == 1)) ∧ w'.cell? ⟨gb197, 2, none⟩ = some (.int .i64 t202) ∧ w'.cell? ⟨gb197, 3, none⟩ = some (u198003)) (ds := [7]) #[false, false, false, false, false, false, false, false] (by kernel_rfl) rfl rfl ⟨(blk_cell BK197.out 0).trans rfl, (blk_cell BK197.out 1).trans rfl, (blk_cell BK197.out 2).trans rfl, (blk_cell BK197.out 3).trans rfl⟩ (fun hHeld => ?_); refine with_tabW impl_readNodes.tab15 impl_readNodes.bits15 (fun HT_ HW_ => ?_)
                            generalize wr.drew = w40 at HO_6 HO_198003 BK197 HI188 HB hHeld ⊢
                            refine pu_ HT_ 0 (some 74) #[true, false, false, false, false, false, false, false] ?_
                            refine pu_ HT_ 2 (some 76) #[true, false, true, false, false, false, false, false] ?_
                            refine ta_ HT_ HW_ 1 (some 75) #[true, true, true, false, false, false, false, false] hHeld ?_
                            refine on_ HT_ 3 (some 77) #[true, true, true, true, false, false, false, false] (fun K hK => ?_)
                            refine go1_ Try.func110 #[.pointer (some ⟨gb188, 0, none⟩), .int .i64 32] ?_
                            with_reducible refine (impl_reader_take.calls gb188 x189000_4 x189001_4 false 32 t214 t215 t216 t217 w _ ?side1 ?side2 A37.out).mono ?_
                            (case side1 => repeat (first | (with_reducible first | exact HI188.out | apply IsS132.alloc | apply IsS132.drewN | apply IsS132.drew | apply IsS132.set_0 | apply IsS132.set_1 | apply IsS132.set_2 | refine IsS132.far ?_ NB188_197.out _) | exact HI188.out))
                            (case side2 => repeat (first | (with_reducible first | exact HB.out | apply below_alloc | apply pw_below_drewN | apply below_drew1 | refine below_set ?_ (IsS132.ge HI188.out) | refine below_set ?_ GE197.out) | exact HB.out))
                            rintro e w41 ⟨rfl, hi, hb, hk⟩
                            refine ⟨_, rfl, ?_⟩
                            replace HO_6 := AM (Kd.S_mono (Kd.S_keep (IsS132.apartS (show IsS132 w _ gb188 x189000_4 x189001_4 false from is132_) (by (with_reducible repeat (first | apply Kd.S_alloc | apply Kd.S_drewN | apply Kd.S_drew)); exact HO_6.out) (by decide)) hk (fun _ h => h.2)) (fun _ h => h.1))
                            replace HO_198003 := AM (Kd.R_mono (Kd.R_keep (IsS132.apart (show IsS132 w _ gb188 x189000_4 x189001_4 false from is132_) (ro_ HO_198003.out) (by decide)) hk (fun _ h => h.2)) (fun _ h => h.1))
                            replace BK197 := AM (KeepBut.blk hk (g' := gb197) (o := .cells #[.string t193, .bool (t198 == 1), .int .i64 t202, u198003] 74 (0, 0)) (bk_ BK197.out) NB197_188.out (by simp))
                            replace HB := AM hb
                            replace HI188 := AM hi
                            (try clear hb)
                            (try clear hb2)
                            (try clear hk)
                            (try clear hi)
                            refine hK.out _ _ ⟨(blk_cell BK197.out 0).trans rfl, (blk_cell BK197.out 1).trans rfl, (blk_cell BK197.out 2).trans rfl, (blk_cell BK197.out 3).trans rfl⟩ (fun hHeld => ?_)
                            clear hK K
                            refine nm_ ?_
                            refine on_ HT_ 4 (some 78) #[true, true, true, true, true, false, false, false] (fun K hK => ?_)
                            refine value_ (w1 := ?_) (v := ?_) (by rfl) rfl ?_ ?_
                            rotate_left 2
                            · go_simp
                              constructor
                              · rfl
                              · rfl
                            refine hK.out _ _ ⟨(blk_cell (blk_alloc BK197.out _) 0).trans rfl, (blk_cell (blk_alloc BK197.out _) 1).trans rfl, (blk_cell (blk_alloc BK197.out _) 2).trans rfl, (blk_cell (blk_alloc BK197.out _) 3).trans rfl⟩ (fun hHeld => ?_)
                            clear hK K
                            refine nm_ ?_
                            refine on_ HT_ 5 (some 79) #[true, true, true, true, true, true, false, false] (fun K hK => ?_)
                            refine Kd.R_append_step Kd.string (w0 := w) w.heap.size (by rfl) (.tmp 75) (.tmp 78) 54 9 (.string ⟨#[]⟩) 16 rfl Try.underlying54 info9 rfl (by decide) (by omega) u198003 x198003_4 t214 [.string t214] (fun _ => True) (fun _ => False) rfl rfl ?aP (fun _ hk => hk.elim) ?aF ?aO ?aB ?aS ?aL ?_
                            (case aP => exact rfl)
                            (case aB => exact (belg_ (IsS132.ge HI188.out)))
                            (case aF => exact (fun _ _ => trivial))
                            (case aO => exact (ro_ HO_198003.out))
                            (case aS => exact (below_size (belg_ (IsS132.ge HI188.out))))
                            (case aL => have := LMc38.out; omega)
                            intro v219 w42 ho hb hg hat
                            rw [← Ny218.out] at ho
                            have n0_ := AM (Kd.S_after (ok := (fun k_ => k_ ≠ gb197)) (by (with_reducible repeat (first | apply Kd.S_alloc | apply Kd.S_drewN | apply Kd.S_drew)); exact Kd.S_mono HO_6.out (fun _ hk => ⟨hk.2, hk.1⟩)) hg hat)
                            have n1_ := AM (blk_grown (g := gb197) (o := .cells #[.string t193, .bool (t198 == 1), .int .i64 t202, u198003] 74 (0, 0)) (bk_ BK197.out) hg (Kd.R_ne HO_198003.out BK197.out (by decide)))
                            have n2_ := AM (IsS132.grown is132_ hg (IsS132.own_ne HI188.out HO_198003.out (by decide)))
                            have n3_ := AM hb
                            have n4_ := AM ho
                            clear HO_6
                            clear BK197
                            clear HI188
                            clear HB
                            clear HO_198003
                            have HO_6 := n0_
                            have BK197 := n1_
                            have HI188 := n2_
                            have HB := n3_
                            have HO220 := n4_
                            clear n0_ n1_ n2_ n3_ n4_
                            clear ho hb hg hat
                            obtain ⟨Ao43, co43, eo43⟩ := Kd.R_slice HO220.out
                            (first | subst eo43 | (injection eo43 with f1_ f2_ f3_; have f4_ := f1_.symm; have f5_ := f3_.symm; clear f1_ f2_ f3_; subst f4_; subst f5_))
                            refine hK.out _ _ ⟨(blk_cell BK197.out 0).trans rfl, (blk_cell BK197.out 1).trans rfl, (blk_cell BK197.out 2).trans rfl, (blk_cell BK197.out 3).trans rfl⟩ (fun hHeld => ?_)
                            clear hK K
                            refine nm_ ?_
                            refine pu_ HT_ 6 (some 80) #[true, true, true, true, true, true, true, false] ?_
                            refine last_ (i := 7) (N := none) #[true, true, true, true, true, true, true, true] rfl rfl (one_of HT_.out (by kernel_rfl)) (by decide) (fun K hK => ?_)
                            have hs44 : w42.cell? ⟨gb197, 3, none⟩ = some (u198003) := (blk_cell BK197.out 3).trans rfl
                            have hfs44 := blk_frozen BK197.out 3
                            refine sk_ ?_
                            refine hK.out _ _ ?_
                            clear hK K
                            refine dn_ HT_ ?_
                            try go_wp2
                            go_roundg k4
                            case measure => have := HK1.out; have := HJ4.out; have := HJ12.out; have := HK4.out; omega
                            case rel => exact ⟨(wrap64 (x11_4 + 1)), (t215), (t216), (t217), (y218), (.slice Ao43 y218.length co43), (by first | rfl | (simp; done) | (simp [*]; done)), H', ⟨by have := HK1.out; have := HJ4.out; have := HJ12.out; have := HK4.out; omega⟩, ⟨by (with_reducible repeat (first | apply Kd.S_alloc | apply Kd.S_drewN | apply Kd.S_drew)); exact Kd.S_mono (Kd.S_far (p := ⟨gb197, 3, none⟩) (Kd.S_mono HO_6.out (fun k_ hk => (⟨hk, hk.1⟩ : _ ∧ k_ ≠ gb197))) (fun _ hk => hk.2) (.slice Ao43 y218.length co43)) (fun _ hk => ⟨hk.1.2, hk.1.1⟩)⟩, ⟨by (with_reducible repeat (first | apply Kd.R_alloc | apply Kd.R_drewN | apply Kd.R_drew)); exact Kd.R_mono (Kd.R_far (p := ⟨gb197, 3, none⟩) (Kd.R_types HO220.out BK197.out (by decide)) (fun _ hk => hk.2) (.slice Ao43 y218.length co43)) (fun _ hk => trivial)⟩, ⟨bka_⟩, ⟨is132_⟩, ⟨belg_ (IsS132.ge HI188.out)⟩⟩
                          · rw [if_neg c38] at H
                            exact absurd H (by simp)
                      · rw [if_neg c28] at H
                        have c28b0 : decide (x11_4 ≤ 100) = false := decide_eq_false c28
                        clear c28
                        by_cases c45 : x189002_4 = true
                        · subst c45
                          rw [if_pos rfl] at H
                          by_cases c46 : x6_1.length < 2513169434916
                          · rw [if_pos c46] at H
                            have LMc46 := AM c46
                            clear c46
                            obtain ⟨y221, hy221⟩ : ∃ y_ : List (S74), y_ = (x6_1 ++ [(⟨t193, (t198 == 1), t202, x198003_4⟩ : S74)]) := ⟨_, rfl⟩
                            replace H : (impl_readNodes.l0 k4 t189 y221 (wrap64 (x7_1 + 1)) x189000_4 x189001_4 true) = some (r1, r2) := by first | (rw [hy221]; with_reducible exact H) | (have H2_ := (Option.bind_some _ _).symm.trans H; rw [hy221]; with_reducible exact H2_) | (have H2_ := (Option.bind_some _ _).symm.trans H; with_reducible exact H2_) | with_reducible exact H | (rw [hy221]; exact H) | exact H
                            have Ny221 := AM hy221
                            clear hy221
                            have H' := AM H
                            clear H
                            obtain ⟨HGz47, hgz47⟩ := HI188.out
                            have hcz47_0 := cellS132_0 HGz47
                            have hcz47_1 := cellS132_1 HGz47
                            have hcz47_2 := cellS132_2 HGz47
                            have hfz47_0 := blk_frozen HGz47 0
                            have hfz47_1 := blk_frozen HGz47 1
                            have hfz47_2 := blk_frozen HGz47 2
                            clear HGz47 hgz47
                            go_wp2_with (first | ((with_reducible refine gate_store (t := 4) (p := 94) rfl ?_); refine store_event (t := 4) (p := 94) (v := ?vo_w48) (w1 := (wr.setCell ⟨gb188, 2, none⟩ (.bool true))) ?hg ?ho ?hn ?hr ?_; (case ho => rfl); (case hg => rfl); (case hn => rfl); (case hr => first | (go_simp; done) | (go_simp; rfl)); intro w48 hw; replace HO_6 : Aside0 (Kd.S k74 74 w48 w.heap.size (fun k_ => some k_ ≠ (u198003 : Value).ownBlock ∧ k_ ≠ gb197) u6 x6_1) := ⟨(by rw [hw]; exact (by (with_reducible repeat (first | apply Kd.S_alloc | apply Kd.S_drewN | apply Kd.S_drew)); exact Kd.S_mono (Kd.S_far (p := ⟨gb188, 2, none⟩) (IsS132.apartS HI188.out HO_6.out (by decide)) (fun _ hk => hk.2) (.bool true)) (fun _ hk => ⟨hk.1.1, hk.1.2⟩)))⟩; replace HO_198003 : Aside0 (Kd.R Kd.string 9 w48 w.heap.size (fun _ => True) u198003 x198003_4) := ⟨(by rw [hw]; exact (by (with_reducible repeat (first | apply Kd.R_alloc | apply Kd.R_drewN | apply Kd.R_drew)); exact Kd.R_mono (Kd.R_far (p := ⟨gb188, 2, none⟩) (IsS132.apart HI188.out HO_198003.out (by decide)) (fun _ hk => hk.2) (.bool true)) (fun _ hk => trivial)))⟩; replace BK197 : Aside0 (w48.heap[gb197]? = some (.cells #[.string t193, .bool (t198 == 1), .int .i64 t202, u198003] 74 (0, 0))) := ⟨(by rw [hw]; exact bka_)⟩; replace HB : Aside0 (Below w.heap.size w w48) := ⟨(by rw [hw]; exact (belg_ (IsS132.ge HI188.out)))⟩; replace HI188 : Aside0 (IsS132 w w48 gb188 x189000_4 x189001_4 true) := ⟨(by rw [hw]; exact is132_)⟩; clear hw; have hnb49 := NB197_188.out; have hnc49 := NB188_197.out; have hcz50_0 : w48.cell? ⟨gb197, 0, none⟩ = some (.string t193) := (blk_cell BK197.out 0).trans rfl; have hcz50_1 : w48.cell? ⟨gb197, 1, none⟩ = some (.bool (t198 == 1)) := (blk_cell BK197.out 1).trans rfl; have hcz50_2 : w48.cell? ⟨gb197, 2, none⟩ = some (.int .i64 t202) := (blk_cell BK197.out 2).trans rfl; have hcz50_3 : w48.cell? ⟨gb197, 3, none⟩ = some (u198003) := (blk_cell BK197.out 3).trans rfl; have hfz50_0 := blk_frozen BK197.out 0; have hfz50_1 := blk_frozen BK197.out 1; have hfz50_2 := blk_frozen BK197.out 2; have hfz50_3 := blk_frozen BK197.out 3; obtain ⟨Ao52, co52, eo52⟩ := Kd.R_slice HO_198003.out; subst eo52) | ((with_reducible refine gate_builtin (b := .append) (xs := #[.tmp 95, .tmp 97]) rfl ?_); at_builtin; refine Kd.S_append k74 (w0 := w) w.heap.size rfl (.tmp 95) (.tmp 97) 32 74 (.agg #[(.string ⟨#[]⟩), (.bool false), (.int .i64 0), (.slice none 0 0)]) 56 rfl Try.underlying32 info74 rfl (by decide) (by omega) u6 x6_1 (⟨t193, (t198 == 1), t202, x198003_4⟩ : S74) [.string t193, .bool (t198 == 1), .int .i64 t202, .slice Ao52 x198003_4.length co52] (fun k_ => k_ ≠ gb197) (fun k_ => some k_ = (.slice Ao52 x198003_4.length co52 : Value).ownBlock) rfl rfl ?aP (fun k_ hk_ => ((Kd.R_mono (ok' := fun k_ => ((fun k_ => k_ ≠ gb197)) k_ ∧ some k_ ≠ (u6 : Value).ownBlock) (Kd.R_types (Kd.R_apart' (HO_198003.out) (Kd.S_typed HO_6.out) (by decide)) BK197.out (by decide)) (fun k_ hk => ⟨hk.2, hk.1.2⟩))).1 k_ hk_.symm) ?aF ?aO ?aB ?aS ?aL ?_; (case aP => exact k74_mkM _ _ _ (⟨t193, (t198 == 1), t202, x198003_4⟩ : S74) (Kd.R_mono (Kd.R_tight rfl (Kd.R_mono (ok' := fun k_ => ((fun k_ => k_ ≠ gb197)) k_ ∧ some k_ ≠ (u6 : Value).ownBlock) (Kd.R_types (Kd.R_apart' (HO_198003.out) (Kd.S_typed HO_6.out) (by decide)) BK197.out (by decide)) (fun k_ hk => ⟨hk.2, hk.1.2⟩))) (fun _ h_ => h_))); (case aB => exact (belg_ (IsS132.ge HI188.out))); (case aF => exact (fun k_ hk => Kd.freshB (g := gb197) (o := .cells #[.string t193, .bool (t198 == 1), .int .i64 t202, .slice Ao52 x198003_4.length co52] 74 (0, 0)) (bk_ BK197.out) k_ hk)); (case aO => exact (by (with_reducible repeat (first | apply Kd.S_alloc | apply Kd.S_drewN | apply Kd.S_drew)); exact Kd.S_mono HO_6.out (fun k_ hk => ⟨hk.2, fun e_ => hk.1 e_⟩))); (case aS => exact (below_size (belg_ (IsS132.ge HI188.out)))); (case aL => have := LMc46.out; omega); intro v222 w51 ho hb hg hat; rw [← Ny221.out] at ho; have n0_ := AM (blk_grown (g := gb197) (o := .cells #[.string t193, .bool (t198 == 1), .int .i64 t202, .slice Ao52 x198003_4.length co52] 74 (0, 0)) (bk_ BK197.out) hg (Kd.S_away HO_6.out (fun _ hk => hk.2))); have n1_ := AM (IsS132.grown is132_ hg (IsS132.own_neS HI188.out HO_6.out (by decide))); have n2_ := AM hb; have n3_ := AM ho; clear BK197; clear HI188; clear HB; clear HO_6; clear HO_198003; have BK197 := n0_; have HI188 := n1_; have HB := n2_; have HO223 := n3_; clear n0_ n1_ n2_ n3_; clear ho hb hg hat))
                            go_roundg k4
                            case measure => have := HK1.out; have := HJ4.out; have := HJ12.out; have := HK4.out; omega
                            case rel => exact ⟨(y221), (wrap64 (x7_1 + 1)), (x189000_4), (x189001_4), (true), (by first | rfl | (simp; done) | (simp [*]; done)), H', ⟨by have := HK1.out; have := HJ4.out; have := HJ12.out; have := HK4.out; omega⟩, ⟨by (with_reducible repeat (first | apply Kd.S_alloc | apply Kd.S_drewN | apply Kd.S_drew)); exact Kd.S_mono HO223.out (fun _ hk => trivial)⟩, ⟨is132_⟩, ⟨belg_ (IsS132.ge HI188.out)⟩⟩
                          · rw [if_neg c46] at H
                            exact absurd H (by simp)
                        · replace c45 := Bool.eq_false_iff.mpr c45
                          subst c45
                          rw [if_neg (show ¬ (false = true) by decide)] at H
                          obtain ⟨t224, A53, H⟩ := OB H
                          try dsimp only at H
                          replace A53 := AM A53
                          by_cases c54 : x6_1.length < 2513169434916
                          · rw [if_pos c54] at H
                            have LMc54 := AM c54
                            clear c54
                            obtain ⟨y225, hy225⟩ : ∃ y_ : List (S74), y_ = (x6_1 ++ [(⟨t193, (t198 == 1), t202, x198003_4⟩ : S74)]) := ⟨_, rfl⟩
                            replace H : (impl_readNodes.l0 k4 t189 y225 (wrap64 (x7_1 + 1)) x189000_4 x189001_4 (t207 != t224)) = some (r1, r2) := by first | (rw [hy225]; with_reducible exact H) | (have H2_ := (Option.bind_some _ _).symm.trans H; rw [hy225]; with_reducible exact H2_) | (have H2_ := (Option.bind_some _ _).symm.trans H; with_reducible exact H2_) | with_reducible exact H | (rw [hy225]; exact H) | exact H
                            have Ny225 := AM hy225
                            clear hy225
                            have H' := AM H
                            clear H
                            obtain ⟨HGz55, hgz55⟩ := HI188.out
                            have hcz55_0 := cellS132_0 HGz55
                            have hcz55_1 := cellS132_1 HGz55
                            have hcz55_2 := cellS132_2 HGz55
                            have hfz55_0 := blk_frozen HGz55 0
                            have hfz55_1 := blk_frozen HGz55 1
                            have hfz55_2 := blk_frozen HGz55 2
                            clear HGz55 hgz55
                            have hnb56 := NB197_188.out
                            have hnc56 := NB188_197.out
                            have hcz57_0 : wr.cell? ⟨gb197, 0, none⟩ = some (.string t193) := (blk_cell BK197.out 0).trans rfl
                            have hcz57_1 : wr.cell? ⟨gb197, 1, none⟩ = some (.bool (t198 == 1)) := (blk_cell BK197.out 1).trans rfl
                            have hcz57_2 : wr.cell? ⟨gb197, 2, none⟩ = some (.int .i64 t202) := (blk_cell BK197.out 2).trans rfl
                            have hcz57_3 : wr.cell? ⟨gb197, 3, none⟩ = some (u198003) := (blk_cell BK197.out 3).trans rfl
                            have hfz57_0 := blk_frozen BK197.out 0
                            have hfz57_1 := blk_frozen BK197.out 1
                            have hfz57_2 := blk_frozen BK197.out 2
                            have hfz57_3 := blk_frozen BK197.out 3
                            obtain ⟨Ao58, co58, eo58⟩ := Kd.R_slice HO_198003.out
                            subst eo58
                            go_wp2_with (first | (go_at_call 80; (with_reducible refine (impl_size_string.calls _ _ x198003_4 t224 _ ?side1 ?side2 A53.out).mono ?_); (case side1 => repeat (first | exact (Kd.R_reads' HO_198003.out).2.2 | (with_reducible refine Kd.C_alloc ?_ _) | (with_reducible refine Kd.C_drewN ?_ _) | (with_reducible refine Kd.C_drew ?_))); (case side2 => exact (Kd.R_reads' HO_198003.out).2.1); rintro e w' ⟨rfl, ⟨nd, rfl⟩⟩; (try (rw [drewN_self wr]; generalize hq_ : World.drewN wr _ = wr; replace HO_198003 : Aside0 (Kd.R Kd.string 9 wr w.heap.size (fun _ => True) (.slice Ao58 x198003_4.length co58) x198003_4) := ⟨by rw [← hq_]; exact (ro_ HO_198003.out)⟩; replace HO_6 : Aside0 (Kd.S k74 74 wr w.heap.size (fun k_ => some k_ ≠ (.slice Ao58 x198003_4.length co58 : Value).ownBlock ∧ k_ ≠ gb197) u6 x6_1) := ⟨by rw [← hq_]; exact (by (with_reducible repeat (first | apply Kd.S_alloc | apply Kd.S_drewN | apply Kd.S_drew)); exact HO_6.out)⟩; replace BK197 : Aside0 (wr.heap[gb197]? = some (.cells #[.string t193, .bool (t198 == 1), .int .i64 t202, .slice Ao58 x198003_4.length co58] 74 (0, 0))) := ⟨by rw [← hq_]; exact (bk_ BK197.out)⟩; replace HB : Aside0 (Below w.heap.size w wr) := ⟨by rw [← hq_]; exact (belg_ (IsS132.ge HI188.out))⟩; replace HI188 : Aside0 (IsS132 w wr gb188 x189000_4 x189001_4 false) := ⟨by rw [← hq_]; exact is132_⟩; clear hq_; have HGq_ := HI188.out.1; have hcq0_ := cellS132_0 HGq_; have hfq0_ := blk_frozen HGq_ 0; have hcq1_ := cellS132_1 HGq_; have hfq1_ := blk_frozen HGq_ 1; have hcq2_ := cellS132_2 HGq_; have hfq2_ := blk_frozen HGq_ 2; clear HGq_))) | ((with_reducible refine gate_store (t := 4) (p := 94) rfl ?_); refine store_event (t := 4) (p := 94) (v := ?vo_w59) (w1 := (wr.setCell ⟨gb188, 2, none⟩ (.bool (t207 != t224)))) ?hg ?ho ?hn ?hr ?_; (case ho => rfl); (case hg => rfl); (case hn => rfl); (case hr => first | (go_simp; done) | (go_simp; rfl)); intro w59 hw; replace HO_6 : Aside0 (Kd.S k74 74 w59 w.heap.size (fun k_ => some k_ ≠ (.slice Ao58 x198003_4.length co58 : Value).ownBlock ∧ k_ ≠ gb197) u6 x6_1) := ⟨(by rw [hw]; exact (by (with_reducible repeat (first | apply Kd.S_alloc | apply Kd.S_drewN | apply Kd.S_drew)); exact Kd.S_mono (Kd.S_far (p := ⟨gb188, 2, none⟩) (IsS132.apartS HI188.out HO_6.out (by decide)) (fun _ hk => hk.2) (.bool (t207 != t224))) (fun _ hk => ⟨hk.1.1, hk.1.2⟩)))⟩; replace HO_198003 : Aside0 (Kd.R Kd.string 9 w59 w.heap.size (fun _ => True) (.slice Ao58 x198003_4.length co58) x198003_4) := ⟨(by rw [hw]; exact (by (with_reducible repeat (first | apply Kd.R_alloc | apply Kd.R_drewN | apply Kd.R_drew)); exact Kd.R_mono (Kd.R_far (p := ⟨gb188, 2, none⟩) (IsS132.apart HI188.out HO_198003.out (by decide)) (fun _ hk => hk.2) (.bool (t207 != t224))) (fun _ hk => trivial)))⟩; replace BK197 : Aside0 (w59.heap[gb197]? = some (.cells #[.string t193, .bool (t198 == 1), .int .i64 t202, .slice Ao58 x198003_4.length co58] 74 (0, 0))) := ⟨(by rw [hw]; exact bka_)⟩; replace HB : Aside0 (Below w.heap.size w w59) := ⟨(by rw [hw]; exact (belg_ (IsS132.ge HI188.out)))⟩; replace HI188 : Aside0 (IsS132 w w59 gb188 x189000_4 x189001_4 (t207 != t224)) := ⟨(by rw [hw]; exact is132_)⟩; clear hw; have hcz60_0 : w59.cell? ⟨gb197, 0, none⟩ = some (.string t193) := (blk_cell BK197.out 0).trans rfl; have hcz60_1 : w59.cell? ⟨gb197, 1, none⟩ = some (.bool (t198 == 1)) := (blk_cell BK197.out 1).trans rfl; have hcz60_2 : w59.cell? ⟨gb197, 2, none⟩ = some (.int .i64 t202) := (blk_cell BK197.out 2).trans rfl; have hcz60_3 : w59.cell? ⟨gb197, 3, none⟩ = some (.slice Ao58 x198003_4.length co58) := (blk_cell BK197.out 3).trans rfl; have hfz60_0 := blk_frozen BK197.out 0; have hfz60_1 := blk_frozen BK197.out 1; have hfz60_2 := blk_frozen BK197.out 2; have hfz60_3 := blk_frozen BK197.out 3) | ((with_reducible refine gate_builtin (b := .append) (xs := #[.tmp 95, .tmp 97]) rfl ?_); at_builtin; refine Kd.S_append k74 (w0 := w) w.heap.size rfl (.tmp 95) (.tmp 97) 32 74 (.agg #[(.string ⟨#[]⟩), (.bool false), (.int .i64 0), (.slice none 0 0)]) 56 rfl Try.underlying32 info74 rfl (by decide) (by omega) u6 x6_1 (⟨t193, (t198 == 1), t202, x198003_4⟩ : S74) [.string t193, .bool (t198 == 1), .int .i64 t202, .slice Ao58 x198003_4.length co58] (fun k_ => k_ ≠ gb197) (fun k_ => some k_ = (.slice Ao58 x198003_4.length co58 : Value).ownBlock) rfl rfl ?aP (fun k_ hk_ => ((Kd.R_mono (ok' := fun k_ => ((fun k_ => k_ ≠ gb197)) k_ ∧ some k_ ≠ (u6 : Value).ownBlock) (Kd.R_types (Kd.R_apart' (HO_198003.out) (Kd.S_typed HO_6.out) (by decide)) BK197.out (by decide)) (fun k_ hk => ⟨hk.2, hk.1.2⟩))).1 k_ hk_.symm) ?aF ?aO ?aB ?aS ?aL ?_; (case aP => exact k74_mkM _ _ _ (⟨t193, (t198 == 1), t202, x198003_4⟩ : S74) (Kd.R_mono (Kd.R_tight rfl (Kd.R_mono (ok' := fun k_ => ((fun k_ => k_ ≠ gb197)) k_ ∧ some k_ ≠ (u6 : Value).ownBlock) (Kd.R_types (Kd.R_apart' (HO_198003.out) (Kd.S_typed HO_6.out) (by decide)) BK197.out (by decide)) (fun k_ hk => ⟨hk.2, hk.1.2⟩))) (fun _ h_ => h_))); (case aB => exact (belg_ (IsS132.ge HI188.out))); (case aF => exact (fun k_ hk => Kd.freshB (g := gb197) (o := .cells #[.string t193, .bool (t198 == 1), .int .i64 t202, .slice Ao58 x198003_4.length co58] 74 (0, 0)) (bk_ BK197.out) k_ hk)); (case aO => exact (by (with_reducible repeat (first | apply Kd.S_alloc | apply Kd.S_drewN | apply Kd.S_drew)); exact Kd.S_mono HO_6.out (fun k_ hk => ⟨hk.2, fun e_ => hk.1 e_⟩))); (case aS => exact (below_size (belg_ (IsS132.ge HI188.out)))); (case aL => have := LMc54.out; omega); intro v226 w61 ho hb hg hat; rw [← Ny225.out] at ho; have n0_ := AM (blk_grown (g := gb197) (o := .cells #[.string t193, .bool (t198 == 1), .int .i64 t202, .slice Ao58 x198003_4.length co58] 74 (0, 0)) (bk_ BK197.out) hg (Kd.S_away HO_6.out (fun _ hk => hk.2))); have n1_ := AM (IsS132.grown is132_ hg (IsS132.own_neS HI188.out HO_6.out (by decide))); have n2_ := AM hb; have n3_ := AM ho; clear BK197; clear HI188; clear HB; clear HO_6; clear HO_198003; have BK197 := n0_; have HI188 := n1_; have HB := n2_; have HO227 := n3_; clear n0_ n1_ n2_ n3_; clear ho hb hg hat))
                            go_roundg k4
                            case measure => have := HK1.out; have := HJ4.out; have := HJ12.out; have := HK4.out; omega
                            case rel => exact ⟨(y225), (wrap64 (x7_1 + 1)), (x189000_4), (x189001_4), ((t207 != t224)), (by first | rfl | (simp; done) | (simp [*]; done)), H', ⟨by have := HK1.out; have := HJ4.out; have := HJ12.out; have := HK4.out; omega⟩, ⟨by (with_reducible repeat (first | apply Kd.S_alloc | apply Kd.S_drewN | apply Kd.S_drew)); exact Kd.S_mono HO227.out (fun _ hk => trivial)⟩, ⟨is132_⟩, ⟨belg_ (IsS132.ge HI188.out)⟩⟩
                          · rw [if_neg c54] at H
                            exact absurd H (by simp)
                    · rw [if_neg c27] at H
                      have c27b0 : decide (x11_4 < t207) = false := decide_eq_false c27
                      clear c27
                      by_cases c62 : x189002_4 = true
                      · subst c62
                        rw [if_pos rfl] at H
                        by_cases c63 : x6_1.length < 2513169434916
                        · rw [if_pos c63] at H
                          have LMc63 := AM c63
                          clear c63
                          obtain ⟨y228, hy228⟩ : ∃ y_ : List (S74), y_ = (x6_1 ++ [(⟨t193, (t198 == 1), t202, x198003_4⟩ : S74)]) := ⟨_, rfl⟩
                          replace H : (impl_readNodes.l0 k4 t189 y228 (wrap64 (x7_1 + 1)) x189000_4 x189001_4 true) = some (r1, r2) := by first | (rw [hy228]; with_reducible exact H) | (have H2_ := (Option.bind_some _ _).symm.trans H; rw [hy228]; with_reducible exact H2_) | (have H2_ := (Option.bind_some _ _).symm.trans H; with_reducible exact H2_) | with_reducible exact H | (rw [hy228]; exact H) | exact H
                          have Ny228 := AM hy228
                          clear hy228
                          have H' := AM H
                          clear H
                          obtain ⟨HGz64, hgz64⟩ := HI188.out
                          have hcz64_0 := cellS132_0 HGz64
                          have hcz64_1 := cellS132_1 HGz64
                          have hcz64_2 := cellS132_2 HGz64
                          have hfz64_0 := blk_frozen HGz64 0
                          have hfz64_1 := blk_frozen HGz64 1
                          have hfz64_2 := blk_frozen HGz64 2
                          clear HGz64 hgz64
                          go_wp2_with (first | ((with_reducible refine gate_store (t := 4) (p := 94) rfl ?_); refine store_event (t := 4) (p := 94) (v := ?vo_w65) (w1 := (wr.setCell ⟨gb188, 2, none⟩ (.bool true))) ?hg ?ho ?hn ?hr ?_; (case ho => rfl); (case hg => rfl); (case hn => rfl); (case hr => first | (go_simp; done) | (go_simp; rfl)); intro w65 hw; replace HO_6 : Aside0 (Kd.S k74 74 w65 w.heap.size (fun k_ => some k_ ≠ (u198003 : Value).ownBlock ∧ k_ ≠ gb197) u6 x6_1) := ⟨(by rw [hw]; exact (by (with_reducible repeat (first | apply Kd.S_alloc | apply Kd.S_drewN | apply Kd.S_drew)); exact Kd.S_mono (Kd.S_far (p := ⟨gb188, 2, none⟩) (IsS132.apartS HI188.out HO_6.out (by decide)) (fun _ hk => hk.2) (.bool true)) (fun _ hk => ⟨hk.1.1, hk.1.2⟩)))⟩; replace HO_198003 : Aside0 (Kd.R Kd.string 9 w65 w.heap.size (fun _ => True) u198003 x198003_4) := ⟨(by rw [hw]; exact (by (with_reducible repeat (first | apply Kd.R_alloc | apply Kd.R_drewN | apply Kd.R_drew)); exact Kd.R_mono (Kd.R_far (p := ⟨gb188, 2, none⟩) (IsS132.apart HI188.out HO_198003.out (by decide)) (fun _ hk => hk.2) (.bool true)) (fun _ hk => trivial)))⟩; replace BK197 : Aside0 (w65.heap[gb197]? = some (.cells #[.string t193, .bool (t198 == 1), .int .i64 t202, u198003] 74 (0, 0))) := ⟨(by rw [hw]; exact bka_)⟩; replace HB : Aside0 (Below w.heap.size w w65) := ⟨(by rw [hw]; exact (belg_ (IsS132.ge HI188.out)))⟩; replace HI188 : Aside0 (IsS132 w w65 gb188 x189000_4 x189001_4 true) := ⟨(by rw [hw]; exact is132_)⟩; clear hw; have hnb66 := NB197_188.out; have hnc66 := NB188_197.out; have hcz67_0 : w65.cell? ⟨gb197, 0, none⟩ = some (.string t193) := (blk_cell BK197.out 0).trans rfl; have hcz67_1 : w65.cell? ⟨gb197, 1, none⟩ = some (.bool (t198 == 1)) := (blk_cell BK197.out 1).trans rfl; have hcz67_2 : w65.cell? ⟨gb197, 2, none⟩ = some (.int .i64 t202) := (blk_cell BK197.out 2).trans rfl; have hcz67_3 : w65.cell? ⟨gb197, 3, none⟩ = some (u198003) := (blk_cell BK197.out 3).trans rfl; have hfz67_0 := blk_frozen BK197.out 0; have hfz67_1 := blk_frozen BK197.out 1; have hfz67_2 := blk_frozen BK197.out 2; have hfz67_3 := blk_frozen BK197.out 3; obtain ⟨Ao69, co69, eo69⟩ := Kd.R_slice HO_198003.out; subst eo69) | ((with_reducible refine gate_builtin (b := .append) (xs := #[.tmp 95, .tmp 97]) rfl ?_); at_builtin; refine Kd.S_append k74 (w0 := w) w.heap.size rfl (.tmp 95) (.tmp 97) 32 74 (.agg #[(.string ⟨#[]⟩), (.bool false), (.int .i64 0), (.slice none 0 0)]) 56 rfl Try.underlying32 info74 rfl (by decide) (by omega) u6 x6_1 (⟨t193, (t198 == 1), t202, x198003_4⟩ : S74) [.string t193, .bool (t198 == 1), .int .i64 t202, .slice Ao69 x198003_4.length co69] (fun k_ => k_ ≠ gb197) (fun k_ => some k_ = (.slice Ao69 x198003_4.length co69 : Value).ownBlock) rfl rfl ?aP (fun k_ hk_ => ((Kd.R_mono (ok' := fun k_ => ((fun k_ => k_ ≠ gb197)) k_ ∧ some k_ ≠ (u6 : Value).ownBlock) (Kd.R_types (Kd.R_apart' (HO_198003.out) (Kd.S_typed HO_6.out) (by decide)) BK197.out (by decide)) (fun k_ hk => ⟨hk.2, hk.1.2⟩))).1 k_ hk_.symm) ?aF ?aO ?aB ?aS ?aL ?_; (case aP => exact k74_mkM _ _ _ (⟨t193, (t198 == 1), t202, x198003_4⟩ : S74) (Kd.R_mono (Kd.R_tight rfl (Kd.R_mono (ok' := fun k_ => ((fun k_ => k_ ≠ gb197)) k_ ∧ some k_ ≠ (u6 : Value).ownBlock) (Kd.R_types (Kd.R_apart' (HO_198003.out) (Kd.S_typed HO_6.out) (by decide)) BK197.out (by decide)) (fun k_ hk => ⟨hk.2, hk.1.2⟩))) (fun _ h_ => h_))); (case aB => exact (belg_ (IsS132.ge HI188.out))); (case aF => exact (fun k_ hk => Kd.freshB (g := gb197) (o := .cells #[.string t193, .bool (t198 == 1), .int .i64 t202, .slice Ao69 x198003_4.length co69] 74 (0, 0)) (bk_ BK197.out) k_ hk)); (case aO => exact (by (with_reducible repeat (first | apply Kd.S_alloc | apply Kd.S_drewN | apply Kd.S_drew)); exact Kd.S_mono HO_6.out (fun k_ hk => ⟨hk.2, fun e_ => hk.1 e_⟩))); (case aS => exact (below_size (belg_ (IsS132.ge HI188.out)))); (case aL => have := LMc63.out; omega); intro v229 w68 ho hb hg hat; rw [← Ny228.out] at ho; have n0_ := AM (blk_grown (g := gb197) (o := .cells #[.string t193, .bool (t198 == 1), .int .i64 t202, .slice Ao69 x198003_4.length co69] 74 (0, 0)) (bk_ BK197.out) hg (Kd.S_away HO_6.out (fun _ hk => hk.2))); have n1_ := AM (IsS132.grown is132_ hg (IsS132.own_neS HI188.out HO_6.out (by decide))); have n2_ := AM hb; have n3_ := AM ho; clear BK197; clear HI188; clear HB; clear HO_6; clear HO_198003; have BK197 := n0_; have HI188 := n1_; have HB := n2_; have HO230 := n3_; clear n0_ n1_ n2_ n3_; clear ho hb hg hat))
                          go_roundg k4
                          case measure => have := HK1.out; have := HJ4.out; have := HJ12.out; have := HK4.out; omega
                          case rel => exact ⟨(y228), (wrap64 (x7_1 + 1)), (x189000_4), (x189001_4), (true), (by first | rfl | (simp; done) | (simp [*]; done)), H', ⟨by have := HK1.out; have := HJ4.out; have := HJ12.out; have := HK4.out; omega⟩, ⟨by (with_reducible repeat (first | apply Kd.S_alloc | apply Kd.S_drewN | apply Kd.S_drew)); exact Kd.S_mono HO230.out (fun _ hk => trivial)⟩, ⟨is132_⟩, ⟨belg_ (IsS132.ge HI188.out)⟩⟩
                        · rw [if_neg c63] at H
                          exact absurd H (by simp)
                      · replace c62 := Bool.eq_false_iff.mpr c62
                        subst c62
                        rw [if_neg (show ¬ (false = true) by decide)] at H
                        obtain ⟨t231, A70, H⟩ := OB H
                        try dsimp only at H
                        replace A70 := AM A70
                        by_cases c71 : x6_1.length < 2513169434916
                        · rw [if_pos c71] at H
                          have LMc71 := AM c71
                          clear c71
                          obtain ⟨y232, hy232⟩ : ∃ y_ : List (S74), y_ = (x6_1 ++ [(⟨t193, (t198 == 1), t202, x198003_4⟩ : S74)]) := ⟨_, rfl⟩
                          replace H : (impl_readNodes.l0 k4 t189 y232 (wrap64 (x7_1 + 1)) x189000_4 x189001_4 (t207 != t231)) = some (r1, r2) := by first | (rw [hy232]; with_reducible exact H) | (have H2_ := (Option.bind_some _ _).symm.trans H; rw [hy232]; with_reducible exact H2_) | (have H2_ := (Option.bind_some _ _).symm.trans H; with_reducible exact H2_) | with_reducible exact H | (rw [hy232]; exact H) | exact H
                          have Ny232 := AM hy232
                          clear hy232
                          have H' := AM H
                          clear H
                          obtain ⟨HGz72, hgz72⟩ := HI188.out
                          have hcz72_0 := cellS132_0 HGz72
                          have hcz72_1 := cellS132_1 HGz72
                          have hcz72_2 := cellS132_2 HGz72
                          have hfz72_0 := blk_frozen HGz72 0
                          have hfz72_1 := blk_frozen HGz72 1
                          have hfz72_2 := blk_frozen HGz72 2
                          clear HGz72 hgz72
                          have hnb73 := NB197_188.out
                          have hnc73 := NB188_197.out
                          have hcz74_0 : wr.cell? ⟨gb197, 0, none⟩ = some (.string t193) := (blk_cell BK197.out 0).trans rfl
                          have hcz74_1 : wr.cell? ⟨gb197, 1, none⟩ = some (.bool (t198 == 1)) := (blk_cell BK197.out 1).trans rfl
                          have hcz74_2 : wr.cell? ⟨gb197, 2, none⟩ = some (.int .i64 t202) := (blk_cell BK197.out 2).trans rfl
                          have hcz74_3 : wr.cell? ⟨gb197, 3, none⟩ = some (u198003) := (blk_cell BK197.out 3).trans rfl
                          have hfz74_0 := blk_frozen BK197.out 0
                          have hfz74_1 := blk_frozen BK197.out 1
                          have hfz74_2 := blk_frozen BK197.out 2
                          have hfz74_3 := blk_frozen BK197.out 3
                          obtain ⟨Ao75, co75, eo75⟩ := Kd.R_slice HO_198003.out
                          subst eo75
                          go_wp2_with (first | (go_at_call 80; (with_reducible refine (impl_size_string.calls _ _ x198003_4 t231 _ ?side1 ?side2 A70.out).mono ?_); (case side1 => repeat (first | exact (Kd.R_reads' HO_198003.out).2.2 | (with_reducible refine Kd.C_alloc ?_ _) | (with_reducible refine Kd.C_drewN ?_ _) | (with_reducible refine Kd.C_drew ?_))); (case side2 => exact (Kd.R_reads' HO_198003.out).2.1); rintro e w' ⟨rfl, ⟨nd, rfl⟩⟩; (try (rw [drewN_self wr]; generalize hq_ : World.drewN wr _ = wr; replace HO_198003 : Aside0 (Kd.R Kd.string 9 wr w.heap.size (fun _ => True) (.slice Ao75 x198003_4.length co75) x198003_4) := ⟨by rw [← hq_]; exact (ro_ HO_198003.out)⟩; replace HO_6 : Aside0 (Kd.S k74 74 wr w.heap.size (fun k_ => some k_ ≠ (.slice Ao75 x198003_4.length co75 : Value).ownBlock ∧ k_ ≠ gb197) u6 x6_1) := ⟨by rw [← hq_]; exact (by (with_reducible repeat (first | apply Kd.S_alloc | apply Kd.S_drewN | apply Kd.S_drew)); exact HO_6.out)⟩; replace BK197 : Aside0 (wr.heap[gb197]? = some (.cells #[.string t193, .bool (t198 == 1), .int .i64 t202, .slice Ao75 x198003_4.length co75] 74 (0, 0))) := ⟨by rw [← hq_]; exact (bk_ BK197.out)⟩; replace HB : Aside0 (Below w.heap.size w wr) := ⟨by rw [← hq_]; exact (belg_ (IsS132.ge HI188.out))⟩; replace HI188 : Aside0 (IsS132 w wr gb188 x189000_4 x189001_4 false) := ⟨by rw [← hq_]; exact is132_⟩; clear hq_; have HGq_ := HI188.out.1; have hcq0_ := cellS132_0 HGq_; have hfq0_ := blk_frozen HGq_ 0; have hcq1_ := cellS132_1 HGq_; have hfq1_ := blk_frozen HGq_ 1; have hcq2_ := cellS132_2 HGq_; have hfq2_ := blk_frozen HGq_ 2; clear HGq_))) | ((with_reducible refine gate_store (t := 4) (p := 94) rfl ?_); refine store_event (t := 4) (p := 94) (v := ?vo_w76) (w1 := (wr.setCell ⟨gb188, 2, none⟩ (.bool (t207 != t231)))) ?hg ?ho ?hn ?hr ?_; (case ho => rfl); (case hg => rfl); (case hn => rfl); (case hr => first | (go_simp; done) | (go_simp; rfl)); intro w76 hw; replace HO_6 : Aside0 (Kd.S k74 74 w76 w.heap.size (fun k_ => some k_ ≠ (.slice Ao75 x198003_4.length co75 : Value).ownBlock ∧ k_ ≠ gb197) u6 x6_1) := ⟨(by rw [hw]; exact (by (with_reducible repeat (first | apply Kd.S_alloc | apply Kd.S_drewN | apply Kd.S_drew)); exact Kd.S_mono (Kd.S_far (p := ⟨gb188, 2, none⟩) (IsS132.apartS HI188.out HO_6.out (by decide)) (fun _ hk => hk.2) (.bool (t207 != t231))) (fun _ hk => ⟨hk.1.1, hk.1.2⟩)))⟩; replace HO_198003 : Aside0 (Kd.R Kd.string 9 w76 w.heap.size (fun _ => True) (.slice Ao75 x198003_4.length co75) x198003_4) := ⟨(by rw [hw]; exact (by (with_reducible repeat (first | apply Kd.R_alloc | apply Kd.R_drewN | apply Kd.R_drew)); exact Kd.R_mono (Kd.R_far (p := ⟨gb188, 2, none⟩) (IsS132.apart HI188.out HO_198003.out (by decide)) (fun _ hk => hk.2) (.bool (t207 != t231))) (fun _ hk => trivial)))⟩; replace BK197 : Aside0 (w76.heap[gb197]? = some (.cells #[.string t193, .bool (t198 == 1), .int .i64 t202, .slice Ao75 x198003_4.length co75] 74 (0, 0))) := ⟨(by rw [hw]; exact bka_)⟩; replace HB : Aside0 (Below w.heap.size w w76) := ⟨(by rw [hw]; exact (belg_ (IsS132.ge HI188.out)))⟩; replace HI188 : Aside0 (IsS132 w w76 gb188 x189000_4 x189001_4 (t207 != t231)) := ⟨(by rw [hw]; exact is132_)⟩; clear hw; have hcz77_0 : w76.cell? ⟨gb197, 0, none⟩ = some (.string t193) := (blk_cell BK197.out 0).trans rfl; have hcz77_1 : w76.cell? ⟨gb197, 1, none⟩ = some (.bool (t198 == 1)) := (blk_cell BK197.out 1).trans rfl; have hcz77_2 : w76.cell? ⟨gb197, 2, none⟩ = some (.int .i64 t202) := (blk_cell BK197.out 2).trans rfl; have hcz77_3 : w76.cell? ⟨gb197, 3, none⟩ = some (.slice Ao75 x198003_4.length co75) := (blk_cell BK197.out 3).trans rfl; have hfz77_0 := blk_frozen BK197.out 0; have hfz77_1 := blk_frozen BK197.out 1; have hfz77_2 := blk_frozen BK197.out 2; have hfz77_3 := blk_frozen BK197.out 3) | ((with_reducible refine gate_builtin (b := .append) (xs := #[.tmp 95, .tmp 97]) rfl ?_); at_builtin; refine Kd.S_append k74 (w0 := w) w.heap.size rfl (.tmp 95) (.tmp 97) 32 74 (.agg #[(.string ⟨#[]⟩), (.bool false), (.int .i64 0), (.slice none 0 0)]) 56 rfl Try.underlying32 info74 rfl (by decide) (by omega) u6 x6_1 (⟨t193, (t198 == 1), t202, x198003_4⟩ : S74) [.string t193, .bool (t198 == 1), .int .i64 t202, .slice Ao75 x198003_4.length co75] (fun k_ => k_ ≠ gb197) (fun k_ => some k_ = (.slice Ao75 x198003_4.length co75 : Value).ownBlock) rfl rfl ?aP (fun k_ hk_ => ((Kd.R_mono (ok' := fun k_ => ((fun k_ => k_ ≠ gb197)) k_ ∧ some k_ ≠ (u6 : Value).ownBlock) (Kd.R_types (Kd.R_apart' (HO_198003.out) (Kd.S_typed HO_6.out) (by decide)) BK197.out (by decide)) (fun k_ hk => ⟨hk.2, hk.1.2⟩))).1 k_ hk_.symm) ?aF ?aO ?aB ?aS ?aL ?_; (case aP => exact k74_mkM _ _ _ (⟨t193, (t198 == 1), t202, x198003_4⟩ : S74) (Kd.R_mono (Kd.R_tight rfl (Kd.R_mono (ok' := fun k_ => ((fun k_ => k_ ≠ gb197)) k_ ∧ some k_ ≠ (u6 : Value).ownBlock) (Kd.R_types (Kd.R_apart' (HO_198003.out) (Kd.S_typed HO_6.out) (by decide)) BK197.out (by decide)) (fun k_ hk => ⟨hk.2, hk.1.2⟩))) (fun _ h_ => h_))); (case aB => exact (belg_ (IsS132.ge HI188.out))); (case aF => exact (fun k_ hk => Kd.freshB (g := gb197) (o := .cells #[.string t193, .bool (t198 == 1), .int .i64 t202, .slice Ao75 x198003_4.length co75] 74 (0, 0)) (bk_ BK197.out) k_ hk)); (case aO => exact (by (with_reducible repeat (first | apply Kd.S_alloc | apply Kd.S_drewN | apply Kd.S_drew)); exact Kd.S_mono HO_6.out (fun k_ hk => ⟨hk.2, fun e_ => hk.1 e_⟩))); (case aS => exact (below_size (belg_ (IsS132.ge HI188.out)))); (case aL => have := LMc71.out; omega); intro v233 w78 ho hb hg hat; rw [← Ny232.out] at ho; have n0_ := AM (blk_grown (g := gb197) (o := .cells #[.string t193, .bool (t198 == 1), .int .i64 t202, .slice Ao75 x198003_4.length co75] 74 (0, 0)) (bk_ BK197.out) hg (Kd.S_away HO_6.out (fun _ hk => hk.2))); have n1_ := AM (IsS132.grown is132_ hg (IsS132.own_neS HI188.out HO_6.out (by decide))); have n2_ := AM hb; have n3_ := AM ho; clear BK197; clear HI188; clear HB; clear HO_6; clear HO_198003; have BK197 := n0_; have HI188 := n1_; have HB := n2_; have HO234 := n3_; clear n0_ n1_ n2_ n3_; clear ho hb hg hat))
                          go_roundg k4
                          case measure => have := HK1.out; have := HJ4.out; have := HJ12.out; have := HK4.out; omega
                          case rel => exact ⟨(y232), (wrap64 (x7_1 + 1)), (x189000_4), (x189001_4), ((t207 != t231)), (by first | rfl | (simp; done) | (simp [*]; done)), H', ⟨by have := HK1.out; have := HJ4.out; have := HJ12.out; have := HK4.out; omega⟩, ⟨by (with_reducible repeat (first | apply Kd.S_alloc | apply Kd.S_drewN | apply Kd.S_drew)); exact Kd.S_mono HO234.out (fun _ hk => trivial)⟩, ⟨is132_⟩, ⟨belg_ (IsS132.ge HI188.out)⟩⟩
                        · rw [if_neg c71] at H
                          exact absurd H (by simp)
          · replace c9 := Bool.eq_false_iff.mpr c9
            subst c9
            rw [if_neg (show ¬ (false = true) by decide)] at H
            obtain ⟨t235, A79, H⟩ := OB H
            try dsimp only at H
            replace A79 := AM A79
            by_cases c80 : t189 = t235
            · rw [if_pos c80] at H
              have c80b0 : (t189 == t235) = true := beq_iff_eq.mpr c80
              have c80b1 : (t189 != t235) = false := bne_eq_false_iff_eq.mpr c80
              clear c80
              obtain ⟨⟨t236, t237, t238, t239⟩, A81, H⟩ := OB H
              try dsimp only at H
              replace A81 := AM A81
              by_cases c82 : t236 = true
              · subst c82
                rw [if_pos rfl] at H
                obtain ⟨t240, A83, H⟩ := OB H
                try dsimp only at H
                replace A83 := AM A83
                by_cases c84 : t240 = true
                · subst c84
                  rw [if_pos rfl] at H
                  simp only [Option.some.injEq, Prod.mk.injEq] at H
                  obtain ⟨rfl, rfl⟩ := H
                  obtain ⟨Ao85, co85, eo85⟩ := Kd.S_slice HO_6.out
                  subst eo85
                  go_wp2_with (first | ((with_reducible refine gate_callee (f := 102) rfl ?_); refine gl_ (some 101) Try.func102 #[.slice Ao85 x6_1.length co85] ?_; (with_reducible refine (impl_Node.calls _ _ x6_1 t235 _ ?side1 ?side2 A79.out).mono ?_); (case side1 => repeat (first | exact (Kd.S_reads' HO_6.out).2.2 | (with_reducible refine Kd.C_alloc ?_ _) | (with_reducible refine Kd.C_drewN ?_ _) | (with_reducible refine Kd.C_drew ?_))); (case side2 => exact (Kd.S_reads' HO_6.out).2.1); rintro e w' ⟨rfl, ⟨nd, rfl⟩⟩; refine ⟨_, rfl, ?_⟩) | (go_at_call 111; (with_reducible refine (impl_reader_isDone.calls gb188 x189000_1 x189001_1 x189002_1 true t237 t238 t239 w _ ?side1 ?side2 A81.out).mono ?_); (case side1 => repeat (first | (with_reducible first | exact HI188.out | apply IsS132.alloc | apply IsS132.drewN | apply IsS132.drew | apply IsS132.set_0 | apply IsS132.set_1 | apply IsS132.set_2) | exact HI188.out)); (case side2 => repeat (first | (with_reducible first | exact HB.out | apply below_alloc | apply pw_below_drewN | apply below_drew1 | refine below_set ?_ (IsS132.ge HI188.out)) | exact HB.out)); rintro e w86 ⟨rfl, hi, hb, hk⟩; replace HO_6 := AM (Kd.S_mono (Kd.S_keep (IsS132.apartS (show IsS132 w _ gb188 x189000_1 x189001_1 x189002_1 from is132_) (by (with_reducible repeat (first | apply Kd.S_alloc | apply Kd.S_drewN | apply Kd.S_drew)); exact HO_6.out) (by decide)) hk (fun _ h => h.2)) (fun _ h => h.1)); replace HB := AM hb; replace HI188 := AM hi; (try clear hb); (try clear hb2); (try clear hk); (try clear hi)) | (go_at_call 52; (with_reducible refine (impl_NodesRight.calls kj4 _ _ x6_1 true _ ?side1 ?side2 A83.out).mono ?_); (case side1 => repeat (first | exact (Kd.S_reads' HO_6.out).2.2 | (with_reducible refine Kd.C_alloc ?_ _) | (with_reducible refine Kd.C_drewN ?_ _) | (with_reducible refine Kd.C_drew ?_))); (case side2 => exact (Kd.S_reads' HO_6.out).2.1); rintro e w87 ⟨rfl, hb⟩; replace HO_6 := AM (Kd.S_below (by (with_reducible repeat (first | apply Kd.S_alloc | apply Kd.S_drewN | apply Kd.S_drew)); exact HO_6.out) hb); replace HB := AM (below_step (belg_ (IsS132.ge HI188.out)) hb); replace HI188 := AM (IsS132.below is132_ hb); (try clear hb); (try clear hb2); (try clear hk); (try clear hi)))
                  go_ret2
                  exact ⟨_, ri_, by (with_reducible repeat (first | apply Kd.S_alloc | apply Kd.S_drewN | apply Kd.S_drew)); exact HO_6.out, belg_ (IsS132.ge HI188.out)⟩
                · replace c84 := Bool.eq_false_iff.mpr c84
                  subst c84
                  rw [if_neg (show ¬ (false = true) by decide)] at H
                  simp only [Option.some.injEq, Prod.mk.injEq] at H
                  obtain ⟨rfl, rfl⟩ := H
                  obtain ⟨Ao88, co88, eo88⟩ := Kd.S_slice HO_6.out
                  subst eo88
                  go_wp2_with (first | ((with_reducible refine gate_callee (f := 102) rfl ?_); refine gl_ (some 101) Try.func102 #[.slice Ao88 x6_1.length co88] ?_; (with_reducible refine (impl_Node.calls _ _ x6_1 t235 _ ?side1 ?side2 A79.out).mono ?_); (case side1 => repeat (first | exact (Kd.S_reads' HO_6.out).2.2 | (with_reducible refine Kd.C_alloc ?_ _) | (with_reducible refine Kd.C_drewN ?_ _) | (with_reducible refine Kd.C_drew ?_))); (case side2 => exact (Kd.S_reads' HO_6.out).2.1); rintro e w' ⟨rfl, ⟨nd, rfl⟩⟩; refine ⟨_, rfl, ?_⟩) | (go_at_call 111; (with_reducible refine (impl_reader_isDone.calls gb188 x189000_1 x189001_1 x189002_1 true t237 t238 t239 w _ ?side1 ?side2 A81.out).mono ?_); (case side1 => repeat (first | (with_reducible first | exact HI188.out | apply IsS132.alloc | apply IsS132.drewN | apply IsS132.drew | apply IsS132.set_0 | apply IsS132.set_1 | apply IsS132.set_2) | exact HI188.out)); (case side2 => repeat (first | (with_reducible first | exact HB.out | apply below_alloc | apply pw_below_drewN | apply below_drew1 | refine below_set ?_ (IsS132.ge HI188.out)) | exact HB.out)); rintro e w89 ⟨rfl, hi, hb, hk⟩; replace HO_6 := AM (Kd.S_mono (Kd.S_keep (IsS132.apartS (show IsS132 w _ gb188 x189000_1 x189001_1 x189002_1 from is132_) (by (with_reducible repeat (first | apply Kd.S_alloc | apply Kd.S_drewN | apply Kd.S_drew)); exact HO_6.out) (by decide)) hk (fun _ h => h.2)) (fun _ h => h.1)); replace HB := AM hb; replace HI188 := AM hi; (try clear hb); (try clear hb2); (try clear hk); (try clear hi)) | (go_at_call 52; (with_reducible refine (impl_NodesRight.calls kj4 _ _ x6_1 false _ ?side1 ?side2 A83.out).mono ?_); (case side1 => repeat (first | exact (Kd.S_reads' HO_6.out).2.2 | (with_reducible refine Kd.C_alloc ?_ _) | (with_reducible refine Kd.C_drewN ?_ _) | (with_reducible refine Kd.C_drew ?_))); (case side2 => exact (Kd.S_reads' HO_6.out).2.1); rintro e w90 ⟨rfl, hb⟩; replace HO_6 := AM (Kd.S_below (by (with_reducible repeat (first | apply Kd.S_alloc | apply Kd.S_drewN | apply Kd.S_drew)); exact HO_6.out) hb); replace HB := AM (below_step (belg_ (IsS132.ge HI188.out)) hb); replace HI188 := AM (IsS132.below is132_ hb); (try clear hb); (try clear hb2); (try clear hk); (try clear hi)))
                  go_ret2
                  exact ⟨_, ri_, by first | exact Kd.S_nil _ _ _ _ _ | exact Kd.N_nil _ _ _ _ _ | exact Kd.V_nil _ _ _ _ _ | exact Kd.Q_nil _ _ _ _ _ | exact Kd.R_nil _ _ _ _ _, belg_ (IsS132.ge HI188.out)⟩
              · replace c82 := Bool.eq_false_iff.mpr c82
                subst c82
                rw [if_neg (show ¬ (false = true) by decide)] at H
                simp only [Option.some.injEq, Prod.mk.injEq] at H
                obtain ⟨rfl, rfl⟩ := H
                obtain ⟨Ao91, co91, eo91⟩ := Kd.S_slice HO_6.out
                subst eo91
                go_wp2_with (first | ((with_reducible refine gate_callee (f := 102) rfl ?_); refine gl_ (some 101) Try.func102 #[.slice Ao91 x6_1.length co91] ?_; (with_reducible refine (impl_Node.calls _ _ x6_1 t235 _ ?side1 ?side2 A79.out).mono ?_); (case side1 => repeat (first | exact (Kd.S_reads' HO_6.out).2.2 | (with_reducible refine Kd.C_alloc ?_ _) | (with_reducible refine Kd.C_drewN ?_ _) | (with_reducible refine Kd.C_drew ?_))); (case side2 => exact (Kd.S_reads' HO_6.out).2.1); rintro e w' ⟨rfl, ⟨nd, rfl⟩⟩; refine ⟨_, rfl, ?_⟩) | (go_at_call 111; (with_reducible refine (impl_reader_isDone.calls gb188 x189000_1 x189001_1 x189002_1 false t237 t238 t239 w _ ?side1 ?side2 A81.out).mono ?_); (case side1 => repeat (first | (with_reducible first | exact HI188.out | apply IsS132.alloc | apply IsS132.drewN | apply IsS132.drew | apply IsS132.set_0 | apply IsS132.set_1 | apply IsS132.set_2) | exact HI188.out)); (case side2 => repeat (first | (with_reducible first | exact HB.out | apply below_alloc | apply pw_below_drewN | apply below_drew1 | refine below_set ?_ (IsS132.ge HI188.out)) | exact HB.out)); rintro e w92 ⟨rfl, hi, hb, hk⟩; replace HO_6 := AM (Kd.S_mono (Kd.S_keep (IsS132.apartS (show IsS132 w _ gb188 x189000_1 x189001_1 x189002_1 from is132_) (by (with_reducible repeat (first | apply Kd.S_alloc | apply Kd.S_drewN | apply Kd.S_drew)); exact HO_6.out) (by decide)) hk (fun _ h => h.2)) (fun _ h => h.1)); replace HB := AM hb; replace HI188 := AM hi; (try clear hb); (try clear hb2); (try clear hk); (try clear hi)))
                go_ret2
                exact ⟨_, ri_, by first | exact Kd.S_nil _ _ _ _ _ | exact Kd.N_nil _ _ _ _ _ | exact Kd.V_nil _ _ _ _ _ | exact Kd.Q_nil _ _ _ _ _ | exact Kd.R_nil _ _ _ _ _, belg_ (IsS132.ge HI188.out)⟩
            · rw [if_neg c80] at H
              have c80b0 : (t189 == t235) = false := beq_eq_false_iff_ne.mpr c80
              have c80b1 : (t189 != t235) = true := bne_iff_ne.mpr c80
              simp only [Option.some.injEq, Prod.mk.injEq] at H
              obtain ⟨rfl, rfl⟩ := H
              obtain ⟨Ao93, co93, eo93⟩ := Kd.S_slice HO_6.out
              subst eo93
              go_wp2_with (first | ((with_reducible refine gate_callee (f := 102) rfl ?_); refine gl_ (some 101) Try.func102 #[.slice Ao93 x6_1.length co93] ?_; (with_reducible refine (impl_Node.calls _ _ x6_1 t235 _ ?side1 ?side2 A79.out).mono ?_); (case side1 => repeat (first | exact (Kd.S_reads' HO_6.out).2.2 | (with_reducible refine Kd.C_alloc ?_ _) | (with_reducible refine Kd.C_drewN ?_ _) | (with_reducible refine Kd.C_drew ?_))); (case side2 => exact (Kd.S_reads' HO_6.out).2.1); rintro e w' ⟨rfl, ⟨nd, rfl⟩⟩; refine ⟨_, rfl, ?_⟩))
              go_ret2
              exact ⟨_, ri_, by first | exact Kd.S_nil _ _ _ _ _ | exact Kd.N_nil _ _ _ _ _ | exact Kd.V_nil _ _ _ _ _ | exact Kd.Q_nil _ _ _ _ _ | exact Kd.R_nil _ _ _ _ _, belg_ (IsS132.ge HI188.out)⟩

end Go.Proofs.Ytggbpjfgfenpdaa.PFnExactNodesRead
