/- Functions of the law FnExactArrayRight: the print's, with walks of this session's own. No statement is proved here. -/
import Derived.WalkLawsBesides
import Derived.Test.YteljfdhjbnlgoaaReg
-- A program of this session wrote this text: a changed copy of the kit print, with given functions.
import Derived.Test.YteljfdhjbnlgoaaPFnExactArrayRightx0
import Derived.Test.YteljfdhjbnlgoaaPFnExactArrayRightx3
import Derived.Test.YteljfdhjbnlgoaaPFnExactArrayRightx5
namespace Go.Proofs.Yteljfdhjbnlgoaa.PFnExactArrayRight
open Go.RowKit Go.Proofs.YteljfdhjbnlgoaaW.PrintWords Go.Proofs.YteljfdhjbnlgoaaW.PrintLast Go.Proofs.YteljfdhjbnlgoaaW.PrintMore Go.Proofs.Yteljfdhjbnlgoaa.Reg
attribute [local go_sem] max2_int min2_int max_two min_two max_three min_three max_four min_four   -- for this text's walks alone
set_option linter.unusedVariables false
set_option linter.unusedSimpArgs false

/-! ### impl_CodeRight: function 125 -/
def impl_CodeRight.f (a0 : Int) (a1 : Int) : Option (Bool) := (impl_within.f a0 1 8).bind fun t174 => (if t174 = true then ((impl_within.f a1 0 6).bind fun t175 => (some t175)) else (some false))
set_option maxHeartbeats 8000000 in
set_option maxRecDepth 100000 in
theorem impl_CodeRight.calls (a0 : Int) (a1 : Int) (r : Bool) (w : World) (h : impl_CodeRight.f a0 a1 = some r) :
    Calls Try.prog 125 #[.int .i64 a0, .int .i64 a1] w fun e w' => e = .returned (.bool r) ∧ Drawn0 w w' := by
  have H : ((impl_within.f a0 1 8).bind fun t174 => (if t174 = true then ((impl_within.f a1 0 6).bind fun t175 => (some t175)) else (some false))) = some r := h
  clear h
  replace H := Option.bind_eq_some_iff.mp H
  obtain ⟨t174, A30, H⟩ := H
  replace H : (if t174 = true then ((impl_within.f a1 0 6).bind fun t175 => (some t175)) else (some false)) = some r := H
  have A3 := Aside0.mk A30
  clear A30
  by_cases c4 : t174 = true
  · subst c4
    have H1 : ((impl_within.f a1 0 6).bind fun t175 => (some t175)) = some r := by rw [if_pos rfl] at H; exact H
    clear H
    have H := H1
    clear H1
    replace H := Option.bind_eq_some_iff.mp H
    obtain ⟨t175, A50, H⟩ := H
    replace H : (some t175) = some r := H
    have A5 := Aside0.mk A50
    clear A50
    obtain rfl := Option.some.inj H
    go_enter Try.func125, Try.ntmps125
    go_wp2_with (first | ((with_reducible refine gate_callee (f := 143) rfl ?_); refine goesL_ (some 6) rfl rfl Try.func143 (by kernel_rfl) rfl #[.int .i64 a0, .int .i64 1, .int .i64 8] rfl (by (try simp only [List.map_toArray, List.map_cons, List.map_nil]); first | done | rfl | (simp only [List.length_drop, List.length_take]; rfl)) ?_; (with_reducible refine (impl_within.calls a0 1 8 true _ A3.out).mono ?_); rintro e w' ⟨rfl, ⟨nd, rfl⟩⟩; refine ⟨_, rfl, ?_⟩) | (go_at_call 143; (with_reducible refine (impl_within.calls a1 0 6 t175 _ A5.out).mono ?_); rintro e w' ⟨rfl, ⟨nd, rfl⟩⟩))
    go_ret
    exact ⟨by first | rfl | (simp; done) | (simp [*]; done), by repeat (first | exact Drawn0.refl _ | apply Drawn0.step)⟩
  · replace c4 := Bool.eq_false_iff.mpr c4
    subst c4
    have H1 : (some false) = some r := by rw [if_neg (show ¬ (false = true) by decide)] at H; exact H
    clear H
    have H := H1
    clear H1
    obtain rfl := Option.some.inj H
    go_enter Try.func125, Try.ntmps125
    go_wp2_with (first | ((with_reducible refine gate_callee (f := 143) rfl ?_); refine goesL_ (some 6) rfl rfl Try.func143 (by kernel_rfl) rfl #[.int .i64 a0, .int .i64 1, .int .i64 8] rfl (by (try simp only [List.map_toArray, List.map_cons, List.map_nil]); first | done | rfl | (simp only [List.length_drop, List.length_take]; rfl)) ?_; (with_reducible refine (impl_within.calls a0 1 8 false _ A3.out).mono ?_); rintro e w' ⟨rfl, ⟨nd, rfl⟩⟩; refine ⟨_, rfl, ?_⟩))
    go_ret
    exact ⟨by first | rfl | (simp; done) | (simp [*]; done), by repeat (first | exact Drawn0.refl _ | apply Drawn0.step)⟩

/-! ### impl_Drive_126: function 126 -/
def impl_Drive_126.f (l0 : List (S68)) : Option (Int) := some (l0.length : Int)
set_option maxHeartbeats 8000000 in
set_option maxRecDepth 100000 in
theorem impl_Drive_126.calls (A0 : Option Addr) (c0 : Nat) (l0 : List (S68)) (r : Int) (w : World) (hr0 : Kd.C k68 w A0 l0.length l0) (hc0 : l0.length ≤ c0) (h : impl_Drive_126.f l0 = some r) :
    Calls Try.prog 126 #[.slice A0 l0.length c0] w fun e w' => e = .returned (.int .i64 r) ∧ Drawn0 w w' := by
  have HR0 := Aside0.mk hr0
  have HC0 := Aside0.mk hc0
  clear hr0 hc0
  have H : (some (l0.length : Int)) = some r := h
  clear h
  obtain rfl := Option.some.inj H
  go_enter Try.func126, Try.ntmps126
  go_wp2
  go_ret
  exact ⟨by first | rfl | (simp; done) | (simp [*]; done), by repeat (first | exact Drawn0.refl _ | apply Drawn0.step)⟩

-- NOT PRINTED: function 169 (impl_Drive_169)

-- NOT PRINTED: function 127 (impl_Drive_127)

/-! ### impl_ArrayRight: function 62 -/
def impl_ArrayRight.k0 : Nat → List (S68) → Int → Option (Int)
  | 0, _, _ => none
  | k + 1, l, x => if x < (l.length : Int) then (if 0 ≤ x then ((impl_DriveRight.f k (rd_T68 l x).f0 (rd_T68 l x).f1).bind fun b => (if b = true then (impl_ArrayRight.k0 k l (wrap64 (x + 1))) else (some x))) else (none)) else (some (-1))
def impl_ArrayRight.keys (k : Nat) (l : List (S68)) : Option (Bool) := (impl_ArrayRight.k0 k l 0).bind fun i => some (decide (0 ≤ i))
def impl_ArrayRight.f (k : Nat) (a0_0 : Int) (a0_1 : Int) (l0_2 : List (S68)) : Option (Bool) := (impl_CodeRight.f a0_0 a0_1).bind fun c => ((impl_ArrayRight.keys k l0_2).bind fun h => (some ((c && decide ((l0_2.length : Int) = wrap64 (a0_0 + a0_1))) && !h)))
theorem impl_ArrayRight.mono_l : ∀ k, (∀ y0 y1, LeO (impl_ArrayRight.k0 k y0 y1) (impl_ArrayRight.k0 (k + 1) y0 y1))
  | 0 => fun _ _ r h => by simp [impl_ArrayRight.k0] at h
  | k + 1 => by
    have ih0 := impl_ArrayRight.mono_l k
    · intro y0 y1
      unfold impl_ArrayRight.k0
      repeat' first
      | (with_reducible exact ih0 _ _)
      | (with_reducible exact impl_DriveRight.mono _ _ _)
      | (with_reducible exact LeO.refl _)
      | (with_reducible refine LeO.ite ?_ ?_)
      | (with_reducible refine LeO.bind ?_ (fun _ => ?_))
theorem impl_ArrayRight.mono : ∀ a0 a1 a2 k, LeO (impl_ArrayRight.f k a0 a1 a2) (impl_ArrayRight.f (k + 1) a0 a1 a2) := by
  intro a0 a1 a2 k
  unfold impl_ArrayRight.f impl_ArrayRight.keys
  exact LeO.bind (LeO.refl _) (fun _ => LeO.bind (LeO.bind (impl_ArrayRight.mono_l k _ _) (fun _ => LeO.refl _)) (fun _ => LeO.refl _))
set_option maxHeartbeats 4000000 in
set_option maxRecDepth 100000 in
theorem impl_ArrayRight.pred (k : Nat) (A0 : Option Addr) (c0 : Nat) (l : List (S127)) (a : Int) (b : Bool) (w : World) (hr : Kd.C k127 w A0 l.length l) (hc : l.length ≤ c0) (h : impl_DriveRight.f k l a = some b) :
    Calls Try.prog 128 #[.agg #[.slice A0 l.length c0, .int .i64 a]] w fun e w' => e = .returned (.bool (!b)) ∧ Below w.heap.size w w' := by
  have hu := Try.underlying68
  have hg := ((Below.refl w.heap.size w).alloc (Nat.le_refl _) (Obj.cells #[.slice A0 l.length c0, .int .i64 a] 68))
  have HR := Aside0.mk (Kd.C_below hr hg)
  have HC := Aside0.mk hc
  have HH := Aside0.mk h
  have HG := Aside0.mk hg
  clear hg hr hc h
  go_enter Try.func128, Try.ntmps128
  go_wp2_with (go_at_call 113; refine (impl_DriveRight.calls k A0 c0 l a b _ HR.out HC.out HH.out).mono ?_; rintro e w2 ⟨rfl, hb⟩; have HB := Aside0.mk (below_grow HG.out hb); clear hb)
  go_ret
  exact ⟨rfl, HB.out⟩
set_option maxHeartbeats 4000000 in
set_option maxRecDepth 100000 in
theorem impl_ArrayRight.idx (k : Nat) (A0 : Option Addr) (c0 : Nat) (l0 : List (S68)) (r : Int) (w : World) (hr0 : Kd.C k68 w A0 l0.length l0) (hc0 : l0.length ≤ c0) (h : impl_ArrayRight.k0 k l0 0 = some r) :
    Calls Try.prog 169 #[.slice A0 l0.length c0, .func (.func 128) #[] #[]] w fun e w' => e = .returned (.int .i64 r) ∧ Below w.heap.size w w' := by
  have hu := Try.underlying68
  have HR0 := Aside0.mk hr0
  have HC0 := Aside0.mk hc0
  clear hr0 hc0
  have HB := Aside0.mk (Below.refl w.heap.size w)
  have H' := Aside0.mk h
  clear h
  go_enter Try.func169, Try.ntmps169
  go_wp2
  go_loopg [8] k (fun kq v8 w' => ∃ (x : Int), v8 = .int .i64 x ∧ Aside0 (impl_ArrayRight.k0 kq l0 x = some r) ∧ Aside0 (kq ≤ k) ∧ Aside0 (Below w.heap.size w w'))
  case atStart => exact ⟨0, rfl, H', ⟨Nat.le_refl _⟩, HB⟩
  case round =>
    clear H'
    obtain ⟨x, rfl, HA, HK1, HB⟩ := hrel
    cases gk with
    | zero => exact absurd HA.out (by simp [impl_ArrayRight.k0])
    | succ k1 =>
      have H := HA.out
      clear HA
      simp only [impl_ArrayRight.k0] at H
      by_cases c3 : x < (l0.length : Int)
      · rw [if_pos c3] at H
        by_cases c4 : 0 ≤ x
        · rw [if_pos c4] at H
          obtain ⟨b, hb, H⟩ := Option.bind_eq_some_iff.mp H
          have H' := Aside0.mk H
          have HBB := Aside0.mk hb
          clear H hb
          obtain ⟨ad, A1, c1, rfl, hx0, hx1, hl1, hk1⟩ := at_T68 HR0.out x c4 c3
          replace hx0 := Reg.cellG HB.out (Reg.grow_refl _) hx0
          replace hx1 := Reg.cellG HB.out (Reg.grow_refl _) hx1
          have HL1 := Aside0.mk hl1
          have HK := Aside0.mk (Kd.C_below hk1 HB.out)
          have c3b0 : decide (x < (l0.length : Int)) = true := decide_eq_true c3
          have c3b1 := eq_true c3
          have c4b0 := eq_true c4
          clear c3 c4 hl1 hk1
          cases b with
          | true =>
            have H := H'.out
            rw [if_pos rfl] at H
            have H1 := Aside0.mk H
            clear H H'
            go_wp2_with (go_at_call 128; refine (impl_ArrayRight.pred k1 A1 c1 _ _ true _ HK.out HL1.out HBB.out).mono ?_; rintro e w2 ⟨rfl, hb⟩; replace HB := Aside0.mk (Reg.below_grow HB.out hb); clear hb hx0 hx1)
            go_roundg k1
            case measure => have := HK1.out; omega
            case rel => exact ⟨(wrap64 (x + 1)), (by first | rfl | (simp; done) | (simp [*]; done)), H1, ⟨by have := HK1.out; omega⟩, HB⟩
          | false =>
            have H := H'.out
            rw [if_neg (by simp)] at H
            obtain rfl := Option.some.inj H
            clear H H'
            go_wp2_with (go_at_call 128; refine (impl_ArrayRight.pred k1 A1 c1 _ _ false _ HK.out HL1.out HBB.out).mono ?_; rintro e w2 ⟨rfl, hb⟩; replace HB := Aside0.mk (Reg.below_grow HB.out hb); clear hb hx0 hx1)
            go_ret
            exact ⟨rfl, HB.out⟩
        · rw [if_neg c4] at H
          exact absurd H (by simp)
      · rw [if_neg c3] at H
        have c3b0 : decide (x < (l0.length : Int)) = false := decide_eq_false c3
        clear c3
        obtain rfl := Option.some.inj H
        go_wp2
        go_ret
        exact ⟨rfl, HB.out⟩
set_option maxHeartbeats 4000000 in
set_option maxRecDepth 100000 in
theorem impl_ArrayRight.has (k : Nat) (A0 : Option Addr) (c0 : Nat) (l0 : List (S68)) (r : Bool) (w : World) (hr0 : Kd.C k68 w A0 l0.length l0) (hc0 : l0.length ≤ c0) (h : impl_ArrayRight.keys k l0 = some r) :
    Calls Try.prog 127 #[.slice A0 l0.length c0, .func (.func 128) #[] #[]] w fun e w' => e = .returned (.bool r) ∧ Below w.heap.size w w' := by
  obtain ⟨i, hi, h⟩ := Option.bind_eq_some_iff.mp h
  obtain rfl := Option.some.inj h
  have HI := Aside0.mk hi
  have HR := Aside0.mk hr0
  have HC := Aside0.mk hc0
  clear h hi hr0 hc0
  go_enter Try.func127, Try.ntmps127
  go_wp2_with (go_at_call 169; refine (impl_ArrayRight.idx k A0 c0 l0 i _ HR.out HC.out HI.out).mono ?_; rintro e w2 ⟨rfl, hb⟩; have HB := Aside0.mk hb; clear hb)
  go_ret
  exact ⟨rfl, HB.out⟩
set_option maxHeartbeats 4000000 in
set_option maxRecDepth 100000 in
theorem impl_ArrayRight.calls (k : Nat) (a0_0 : Int) (a0_1 : Int) (A0_2 : Option Addr) (c0_2 : Nat) (l0_2 : List (S68)) (r : Bool) (w : World) (hr0_2 : Kd.C k68 w A0_2 l0_2.length l0_2) (hc0_2 : l0_2.length ≤ c0_2) (h : impl_ArrayRight.f k a0_0 a0_1 l0_2 = some r) :
    Calls Try.prog 62 #[.agg #[.int .i64 a0_0, .int .i64 a0_1, .slice A0_2 l0_2.length c0_2]] w fun e w' => e = .returned (.bool r) ∧ Below w.heap.size w w' := by
  have hu := Try.underlying92
  obtain ⟨c, hc, h⟩ := Option.bind_eq_some_iff.mp h
  obtain ⟨q, hq, h⟩ := Option.bind_eq_some_iff.mp h
  obtain rfl := Option.some.inj h
  obtain ⟨y, hy⟩ : ∃ y, wrap64 (a0_0 + a0_1) = y := ⟨_, rfl⟩
  rw [hy]
  have hyw : IntKind.i64.wrap (a0_0 + a0_1) = y := (i64_w _).trans hy
  have hg := ((Below.refl w.heap.size w).alloc (Nat.le_refl _) (Obj.cells #[.int .i64 a0_0, .int .i64 a0_1, .slice A0_2 l0_2.length c0_2] 92))
  have HR := Aside0.mk (Kd.C_below hr0_2 hg)
  have HC := Aside0.mk hc0_2
  have HB := Aside0.mk hg
  have Hc := Aside0.mk hc
  have Hq := Aside0.mk hq
  clear hg hr0_2 hc0_2 hc hq h hy
  go_enter Try.func62, Try.ntmps62
  go_wp2
  have hs0 : (w.alloc (Obj.cells #[.int .i64 a0_0, .int .i64 a0_1, .slice A0_2 l0_2.length c0_2] 92)).cell? ⟨w.heap.size, 0, none⟩ = some (.int .i64 a0_0) := by simp
  have hs1 : (w.alloc (Obj.cells #[.int .i64 a0_0, .int .i64 a0_1, .slice A0_2 l0_2.length c0_2] 92)).cell? ⟨w.heap.size, 1, none⟩ = some (.int .i64 a0_1) := by simp
  have hs2 : (w.alloc (Obj.cells #[.int .i64 a0_0, .int .i64 a0_1, .slice A0_2 l0_2.length c0_2] 92)).cell? ⟨w.heap.size, 2, none⟩ = some (.slice A0_2 l0_2.length c0_2) := by simp
  revert hs0 hs1 hs2
  generalize hq1 : World.alloc w _ = w2 at HB HR ⊢
  intro hs0 hs1 hs2
  clear hq1
  revert hs0 hs1 hs2
  generalize hg1 : w.heap.size = g
  intro hs0 hs1 hs2
  clear hg1
  obtain ⟨e17, he17⟩ : ∃ e_ : Bool, ((l0_2.length : Int) = y) = (e_ = true) := ⟨decide ((l0_2.length : Int) = y), by simp⟩
  have he17b : ((l0_2.length : Int) == y) = e17 := by rw [Bool.eq_iff_iff, ← he17]; simp
  have he17m : ((l0_2.length : Int) != y) = !e17 := by simp only [bne, he17b]
  refine wp_reg1 [[], [0], [], [2], [1, 3], [4], [5], [5, 6], [5, 7], [5], [5, 9], [5], [5, 11], [5, 10, 12], [5, 8, 13], [5, 14], [15], [16], [16, 17], [16, 18], [16, 19], [16, 20], [21]]
    (isVal [.pointer (some ⟨g, 0, none⟩),
      .int .i64 a0_0,
      .pointer (some ⟨g, 1, none⟩),
      .int .i64 a0_1,
      .bool c,
      .bool c,
      if c then .pointer (some ⟨g, 2, none⟩) else undef,
      if c then .slice A0_2 l0_2.length c0_2 else undef,
      if c then .int .i64 (l0_2.length : Int) else undef,
      if c then .pointer (some ⟨g, 0, none⟩) else undef,
      if c then .int .i64 a0_0 else undef,
      if c then .pointer (some ⟨g, 1, none⟩) else undef,
      if c then .int .i64 a0_1 else undef,
      if c then .int .i64 y else undef,
      if c then .bool e17 else undef,
      .bool (c && e17),
      .bool (c && e17),
      if c && e17 then .pointer (some ⟨g, 2, none⟩) else undef,
      if c && e17 then .slice A0_2 l0_2.length c0_2 else undef,
      if c && e17 then .bool q else undef,
      if c && e17 then .bool (!q) else undef,
      .bool ((c && e17) && !q),
      .bool ((c && e17) && !q)]) ?B1 ?d1 (by kernel_rfl) (by kernel_rfl) (by kernel_rfl) (by kernel_rfl) (fun us => ?hA1) (isVal_grow _) ?hS1 ?hE1
  case hA1 =>
    simp only [regPut, Act.put, List.setIfInBounds_toArray, List.set_cons_zero, List.set_cons_succ, Nat.reduceAdd, Nat.zero_add]
    rfl
  case hS1 =>
    refine ⟨?_, ?_, ?_, ?_, ?_, ?_, ?_, ?_, ?_, ?_, ?_, ?_, ?_, ?_, ?_, ?_, ?_, ?_, ?_, ?_, ?_, ?_, ?_, trivial⟩
    all_goals (intro us w' hg hd K hK; simp only [AllR, isVal, List.getD_cons_zero, List.getD_cons_succ] at hd)
    all_goals (have g1_ := True.intro; have g2_ := True.intro; have g3_ := True.intro; try (obtain ⟨g1_, hd⟩ := hd); try (obtain ⟨g2_, hd⟩ := hd); try (obtain ⟨g3_, hd⟩ := hd))
    all_goals (replace hs0 := cellG (grow_refl _) hg hs0; replace hs1 := cellG (grow_refl _) hg hs1; replace hs2 := cellG (grow_refl _) hg hs2)
    · all_goals (repeat' (first
          | (refine reg_val hK ?_ ?_ (grow_refl _) rfl
             · first | rfl | (simp [wantedG, asB, undef, g1_, g2_, g3_]; done)
             · skip
               go_simp
               done)
          | cases c | cases q | cases e17))
    · all_goals (repeat' (first
          | (refine reg_val hK ?_ ?_ (grow_refl _) rfl
             · first | rfl | (simp [wantedG, asB, undef, g1_, g2_, g3_]; done)
             · skip
               go_simp
               done)
          | cases c | cases q | cases e17))
    · all_goals (repeat' (first
          | (refine reg_val hK ?_ ?_ (grow_refl _) rfl
             · first | rfl | (simp [wantedG, asB, undef, g1_, g2_, g3_]; done)
             · skip
               go_simp
               done)
          | cases c | cases q | cases e17))
    · all_goals (repeat' (first
          | (refine reg_val hK ?_ ?_ (grow_refl _) rfl
             · first | rfl | (simp [wantedG, asB, undef, g1_, g2_, g3_]; done)
             · skip
               go_simp
               done)
          | cases c | cases q | cases e17))
    · all_goals (repeat' (first
          | (refine reg_call hK ?_ rfl Try.func125 (by kernel_rfl) rfl #[.int .i64 a0_0, .int .i64 a0_1] ?_ ((impl_CodeRight.calls _ _ _ _ Hc.out).mono ?_)
             · first | rfl | (simp [wantedG, asB, undef, g1_, g2_, g3_]; done)
             · simp [Act.eval, g1_, g2_, g3_]
             · rintro e_ w'' ⟨rfl, hb_⟩
               exact ⟨_, rfl, (by first | exact hb_ | exact hb_.below), rfl⟩)
          | cases c | cases q | cases e17))
    · all_goals (repeat' (first
          | (refine reg_val hK ?_ ?_ (grow_refl _) rfl
             · first | rfl | (simp [wantedG, asB, undef, g1_, g2_, g3_]; done)
             · skip
               go_simp
               done)
          | cases c | cases q | cases e17))
    · rcases Bool.eq_false_or_eq_true (c : Bool) with hG_ | hG_
      rotate_left
      · exact reg_skip hK (by rw [(wanted_t rfl g1_).trans (show _ = (c : Bool) by first | rfl | (simp; done)), hG_]; decide) (by show undef = ite _ _ _; rw [hG_]; rfl)
      all_goals (cases c <;> first | (exfalso; simp at hG_; done) | skip)
      all_goals (repeat' (first
          | (refine reg_skip hK ?_ rfl; (simp [wantedG, asB, undef, g1_, g2_, g3_]; done))
          | (refine reg_val hK ?_ ?_ (grow_refl _) rfl
             · first | rfl | (simp [wantedG, asB, undef, g1_, g2_, g3_]; done)
             · skip
               go_simp
               done)
          | cases q | cases e17))
    · rcases Bool.eq_false_or_eq_true (c : Bool) with hG_ | hG_
      rotate_left
      · exact reg_skip hK (by rw [(wanted_t rfl g1_).trans (show _ = (c : Bool) by first | rfl | (simp; done)), hG_]; decide) (by show undef = ite _ _ _; rw [hG_]; rfl)
      all_goals (cases c <;> first | (exfalso; simp at hG_; done) | skip)
      all_goals (repeat' (first
          | (refine reg_skip hK ?_ rfl; (simp [wantedG, asB, undef, g1_, g2_, g3_]; done))
          | (refine reg_val hK ?_ ?_ (grow_refl _) rfl
             · first | rfl | (simp [wantedG, asB, undef, g1_, g2_, g3_]; done)
             · skip
               go_simp
               done)
          | cases q | cases e17))
    · rcases Bool.eq_false_or_eq_true (c : Bool) with hG_ | hG_
      rotate_left
      · exact reg_skip hK (by rw [(wanted_t rfl g1_).trans (show _ = (c : Bool) by first | rfl | (simp; done)), hG_]; decide) (by show undef = ite _ _ _; rw [hG_]; rfl)
      all_goals (cases c <;> first | (exfalso; simp at hG_; done) | skip)
      all_goals (repeat' (first
          | (refine reg_skip hK ?_ rfl; (simp [wantedG, asB, undef, g1_, g2_, g3_]; done))
          | (refine reg_call hK ?_ rfl Try.func126 (by kernel_rfl) rfl #[.slice A0_2 l0_2.length c0_2] ?_ ((impl_Drive_126.calls _ _ _ _ _ (Kd.C_below HR.out hg) HC.out rfl).mono ?_)
             · first | rfl | (simp [wantedG, asB, undef, g1_, g2_, g3_]; done)
             · simp [Act.eval, g1_, g2_, g3_]
             · rintro e_ w'' ⟨rfl, hb_⟩
               exact ⟨_, rfl, (by first | exact hb_ | exact hb_.below), rfl⟩)
          | cases q | cases e17))
    · rcases Bool.eq_false_or_eq_true (c : Bool) with hG_ | hG_
      rotate_left
      · exact reg_skip hK (by rw [(wanted_t rfl g1_).trans (show _ = (c : Bool) by first | rfl | (simp; done)), hG_]; decide) (by show undef = ite _ _ _; rw [hG_]; rfl)
      all_goals (cases c <;> first | (exfalso; simp at hG_; done) | skip)
      all_goals (repeat' (first
          | (refine reg_skip hK ?_ rfl; (simp [wantedG, asB, undef, g1_, g2_, g3_]; done))
          | (refine reg_val hK ?_ ?_ (grow_refl _) rfl
             · first | rfl | (simp [wantedG, asB, undef, g1_, g2_, g3_]; done)
             · skip
               go_simp
               done)
          | cases q | cases e17))
    · rcases Bool.eq_false_or_eq_true (c : Bool) with hG_ | hG_
      rotate_left
      · exact reg_skip hK (by rw [(wanted_t rfl g1_).trans (show _ = (c : Bool) by first | rfl | (simp; done)), hG_]; decide) (by show undef = ite _ _ _; rw [hG_]; rfl)
      all_goals (cases c <;> first | (exfalso; simp at hG_; done) | skip)
      all_goals (repeat' (first
          | (refine reg_skip hK ?_ rfl; (simp [wantedG, asB, undef, g1_, g2_, g3_]; done))
          | (refine reg_val hK ?_ ?_ (grow_refl _) rfl
             · first | rfl | (simp [wantedG, asB, undef, g1_, g2_, g3_]; done)
             · skip
               go_simp
               done)
          | cases q | cases e17))
    · rcases Bool.eq_false_or_eq_true (c : Bool) with hG_ | hG_
      rotate_left
      · exact reg_skip hK (by rw [(wanted_t rfl g1_).trans (show _ = (c : Bool) by first | rfl | (simp; done)), hG_]; decide) (by show undef = ite _ _ _; rw [hG_]; rfl)
      all_goals (cases c <;> first | (exfalso; simp at hG_; done) | skip)
      all_goals (repeat' (first
          | (refine reg_skip hK ?_ rfl; (simp [wantedG, asB, undef, g1_, g2_, g3_]; done))
          | (refine reg_val hK ?_ ?_ (grow_refl _) rfl
             · first | rfl | (simp [wantedG, asB, undef, g1_, g2_, g3_]; done)
             · skip
               go_simp
               done)
          | cases q | cases e17))
    · rcases Bool.eq_false_or_eq_true (c : Bool) with hG_ | hG_
      rotate_left
      · exact reg_skip hK (by rw [(wanted_t rfl g1_).trans (show _ = (c : Bool) by first | rfl | (simp; done)), hG_]; decide) (by show undef = ite _ _ _; rw [hG_]; rfl)
      all_goals (cases c <;> first | (exfalso; simp at hG_; done) | skip)
      all_goals (repeat' (first
          | (refine reg_skip hK ?_ rfl; (simp [wantedG, asB, undef, g1_, g2_, g3_]; done))
          | (refine reg_val hK ?_ ?_ (grow_refl _) rfl
             · first | rfl | (simp [wantedG, asB, undef, g1_, g2_, g3_]; done)
             · skip
               go_simp
               done)
          | cases q | cases e17))
    · rcases Bool.eq_false_or_eq_true (c : Bool) with hG_ | hG_
      rotate_left
      · exact reg_skip hK (by rw [(wanted_t rfl g1_).trans (show _ = (c : Bool) by first | rfl | (simp; done)), hG_]; decide) (by show undef = ite _ _ _; rw [hG_]; rfl)
      all_goals (cases c <;> first | (exfalso; simp at hG_; done) | skip)
      all_goals (repeat' (first
          | (refine reg_skip hK ?_ rfl; (simp [wantedG, asB, undef, g1_, g2_, g3_]; done))
          | (refine reg_val hK ?_ ?_ (grow_refl _) rfl
             · first | rfl | (simp [wantedG, asB, undef, g1_, g2_, g3_]; done)
             · skip
               go_simp
               done)
          | cases q | cases e17))
    · rcases Bool.eq_false_or_eq_true (c : Bool) with hG_ | hG_
      rotate_left
      · exact reg_skip hK (by rw [(wanted_t rfl g1_).trans (show _ = (c : Bool) by first | rfl | (simp; done)), hG_]; decide) (by show undef = ite _ _ _; rw [hG_]; rfl)
      all_goals (cases c <;> first | (exfalso; simp at hG_; done) | skip)
      all_goals (repeat' (first
          | (refine reg_skip hK ?_ rfl; (simp [wantedG, asB, undef, g1_, g2_, g3_]; done))
          | (refine reg_val hK ?_ ?_ (grow_refl _) rfl
             · first | rfl | (simp [wantedG, asB, undef, g1_, g2_, g3_]; done)
             · skip
               go_simp
               done)
          | cases q | cases e17))
    · refine reg_pick hK rfl rfl g1_ (and_val ?_ g2_)
      first | rfl | (simp; done)
    · all_goals (repeat' (first
          | (refine reg_val hK ?_ ?_ (grow_refl _) rfl
             · first | rfl | (simp [wantedG, asB, undef, g1_, g2_, g3_]; done)
             · skip
               go_simp
               done)
          | cases c | cases q | cases e17))
    · rcases Bool.eq_false_or_eq_true ((c && e17) : Bool) with hG_ | hG_
      rotate_left
      · exact reg_skip hK (by rw [(wanted_t rfl g1_).trans (show _ = ((c && e17) : Bool) by first | rfl | (simp; done)), hG_]; decide) (by show undef = ite _ _ _; rw [hG_]; rfl)
      all_goals (cases c <;> first | (exfalso; simp at hG_; done) | skip)
      all_goals (cases e17 <;> first | (exfalso; simp at hG_; done) | skip)
      all_goals (repeat' (first
          | (refine reg_skip hK ?_ rfl; (simp [wantedG, asB, undef, g1_, g2_, g3_]; done))
          | (refine reg_val hK ?_ ?_ (grow_refl _) rfl
             · first | rfl | (simp [wantedG, asB, undef, g1_, g2_, g3_]; done)
             · skip
               go_simp
               done)
          | cases q))
    · rcases Bool.eq_false_or_eq_true ((c && e17) : Bool) with hG_ | hG_
      rotate_left
      · exact reg_skip hK (by rw [(wanted_t rfl g1_).trans (show _ = ((c && e17) : Bool) by first | rfl | (simp; done)), hG_]; decide) (by show undef = ite _ _ _; rw [hG_]; rfl)
      all_goals (cases c <;> first | (exfalso; simp at hG_; done) | skip)
      all_goals (cases e17 <;> first | (exfalso; simp at hG_; done) | skip)
      all_goals (repeat' (first
          | (refine reg_skip hK ?_ rfl; (simp [wantedG, asB, undef, g1_, g2_, g3_]; done))
          | (refine reg_val hK ?_ ?_ (grow_refl _) rfl
             · first | rfl | (simp [wantedG, asB, undef, g1_, g2_, g3_]; done)
             · skip
               go_simp
               done)
          | cases q))
    · rcases Bool.eq_false_or_eq_true ((c && e17) : Bool) with hG_ | hG_
      rotate_left
      · exact reg_skip hK (by rw [(wanted_t rfl g1_).trans (show _ = ((c && e17) : Bool) by first | rfl | (simp; done)), hG_]; decide) (by show undef = ite _ _ _; rw [hG_]; rfl)
      all_goals (cases c <;> first | (exfalso; simp at hG_; done) | skip)
      all_goals (cases e17 <;> first | (exfalso; simp at hG_; done) | skip)
      all_goals (repeat' (first
          | (refine reg_skip hK ?_ rfl; (simp [wantedG, asB, undef, g1_, g2_, g3_]; done))
          | (refine reg_call hK ?_ rfl Try.func127 (by kernel_rfl) rfl #[.slice A0_2 l0_2.length c0_2, .func (.func 128) #[] #[]] ?_ ((impl_ArrayRight.has k _ _ _ _ _ (Kd.C_below HR.out hg) HC.out Hq.out).mono ?_)
             · first | rfl | (simp [wantedG, asB, undef, g1_, g2_, g3_]; done)
             · simp [Act.eval, g1_, g2_, g3_]
             · rintro e_ w'' ⟨rfl, hb_⟩
               exact ⟨_, rfl, (by first | exact hb_ | exact hb_.below), rfl⟩)
          | cases q))
    · rcases Bool.eq_false_or_eq_true ((c && e17) : Bool) with hG_ | hG_
      rotate_left
      · exact reg_skip hK (by rw [(wanted_t rfl g1_).trans (show _ = ((c && e17) : Bool) by first | rfl | (simp; done)), hG_]; decide) (by show undef = ite _ _ _; rw [hG_]; rfl)
      all_goals (cases c <;> first | (exfalso; simp at hG_; done) | skip)
      all_goals (cases e17 <;> first | (exfalso; simp at hG_; done) | skip)
      all_goals (repeat' (first
          | (refine reg_skip hK ?_ rfl; (simp [wantedG, asB, undef, g1_, g2_, g3_]; done))
          | (refine reg_val hK ?_ ?_ (grow_refl _) rfl
             · first | rfl | (simp [wantedG, asB, undef, g1_, g2_, g3_]; done)
             · skip
               go_simp
               done)
          | cases q))
    · refine reg_pick hK rfl rfl g1_ (and_val ?_ g2_)
      first | rfl | (simp; done)
    · all_goals (repeat' (first
          | (refine reg_val hK ?_ ?_ (grow_refl _) rfl
             · first | rfl | (simp [wantedG, asB, undef, g1_, g2_, g3_]; done)
             · skip
               go_simp
               done)
          | cases c | cases q | cases e17))
  case hE1 =>
    intro us w' hg hd
    have hZ : us 22 = .bool ((c && e17) && !q) := allR_get hd (by kernel_rfl)
    clear hd
    replace HB := Aside0.mk (below_grow HB.out hg)
    rw [hZ]
    clear hZ hs0 hs1 hs2
    go_wp2
    go_ret
    refine ⟨?_, HB.out⟩
    rw [show decide ((l0_2.length : Int) = y) = e17 by simp [he17]]
    rfl

/-! ### laws_eqStored: function 166 -/
def laws_eqStored.f (a0_0 : ByteArray) (a0_1 : ByteArray) (a0_2 : Int) (a1_0 : ByteArray) (a1_1 : ByteArray) (a1_2 : Int) : Option (Bool) := if a0_0.toList = a1_0.toList then (if a0_1.toList = a1_1.toList then (if a0_2 = a1_2 then (some true) else (some false)) else (some false)) else (some false)
set_option maxHeartbeats 8000000 in
set_option maxRecDepth 100000 in
theorem laws_eqStored.calls (a0_0 : ByteArray) (a0_1 : ByteArray) (a0_2 : Int) (a1_0 : ByteArray) (a1_1 : ByteArray) (a1_2 : Int) (r : Bool) (w : World) (h : laws_eqStored.f a0_0 a0_1 a0_2 a1_0 a1_1 a1_2 = some r) :
    Calls Try.prog 166 #[.agg #[.string a0_0, .string a0_1, .int .i64 a0_2], .agg #[.string a1_0, .string a1_1, .int .i64 a1_2]] w fun e w' => e = .returned (.bool r) ∧ Below w.heap.size w w' := by
  have hu127 := Try.underlying127
  have HB := Aside0.mk (Below.refl w.heap.size w)
  have H : (if a0_0.toList = a1_0.toList then (if a0_1.toList = a1_1.toList then (if a0_2 = a1_2 then (some true) else (some false)) else (some false)) else (some false)) = some r := h
  clear h
  by_cases c3 : a0_0.toList = a1_0.toList
  · rw [if_pos c3] at H
    have c3b0 : (a0_0.toList == a1_0.toList) = true := beq_iff_eq.mpr c3
    have c3b1 : (a0_0.toList != a1_0.toList) = false := bne_eq_false_iff_eq.mpr c3
    clear c3
    by_cases c4 : a0_1.toList = a1_1.toList
    · rw [if_pos c4] at H
      have c4b0 : (a0_1.toList == a1_1.toList) = true := beq_iff_eq.mpr c4
      have c4b1 : (a0_1.toList != a1_1.toList) = false := bne_eq_false_iff_eq.mpr c4
      clear c4
      by_cases c5 : a0_2 = a1_2
      · rw [if_pos c5] at H
        have c5b0 : (a0_2 == a1_2) = true := beq_iff_eq.mpr c5
        have c5b1 : (a0_2 != a1_2) = false := bne_eq_false_iff_eq.mpr c5
        clear c5
        obtain rfl := Option.some.inj H
        go_enter Try.func166, Try.ntmps166
        go_wp2_with (first | ((with_reducible refine gate_dst (N := 2) rfl ?_); refine box_event ?hg (N := 2) ?hd (cs := #[.string a0_0, .string a0_1, .int .i64 a0_2]) (t := 127) ?hr ?_; (case hd => rfl); (case hg => rfl); (case hr => first | (go_simp; done) | (go_simp; rfl)); intro gb176 hg w6 hbox hb; have n0_ := Aside0.mk (below_step (by repeat (first | (with_reducible first | exact HB.out | apply below_alloc | apply pw_below_drewN | apply below_drew1) | exact HB.out)) hb); have n1_ := Aside0.mk (hbox); have n2_ := Aside0.mk ((by rw [hg]; exact (below_size (by repeat (first | (with_reducible first | exact HB.out | apply below_alloc | apply pw_below_drewN | apply below_drew1) | exact HB.out))) : w.heap.size ≤ gb176)); have n3_ := Aside0.mk ((by rw [hg]; exact (below_size (by repeat (first | (with_reducible first | exact HB.out | apply below_alloc | apply pw_below_drewN | apply below_drew1) | exact HB.out))) : w.heap.size ≤ gb176)); clear HB; have HB := n0_; have BK176 := n1_; have GW176 := n2_; have GE176 := n3_; clear n0_ n1_ n2_ n3_; clear hb hbox hg) | ((with_reducible refine gate_dst (N := 3) rfl ?_); refine box_event ?hg (N := 3) ?hd (cs := #[.string a1_0, .string a1_1, .int .i64 a1_2]) (t := 127) ?hr ?_; (case hd => rfl); (case hg => rfl); (case hr => first | (go_simp; done) | (go_simp; rfl)); intro gb177 hg w7 hbox hb; have n0_ := Aside0.mk (blk_below (g := gb176) (o := .cells #[.string a0_0, .string a0_1, .int .i64 a0_2] 127 (0, 0)) (by (with_reducible repeat (first | refine blk_drewN ?_ _ | refine blk_drew ?_ | refine blk_alloc ?_ _)); exact BK176.out) hb); have n1_ := Aside0.mk (below_step (by repeat (first | (with_reducible first | exact HB.out | apply below_alloc | apply pw_below_drewN | apply below_drew1 | refine below_set ?_ GE176.out) | exact HB.out)) hb); have n2_ := Aside0.mk (hbox); have n3_ := Aside0.mk ((by rw [hg]; exact (below_size (by repeat (first | (with_reducible first | exact HB.out | apply below_alloc | apply pw_below_drewN | apply below_drew1 | refine below_set ?_ GE176.out) | exact HB.out))) : w.heap.size ≤ gb177)); have n4_ := Aside0.mk ((by rw [hg]; exact (below_size (by repeat (first | (with_reducible first | exact HB.out | apply below_alloc | apply pw_below_drewN | apply below_drew1 | refine below_set ?_ GE176.out) | exact HB.out))) : w.heap.size ≤ gb177)); have n5_ := Aside0.mk ((by rw [hg]; exact Nat.ne_of_lt (blk_lt (g := gb176) (o := .cells #[.string a0_0, .string a0_1, .int .i64 a0_2] 127 (0, 0)) (by (with_reducible repeat (first | refine blk_drewN ?_ _ | refine blk_drew ?_ | refine blk_alloc ?_ _)); exact BK176.out)) : gb176 ≠ gb177)); have n6_ := Aside0.mk ((by rw [hg]; exact Nat.ne_of_gt (blk_lt (g := gb176) (o := .cells #[.string a0_0, .string a0_1, .int .i64 a0_2] 127 (0, 0)) (by (with_reducible repeat (first | refine blk_drewN ?_ _ | refine blk_drew ?_ | refine blk_alloc ?_ _)); exact BK176.out)) : gb177 ≠ gb176)); clear BK176; clear HB; have BK176 := n0_; have HB := n1_; have BK177 := n2_; have GW177 := n3_; have GE177 := n4_; have NB176_177 := n5_; have NB177_176 := n6_; clear n0_ n1_ n2_ n3_ n4_ n5_ n6_; clear hb hbox hg; have hnb8 := NB176_177.out; have hnc8 := NB177_176.out; have hcz9_0 : w7.cell? ⟨gb176, 0, none⟩ = some (.string a0_0) := (blk_cell BK176.out 0).trans rfl; have hcz9_1 : w7.cell? ⟨gb176, 1, none⟩ = some (.string a0_1) := (blk_cell BK176.out 1).trans rfl; have hcz9_2 : w7.cell? ⟨gb176, 2, none⟩ = some (.int .i64 a0_2) := (blk_cell BK176.out 2).trans rfl; have hfz9_0 := blk_frozen BK176.out 0; have hfz9_1 := blk_frozen BK176.out 1; have hfz9_2 := blk_frozen BK176.out 2; have hcz10_0 : w7.cell? ⟨gb177, 0, none⟩ = some (.string a1_0) := (blk_cell BK177.out 0).trans rfl; have hcz10_1 : w7.cell? ⟨gb177, 1, none⟩ = some (.string a1_1) := (blk_cell BK177.out 1).trans rfl; have hcz10_2 : w7.cell? ⟨gb177, 2, none⟩ = some (.int .i64 a1_2) := (blk_cell BK177.out 2).trans rfl; have hfz10_0 := blk_frozen BK177.out 0; have hfz10_1 := blk_frozen BK177.out 1; have hfz10_2 := blk_frozen BK177.out 2))
        go_ret
        exact ⟨by first | rfl | (simp [errW_none, errW_some] <;> rfl) | (simp [*, errW_none, errW_some] <;> rfl), by repeat (first | (with_reducible first | exact HB.out | apply below_alloc | apply pw_below_drewN | apply below_drew1 | refine below_set ?_ GE176.out | refine below_set ?_ GE177.out) | exact HB.out)⟩
      · rw [if_neg c5] at H
        have c5b0 : (a0_2 == a1_2) = false := beq_eq_false_iff_ne.mpr c5
        have c5b1 : (a0_2 != a1_2) = true := bne_iff_ne.mpr c5
        obtain rfl := Option.some.inj H
        go_enter Try.func166, Try.ntmps166
        go_wp2_with (first | ((with_reducible refine gate_dst (N := 2) rfl ?_); refine box_event ?hg (N := 2) ?hd (cs := #[.string a0_0, .string a0_1, .int .i64 a0_2]) (t := 127) ?hr ?_; (case hd => rfl); (case hg => rfl); (case hr => first | (go_simp; done) | (go_simp; rfl)); intro gb176 hg w11 hbox hb; have n0_ := Aside0.mk (below_step (by repeat (first | (with_reducible first | exact HB.out | apply below_alloc | apply pw_below_drewN | apply below_drew1) | exact HB.out)) hb); have n1_ := Aside0.mk (hbox); have n2_ := Aside0.mk ((by rw [hg]; exact (below_size (by repeat (first | (with_reducible first | exact HB.out | apply below_alloc | apply pw_below_drewN | apply below_drew1) | exact HB.out))) : w.heap.size ≤ gb176)); have n3_ := Aside0.mk ((by rw [hg]; exact (below_size (by repeat (first | (with_reducible first | exact HB.out | apply below_alloc | apply pw_below_drewN | apply below_drew1) | exact HB.out))) : w.heap.size ≤ gb176)); clear HB; have HB := n0_; have BK176 := n1_; have GW176 := n2_; have GE176 := n3_; clear n0_ n1_ n2_ n3_; clear hb hbox hg) | ((with_reducible refine gate_dst (N := 3) rfl ?_); refine box_event ?hg (N := 3) ?hd (cs := #[.string a1_0, .string a1_1, .int .i64 a1_2]) (t := 127) ?hr ?_; (case hd => rfl); (case hg => rfl); (case hr => first | (go_simp; done) | (go_simp; rfl)); intro gb177 hg w12 hbox hb; have n0_ := Aside0.mk (blk_below (g := gb176) (o := .cells #[.string a0_0, .string a0_1, .int .i64 a0_2] 127 (0, 0)) (by (with_reducible repeat (first | refine blk_drewN ?_ _ | refine blk_drew ?_ | refine blk_alloc ?_ _)); exact BK176.out) hb); have n1_ := Aside0.mk (below_step (by repeat (first | (with_reducible first | exact HB.out | apply below_alloc | apply pw_below_drewN | apply below_drew1 | refine below_set ?_ GE176.out) | exact HB.out)) hb); have n2_ := Aside0.mk (hbox); have n3_ := Aside0.mk ((by rw [hg]; exact (below_size (by repeat (first | (with_reducible first | exact HB.out | apply below_alloc | apply pw_below_drewN | apply below_drew1 | refine below_set ?_ GE176.out) | exact HB.out))) : w.heap.size ≤ gb177)); have n4_ := Aside0.mk ((by rw [hg]; exact (below_size (by repeat (first | (with_reducible first | exact HB.out | apply below_alloc | apply pw_below_drewN | apply below_drew1 | refine below_set ?_ GE176.out) | exact HB.out))) : w.heap.size ≤ gb177)); have n5_ := Aside0.mk ((by rw [hg]; exact Nat.ne_of_lt (blk_lt (g := gb176) (o := .cells #[.string a0_0, .string a0_1, .int .i64 a0_2] 127 (0, 0)) (by (with_reducible repeat (first | refine blk_drewN ?_ _ | refine blk_drew ?_ | refine blk_alloc ?_ _)); exact BK176.out)) : gb176 ≠ gb177)); have n6_ := Aside0.mk ((by rw [hg]; exact Nat.ne_of_gt (blk_lt (g := gb176) (o := .cells #[.string a0_0, .string a0_1, .int .i64 a0_2] 127 (0, 0)) (by (with_reducible repeat (first | refine blk_drewN ?_ _ | refine blk_drew ?_ | refine blk_alloc ?_ _)); exact BK176.out)) : gb177 ≠ gb176)); clear BK176; clear HB; have BK176 := n0_; have HB := n1_; have BK177 := n2_; have GW177 := n3_; have GE177 := n4_; have NB176_177 := n5_; have NB177_176 := n6_; clear n0_ n1_ n2_ n3_ n4_ n5_ n6_; clear hb hbox hg; have hnb13 := NB176_177.out; have hnc13 := NB177_176.out; have hcz14_0 : w12.cell? ⟨gb176, 0, none⟩ = some (.string a0_0) := (blk_cell BK176.out 0).trans rfl; have hcz14_1 : w12.cell? ⟨gb176, 1, none⟩ = some (.string a0_1) := (blk_cell BK176.out 1).trans rfl; have hcz14_2 : w12.cell? ⟨gb176, 2, none⟩ = some (.int .i64 a0_2) := (blk_cell BK176.out 2).trans rfl; have hfz14_0 := blk_frozen BK176.out 0; have hfz14_1 := blk_frozen BK176.out 1; have hfz14_2 := blk_frozen BK176.out 2; have hcz15_0 : w12.cell? ⟨gb177, 0, none⟩ = some (.string a1_0) := (blk_cell BK177.out 0).trans rfl; have hcz15_1 : w12.cell? ⟨gb177, 1, none⟩ = some (.string a1_1) := (blk_cell BK177.out 1).trans rfl; have hcz15_2 : w12.cell? ⟨gb177, 2, none⟩ = some (.int .i64 a1_2) := (blk_cell BK177.out 2).trans rfl; have hfz15_0 := blk_frozen BK177.out 0; have hfz15_1 := blk_frozen BK177.out 1; have hfz15_2 := blk_frozen BK177.out 2))
        go_ret
        exact ⟨by first | rfl | (simp [errW_none, errW_some] <;> rfl) | (simp [*, errW_none, errW_some] <;> rfl), by repeat (first | (with_reducible first | exact HB.out | apply below_alloc | apply pw_below_drewN | apply below_drew1 | refine below_set ?_ GE176.out | refine below_set ?_ GE177.out) | exact HB.out)⟩
    · rw [if_neg c4] at H
      have c4b0 : (a0_1.toList == a1_1.toList) = false := beq_eq_false_iff_ne.mpr c4
      have c4b1 : (a0_1.toList != a1_1.toList) = true := bne_iff_ne.mpr c4
      obtain rfl := Option.some.inj H
      go_enter Try.func166, Try.ntmps166
      go_wp2_with (first | ((with_reducible refine gate_dst (N := 2) rfl ?_); refine box_event ?hg (N := 2) ?hd (cs := #[.string a0_0, .string a0_1, .int .i64 a0_2]) (t := 127) ?hr ?_; (case hd => rfl); (case hg => rfl); (case hr => first | (go_simp; done) | (go_simp; rfl)); intro gb176 hg w16 hbox hb; have n0_ := Aside0.mk (below_step (by repeat (first | (with_reducible first | exact HB.out | apply below_alloc | apply pw_below_drewN | apply below_drew1) | exact HB.out)) hb); have n1_ := Aside0.mk (hbox); have n2_ := Aside0.mk ((by rw [hg]; exact (below_size (by repeat (first | (with_reducible first | exact HB.out | apply below_alloc | apply pw_below_drewN | apply below_drew1) | exact HB.out))) : w.heap.size ≤ gb176)); have n3_ := Aside0.mk ((by rw [hg]; exact (below_size (by repeat (first | (with_reducible first | exact HB.out | apply below_alloc | apply pw_below_drewN | apply below_drew1) | exact HB.out))) : w.heap.size ≤ gb176)); clear HB; have HB := n0_; have BK176 := n1_; have GW176 := n2_; have GE176 := n3_; clear n0_ n1_ n2_ n3_; clear hb hbox hg) | ((with_reducible refine gate_dst (N := 3) rfl ?_); refine box_event ?hg (N := 3) ?hd (cs := #[.string a1_0, .string a1_1, .int .i64 a1_2]) (t := 127) ?hr ?_; (case hd => rfl); (case hg => rfl); (case hr => first | (go_simp; done) | (go_simp; rfl)); intro gb177 hg w17 hbox hb; have n0_ := Aside0.mk (blk_below (g := gb176) (o := .cells #[.string a0_0, .string a0_1, .int .i64 a0_2] 127 (0, 0)) (by (with_reducible repeat (first | refine blk_drewN ?_ _ | refine blk_drew ?_ | refine blk_alloc ?_ _)); exact BK176.out) hb); have n1_ := Aside0.mk (below_step (by repeat (first | (with_reducible first | exact HB.out | apply below_alloc | apply pw_below_drewN | apply below_drew1 | refine below_set ?_ GE176.out) | exact HB.out)) hb); have n2_ := Aside0.mk (hbox); have n3_ := Aside0.mk ((by rw [hg]; exact (below_size (by repeat (first | (with_reducible first | exact HB.out | apply below_alloc | apply pw_below_drewN | apply below_drew1 | refine below_set ?_ GE176.out) | exact HB.out))) : w.heap.size ≤ gb177)); have n4_ := Aside0.mk ((by rw [hg]; exact (below_size (by repeat (first | (with_reducible first | exact HB.out | apply below_alloc | apply pw_below_drewN | apply below_drew1 | refine below_set ?_ GE176.out) | exact HB.out))) : w.heap.size ≤ gb177)); have n5_ := Aside0.mk ((by rw [hg]; exact Nat.ne_of_lt (blk_lt (g := gb176) (o := .cells #[.string a0_0, .string a0_1, .int .i64 a0_2] 127 (0, 0)) (by (with_reducible repeat (first | refine blk_drewN ?_ _ | refine blk_drew ?_ | refine blk_alloc ?_ _)); exact BK176.out)) : gb176 ≠ gb177)); have n6_ := Aside0.mk ((by rw [hg]; exact Nat.ne_of_gt (blk_lt (g := gb176) (o := .cells #[.string a0_0, .string a0_1, .int .i64 a0_2] 127 (0, 0)) (by (with_reducible repeat (first | refine blk_drewN ?_ _ | refine blk_drew ?_ | refine blk_alloc ?_ _)); exact BK176.out)) : gb177 ≠ gb176)); clear BK176; clear HB; have BK176 := n0_; have HB := n1_; have BK177 := n2_; have GW177 := n3_; have GE177 := n4_; have NB176_177 := n5_; have NB177_176 := n6_; clear n0_ n1_ n2_ n3_ n4_ n5_ n6_; clear hb hbox hg; have hnb18 := NB176_177.out; have hnc18 := NB177_176.out; have hcz19_0 : w17.cell? ⟨gb176, 0, none⟩ = some (.string a0_0) := (blk_cell BK176.out 0).trans rfl; have hcz19_1 : w17.cell? ⟨gb176, 1, none⟩ = some (.string a0_1) := (blk_cell BK176.out 1).trans rfl; have hcz19_2 : w17.cell? ⟨gb176, 2, none⟩ = some (.int .i64 a0_2) := (blk_cell BK176.out 2).trans rfl; have hfz19_0 := blk_frozen BK176.out 0; have hfz19_1 := blk_frozen BK176.out 1; have hfz19_2 := blk_frozen BK176.out 2; have hcz20_0 : w17.cell? ⟨gb177, 0, none⟩ = some (.string a1_0) := (blk_cell BK177.out 0).trans rfl; have hcz20_1 : w17.cell? ⟨gb177, 1, none⟩ = some (.string a1_1) := (blk_cell BK177.out 1).trans rfl; have hcz20_2 : w17.cell? ⟨gb177, 2, none⟩ = some (.int .i64 a1_2) := (blk_cell BK177.out 2).trans rfl; have hfz20_0 := blk_frozen BK177.out 0; have hfz20_1 := blk_frozen BK177.out 1; have hfz20_2 := blk_frozen BK177.out 2))
      go_ret
      exact ⟨by first | rfl | (simp [errW_none, errW_some] <;> rfl) | (simp [*, errW_none, errW_some] <;> rfl), by repeat (first | (with_reducible first | exact HB.out | apply below_alloc | apply pw_below_drewN | apply below_drew1 | refine below_set ?_ GE176.out | refine below_set ?_ GE177.out) | exact HB.out)⟩
  · rw [if_neg c3] at H
    have c3b0 : (a0_0.toList == a1_0.toList) = false := beq_eq_false_iff_ne.mpr c3
    have c3b1 : (a0_0.toList != a1_0.toList) = true := bne_iff_ne.mpr c3
    obtain rfl := Option.some.inj H
    go_enter Try.func166, Try.ntmps166
    go_wp2_with (first | ((with_reducible refine gate_dst (N := 2) rfl ?_); refine box_event ?hg (N := 2) ?hd (cs := #[.string a0_0, .string a0_1, .int .i64 a0_2]) (t := 127) ?hr ?_; (case hd => rfl); (case hg => rfl); (case hr => first | (go_simp; done) | (go_simp; rfl)); intro gb176 hg w21 hbox hb; have n0_ := Aside0.mk (below_step (by repeat (first | (with_reducible first | exact HB.out | apply below_alloc | apply pw_below_drewN | apply below_drew1) | exact HB.out)) hb); have n1_ := Aside0.mk (hbox); have n2_ := Aside0.mk ((by rw [hg]; exact (below_size (by repeat (first | (with_reducible first | exact HB.out | apply below_alloc | apply pw_below_drewN | apply below_drew1) | exact HB.out))) : w.heap.size ≤ gb176)); have n3_ := Aside0.mk ((by rw [hg]; exact (below_size (by repeat (first | (with_reducible first | exact HB.out | apply below_alloc | apply pw_below_drewN | apply below_drew1) | exact HB.out))) : w.heap.size ≤ gb176)); clear HB; have HB := n0_; have BK176 := n1_; have GW176 := n2_; have GE176 := n3_; clear n0_ n1_ n2_ n3_; clear hb hbox hg) | ((with_reducible refine gate_dst (N := 3) rfl ?_); refine box_event ?hg (N := 3) ?hd (cs := #[.string a1_0, .string a1_1, .int .i64 a1_2]) (t := 127) ?hr ?_; (case hd => rfl); (case hg => rfl); (case hr => first | (go_simp; done) | (go_simp; rfl)); intro gb177 hg w22 hbox hb; have n0_ := Aside0.mk (blk_below (g := gb176) (o := .cells #[.string a0_0, .string a0_1, .int .i64 a0_2] 127 (0, 0)) (by (with_reducible repeat (first | refine blk_drewN ?_ _ | refine blk_drew ?_ | refine blk_alloc ?_ _)); exact BK176.out) hb); have n1_ := Aside0.mk (below_step (by repeat (first | (with_reducible first | exact HB.out | apply below_alloc | apply pw_below_drewN | apply below_drew1 | refine below_set ?_ GE176.out) | exact HB.out)) hb); have n2_ := Aside0.mk (hbox); have n3_ := Aside0.mk ((by rw [hg]; exact (below_size (by repeat (first | (with_reducible first | exact HB.out | apply below_alloc | apply pw_below_drewN | apply below_drew1 | refine below_set ?_ GE176.out) | exact HB.out))) : w.heap.size ≤ gb177)); have n4_ := Aside0.mk ((by rw [hg]; exact (below_size (by repeat (first | (with_reducible first | exact HB.out | apply below_alloc | apply pw_below_drewN | apply below_drew1 | refine below_set ?_ GE176.out) | exact HB.out))) : w.heap.size ≤ gb177)); have n5_ := Aside0.mk ((by rw [hg]; exact Nat.ne_of_lt (blk_lt (g := gb176) (o := .cells #[.string a0_0, .string a0_1, .int .i64 a0_2] 127 (0, 0)) (by (with_reducible repeat (first | refine blk_drewN ?_ _ | refine blk_drew ?_ | refine blk_alloc ?_ _)); exact BK176.out)) : gb176 ≠ gb177)); have n6_ := Aside0.mk ((by rw [hg]; exact Nat.ne_of_gt (blk_lt (g := gb176) (o := .cells #[.string a0_0, .string a0_1, .int .i64 a0_2] 127 (0, 0)) (by (with_reducible repeat (first | refine blk_drewN ?_ _ | refine blk_drew ?_ | refine blk_alloc ?_ _)); exact BK176.out)) : gb177 ≠ gb176)); clear BK176; clear HB; have BK176 := n0_; have HB := n1_; have BK177 := n2_; have GW177 := n3_; have GE177 := n4_; have NB176_177 := n5_; have NB177_176 := n6_; clear n0_ n1_ n2_ n3_ n4_ n5_ n6_; clear hb hbox hg; have hnb23 := NB176_177.out; have hnc23 := NB177_176.out; have hcz24_0 : w22.cell? ⟨gb176, 0, none⟩ = some (.string a0_0) := (blk_cell BK176.out 0).trans rfl; have hcz24_1 : w22.cell? ⟨gb176, 1, none⟩ = some (.string a0_1) := (blk_cell BK176.out 1).trans rfl; have hcz24_2 : w22.cell? ⟨gb176, 2, none⟩ = some (.int .i64 a0_2) := (blk_cell BK176.out 2).trans rfl; have hfz24_0 := blk_frozen BK176.out 0; have hfz24_1 := blk_frozen BK176.out 1; have hfz24_2 := blk_frozen BK176.out 2; have hcz25_0 : w22.cell? ⟨gb177, 0, none⟩ = some (.string a1_0) := (blk_cell BK177.out 0).trans rfl; have hcz25_1 : w22.cell? ⟨gb177, 1, none⟩ = some (.string a1_1) := (blk_cell BK177.out 1).trans rfl; have hcz25_2 : w22.cell? ⟨gb177, 2, none⟩ = some (.int .i64 a1_2) := (blk_cell BK177.out 2).trans rfl; have hfz25_0 := blk_frozen BK177.out 0; have hfz25_1 := blk_frozen BK177.out 1; have hfz25_2 := blk_frozen BK177.out 2))
    go_ret
    exact ⟨by first | rfl | (simp [errW_none, errW_some] <;> rfl) | (simp [*, errW_none, errW_some] <;> rfl), by repeat (first | (with_reducible first | exact HB.out | apply below_alloc | apply pw_below_drewN | apply below_drew1 | refine below_set ?_ GE176.out | refine below_set ?_ GE177.out) | exact HB.out)⟩

end Go.Proofs.Yteljfdhjbnlgoaa.PFnExactArrayRight
