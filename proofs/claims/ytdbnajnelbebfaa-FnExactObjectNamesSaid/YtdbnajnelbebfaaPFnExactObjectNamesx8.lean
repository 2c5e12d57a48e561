/- Functions of the law FnExactObjectNames: the print's, with walks of this session's own. No statement is proved here. -/
import Derived.WalkLawsBesides
import Derived.Test.YtdbnajnelbebfaaVRegFnExactObjectNames
-- A program of this session wrote this text: a changed copy of the kit print, with given functions.
import Derived.Test.YtdbnajnelbebfaaPFnExactObjectNamesx0
import Derived.Test.YtdbnajnelbebfaaPFnExactObjectNamesx5
import Derived.Test.YtdbnajnelbebfaaPFnExactObjectNamesx6
import Derived.Test.YtdbnajnelbebfaaPFnExactObjectNamesx7
namespace Go.Proofs.Ytdbnajnelbebfaa.PFnExactObjectNames
open Go.RowKit Go.Proofs.YtdbnajnelbebfaaW.PrintWords Go.Proofs.YtdbnajnelbebfaaW.PrintLast Go.Proofs.YtdbnajnelbebfaaW.PrintMore Go.Proofs.Ytdbnajnelbebfaa.Reg Go.Proofs.Ytdbnajnelbebfaa.Aut
attribute [local go_sem] max2_int min2_int max_two min_two max_three min_three max_four min_four   -- for this text's walks alone
set_option linter.unusedVariables false
set_option linter.unusedSimpArgs false

/-! ### impl_ArrayRight: function 105 -/
def impl_ArrayRight.k0 : Nat → List (S192) → Int → Option (Int)
  | 0, _, _ => none
  | k + 1, l, x => if x < (l.length : Int) then (if 0 ≤ x then ((impl_DriveRight.f k (rd_T192 l x).f0 (rd_T192 l x).f1).bind fun b => (if b = true then (impl_ArrayRight.k0 k l (wrap64 (x + 1))) else (some x))) else (none)) else (some (-1))
def impl_ArrayRight.keys (k : Nat) (l : List (S192)) : Option (Bool) := (impl_ArrayRight.k0 k l 0).bind fun i => some (decide (0 ≤ i))
def impl_ArrayRight.f (k : Nat) (a0_0 : Int) (a0_1 : Int) (l0_2 : List (S192)) : Option (Bool) := (impl_CodeRight.f a0_0 a0_1).bind fun c => ((impl_ArrayRight.keys k l0_2).bind fun h => (some ((c && decide ((l0_2.length : Int) = wrap64 (a0_0 + a0_1))) && !h)))
theorem impl_ArrayRight.mono_l : ∀ k, (∀ y0 y1, LeO (impl_ArrayRight.k0 k y0 y1) (impl_ArrayRight.k0 (k + 1) y0 y1))
  | 0 => fun _ _ r h => by simp [impl_ArrayRight.k0] at h
  | k + 1 => by
    have ih0 := impl_ArrayRight.mono_l k
    · intro y0 y1
      unfold impl_ArrayRight.k0
      repeat' first
      | (with_reducible exact ih0 _ _)
      | (with_reducible exact impl_DriveRight.mono _ _ _)
      | (with_reducible exact LeO.refl _)
      | (with_reducible refine LeO.ite ?_ ?_)
      | (with_reducible refine LeO.bind ?_ (fun _ => ?_))
theorem impl_ArrayRight.mono : ∀ a0 a1 a2 k, LeO (impl_ArrayRight.f k a0 a1 a2) (impl_ArrayRight.f (k + 1) a0 a1 a2) := by
  intro a0 a1 a2 k
  unfold impl_ArrayRight.f impl_ArrayRight.keys
  exact LeO.bind (LeO.refl _) (fun _ => LeO.bind (LeO.bind (impl_ArrayRight.mono_l k _ _) (fun _ => LeO.refl _)) (fun _ => LeO.refl _))
set_option maxHeartbeats 4000000 in
set_option maxRecDepth 100000 in
theorem impl_ArrayRight.pred (k : Nat) (A0 : Option Addr) (c0 : Nat) (l : List (S194)) (a : Int) (b : Bool) (w : World) (hr : Kd.C k194 w A0 l.length l) (hc : l.length ≤ c0) (h : impl_DriveRight.f k l a = some b) :
    Calls Try.prog 158 #[.agg #[.slice A0 l.length c0, .int .i64 a]] w fun e w' => e = .returned (.bool (!b)) ∧ Below w.heap.size w w' := by
  have hu := Try.underlying192
  have hg := ((Below.refl w.heap.size w).alloc (Nat.le_refl _) (Obj.cells #[.slice A0 l.length c0, .int .i64 a] 192))
  have HR := AM (Kd.C_below hr hg)
  have HC := AM hc
  have HH := AM h
  have HG := AM hg
  clear hg hr hc h
  go_enter Try.func158, Try.ntmps158
  go_wp2_with (go_at_call 159; refine (impl_DriveRight.calls k A0 c0 l a b _ HR.out HC.out HH.out).mono ?_; rintro e w2 ⟨rfl, hb⟩; have HB := AM (below_grow HG.out hb); clear hb)
  go_ret
  exact ⟨rfl, HB.out⟩
set_option maxHeartbeats 4000000 in
set_option maxRecDepth 100000 in
theorem impl_ArrayRight.idx (k : Nat) (A0 : Option Addr) (c0 : Nat) (l0 : List (S192)) (r : Int) (w : World) (hr0 : Kd.C k192 w A0 l0.length l0) (hc0 : l0.length ≤ c0) (h : impl_ArrayRight.k0 k l0 0 = some r) :
    Calls Try.prog 188 #[.slice A0 l0.length c0, .func (.func 158) #[] #[]] w fun e w' => e = .returned (.int .i64 r) ∧ Below w.heap.size w w' := by
  have hu := Try.underlying192
  have HR0 := AM hr0
  have HC0 := AM hc0
  clear hr0 hc0
  have HB := AM (Below.refl w.heap.size w)
  have H' := AM h
  clear h
  go_enter Try.func188, Try.ntmps188
  go_wp2
  go_loopg [8] k (fun kq v8 w' => ∃ (x : Int), v8 = .int .i64 x ∧ Aside0 (impl_ArrayRight.k0 kq l0 x = some r) ∧ Aside0 (kq ≤ k) ∧ Aside0 (Below w.heap.size w w'))
  case atStart => exact ⟨0, rfl, H', ⟨Nat.le_refl _⟩, HB⟩
  case round =>
    clear H'
    obtain ⟨x, rfl, HA, HK1, HB⟩ := hrel
    cases gk with
    | zero => exact absurd HA.out (by simp [impl_ArrayRight.k0])
    | succ k1 =>
      have H := HA.out
      clear HA
      simp only [impl_ArrayRight.k0] at H
      by_cases c3 : x < (l0.length : Int)
      · rw [if_pos c3] at H
        by_cases c4 : 0 ≤ x
        · rw [if_pos c4] at H
          obtain ⟨b, hb, H⟩ := Option.bind_eq_some_iff.mp H
          have H' := AM H
          have HBB := AM hb
          clear H hb
          obtain ⟨ad, A1, c1, rfl, hx0, hx1, hl1, hk1⟩ := at_T192 HR0.out x c4 c3
          replace hx0 := Reg.cellG HB.out (Reg.grow_refl _) hx0
          replace hx1 := Reg.cellG HB.out (Reg.grow_refl _) hx1
          have HL1 := AM hl1
          have HK := AM (Kd.C_below hk1 HB.out)
          have c3b0 : decide (x < (l0.length : Int)) = true := decide_eq_true c3
          have c3b1 := eq_true c3
          have c4b0 := eq_true c4
          clear c3 c4 hl1 hk1
          cases b with
          | true =>
            have H := H'.out
            rw [if_pos rfl] at H
            have H1 := AM H
            clear H H'
            go_wp2_with (go_at_call 158; refine (impl_ArrayRight.pred k1 A1 c1 _ _ true _ HK.out HL1.out HBB.out).mono ?_; rintro e w2 ⟨rfl, hb⟩; replace HB := AM (Reg.below_grow HB.out hb); clear hb hx0 hx1)
            go_roundg k1
            case measure => have := HK1.out; omega
            case rel => exact ⟨(wrap64 (x + 1)), (by first | rfl | (simp; done) | (simp [*]; done)), H1, ⟨by have := HK1.out; omega⟩, HB⟩
          | false =>
            have H := H'.out
            rw [if_neg (by simp)] at H
            obtain rfl := Option.some.inj H
            clear H H'
            go_wp2_with (go_at_call 158; refine (impl_ArrayRight.pred k1 A1 c1 _ _ false _ HK.out HL1.out HBB.out).mono ?_; rintro e w2 ⟨rfl, hb⟩; replace HB := AM (Reg.below_grow HB.out hb); clear hb hx0 hx1)
            go_ret
            exact ⟨rfl, HB.out⟩
        · rw [if_neg c4] at H
          exact absurd H (by simp)
      · rw [if_neg c3] at H
        have c3b0 : decide (x < (l0.length : Int)) = false := decide_eq_false c3
        clear c3
        obtain rfl := Option.some.inj H
        go_wp2
        go_ret
        exact ⟨rfl, HB.out⟩
set_option maxHeartbeats 4000000 in
set_option maxRecDepth 100000 in
theorem impl_ArrayRight.has (k : Nat) (A0 : Option Addr) (c0 : Nat) (l0 : List (S192)) (r : Bool) (w : World) (hr0 : Kd.C k192 w A0 l0.length l0) (hc0 : l0.length ≤ c0) (h : impl_ArrayRight.keys k l0 = some r) :
    Calls Try.prog 157 #[.slice A0 l0.length c0, .func (.func 158) #[] #[]] w fun e w' => e = .returned (.bool r) ∧ Below w.heap.size w w' := by
  obtain ⟨i, hi, h⟩ := Option.bind_eq_some_iff.mp h
  obtain rfl := Option.some.inj h
  have HI := AM hi
  have HR := AM hr0
  have HC := AM hc0
  clear h hi hr0 hc0
  go_enter Try.func157, Try.ntmps157
  go_wp2_with (go_at_call 188; refine (impl_ArrayRight.idx k A0 c0 l0 i _ HR.out HC.out HI.out).mono ?_; rintro e w2 ⟨rfl, hb⟩; have HB := AM hb; clear hb)
  go_ret
  exact ⟨rfl, HB.out⟩
set_option maxHeartbeats 4000000 in
set_option maxRecDepth 100000 in
theorem impl_ArrayRight.calls (k : Nat) (a0_0 : Int) (a0_1 : Int) (A0_2 : Option Addr) (c0_2 : Nat) (l0_2 : List (S192)) (r : Bool) (w : World) (hr0_2 : Kd.C k192 w A0_2 l0_2.length l0_2) (hc0_2 : l0_2.length ≤ c0_2) (h : impl_ArrayRight.f k a0_0 a0_1 l0_2 = some r) :
    Calls Try.prog 105 #[.agg #[.int .i64 a0_0, .int .i64 a0_1, .slice A0_2 l0_2.length c0_2]] w fun e w' => e = .returned (.bool r) ∧ Below w.heap.size w w' := by
  have hu := Try.underlying64
  obtain ⟨c, hc, h⟩ := Option.bind_eq_some_iff.mp h
  obtain ⟨q, hq, h⟩ := Option.bind_eq_some_iff.mp h
  obtain rfl := Option.some.inj h
  obtain ⟨y, hy⟩ : ∃ y, wrap64 (a0_0 + a0_1) = y := ⟨_, rfl⟩
  rw [hy]
  have hyw : IntKind.i64.wrap (a0_0 + a0_1) = y := (i64_w _).trans hy
  have hg := ((Below.refl w.heap.size w).alloc (Nat.le_refl _) (Obj.cells #[.int .i64 a0_0, .int .i64 a0_1, .slice A0_2 l0_2.length c0_2] 64))
  have HR := AM (Kd.C_below hr0_2 hg)
  have HC := AM hc0_2
  have HB := AM hg
  have Hc := AM hc
  have Hq := AM hq
  clear hg hr0_2 hc0_2 hc hq h hy
  go_enter Try.func105, Try.ntmps105
  go_wp2
  have hs0 : (w.alloc (Obj.cells #[.int .i64 a0_0, .int .i64 a0_1, .slice A0_2 l0_2.length c0_2] 64)).cell? ⟨w.heap.size, 0, none⟩ = some (.int .i64 a0_0) := by simp
  have hs1 : (w.alloc (Obj.cells #[.int .i64 a0_0, .int .i64 a0_1, .slice A0_2 l0_2.length c0_2] 64)).cell? ⟨w.heap.size, 1, none⟩ = some (.int .i64 a0_1) := by simp
  have hs2 : (w.alloc (Obj.cells #[.int .i64 a0_0, .int .i64 a0_1, .slice A0_2 l0_2.length c0_2] 64)).cell? ⟨w.heap.size, 2, none⟩ = some (.slice A0_2 l0_2.length c0_2) := by simp
  revert hs0 hs1 hs2
  generalize hq1 : World.alloc w _ = w2 at HB HR ⊢
  intro hs0 hs1 hs2
  clear hq1
  revert hs0 hs1 hs2
  generalize hg1 : w.heap.size = g
  intro hs0 hs1 hs2
  clear hg1
  obtain ⟨e17, he17⟩ : ∃ e_ : Bool, ((l0_2.length : Int) = y) = (e_ = true) := ⟨decide ((l0_2.length : Int) = y), by simp⟩
  have he17b : ((l0_2.length : Int) == y) = e17 := by rw [Bool.eq_iff_iff, ← he17]; simp
  have he17m : ((l0_2.length : Int) != y) = !e17 := by simp only [bne, he17b]
  refine wp_reg1 [[], [0], [], [2], [1, 3], [4], [5], [5, 6], [5, 7], [5], [5, 9], [5], [5, 11], [5, 10, 12], [5, 8, 13], [5, 14], [15], [16], [16, 17], [16, 18], [16, 19], [16, 20], [21]]
    (isVal [.pointer (some ⟨g, 0, none⟩),
      .int .i64 a0_0,
      .pointer (some ⟨g, 1, none⟩),
      .int .i64 a0_1,
      .bool c,
      .bool c,
      if c then .pointer (some ⟨g, 2, none⟩) else undef,
      if c then .slice A0_2 l0_2.length c0_2 else undef,
      if c then .int .i64 (l0_2.length : Int) else undef,
      if c then .pointer (some ⟨g, 0, none⟩) else undef,
      if c then .int .i64 a0_0 else undef,
      if c then .pointer (some ⟨g, 1, none⟩) else undef,
      if c then .int .i64 a0_1 else undef,
      if c then .int .i64 y else undef,
      if c then .bool e17 else undef,
      .bool (c && e17),
      .bool (c && e17),
      if c && e17 then .pointer (some ⟨g, 2, none⟩) else undef,
      if c && e17 then .slice A0_2 l0_2.length c0_2 else undef,
      if c && e17 then .bool q else undef,
      if c && e17 then .bool (!q) else undef,
      .bool ((c && e17) && !q),
      .bool ((c && e17) && !q)]) ?B1 ?d1 (by kernel_rfl) (by kernel_rfl) (by kernel_rfl) (by kernel_rfl) (fun us => ?hA1) (isVal_grow _) ?hS1 ?hE1
  case hA1 =>
    simp only [regPut, Act.put, List.setIfInBounds_toArray, List.set_cons_zero, List.set_cons_succ, Nat.reduceAdd, Nat.zero_add]
    rfl
  case hS1 =>
    refine ⟨?_, ?_, ?_, ?_, ?_, ?_, ?_, ?_, ?_, ?_, ?_, ?_, ?_, ?_, ?_, ?_, ?_, ?_, ?_, ?_, ?_, ?_, ?_, trivial⟩
    all_goals (intro us w' hg hd K hK; simp only [AllR, isVal, List.getD_cons_zero, List.getD_cons_succ] at hd)
    all_goals (have g1_ := True.intro; have g2_ := True.intro; have g3_ := True.intro; try (obtain ⟨g1_, hd⟩ := hd); try (obtain ⟨g2_, hd⟩ := hd); try (obtain ⟨g3_, hd⟩ := hd))
    all_goals (replace hs0 := cellG (grow_refl _) hg hs0; replace hs1 := cellG (grow_refl _) hg hs1; replace hs2 := cellG (grow_refl _) hg hs2)
    · all_goals (repeat' (first
          | (refine reg_val hK ?_ ?_ (grow_refl _) rfl
             · first | rfl | (simp [wantedG, asB, undef, g1_, g2_, g3_]; done)
             · skip
               go_simp
               done)
          | cases c | cases q | cases e17))
    · all_goals (repeat' (first
          | (refine reg_val hK ?_ ?_ (grow_refl _) rfl
             · first | rfl | (simp [wantedG, asB, undef, g1_, g2_, g3_]; done)
             · skip
               go_simp
               done)
          | cases c | cases q | cases e17))
    · all_goals (repeat' (first
          | (refine reg_val hK ?_ ?_ (grow_refl _) rfl
             · first | rfl | (simp [wantedG, asB, undef, g1_, g2_, g3_]; done)
             · skip
               go_simp
               done)
          | cases c | cases q | cases e17))
    · all_goals (repeat' (first
          | (refine reg_val hK ?_ ?_ (grow_refl _) rfl
             · first | rfl | (simp [wantedG, asB, undef, g1_, g2_, g3_]; done)
             · skip
               go_simp
               done)
          | cases c | cases q | cases e17))
    · all_goals (repeat' (first
          | (refine reg_call hK ?_ rfl Try.func56 (by kernel_rfl) rfl #[.int .i64 a0_0, .int .i64 a0_1] ?_ ((impl_CodeRight.calls _ _ _ _ Hc.out).mono ?_)
             · first | rfl | (simp [wantedG, asB, undef, g1_, g2_, g3_]; done)
             · simp [Act.eval, g1_, g2_, g3_]
             · rintro e_ w'' ⟨rfl, hb_⟩
               exact ⟨_, rfl, (by first | exact hb_ | exact hb_.below), rfl⟩)
          | cases c | cases q | cases e17))
    · all_goals (repeat' (first
          | (refine reg_val hK ?_ ?_ (grow_refl _) rfl
             · first | rfl | (simp [wantedG, asB, undef, g1_, g2_, g3_]; done)
             · skip
               go_simp
               done)
          | cases c | cases q | cases e17))
    · rcases Bool.eq_false_or_eq_true (c : Bool) with hG_ | hG_
      rotate_left
      · exact reg_skip hK (by rw [(wanted_t rfl g1_).trans (show _ = (c : Bool) by first | rfl | (simp; done)), hG_]; decide) (by show undef = ite _ _ _; rw [hG_]; rfl)
      all_goals (cases c <;> first | (exfalso; simp at hG_; done) | skip)
      all_goals (repeat' (first
          | (refine reg_skip hK ?_ rfl; (simp [wantedG, asB, undef, g1_, g2_, g3_]; done))
          | (refine reg_val hK ?_ ?_ (grow_refl _) rfl
             · first | rfl | (simp [wantedG, asB, undef, g1_, g2_, g3_]; done)
             · skip
               go_simp
               done)
          | cases q | cases e17))
    · rcases Bool.eq_false_or_eq_true (c : Bool) with hG_ | hG_
      rotate_left
      · exact reg_skip hK (by rw [(wanted_t rfl g1_).trans (show _ = (c : Bool) by first | rfl | (simp; done)), hG_]; decide) (by show undef = ite _ _ _; rw [hG_]; rfl)
      all_goals (cases c <;> first | (exfalso; simp at hG_; done) | skip)
      all_goals (repeat' (first
          | (refine reg_skip hK ?_ rfl; (simp [wantedG, asB, undef, g1_, g2_, g3_]; done))
          | (refine reg_val hK ?_ ?_ (grow_refl _) rfl
             · first | rfl | (simp [wantedG, asB, undef, g1_, g2_, g3_]; done)
             · skip
               go_simp
               done)
          | cases q | cases e17))
    · rcases Bool.eq_false_or_eq_true (c : Bool) with hG_ | hG_
      rotate_left
      · exact reg_skip hK (by rw [(wanted_t rfl g1_).trans (show _ = (c : Bool) by first | rfl | (simp; done)), hG_]; decide) (by show undef = ite _ _ _; rw [hG_]; rfl)
      all_goals (cases c <;> first | (exfalso; simp at hG_; done) | skip)
      all_goals (repeat' (first
          | (refine reg_skip hK ?_ rfl; (simp [wantedG, asB, undef, g1_, g2_, g3_]; done))
          | (refine reg_call hK ?_ rfl Try.func156 (by kernel_rfl) rfl #[.slice A0_2 l0_2.length c0_2] ?_ ((impl_Drive_156.calls _ _ _ _ _ (Kd.C_below HR.out hg) HC.out rfl).mono ?_)
             · first | rfl | (simp [wantedG, asB, undef, g1_, g2_, g3_]; done)
             · simp [Act.eval, g1_, g2_, g3_]
             · rintro e_ w'' ⟨rfl, hb_⟩
               exact ⟨_, rfl, (by first | exact hb_ | exact hb_.below), rfl⟩)
          | cases q | cases e17))
    · rcases Bool.eq_false_or_eq_true (c : Bool) with hG_ | hG_
      rotate_left
      · exact reg_skip hK (by rw [(wanted_t rfl g1_).trans (show _ = (c : Bool) by first | rfl | (simp; done)), hG_]; decide) (by show undef = ite _ _ _; rw [hG_]; rfl)
      all_goals (cases c <;> first | (exfalso; simp at hG_; done) | skip)
      all_goals (repeat' (first
          | (refine reg_skip hK ?_ rfl; (simp [wantedG, asB, undef, g1_, g2_, g3_]; done))
          | (refine reg_val hK ?_ ?_ (grow_refl _) rfl
             · first | rfl | (simp [wantedG, asB, undef, g1_, g2_, g3_]; done)
             · skip
               go_simp
               done)
          | cases q | cases e17))
    · rcases Bool.eq_false_or_eq_true (c : Bool) with hG_ | hG_
      rotate_left
      · exact reg_skip hK (by rw [(wanted_t rfl g1_).trans (show _ = (c : Bool) by first | rfl | (simp; done)), hG_]; decide) (by show undef = ite _ _ _; rw [hG_]; rfl)
      all_goals (cases c <;> first | (exfalso; simp at hG_; done) | skip)
      all_goals (repeat' (first
          | (refine reg_skip hK ?_ rfl; (simp [wantedG, asB, undef, g1_, g2_, g3_]; done))
          | (refine reg_val hK ?_ ?_ (grow_refl _) rfl
             · first | rfl | (simp [wantedG, asB, undef, g1_, g2_, g3_]; done)
             · skip
               go_simp
               done)
          | cases q | cases e17))
    · rcases Bool.eq_false_or_eq_true (c : Bool) with hG_ | hG_
      rotate_left
      · exact reg_skip hK (by rw [(wanted_t rfl g1_).trans (show _ = (c : Bool) by first | rfl | (simp; done)), hG_]; decide) (by show undef = ite _ _ _; rw [hG_]; rfl)
      all_goals (cases c <;> first | (exfalso; simp at hG_; done) | skip)
      all_goals (repeat' (first
          | (refine reg_skip hK ?_ rfl; (simp [wantedG, asB, undef, g1_, g2_, g3_]; done))
          | (refine reg_val hK ?_ ?_ (grow_refl _) rfl
             · first | rfl | (simp [wantedG, asB, undef, g1_, g2_, g3_]; done)
             · skip
               go_simp
               done)
          | cases q | cases e17))
    · rcases Bool.eq_false_or_eq_true (c : Bool) with hG_ | hG_
      rotate_left
      · exact reg_skip hK (by rw [(wanted_t rfl g1_).trans (show _ = (c : Bool) by first | rfl | (simp; done)), hG_]; decide) (by show undef = ite _ _ _; rw [hG_]; rfl)
      all_goals (cases c <;> first | (exfalso; simp at hG_; done) | skip)
      all_goals (repeat' (first
          | (refine reg_skip hK ?_ rfl; (simp [wantedG, asB, undef, g1_, g2_, g3_]; done))
          | (refine reg_val hK ?_ ?_ (grow_refl _) rfl
             · first | rfl | (simp [wantedG, asB, undef, g1_, g2_, g3_]; done)
             · skip
               go_simp
               done)
          | cases q | cases e17))
    · rcases Bool.eq_false_or_eq_true (c : Bool) with hG_ | hG_
      rotate_left
      · exact reg_skip hK (by rw [(wanted_t rfl g1_).trans (show _ = (c : Bool) by first | rfl | (simp; done)), hG_]; decide) (by show undef = ite _ _ _; rw [hG_]; rfl)
      all_goals (cases c <;> first | (exfalso; simp at hG_; done) | skip)
      all_goals (repeat' (first
          | (refine reg_skip hK ?_ rfl; (simp [wantedG, asB, undef, g1_, g2_, g3_]; done))
          | (refine reg_val hK ?_ ?_ (grow_refl _) rfl
             · first | rfl | (simp [wantedG, asB, undef, g1_, g2_, g3_]; done)
             · skip
               go_simp
               done)
          | cases q | cases e17))
    · rcases Bool.eq_false_or_eq_true (c : Bool) with hG_ | hG_
      rotate_left
      · exact reg_skip hK (by rw [(wanted_t rfl g1_).trans (show _ = (c : Bool) by first | rfl | (simp; done)), hG_]; decide) (by show undef = ite _ _ _; rw [hG_]; rfl)
      all_goals (cases c <;> first | (exfalso; simp at hG_; done) | skip)
      all_goals (repeat' (first
          | (refine reg_skip hK ?_ rfl; (simp [wantedG, asB, undef, g1_, g2_, g3_]; done))
          | (refine reg_val hK ?_ ?_ (grow_refl _) rfl
             · first | rfl | (simp [wantedG, asB, undef, g1_, g2_, g3_]; done)
             · skip
               go_simp
               done)
          | cases q | cases e17))
    · refine reg_pick hK rfl rfl g1_ (and_val ?_ g2_)
      first | rfl | (simp; done)
    · all_goals (repeat' (first
          | (refine reg_val hK ?_ ?_ (grow_refl _) rfl
             · first | rfl | (simp [wantedG, asB, undef, g1_, g2_, g3_]; done)
             · skip
               go_simp
               done)
          | cases c | cases q | cases e17))
    · rcases Bool.eq_false_or_eq_true ((c && e17) : Bool) with hG_ | hG_
      rotate_left
      · exact reg_skip hK (by rw [(wanted_t rfl g1_).trans (show _ = ((c && e17) : Bool) by first | rfl | (simp; done)), hG_]; decide) (by show undef = ite _ _ _; rw [hG_]; rfl)
      all_goals (cases c <;> first | (exfalso; simp at hG_; done) | skip)
      all_goals (cases e17 <;> first | (exfalso; simp at hG_; done) | skip)
      all_goals (repeat' (first
          | (refine reg_skip hK ?_ rfl; (simp [wantedG, asB, undef, g1_, g2_, g3_]; done))
          | (refine reg_val hK ?_ ?_ (grow_refl _) rfl
             · first | rfl | (simp [wantedG, asB, undef, g1_, g2_, g3_]; done)
             · skip
               go_simp
               done)
          | cases q))
    · rcases Bool.eq_false_or_eq_true ((c && e17) : Bool) with hG_ | hG_
      rotate_left
      · exact reg_skip hK (by rw [(wanted_t rfl g1_).trans (show _ = ((c && e17) : Bool) by first | rfl | (simp; done)), hG_]; decide) (by show undef = ite _ _ _; rw [hG_]; rfl)
      all_goals (cases c <;> first | (exfalso; simp at hG_; done) | skip)
      all_goals (cases e17 <;> first | (exfalso; simp at hG_; done) | skip)
      all_goals (repeat' (first
          | (refine reg_skip hK ?_ rfl; (simp [wantedG, asB, undef, g1_, g2_, g3_]; done))
          | (refine reg_val hK ?_ ?_ (grow_refl _) rfl
             · first | rfl | (simp [wantedG, asB, undef, g1_, g2_, g3_]; done)
             · skip
               go_simp
               done)
          | cases q))
    · rcases Bool.eq_false_or_eq_true ((c && e17) : Bool) with hG_ | hG_
      rotate_left
      · exact reg_skip hK (by rw [(wanted_t rfl g1_).trans (show _ = ((c && e17) : Bool) by first | rfl | (simp; done)), hG_]; decide) (by show undef = ite _ _ _; rw [hG_]; rfl)
      all_goals (cases c <;> first | (exfalso; simp at hG_; done) | skip)
      all_goals (cases e17 <;> first | (exfalso; simp at hG_; done) | skip)
      all_goals (repeat' (first
          | (refine reg_skip hK ?_ rfl; (simp [wantedG, asB, undef, g1_, g2_, g3_]; done))
          | (refine reg_call hK ?_ rfl Try.func157 (by kernel_rfl) rfl #[.slice A0_2 l0_2.length c0_2, .func (.func 158) #[] #[]] ?_ ((impl_ArrayRight.has k _ _ _ _ _ (Kd.C_below HR.out hg) HC.out Hq.out).mono ?_)
             · first | rfl | (simp [wantedG, asB, undef, g1_, g2_, g3_]; done)
             · simp [Act.eval, g1_, g2_, g3_]
             · rintro e_ w'' ⟨rfl, hb_⟩
               exact ⟨_, rfl, (by first | exact hb_ | exact hb_.below), rfl⟩)
          | cases q))
    · rcases Bool.eq_false_or_eq_true ((c && e17) : Bool) with hG_ | hG_
      rotate_left
      · exact reg_skip hK (by rw [(wanted_t rfl g1_).trans (show _ = ((c && e17) : Bool) by first | rfl | (simp; done)), hG_]; decide) (by show undef = ite _ _ _; rw [hG_]; rfl)
      all_goals (cases c <;> first | (exfalso; simp at hG_; done) | skip)
      all_goals (cases e17 <;> first | (exfalso; simp at hG_; done) | skip)
      all_goals (repeat' (first
          | (refine reg_skip hK ?_ rfl; (simp [wantedG, asB, undef, g1_, g2_, g3_]; done))
          | (refine reg_val hK ?_ ?_ (grow_refl _) rfl
             · first | rfl | (simp [wantedG, asB, undef, g1_, g2_, g3_]; done)
             · skip
               go_simp
               done)
          | cases q))
    · refine reg_pick hK rfl rfl g1_ (and_val ?_ g2_)
      first | rfl | (simp; done)
    · all_goals (repeat' (first
          | (refine reg_val hK ?_ ?_ (grow_refl _) rfl
             · first | rfl | (simp [wantedG, asB, undef, g1_, g2_, g3_]; done)
             · skip
               go_simp
               done)
          | cases c | cases q | cases e17))
  case hE1 =>
    intro us w' hg hd
    have hZ : us 22 = .bool ((c && e17) && !q) := allR_get hd (by kernel_rfl)
    clear hd
    replace HB := AM (below_grow HB.out hg)
    rw [hZ]
    clear hZ hs0 hs1 hs2
    go_wp2
    go_ret
    refine ⟨?_, HB.out⟩
    rw [show decide ((l0_2.length : Int) = y) = e17 by simp [he17]]
    rfl

/-! ### stringslite_HasPrefix: function 184 -/
def stringslite_HasPrefix.f (a0 : ByteArray) (a1 : ByteArray) : Option (Bool) := if (a0.size : Int) ≥ (a1.size : Int) then (if 0 ≤ (a1.size : Int) then (if (a1.size : Int) ≤ (a0.size : Int) then (some ((a0.extract 0 ((a1.size : Int) : Int).toNat).toList == a1.toList)) else (none)) else (none)) else (some false)
set_option maxHeartbeats 8000000 in
set_option maxRecDepth 100000 in
theorem stringslite_HasPrefix.calls (a0 : ByteArray) (a1 : ByteArray) (r : Bool) (w : World) (h : stringslite_HasPrefix.f a0 a1 = some r) :
    Calls Try.prog 184 #[.string a0, .string a1] w fun e w' => e = .returned (.bool r) ∧ Drawn0 w w' := by
  have H : (if (a0.size : Int) ≥ (a1.size : Int) then (if 0 ≤ (a1.size : Int) then (if (a1.size : Int) ≤ (a0.size : Int) then (some ((a0.extract 0 ((a1.size : Int) : Int).toNat).toList == a1.toList)) else (none)) else (none)) else (some false)) = some r := h
  clear h
  by_cases c3 : (a0.size : Int) ≥ (a1.size : Int)
  · rw [if_pos c3] at H
    have c3b0 : decide ((a1.size : Int) ≤ (a0.size : Int)) = true := decide_eq_true c3
    have c3b1 : decide (a1.size ≤ a0.size) = true := decide_eq_true (Int.ofNat_le.mp c3)
    clear c3
    by_cases c4 : 0 ≤ (a1.size : Int)
    · rw [if_pos c4] at H
      have c4b0 := eq_true c4
      have c4b1 : decide (0 ≤ (a1.size : Int)) = true := decide_eq_true c4
      clear c4
      by_cases c5 : (a1.size : Int) ≤ (a0.size : Int)
      · rw [if_pos c5] at H
        have c5b0 := eq_true c5
        have c5b1 : decide ((a1.size : Int) ≤ (a0.size : Int)) = true := decide_eq_true c5
        clear c5
        obtain rfl := Option.some.inj H
        go_enter Try.func184, Try.ntmps184
        go_wp2
        go_ret
        exact ⟨by first | rfl | (simp; done) | (simp [*]; done), by repeat (first | exact Drawn0.refl _ | apply Drawn0.step)⟩
      · rw [if_neg c5] at H
        exact absurd H (by simp)
    · rw [if_neg c4] at H
      exact absurd H (by simp)
  · rw [if_neg c3] at H
    have c3b0 : decide ((a1.size : Int) ≤ (a0.size : Int)) = false := decide_eq_false c3
    have c3b1 : decide (a1.size ≤ a0.size) = false := decide_eq_false (fun h => c3 (Int.ofNat_le.mpr h))
    clear c3
    obtain rfl := Option.some.inj H
    go_enter Try.func184, Try.ntmps184
    go_wp2
    go_ret
    exact ⟨by first | rfl | (simp; done) | (simp [*]; done), by repeat (first | exact Drawn0.refl _ | apply Drawn0.step)⟩

/-! ### strings_HasPrefix: function 147 -/
def strings_HasPrefix.f (a0 : ByteArray) (a1 : ByteArray) : Option (Bool) := (stringslite_HasPrefix.f a0 a1).bind fun t238 => (some t238)
set_option maxHeartbeats 8000000 in
set_option maxRecDepth 100000 in
theorem strings_HasPrefix.calls (a0 : ByteArray) (a1 : ByteArray) (r : Bool) (w : World) (h : strings_HasPrefix.f a0 a1 = some r) :
    Calls Try.prog 147 #[.string a0, .string a1] w fun e w' => e = .returned (.bool r) ∧ Drawn0 w w' := by
  have H : ((stringslite_HasPrefix.f a0 a1).bind fun t238 => (some t238)) = some r := h
  clear h
  obtain ⟨t238, A3, H⟩ := OB H
  try dsimp only at H
  replace A3 := AM A3
  obtain rfl := Option.some.inj H
  go_enter Try.func147, Try.ntmps147
  go_wp2_with (first | ((with_reducible refine gate_callee (f := 184) rfl ?_); refine gl_ (some 7) Try.func184 #[.string a0, .string a1] ?_; (with_reducible refine (stringslite_HasPrefix.calls a0 a1 t238 _ A3.out).mono ?_); rintro e w' ⟨rfl, ⟨nd, rfl⟩⟩; refine ⟨_, rfl, ?_⟩))
  go_ret
  exact ⟨by first | rfl | (simp; done) | (simp [*]; done), by repeat (first | exact Drawn0.refl _ | apply Drawn0.step)⟩

/-! ### impl_ObjectRight: function 87 -/
def impl_ObjectRight.f (k : Nat) (a0 : ByteArray) : Option (Bool) := (impl_isName.f k a0 60).bind fun t239 => (if t239 = true then ((strings_HasPrefix.f a0 (⟨#[116, 45]⟩ : ByteArray)).bind fun t240 => (some (!t240))) else (some false))
theorem impl_ObjectRight.mono : ∀ a0 k, LeO (impl_ObjectRight.f k a0) (impl_ObjectRight.f (k + 1) a0) := by
  intro a0 k
  unfold impl_ObjectRight.f
  repeat' first
      | (with_reducible exact impl_isName.mono _ _ _)
      | (with_reducible exact LeO.refl _)
      | (with_reducible exact LeO.none _)
      | (with_reducible refine LeO.ite ?_ ?_)
      | (with_reducible refine LeO.bind ?_ (fun _ => ?_))
      | exact impl_isName.mono _ _ _
      | exact LeO.none _
      | refine LeO.ite ?_ ?_
      | refine LeO.bind ?_ (fun _ => ?_)
set_option maxHeartbeats 8000000 in
set_option maxRecDepth 100000 in
theorem impl_ObjectRight.calls (k : Nat) (a0 : ByteArray) (r : Bool) (w : World) (h : impl_ObjectRight.f k a0 = some r) :
    Calls Try.prog 87 #[.string a0] w fun e w' => e = .returned (.bool r) ∧ Drawn0 w w' := by
  have H : ((impl_isName.f k a0 60).bind fun t239 => (if t239 = true then ((strings_HasPrefix.f a0 (⟨#[116, 45]⟩ : ByteArray)).bind fun t240 => (some (!t240))) else (some false))) = some r := h
  clear h
  obtain ⟨t239, A2, H⟩ := OB H
  try dsimp only at H
  replace A2 := AM A2
  by_cases c3 : t239 = true
  · subst c3
    rw [if_pos rfl] at H
    obtain ⟨t240, A4, H⟩ := OB H
    try dsimp only at H
    replace A4 := AM A4
    obtain rfl := Option.some.inj H
    go_enter Try.func87, Try.ntmps87
    go_wp2_with (first | ((with_reducible refine gate_callee (f := 146) rfl ?_); refine gl_ (some 4) Try.func146 #[.string a0, .int .i64 60] ?_; (with_reducible refine (impl_isName.calls k a0 60 true _ A2.out).mono ?_); rintro e w' ⟨rfl, ⟨nd, rfl⟩⟩; refine ⟨_, rfl, ?_⟩) | (go_at_call 147; (with_reducible refine (strings_HasPrefix.calls a0 (⟨#[116, 45]⟩ : ByteArray) t240 _ A4.out).mono ?_); rintro e w' ⟨rfl, ⟨nd, rfl⟩⟩))
    go_ret
    exact ⟨by first | rfl | (simp; done) | (simp [*]; done), by repeat (first | exact Drawn0.refl _ | apply Drawn0.step)⟩
  · replace c3 := Bool.eq_false_iff.mpr c3
    subst c3
    rw [if_neg (show ¬ (false = true) by decide)] at H
    obtain rfl := Option.some.inj H
    go_enter Try.func87, Try.ntmps87
    go_wp2_with (first | ((with_reducible refine gate_callee (f := 146) rfl ?_); refine gl_ (some 4) Try.func146 #[.string a0, .int .i64 60] ?_; (with_reducible refine (impl_isName.calls k a0 60 false _ A2.out).mono ?_); rintro e w' ⟨rfl, ⟨nd, rfl⟩⟩; refine ⟨_, rfl, ?_⟩))
    go_ret
    exact ⟨by first | rfl | (simp; done) | (simp [*]; done), by repeat (first | exact Drawn0.refl _ | apply Drawn0.step)⟩

/-! ### impl_Drive_names: function 191 -/
def impl_Drive_names.l0 : Nat → List ByteArray → List (S194) → Int → Int → Option (List ByteArray)
  | 0, _, _, _, _ => none
  | k + 1, x3, x7, x8, x9 => if x9 < x8 then (if 0 ≤ x9 then (if x9 < (x7.length : Int) then (if x3.length < 8796093022208 then (impl_Drive_names.l0 k (x3 ++ [(rd_T194 x7 x9).f0]) x7 x8 (wrap64 (x9 + 1))) else (none)) else (none)) else (none)) else (some x3)
def impl_Drive_names.f (k : Nat) (l0_0 : List (S194)) (a0_1 : Int) : Option (List ByteArray) := impl_Drive_names.l0 k ([] : List ByteArray) l0_0 (l0_0.length : Int) 0
theorem impl_Drive_names.mono_l : ∀ k, (∀ y0 y1 y2 y3, LeO (impl_Drive_names.l0 k y0 y1 y2 y3) (impl_Drive_names.l0 (k + 1) y0 y1 y2 y3))
  | 0 => fun _ _ _ _ r h => by simp [impl_Drive_names.l0] at h
  | k + 1 => by
    have ih0 := impl_Drive_names.mono_l k
    · intro y0 y1 y2 y3
      unfold impl_Drive_names.l0
      repeat' first
      | (with_reducible exact ih0 _ _ _ _)
      | (with_reducible exact LeO.refl _)
      | (with_reducible exact LeO.none _)
      | (with_reducible refine LeO.ite ?_ ?_)
      | (with_reducible refine LeO.bind ?_ (fun _ => ?_))
      | exact ih0 _ _ _ _
      | exact LeO.none _
      | refine LeO.ite ?_ ?_
      | refine LeO.bind ?_ (fun _ => ?_)
theorem impl_Drive_names.mono : ∀ a0 a1 k, LeO (impl_Drive_names.f k a0 a1) (impl_Drive_names.f (k + 1) a0 a1) := by
  intro a0 a1 k
  have ih0 := impl_Drive_names.mono_l k
  unfold impl_Drive_names.f
  repeat' first
      | (with_reducible exact ih0 _ _ _ _)
      | (with_reducible exact LeO.refl _)
      | (with_reducible exact LeO.none _)
      | (with_reducible refine LeO.ite ?_ ?_)
      | (with_reducible refine LeO.bind ?_ (fun _ => ?_))
      | exact ih0 _ _ _ _
      | exact LeO.none _
      | refine LeO.ite ?_ ?_
      | refine LeO.bind ?_ (fun _ => ?_)
set_option maxHeartbeats 8000000 in
set_option maxRecDepth 100000 in
theorem impl_Drive_names.calls (k : Nat) (A0_0 : Option Addr) (c0_0 : Nat) (l0_0 : List (S194)) (a0_1 : Int) (r : List ByteArray) (w : World) (hr0_0 : Kd.C k194 w A0_0 l0_0.length l0_0) (hc0_0 : l0_0.length ≤ c0_0) (h : impl_Drive_names.f k l0_0 a0_1 = some r) :
    Calls Try.prog 191 #[.agg #[.slice A0_0 l0_0.length c0_0, .int .i64 a0_1]] w fun e w' => ∃ v0_ : Value, e = .returned (v0_) ∧ Kd.R Kd.string 9 w' w.heap.size (fun _ => True) v0_ r ∧ Below w.heap.size w w' := by
  have hu192 := Try.underlying192
  have hu194 := Try.underlying194
  have HR0_0 := AM hr0_0
  have HC0_0 := AM hc0_0
  clear hr0_0 hc0_0
  have HB := AM (Below.refl w.heap.size w)
  have H : (impl_Drive_names.l0 k ([] : List ByteArray) l0_0 (l0_0.length : Int) 0) = some r := h
  clear h
  have H' := AM H
  clear H
  go_enter Try.func191, Try.ntmps191
  go_wp2_with (first | ((with_reducible refine gate_dst (N := 1) rfl ?_); refine be_ 1 #[.slice A0_0 l0_0.length c0_0, .int .i64 a0_1] 192 ?_; intro gb241 hg w2 hbox hb; have BK241 := AM hbox; have GW241 := AM ((by rw [hg]; exact (below_size bel_) : w.heap.size ≤ gb241)); have GE241 := AM ((by rw [hg]; exact (below_size bel_) : w.heap.size ≤ gb241)); replace HB := AM (below_step bel_ hb); clear hb hbox hg; have hcz3_0 : w2.cell? ⟨gb241, 0, none⟩ = some (.slice A0_0 l0_0.length c0_0) := (blk_cell BK241.out 0).trans rfl; have hcz3_1 : w2.cell? ⟨gb241, 1, none⟩ = some (.int .i64 a0_1) := (blk_cell BK241.out 1).trans rfl; have hfz3_0 := blk_frozen BK241.out 0; have hfz3_1 := blk_frozen BK241.out 1))
  go_loopg [3, 9] k (fun kq v3 v9 w' => ∃ (x3_1 : List ByteArray) (x9_1 : Int), v9 = .int .i64 x9_1 ∧ Aside0 (impl_Drive_names.l0 kq x3_1 l0_0 (l0_0.length : Int) x9_1 = some r) ∧ Aside0 (kq ≤ k) ∧ Aside0 (Kd.R Kd.string 9 w' w.heap.size (fun _ => True) v3 x3_1) ∧ Aside0 (w'.heap[gb241]? = some (.cells #[(.slice A0_0 l0_0.length c0_0), .int .i64 a0_1] 192 (0, 0))) ∧ Aside0 (Below w.heap.size w w'))
  case atStart => exact ⟨(([] : List ByteArray)), (0), (by first | rfl | (simp; done) | (simp [*]; done)), H', ⟨Nat.le_refl _⟩, ⟨by first | exact Kd.R_nil _ _ _ _ _ | exact Kd.N_nil _ _ _ _ _ | exact Kd.V_nil _ _ _ _ _ | exact Kd.Q_nil _ _ _ _ _ | exact Kd.S_nil _ _ _ _ _⟩, ⟨bk_ BK241.out⟩, ⟨bel_⟩⟩
  case round =>
    clear H'
    try clear c1
    try clear p2
    try clear hcz3_0
    try clear hcz3_1
    try clear hfz3_0
    try clear hfz3_1
    obtain ⟨x3_1, x9_1, rfl, HA, HK1, HO_3, BK241, HB⟩ := hrel
    cases gk with
    | zero => exact absurd HA.out (by simp [impl_Drive_names.l0])
    | succ k1 =>
      have H := HA.out
      clear HA
      simp only [impl_Drive_names.l0] at H
      by_cases c4 : x9_1 < (l0_0.length : Int)
      · rw [if_pos c4] at H
        have c4b0 : decide (x9_1 < (l0_0.length : Int)) = true := decide_eq_true c4
        clear c4
        by_cases c5 : 0 ≤ x9_1
        · rw [if_pos c5] at H
          have c5b0 : decide (0 ≤ x9_1) = true := decide_eq_true c5
          clear c5
          by_cases c6 : x9_1 < (l0_0.length : Int)
          · rw [if_pos c6] at H
            have c6b0 : decide (x9_1 < (l0_0.length : Int)) = true := decide_eq_true c6
            clear c6
            by_cases c7 : x3_1.length < 8796093022208
            · rw [if_pos c7] at H
              have LMc7 := AM c7
              clear c7
              obtain ⟨y244, hy244⟩ : ∃ y_ : List ByteArray, y_ = (x3_1 ++ [(rd_T194 l0_0 x9_1).f0]) := ⟨_, rfl⟩
              replace H : (impl_Drive_names.l0 k1 y244 l0_0 (l0_0.length : Int) (wrap64 (x9_1 + 1))) = some r := by first | (rw [hy244]; with_reducible exact H) | (have H2_ := (Option.bind_some _ _).symm.trans H; rw [hy244]; with_reducible exact H2_) | (have H2_ := (Option.bind_some _ _).symm.trans H; with_reducible exact H2_) | with_reducible exact H | (rw [hy244]; exact H) | exact H
              have Ny244 := AM hy244
              clear hy244
              have H' := AM H
              clear H
              have p242 : 0 ≤ (x9_1 : Int) := of_decide_eq_true (by first | (with_reducible assumption) | assumption)
              have q242 : x9_1 < (l0_0.length : Int) := of_decide_eq_true (by first | (with_reducible assumption) | assumption)
              obtain ⟨ad242, e242, hx242_0, hx242_1, hx242_2⟩ := at_T194 HR0_0.out x9_1 p242 q242
              cases e242
              replace hx242_0 := (HB.out.cell (World.block_lt_of_cell? w _ hx242_0)).trans hx242_0
              replace hx242_1 := (HB.out.cell (World.block_lt_of_cell? w _ hx242_1)).trans hx242_1
              replace hx242_2 := (HB.out.cell (World.block_lt_of_cell? w _ hx242_2)).trans hx242_2
              replace p242 := eq_true p242
              replace q242 := eq_true q242
              go_wp2_with (first | ((with_reducible refine gate_dst (N := 5) rfl ?_); refine be_ 5 #[.string (⟨#[]⟩ : ByteArray), .string (⟨#[]⟩ : ByteArray), .int .i64 0] 194 ?_; intro gb243 hg w8 hbox hb; replace HO_3 := AM (Kd.R_below (ro_ HO_3.out) hb); have BK243 := AM hbox; have GW243 := AM ((by rw [hg]; exact (below_size bel_) : w.heap.size ≤ gb243)); have GE243 := AM ((by rw [hg]; exact (below_size bel_) : w.heap.size ≤ gb243)); replace HB := AM (below_step bel_ hb); have NB241_243 := AM ((by rw [hg]; exact Nat.ne_of_lt (blk_lt (g := gb241) (o := .cells #[.slice (some ad242) l0_0.length c0_0, .int .i64 a0_1] 192 (0, 0)) (bk_ BK241.out)) : gb241 ≠ gb243)); have NB243_241 := AM ((by rw [hg]; exact Nat.ne_of_gt (blk_lt (g := gb241) (o := .cells #[.slice (some ad242) l0_0.length c0_0, .int .i64 a0_1] 192 (0, 0)) (bk_ BK241.out)) : gb243 ≠ gb241)); replace BK241 := AM (blk_below (g := gb241) (o := .cells #[.slice (some ad242) l0_0.length c0_0, .int .i64 a0_1] 192 (0, 0)) (bk_ BK241.out) hb); clear hb hbox hg; have hnb9 := NB243_241.out; have hnc9 := NB241_243.out; have hcz10_0 : w8.cell? ⟨gb243, 0, none⟩ = some (.string (⟨#[]⟩ : ByteArray)) := (blk_cell BK243.out 0).trans rfl; have hcz10_1 : w8.cell? ⟨gb243, 1, none⟩ = some (.string (⟨#[]⟩ : ByteArray)) := (blk_cell BK243.out 1).trans rfl; have hcz10_2 : w8.cell? ⟨gb243, 2, none⟩ = some (.int .i64 0) := (blk_cell BK243.out 2).trans rfl; have hfz10_0 := blk_frozen BK243.out 0; have hfz10_1 := blk_frozen BK243.out 1; have hfz10_2 := blk_frozen BK243.out 2) | ((with_reducible refine gate_builtin (b := .append) (xs := #[.tmp 13, .tmp 16]) rfl ?_); at_builtin; refine Kd.R_append Kd.string (w0 := w) w.heap.size rfl (.tmp 13) (.tmp 16) 25 9 (.string ⟨#[]⟩) 16 rfl Try.underlying25 info9 rfl (by decide) (by omega) u3 x3_1 ((rd_T194 l0_0 x9_1).f0) [.string ((rd_T194 l0_0 x9_1).f0)] (fun _ => True) (fun _ => False) rfl (by first | (go_simp; done) | (go_simp; rfl)) ?aP (fun _ hk => hk.elim) ?aF ?aO ?aB ?aS ?aL ?_; (case aP => exact rfl); (case aB => exact bel_); (case aF => exact (fun _ _ => trivial)); (case aO => exact (by (with_reducible repeat (first | apply Kd.R_alloc | apply Kd.R_drewN | apply Kd.R_drew)); exact Kd.R_mono (Kd.R_far (p := ⟨gb243, 2, none⟩) (Kd.R_far (p := ⟨gb243, 1, none⟩) (Kd.R_far (p := ⟨gb243, 0, none⟩) (Kd.R_types HO_3.out BK243.out (by decide)) (fun _ hk => hk.2) (.string ((rd_T194 l0_0 x9_1).f0))) (fun _ hk => hk.2) (.string ((rd_T194 l0_0 x9_1).f1))) (fun _ hk => hk.2) (.int .i64 ((rd_T194 l0_0 x9_1).f2))) (fun _ hk => trivial))); (case aS => exact (below_size bel_)); (case aL => have := LMc7.out; omega); intro v245 w11 ho hb hg hat; rw [← Ny244.out] at ho; have n0_ := AM (blk_grown (g := gb241) (o := .cells #[.slice (some ad242) l0_0.length c0_0, .int .i64 a0_1] 192 (0, 0)) bka_ hg (Kd.R_ne HO_3.out BK241.out (by decide))); have n1_ := AM (blk_grown (g := gb243) (o := .cells #[.string ((rd_T194 l0_0 x9_1).f0), .string ((rd_T194 l0_0 x9_1).f1), .int .i64 ((rd_T194 l0_0 x9_1).f2)] 194 (0, 0)) bka_ hg (Kd.R_ne HO_3.out BK243.out (by decide))); have n2_ := AM hb; have n3_ := AM ho; clear BK241; clear BK243; clear HB; clear HO_3; have BK241 := n0_; have BK243 := n1_; have HB := n2_; have HO246 := n3_; clear n0_ n1_ n2_ n3_; clear ho hb hg hat))
              go_roundg k1
              case measure => have := HK1.out; omega
              case rel => exact ⟨(y244), (wrap64 (x9_1 + 1)), (by first | rfl | (simp; done) | (simp [*]; done)), H', ⟨by have := HK1.out; omega⟩, ⟨ro_ HO246.out⟩, ⟨bk_ BK241.out⟩, ⟨bel_⟩⟩
            · rw [if_neg c7] at H
              exact absurd H (by simp)
          · rw [if_neg c6] at H
            exact absurd H (by simp)
        · rw [if_neg c5] at H
          exact absurd H (by simp)
      · rw [if_neg c4] at H
        have c4b0 : decide (x9_1 < (l0_0.length : Int)) = false := decide_eq_false c4
        clear c4
        obtain rfl := Option.some.inj H
        go_wp2
        go_ret
        exact ⟨_, ri_, ro_ HO_3.out, bel_⟩

end Go.Proofs.Ytdbnajnelbebfaa.PFnExactObjectNames
