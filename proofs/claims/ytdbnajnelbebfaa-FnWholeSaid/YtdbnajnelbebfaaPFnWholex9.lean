/- Functions of the law FnWhole: the print's, with walks of this session's own. No statement is proved here. -/
import Derived.Carry
import Derived.Test.YtdbnajnelbebfaaKMFnWhole
import Derived.WalkLawsBesides
import Derived.Test.YtdbnajnelbebfaaVRegFnWhole
-- A program of this session wrote this text: a changed copy of the kit print, with given functions.
import Derived.Test.YtdbnajnelbebfaaPFnWholex0
import Derived.Test.YtdbnajnelbebfaaPFnWholex3
import Derived.Test.YtdbnajnelbebfaaPFnWholex5
import Derived.Test.YtdbnajnelbebfaaPFnWholex7
import Derived.Test.YtdbnajnelbebfaaPFnWholex8
namespace Go.Proofs.Ytdbnajnelbebfaa.PFnWhole
open Go.RowKit Go.Proofs.YtdbnajnelbebfaaW.PrintWords Go.Proofs.YtdbnajnelbebfaaW.PrintLast Go.Proofs.YtdbnajnelbebfaaW.PrintMore Go.Proofs.Ytdbnajnelbebfaa.Reg Go.Proofs.Ytdbnajnelbebfaa.Aut
attribute [local go_sem] max2_int min2_int max_two min_two max_three min_three max_four min_four   -- for this text's walks alone
set_option linter.unusedVariables false
set_option linter.unusedSimpArgs false

/-! ### laws_lwAt: function 12 -/
def laws_lwAt.f (l0 : List Int) (a1 : Int) (a2 : Int) : Option (Int) := if a2 ≤ 1 then (some 0) else (if (l0.length : Int) = 0 then (some 0) else (if 0 ≤ (Int.tmod a1 (l0.length : Int)) then (if (Int.tmod a1 (l0.length : Int)) < (l0.length : Int) then (if a2 = 0 then (none) else (some (Int.tmod (wrap64 (rd l0 (Int.tmod a1 (l0.length : Int)))) a2))) else (none)) else (none)))
set_option maxHeartbeats 8000000 in
set_option maxRecDepth 100000 in
theorem laws_lwAt.calls (A0 : Option Addr) (c0 : Nat) (l0 : List Int) (a1 : Int) (a2 : Int) (r : Int) (w : World) (hr0 : Kd.C (Kd.int .u8) w A0 l0.length l0) (hc0 : l0.length ≤ c0) (h : laws_lwAt.f l0 a1 a2 = some r) :
    Calls Try.prog 12 #[.slice A0 l0.length c0, .int .i64 a1, .int .i64 a2] w fun e w' => e = .returned (.int .i64 r) ∧ Drawn0 w w' := by
  have HR0 := AM hr0
  have HC0 := AM hc0
  clear hr0 hc0
  have H : (if a2 ≤ 1 then (some 0) else (if (l0.length : Int) = 0 then (some 0) else (if 0 ≤ (Int.tmod a1 (l0.length : Int)) then (if (Int.tmod a1 (l0.length : Int)) < (l0.length : Int) then (if a2 = 0 then (none) else (some (Int.tmod (wrap64 (rd l0 (Int.tmod a1 (l0.length : Int)))) a2))) else (none)) else (none)))) = some r := h
  clear h
  by_cases c4 : a2 ≤ 1
  · rw [if_pos c4] at H
    have c4b0 : decide (a2 ≤ 1) = true := decide_eq_true c4
    clear c4
    obtain rfl := Option.some.inj H
    go_enter Try.func12, Try.ntmps12
    go_wp2
    go_ret
    exact ⟨by first | rfl | (simp; done) | (simp [*]; done), by repeat (first | exact Drawn0.refl _ | apply Drawn0.step)⟩
  · rw [if_neg c4] at H
    have c4b0 : decide (a2 ≤ 1) = false := decide_eq_false c4
    clear c4
    by_cases c5 : (l0.length : Int) = 0
    · rw [if_pos c5] at H
      have c5b0 : ((l0.length : Int) == 0) = true := beq_iff_eq.mpr c5
      have c5b1 : ((l0.length : Int) != 0) = false := bne_eq_false_iff_eq.mpr c5
      clear c5
      obtain rfl := Option.some.inj H
      go_enter Try.func12, Try.ntmps12
      go_wp2
      go_ret
      exact ⟨by first | rfl | (simp; done) | (simp [*]; done), by repeat (first | exact Drawn0.refl _ | apply Drawn0.step)⟩
    · rw [if_neg c5] at H
      have c5b0 : ((l0.length : Int) == 0) = false := beq_eq_false_iff_ne.mpr c5
      have c5b1 : ((l0.length : Int) != 0) = true := bne_iff_ne.mpr c5
      have c5b2 : ¬ (l0 = []) := fun h_ => c5 (by rw [h_]; rfl)
      obtain ⟨ji6, hji6⟩ : ∃ j_ : Int, (Int.tmod a1 (l0.length : Int)) = j_ := ⟨_, rfl⟩
      replace H : (if 0 ≤ (ji6) then (if (ji6) < (l0.length : Int) then (if a2 = 0 then (none) else (some (Int.tmod (wrap64 (rd l0 (ji6))) a2))) else (none)) else (none)) = some r := by first | (rw [hji6] at H; exact H) | (simp only [hji6] at H ⊢; exact H)
      by_cases c7 : 0 ≤ (ji6)
      · rw [if_pos c7] at H
        have c7b0 : decide (0 ≤ (ji6)) = true := decide_eq_true c7
        clear c7
        by_cases c8 : (ji6) < (l0.length : Int)
        · rw [if_pos c8] at H
          have c8b0 : decide ((ji6) < (l0.length : Int)) = true := decide_eq_true c8
          clear c8
          by_cases c9 : a2 = 0
          · rw [if_pos c9] at H
            exact absurd H (by simp)
          · rw [if_neg c9] at H
            have c9b0 : (a2 == 0) = false := beq_eq_false_iff_ne.mpr c9
            have c9b1 : (a2 != 0) = true := bne_iff_ne.mpr c9
            obtain rfl := Option.some.inj H
            have p261 : 0 ≤ ((ji6) : Int) := of_decide_eq_true (by first | (with_reducible assumption) | assumption)
            have q261 : (ji6) < (l0.length : Int) := of_decide_eq_true (by first | (with_reducible assumption) | assumption)
            obtain ⟨ad261, e261, hx261_0⟩ := Kd.at_int HR0.out (ji6) p261 q261
            cases e261
            replace p261 := eq_true p261
            replace q261 := eq_true q261
            go_enter Try.func12, Try.ntmps12
            go_wp2
            go_ret
            exact ⟨by first | rfl | (simp; done) | (simp only [← hji6] <;> (first | rfl | simp)) | (simp [*]; done), by repeat (first | exact Drawn0.refl _ | apply Drawn0.step)⟩
        · rw [if_neg c8] at H
          exact absurd H (by simp)
      · rw [if_neg c7] at H
        exact absurd H (by simp)

/-! ### laws_FnWhole: function 3 -/
section lw
/-! a row that a conversion of a string made, and a store into it -/
theorem km_step {d : Kd Int} {e base : Nat} {w w1 : World} {ok : Nat → Prop} {v : Value} {xs : List Int} (h : Km.R d e w base ok v xs) (hm : ∀ k, v.ownBlock = some k → w1.heap[k]? = w.heap[k]?) : Km.R d e w1 base ok v xs := by
  rcases h with h | ⟨g, cap, cur, fz, rfl, h1, h2, h3⟩
  · exact Or.inl h
  · exact Or.inr ⟨g, cap, cur, fz, rfl, h1, (hm g (by simp [Value.ownBlock])).trans h2, h3⟩
theorem km_form {d : Kd Int} {e base : Nat} {w : World} {ok : Nat → Prop} {v : Value} {xs : List Int} (h : Km.R d e w base ok v xs) (hp : 0 < xs.length) : ∃ g cap, v = .slice (some ⟨g, 0, none⟩) xs.length cap ∧ base ≤ g ∧ g < w.heap.size := by
  rcases h with ⟨_, h0⟩ | ⟨g, cap, cur, fz, rfl, h1, h2, h3⟩
  · have : xs.length = 0 := by
      have := congrArg List.length h0
      simpa [nums] using this
    omega
  · exact ⟨g, cap, by simp [nums], h1, (Array.getElem?_eq_some_iff.1 h2).1⟩
theorem km_cell {d : Kd Int} {e base g n cap : Nat} {w : World} {ok : Nat → Prop} {xs : List Int} (h : Km.R d e w base ok (.slice (some ⟨g, 0, none⟩) n cap) xs) (i : Int) (h0 : 0 ≤ i) (hi : i < (xs.length : Int)) : w.cell? ⟨g, i.toNat, none⟩ = some (.int .u8 (rd xs i)) ∧ w.frozen? ⟨g, i.toNat, none⟩ = false := by
  rcases h with ⟨h0', _⟩ | ⟨g', cap', cur, fz, hv, h1, h2, h3, h4, h5, h6, h7⟩
  · cases h0'
  · injection hv with ha _ _
    injection ha with ha
    injection ha with ha
    subst ha
    have hl : i.toNat < xs.length := by omega
    have hn : (nums .u8 xs).length = xs.length := by simp [nums]
    refine ⟨Km.cell_of (cap := cap) h2 h7 i.toNat _ ?_, ?_⟩
    · unfold nums rd
      rw [List.getElem?_map, List.getD_eq_getElem?_getD, List.getElem?_eq_getElem hl]
      rfl
    · obtain ⟨lo, hi2⟩ := fz
      simp only [World.frozen?, h2]
      have h3' : hi2 = 0 ∨ cur.size ≤ lo := h3
      rw [hn] at h4
      rw [Bool.and_eq_false_iff, decide_eq_false_iff_not, decide_eq_false_iff_not]
      omega
theorem km_put {d : Kd Int} {e base g n cap : Nat} {w : World} {ok : Nat → Prop} {xs : List Int} (h : Km.R d e w base ok (.slice (some ⟨g, 0, none⟩) n cap) xs) (i : Int) (h0 : 0 ≤ i) (hi : i < (xs.length : Int)) (x : Int) : Km.R d e (w.setCell ⟨g, i.toNat, none⟩ (.int .u8 x)) base ok (.slice (some ⟨g, 0, none⟩) n cap) (xs.set i.toNat x) := by
  rcases h with ⟨h0', _⟩ | ⟨g', cap', cur, fz, hv, h1, h2, h3, h4, h5, h6, h7⟩
  · cases h0'
  · injection hv with ha hn2 hc2
    injection ha with ha
    injection ha with ha
    subst ha; subst hc2
    have hn : (nums .u8 xs).length = xs.length := by simp [nums]
    have hn3 : (nums .u8 (xs.set i.toNat x)).length = xs.length := by simp [nums]
    refine Or.inr ⟨g, cap, cur.setIfInBounds i.toNat (.int .u8 x), fz, by rw [hn3, ← hn, ← hn2], h1, Km.setCell_heap w g i.toNat cur e fz _ h2, by rw [Array.size_setIfInBounds]; exact h3, by rw [hn3, ← hn]; exact h4, h5, by rw [Array.size_setIfInBounds]; exact h6, ?_⟩
    rw [hn3, Array.toList_setIfInBounds]
    rw [hn] at h7
    apply List.ext_getElem?
    intro j
    have h8 := congrArg (fun l => l[j]?) h7
    simp only [List.getElem?_take] at h8 ⊢
    unfold nums at h8 ⊢
    rw [List.getElem?_map, List.getElem?_set, List.getElem?_set]
    rw [List.getElem?_map] at h8
    by_cases hj : j < xs.length
    · rw [if_pos hj] at h8 ⊢
      by_cases hij : i.toNat = j
      · subst hij
        rw [if_pos rfl, if_pos rfl, if_pos hj]
        rw [if_pos (by rw [Array.length_toList]; omega)]
        rfl
      · rw [if_neg hij, if_neg hij]
        exact h8
    · rw [if_neg hj, if_neg (by omega), List.getElem?_eq_none (by omega)]
      rfl
def lw_more (k : Nat) (l1 : List Int) (a0 a1 : Int) (l : List ByteArray) : Option Bool := (laws_lwAt.f l1 0 (l.length : Int)).bind fun i => if 0 ≤ i ∧ i < (l.length : Int) ∧ (l.getD i.toNat ByteArray.empty).size ≤ 100000 then ((laws_lwAt.f l1 1 ((l.getD i.toNat ByteArray.empty).size : Int)).bind fun a => if 0 ≤ a ∧ a < ((l.getD i.toNat ByteArray.empty).size : Int) then ((laws_lwAt.f l1 2 255).bind fun q => ((impl_Whole.f k a0 a1 l).bind fun b => if b = true then ((impl_Whole.f k a0 a1 (l.set i.toNat (strOfNums ((bytesOf (l.getD i.toNat ByteArray.empty)).set a.toNat (Go.bits .xor .u8 (rd (bytesOf (l.getD i.toNat ByteArray.empty)) a) ((wrap64 (1 + q)) % 256)))))).bind fun c => if c = true then none else some true) else none)) else none) else none
def laws_FnWhole.f (k : Nat) (l0 : List Int) (l1 : List Int) : Option (Bool) := if (l0.length : Int) > 1048576 then some true else if (l1.length : Int) > 1048576 then some true else ((spec_DrawEncode.f k l0).bind fun d => ((spec_Encode.f k d.1 d.2.1 d.2.2).bind fun e => if e.1.length ≤ 1000 then (if e.1.length = 0 ∨ d.2.1 = 0 ∨ d.2.2.toList = [] then ((impl_Whole.f k d.1 d.2.1 e.1).bind fun b => ((spec_Whole.f k d.1 d.2.1 e.1).bind fun c => if b = c then some true else none)) else lw_more k l1 d.1 d.2.1 e.1) else none))
theorem lw_more_mono (k : Nat) (l1 : List Int) (a0 a1 : Int) (l : List ByteArray) : LeO (lw_more k l1 a0 a1 l) (lw_more (k + 1) l1 a0 a1 l) := by
  unfold lw_more
  repeat' first
      | (with_reducible exact impl_Whole.mono _ _ _ _)
      | (with_reducible exact LeO.refl _)
      | (with_reducible refine LeO.ite ?_ ?_)
      | (with_reducible refine LeO.bind ?_ (fun _ => ?_))
theorem laws_FnWhole.mono : ∀ a0 a1 k, LeO (laws_FnWhole.f k a0 a1) (laws_FnWhole.f (k + 1) a0 a1) := by
  intro a0 a1 k
  unfold laws_FnWhole.f
  repeat' first
      | (with_reducible exact lw_more_mono _ _ _ _ _)
      | (with_reducible exact spec_DrawEncode.mono _ _)
      | (with_reducible exact spec_Encode.mono _ _ _ _)
      | (with_reducible exact impl_Whole.mono _ _ _ _)
      | (with_reducible exact spec_Whole.mono _ _ _ _)
      | (with_reducible exact LeO.refl _)
      | (with_reducible refine LeO.ite ?_ ?_)
      | (with_reducible refine LeO.bind ?_ (fun _ => ?_))
theorem lw_drawn {w w' : World} (h : Drawn0 w w') : Below w.heap.size w w' := by
  obtain ⟨q, hq⟩ := h.out
  rw [hq]
  exact pw_below_drewN (Below.refl _ _) _
def lw10.T : Bool × List (List Nat × List Nat) := (true, [([], []), ([], []), ([], []), ([], []), ([2, 3], [2, 3]), ([4], [4]), ([], []), ([6], [6]), ([7], [7]), ([8], [8]), ([5, 9], [5, 9]), ([0, 1, 0, 1, 2, 3, 4, 5, 6, 7, 8, 9, 10], [0, 1]), ([11, 10, 7, 0, 1, 2, 3, 4, 5, 6, 7, 8, 9, 10], [10, 11])])
def lw10.B : List Nat := [0, 0, 0, 0, 12, 28, 0, 64, 192, 448, 1020, 2047, 4095]
theorem lw10.tab : rtab .any (opsOf Try.f3 10) = lw10.T := by kernel_rfl
theorem lw10.bits : waitsOk lw10.T.2 lw10.B = true := by kernel_rfl
set_option maxHeartbeats 4000000 in
set_option maxRecDepth 100000 in
theorem lw_long (k : Nat) (A0 : Option Addr) (c0 : Nat) (l0 : List Int) (A1 : Option Addr) (c1 : Nat) (l1 : List Int) (w : World) (hr0 : Kd.C (Kd.int .u8) w A0 l0.length l0) (hc0 : l0.length ≤ c0) (hr1 : Kd.C (Kd.int .u8) w A1 l1.length l1) (hc1 : l1.length ≤ c1) (h : (l0.length : Int) > 1048576 ∨ (¬ (l0.length : Int) > 1048576 ∧ (l1.length : Int) > 1048576)) :
    Calls Try.prog 3 #[.slice A0 l0.length c0, .slice A1 l1.length c1] w fun e w' => e = .returned (.bool true) ∧ Below w.heap.size w w' := by
  clear hr0 hc0 hr1 hc1
  rcases h with h | ⟨h1, h2⟩
  · have c1 : decide (1048576 < (l0.length : Int)) = true := decide_eq_true h
    have c2 : decide (1048576 < l0.length) = true := decide_eq_true (by omega)
    clear h
    go_enter Try.func3, Try.ntmps3
    go_wp2
    go_ret
    exact ⟨rfl, Below.refl _ _⟩
  · have c1 : decide (1048576 < (l0.length : Int)) = false := decide_eq_false h1
    have c2 : decide (1048576 < l0.length) = false := decide_eq_false (by omega)
    have c3 : decide (1048576 < (l1.length : Int)) = true := decide_eq_true h2
    have c4 : decide (1048576 < l1.length) = true := decide_eq_true (by omega)
    clear h1 h2
    go_enter Try.func3, Try.ntmps3
    go_wp2
    go_ret
    exact ⟨rfl, Below.refl _ _⟩
set_option maxHeartbeats 4000000 in
set_option maxRecDepth 100000 in
theorem lw_same (k : Nat) (A0 : Option Addr) (c0 : Nat) (l0 : List Int) (A1 : Option Addr) (c1 : Nat) (l1 : List Int) (w : World) (hr0 : Kd.C (Kd.int .u8) w A0 l0.length l0) (hc0 : l0.length ≤ c0) (hr1 : Kd.C (Kd.int .u8) w A1 l1.length l1) (hc1 : l1.length ≤ c1) (a0 a1 : Int) (t : ByteArray) (l : List ByteArray) (cd : Int) (b : Bool) (h0 : ¬ (l0.length : Int) > 1048576) (h1 : ¬ (l1.length : Int) > 1048576) (hd : spec_DrawEncode.f k l0 = some (a0, a1, t)) (he : spec_Encode.f k a0 a1 t = some (l, cd)) (hq : l.length = 0 ∨ a1 = 0 ∨ t.toList = []) (hw : impl_Whole.f k a0 a1 l = some b) (hs : spec_Whole.f k a0 a1 l = some b) :
    Calls Try.prog 3 #[.slice A0 l0.length c0, .slice A1 l1.length c1] w fun e w' => e = .returned (.bool true) ∧ Below w.heap.size w w' := by
  have hu := Try.underlying27
  have hfl : ∀ (x0 x1 : Value) (w : World), Sem.run Try.prog (Instr.field 27 (.agg #[x0, x1]) 0) w = .ok x0 w := by intro x0 x1 w; kernel_rfl
  have HR0 := AM hr0
  have HC0 := AM hc0
  have HR1 := AM hr1
  have HC1 := AM hc1
  have HB := AM (Below.refl w.heap.size w)
  have HD := AM hd
  have HE := AM he
  have HWH := AM hw
  have HSW := AM hs
  have y1 : decide (1048576 < (l0.length : Int)) = false := decide_eq_false (by omega)
  have y2 : decide (1048576 < l0.length) = false := decide_eq_false (by omega)
  have y3 : decide (1048576 < (l1.length : Int)) = false := decide_eq_false (by omega)
  have y4 : decide (1048576 < l1.length) = false := decide_eq_false (by omega)
  clear hr0 hc0 hr1 hc1 hd he hw hs h0 h1
  obtain ⟨e1, he1⟩ : ∃ e1, ((l.length : Int) == 0) = e1 := ⟨_, rfl⟩
  obtain ⟨e2, he2⟩ : ∃ e2, (a1 == 0) = e2 := ⟨_, rfl⟩
  obtain ⟨e3, he3⟩ : ∃ e3, t.toList.isEmpty = e3 := ⟨_, rfl⟩
  have he1b : (l.length == 0) = e1 := by rw [← he1]; rw [Bool.eq_iff_iff]; simp
  have he3b : (t.toList == ([] : List UInt8)) = e3 := by rw [← he3]; cases t.toList <;> rfl
  have hor : (e1 || e2 || e3) = true := by
    rcases hq with hq | hq | hq
    · rw [← he1, hq]; rfl
    · rw [← he2, hq]; simp
    · rw [← he3, hq]; simp
  have HQ := AM hor
  clear hq hor
  cases e1 <;> cases e2 <;> cases e3
  case false.false.false => exact absurd HQ.out (by decide)
  all_goals
    clear HQ
    go_enter Try.func3, Try.ntmps3
    go_wp2_with (first | ((with_reducible refine gate_callee (f := 8) rfl ?_); refine gl_ (some 23) Try.func8 #[.slice A0 l0.length c0] ?_; (with_reducible refine (spec_DrawEncode.calls k A0 c0 l0 a0 a1 t _ (Kd.C_below HR0.out HB.out) HC0.out HD.out).mono ?_); rintro e w1 ⟨rfl, hb⟩; refine ⟨_, rfl, ?_⟩; replace HB := AM (below_step HB.out hb); clear hb) | ((with_reducible refine gate_callee (f := 9) rfl ?_); refine gl_ (some 30) Try.func9 #[.int .i64 a0, .int .i64 a1, .string t] ?_; (with_reducible refine (spec_Encode.calls k a0 a1 t l cd _ HE.out).mono ?_); rintro e w2 ⟨v30, rfl, ho, hb⟩; refine ⟨_, rfl, ?_⟩; obtain ⟨Al, cl, el⟩ := Kd.R_slice ho; subst el; have HL := AM (Kd.R_lower ho (below_size HB.out)); replace HB := AM (below_step HB.out hb); clear hb ho) | ((with_reducible refine gate_callee (f := 10) rfl ?_); refine gl_ (some 46) Try.func10 #[.int .i64 a0, .int .i64 a1, .slice Al l.length cl] ?_; (with_reducible refine (impl_Whole.calls k a0 a1 Al cl l b _ (Kd.R_reads' HL.out).2.2 (Kd.R_reads' HL.out).2.1 HWH.out).mono ?_); rintro e w3 ⟨rfl, hb⟩; refine ⟨_, rfl, ?_⟩; replace HL := AM (Kd.R_below HL.out hb); replace HB := AM (below_step HB.out hb); clear hb) | ((with_reducible refine gate_callee (f := 11) rfl ?_); refine gl_ (some 50) Try.func11 #[.int .i64 a0, .int .i64 a1, .slice Al l.length cl] ?_; (with_reducible refine (spec_Whole.calls k a0 a1 Al cl l b _ (Kd.R_reads' HL.out).2.2 (Kd.R_reads' HL.out).2.1 HSW.out).mono ?_); rintro e w4 ⟨rfl, hb⟩; refine ⟨_, rfl, ?_⟩; replace HB := AM (below_step HB.out hb); clear hb))
    go_ret
    exact ⟨by simp, HB.out⟩
set_option maxHeartbeats 4000000 in
set_option maxRecDepth 100000 in
theorem lw_main (k : Nat) (A0 : Option Addr) (c0 : Nat) (l0 : List Int) (A1 : Option Addr) (c1 : Nat) (l1 : List Int) (w : World) (hr0 : Kd.C (Kd.int .u8) w A0 l0.length l0) (hc0 : l0.length ≤ c0) (hr1 : Kd.C (Kd.int .u8) w A1 l1.length l1) (hc1 : l1.length ≤ c1) (a0 a1 : Int) (t : ByteArray) (l : List ByteArray) (cd i a q : Int) (h0 : ¬ (l0.length : Int) > 1048576) (h1 : ¬ (l1.length : Int) > 1048576) (hd : spec_DrawEncode.f k l0 = some (a0, a1, t)) (he : spec_Encode.f k a0 a1 t = some (l, cd)) (hq : ¬ (l.length = 0 ∨ a1 = 0 ∨ t.toList = [])) (hl : l.length ≤ 1000)
    (hi : laws_lwAt.f l1 0 (l.length : Int) = some i) (hi1 : 0 ≤ i ∧ i < (l.length : Int) ∧ (l.getD i.toNat ByteArray.empty).size ≤ 100000) (ha : laws_lwAt.f l1 1 ((l.getD i.toNat ByteArray.empty).size : Int) = some a) (ha1 : 0 ≤ a ∧ a < ((l.getD i.toNat ByteArray.empty).size : Int)) (hq2 : laws_lwAt.f l1 2 255 = some q) (hw : impl_Whole.f k a0 a1 l = some true) (hw2 : impl_Whole.f k a0 a1 (l.set i.toNat (strOfNums ((bytesOf (l.getD i.toNat ByteArray.empty)).set a.toNat (Go.bits .xor .u8 (rd (bytesOf (l.getD i.toNat ByteArray.empty)) a) ((wrap64 (1 + q)) % 256))))) = some false) :
    Calls Try.prog 3 #[.slice A0 l0.length c0, .slice A1 l1.length c1] w fun e w' => e = .returned (.bool true) ∧ Below w.heap.size w w' := by
  have hu := Try.underlying27
  have hfl : ∀ (x0 x1 : Value) (w : World), Sem.run Try.prog (Instr.field 27 (.agg #[x0, x1]) 0) w = .ok x0 w := by intro x0 x1 w; kernel_rfl
  have HR0 := AM hr0
  have HC0 := AM hc0
  have HR1 := AM hr1
  have HC1 := AM hc1
  have HB := AM (Below.refl w.heap.size w)
  have HD := AM hd
  have HE := AM he
  have HWH := AM hw
  have HQT := AM hq2
  have HIT := AM hi
  have HI0 := AM hi1.1
  have HIL := AM hi1.2.1
  have HA0 := AM ha1.1
  have HLL := AM hl
  have HLP : Aside0 (0 < l.length) := ⟨by omega⟩
  obtain ⟨s, hs⟩ : ∃ s, l.getD i.toNat ByteArray.empty = s := ⟨_, rfl⟩
  rw [hs] at hi1 ha ha1 hw2
  have HSZ := AM hi1.2.2
  obtain ⟨bs, hbs⟩ : ∃ bs, bytesOf s = bs := ⟨_, rfl⟩
  have hbl : bs.length = s.size := by rw [← hbs, bytesOf_length]
  rw [hbs] at hw2
  have HWN := AM hw2
  have HBS := AM hbs
  have HBL := AM hbl
  have HAT : Aside0 (laws_lwAt.f l1 1 (bs.length : Int) = some a) := ⟨by rw [hbl]; exact ha⟩
  have HAL : Aside0 (a < (bs.length : Int)) := ⟨by rw [hbl]; exact ha1.2⟩
  have HS := AM hs
  have y1 : decide (1048576 < (l0.length : Int)) = false := decide_eq_false (by omega)
  have y2 : decide (1048576 < l0.length) = false := decide_eq_false (by omega)
  have y3 : decide (1048576 < (l1.length : Int)) = false := decide_eq_false (by omega)
  have y4 : decide (1048576 < l1.length) = false := decide_eq_false (by omega)
  have e1 : ((l.length : Int) == 0) = false := by rw [beq_eq_false_iff_ne]; omega
  have e1b : (l.length == 0) = false := by rw [beq_eq_false_iff_ne]; omega
  have e2 : (a1 == 0) = false := by rw [beq_eq_false_iff_ne]; omega
  have e3 : t.toList.isEmpty = false := by
    rcases hx : t.toList with _ | ⟨x, y⟩
    · exact absurd (.inr (.inr hx)) hq
    · rfl
  have e3b : (t.toList == ([] : List UInt8)) = false := by
    rcases hx : t.toList with _ | ⟨x, y⟩
    · exact absurd (.inr (.inr hx)) hq
    · rfl
  clear hr0 hc0 hr1 hc1 hd he hq hl hi hi1 ha ha1 hq2 hw hw2 h0 h1 hs hbs hbl
  have p1 := eq_true HI0.out
  have q1 := eq_true HIL.out
  have p2 := eq_true HA0.out
  have q2 := eq_true HAL.out
  go_enter Try.func3, Try.ntmps3
  go_wp2_with (first | ((with_reducible refine gate_callee (f := 8) rfl ?_); refine gl_ (some 23) Try.func8 #[.slice A0 l0.length c0] ?_; (with_reducible refine (spec_DrawEncode.calls k A0 c0 l0 a0 a1 t _ (Kd.C_below HR0.out HB.out) HC0.out HD.out).mono ?_); rintro e w1 ⟨rfl, hb⟩; refine ⟨_, rfl, ?_⟩; replace HB := AM (below_step HB.out hb); clear hb) | ((with_reducible refine gate_callee (f := 9) rfl ?_); refine gl_ (some 30) Try.func9 #[.int .i64 a0, .int .i64 a1, .string t] ?_; (with_reducible refine (spec_Encode.calls k a0 a1 t l cd _ HE.out).mono ?_); rintro e w2 ⟨v30, rfl, ho, hb⟩; refine ⟨_, rfl, ?_⟩; obtain ⟨Al, cl, el⟩ := Kd.R_slice ho; subst el; have HL := AM (Kd.R_lower ho (below_size HB.out)); replace HB := AM (below_step HB.out hb); clear hb ho) | ((with_reducible refine gate_callee (f := 12) rfl ?_); refine gl_ (some 55) Try.func12 #[.slice A1 l1.length c1, .int .i64 0, .int .i64 (l.length : Int)] ?_; (with_reducible refine (laws_lwAt.calls A1 c1 l1 0 (l.length : Int) i _ (Kd.C_below HR1.out HB.out) HC1.out HIT.out).mono ?_); rintro e w3 ⟨rfl, hd⟩; refine ⟨_, rfl, ?_⟩; have hb := lw_drawn hd; clear hd; replace HL := AM (Kd.R_below HL.out hb); replace HB := AM (below_step HB.out hb); clear hb; obtain ⟨adl, el_, hxs⟩ := Kd.at_string (Kd.R_reads' HL.out).2.2 i HI0.out HIL.out; subst el_; rw [show rdOf ByteArray.empty l i = s from HS.out] at hxs))
  obtain ⟨v60, w5, hcv_, ho, hb⟩ := Km.conv_run (P := Try.prog) w3 5 9 22 s Try.underlying9 Try.underlying22 Try.underlying5 (by have := HSZ.out; omega) (d := Kd.int .u8) (ok := fun _ => True)
  rw [HBS.out] at ho
  rw [hcv_]
  simp only [Result.andThen]
  rw [Oper.upon_value]
  clear hcv_ hxs
  obtain ⟨gb, cb, eb, gb3, gbl⟩ := km_form ho (by have := HAL.out; have := HA0.out; omega)
  subst eb
  obtain ⟨n3, hn3⟩ : ∃ n, n = w3.heap.size := ⟨_, rfl⟩
  have HV := AM (Km.R_lower ho (below_size HB.out))
  replace HL := AM (Kd.R_below (Kd.R_mono (ok' := fun k => k < n3) (Kd.R_bound HL.out) (fun k hk => by rw [hn3]; exact hk.2.2.1)) hb)
  have GB3 : Aside0 (n3 ≤ gb) := ⟨by rw [hn3]; exact gb3⟩
  have GBW : Aside0 (w.heap.size ≤ gb) := ⟨Nat.le_trans (below_size HB.out) gb3⟩
  replace HB := AM (below_step HB.out hb)
  clear ho hb hn3 gb3 gbl
  go_wp2_with (first | ((with_reducible refine gate_callee (f := 12) rfl ?_); refine gl_ (some 64) Try.func12 #[.slice A1 l1.length c1, .int .i64 1, .int .i64 (bs.length : Int)] ?_; (with_reducible refine (laws_lwAt.calls A1 c1 l1 1 (bs.length : Int) a _ (Kd.C_below HR1.out HB.out) HC1.out HAT.out).mono ?_); rintro e w4 ⟨rfl, hd⟩; refine ⟨_, rfl, ?_⟩; have hb := lw_drawn hd; clear hd; replace HL := AM (Kd.R_below HL.out hb); replace HV := AM (Km.R_below HV.out hb); replace HB := AM (below_step HB.out hb); clear hb))
  replace HL := AM (Kd.R_drew HL.out)
  replace HV := AM (Km.R_drew HV.out)
  replace HB := AM (below_drew1 HB.out)
  have hx0 := (km_cell HV.out a HA0.out HAL.out).1
  refine start_ (n := 13) (S := fun w' => w'.cell? ⟨gb, a.toNat, none⟩ = some (.int .u8 (rd bs a))) (ds := [12]) #[false, false, false, false, false, false, false, false, false, false, false, false, false] (by kernel_rfl) rfl rfl hx0 (fun hHeld => ?_)
  refine with_tabW lw10.tab lw10.bits (fun HT_ HW_ => ?_)
  generalize hq_ : World.drew _ = w6 at HL HV HB hx0 hHeld ⊢
  clear hq_
  refine pu_ HT_ 0 (some 65) #[true, false, false, false, false, false, false, false, false, false, false, false, false] ?_
  refine pu_ HT_ 1 (some 66) #[true, true, false, false, false, false, false, false, false, false, false, false, false] ?_
  refine pu_ HT_ 2 (some 67) #[true, true, true, false, false, false, false, false, false, false, false, false, false] ?_
  refine pu_ HT_ 3 (some 68) #[true, true, true, true, false, false, false, false, false, false, false, false, false] ?_
  refine pu_ HT_ 6 (some 71) #[true, true, true, true, false, false, true, false, false, false, false, false, false] ?_
  refine pu_ HT_ 4 (some 69) #[true, true, true, true, true, false, true, false, false, false, false, false, false] ?_
  refine ta_ HT_ HW_ 5 (some 70) #[true, true, true, true, true, true, true, false, false, false, false, false, false] hHeld ?_
  refine on_ HT_ 7 (some 72) #[true, true, true, true, true, true, true, true, false, false, false, false, false] (fun K hK => ?_)
  refine go1_ Try.func12 #[.slice A1 l1.length c1, .int .i64 2, .int .i64 255] ?_
  refine (laws_lwAt.calls A1 c1 l1 2 255 q _ (Kd.C_below HR1.out HB.out) HC1.out HQT.out).mono ?_
  rintro e w7 ⟨rfl, hd⟩
  have hb := lw_drawn hd
  clear hd
  replace HL := AM (Kd.R_below HL.out hb)
  replace HV := AM (Km.R_below HV.out hb)
  replace HB := AM (below_step HB.out hb)
  clear hb
  obtain ⟨hx1, hf1⟩ := km_cell HV.out a HA0.out HAL.out
  refine ⟨_, rfl, ?_⟩
  refine hK.out _ _ hx1 (fun hHeld => ?_)
  clear hK K
  refine nm_ ?_
  refine pu_ HT_ 8 (some 73) #[true, true, true, true, true, true, true, true, true, false, false, false, false] ?_
  refine pu_ HT_ 9 (some 74) #[true, true, true, true, true, true, true, true, true, true, false, false, false] ?_
  refine pu_ HT_ 10 (some 75) #[true, true, true, true, true, true, true, true, true, true, true, false, false] ?_
  refine pu_ HT_ 11 (some 76) #[true, true, true, true, true, true, true, true, true, true, true, true, false] ?_
  refine last_ (i := 12) (N := none) #[true, true, true, true, true, true, true, true, true, true, true, true, true] rfl rfl (one_of HT_.out (by kernel_rfl)) (by decide) (fun K hK => ?_)
  refine sk_ ?_
  refine hK.out _ _ ?_
  clear hK K
  refine dn_ HT_ ?_
  replace HL := AM (Kd.R_far (p := ⟨gb, a.toNat, none⟩) HL.out (fun k hk => by have hk' : k < n3 := hk; have := GB3.out; show k ≠ gb; omega) (.int .u8 (Go.bits .xor .u8 (rd bs a) ((wrap64 (1 + q)) % 256))))
  replace HV := AM (km_put HV.out a HA0.out HAL.out (Go.bits .xor .u8 (rd bs a) ((wrap64 (1 + q)) % 256)))
  replace HB := AM (HB.out.setCell (p := ⟨gb, a.toNat, none⟩) GBW.out (.int .u8 (Go.bits .xor .u8 (rd bs a) ((wrap64 (1 + q)) % 256))))
  clear hHeld hx1 hf1
  rw [IntKind.wrap_u8]
  generalize hq_ : World.setCell w7 ⟨gb, a.toNat, none⟩ (.int .u8 (Go.bits .xor .u8 (rd bs a) ((wrap64 (1 + q)) % 256))) = w8 at HL HV HB ⊢
  clear hq_
  obtain ⟨n5, hn5⟩ : ∃ n, n = w8.heap.size := ⟨_, rfl⟩
  have N5 := AM hn5
  have G5 : Aside0 (gb < n5) := ⟨by obtain ⟨g', c', e', _, hlt⟩ := km_form HV.out (by rw [List.length_set]; have := HAL.out; have := HA0.out; omega); injection e' with e' _ _; injection e' with e'; injection e' with e'; rw [hn5, e']; exact hlt⟩
  have G35 : Aside0 (n3 ≤ n5) := ⟨by have := GB3.out; have := G5.out; omega⟩
  clear hn5
  go_wp2_with (first | ((with_reducible refine gate_dst (N := 77) rfl ?_); refine Kd.R_lit Kd.string _ 9 ?hgL1 (N := 77) ?hdL1 (xs := ([] : List ByteArray)) (inner := []) (ok := fun _ => True) (okp := fun _ => True) ?hrL1 ?hpL1 (fun _ hk => hk) trivial (Below.refl _ _) (Nat.le_refl _) (by simp) ?_; (case hdL1 => rfl); (case hgL1 => rfl); (case hrL1 => first | (go_simp; done) | (go_simp; rfl)); (case hpL1 => exact (Reps.none _ _)); intro v77 w9 ho hb hg_ hnew_; clear hg_ hnew_; have HU := AM (Kd.R_lower (Kd.R_mono (ok' := fun k_ => n5 ≤ k_) (Kd.R_bound ho) (fun k_ hk => by rw [N5.out]; exact hk.2.1)) (below_size HB.out)); have N9 : Aside0 (n5 ≤ w9.heap.size) := AM (by rw [N5.out]; exact below_size hb); replace HL := AM (Kd.R_below HL.out hb); replace HV := AM (Km.R_below HV.out hb); replace HB := AM (below_step HB.out hb); clear ho hb) | ((with_reducible refine gate_builtin (b := .append) (xs := #[.tmp 77, .tmp 78]) rfl ?_); at_builtin; refine Kd.R_append_rows Kd.string (w0 := w) w.heap.size rfl (.tmp 77) (.tmp 78) 25 9 (.string ⟨#[]⟩) 16 rfl Try.underlying25 info9 rfl (by decide) (by omega) v77 [] l _ _ _ (fun k_ => n5 ≤ k_) (fun _ => False) rfl rfl ?aO ?aR (fun _ _ h => h) (fun _ h => h.elim) ?aF ?aB ?aS ?aL ?_; (case aR => exact (Kd.R_reads' HL.out).2.2); (case aB => exact HB.out); (case aF => exact (fun k_ hk => Nat.le_trans N9.out hk)); (case aO => exact HU.out); (case aS => exact (below_size HB.out)); (case aL => have := HLL.out; simp only [List.length_nil]; omega); intro v79 w10 ho hb hg hat; have hno := HU.out.1; replace HL := AM (Kd.R_grown HL.out hg (fun k_ hk e => by have h1 := hno k_ e.symm; have hk' : k_ < n3 := hk; have := G35.out; omega)); replace HV := AM (km_step HV.out (fun k_ hk => hg.block k_ (by have hk2 : gb = k_ := (by simpa [Value.ownBlock] using hk); have := G5.out; have := N9.out; omega) (fun e => by have h1 := hno k_ e.symm; have hk2 : gb = k_ := (by simpa [Value.ownBlock] using hk); have := G5.out; omega))); replace HB := AM hb; rw [List.nil_append] at ho; replace HU := AM ho; clear ho hb hg hat hno; obtain ⟨gu, cu, eu, gub, gul, gcells, HGU⟩ := Kd.R_form HU.out (by have := HLP.out; omega); subst eu; have HGUB : Aside0 (w.heap.size ≤ gu) := AM gub; have HGU5 : Aside0 (n5 ≤ gu) := AM (HU.out.1 gu rfl); have hcv2 := Km.own_string (P := Try.prog) Try.underlying22 Try.underlying5 Try.underlying9 HV.out; obtain ⟨hxu, hfu⟩ := Kd.R_celln ByteArray.empty HU.out i HI0.out HIL.out; clear gub gul HGU))
  replace HL := AM (Kd.R_far (p := ⟨gu, i.toNat, none⟩) HL.out (fun k hk => by
    have hk' : k < n3 := hk
    have := G35.out
    have := HGU5.out
    show k ≠ gu
    omega) (.string (strOfNums (bs.set a.toNat (Go.bits .xor .u8 (rd bs a) ((wrap64 (1 + q)) % 256))))))
  replace HU := AM (Kd.R_putn HU.out i (strOfNums (bs.set a.toNat (Go.bits .xor .u8 (rd bs a) ((wrap64 (1 + q)) % 256)))))
  replace HB := AM (HB.out.setCell (p := ⟨gu, i.toNat, none⟩) HGUB.out (.string (strOfNums (bs.set a.toNat (Go.bits .xor .u8 (rd bs a) ((wrap64 (1 + q)) % 256))))))
  clear hcv2 hxu hfu HV
  generalize hq_ : World.setCell w10 ⟨gu, i.toNat, none⟩ (.string (strOfNums (bs.set a.toNat (Go.bits .xor .u8 (rd bs a) ((wrap64 (1 + q)) % 256))))) = w11 at HL HU HB ⊢
  clear hq_
  have HW2 : Aside0 (∀ W : World, Kd.C Kd.string W (some ⟨gu, 0, none⟩) (l.set i.toNat (strOfNums (bs.set a.toNat (Go.bits .xor .u8 (rd bs a) ((wrap64 (1 + q)) % 256))))).length (l.set i.toNat (strOfNums (bs.set a.toNat (Go.bits .xor .u8 (rd bs a) ((wrap64 (1 + q)) % 256))))) → Calls Try.prog 10 #[.int .i64 a0, .int .i64 a1, .slice (some ⟨gu, 0, none⟩) l.length cu] W fun e w' => e = .returned (.bool false) ∧ Below W.heap.size W w') := AM (fun W hC => by
    rw [(Kd.R_reads' HU.out).1]
    exact impl_Whole.calls k a0 a1 _ cu _ false W hC (by
      rw [← (Kd.R_reads' HU.out).1]
      exact (Kd.R_reads' HU.out).2.1) HWN.out)
  refine (impl_Whole.calls k a0 a1 (some adl) cl l true _ (Kd.R_reads' HL.out).2.2 (Kd.R_reads' HL.out).2.1 HWH.out).mono ?_
  rintro e w12 ⟨rfl, hb⟩
  replace HU := AM (Kd.R_below HU.out hb)
  replace HB := AM (below_step HB.out hb)
  clear hb HL
  go_wp2_with (first | (go_at_call 10; refine (HW2.out _ (Kd.R_reads' HU.out).2.2).mono ?_; rintro e w13 ⟨rfl, hb⟩; replace HB := AM (below_step HB.out hb); clear hb))
  go_ret
  exact ⟨rfl, HB.out⟩
theorem laws_FnWhole.calls (k : Nat) (A0 : Option Addr) (c0 : Nat) (l0 : List Int) (A1 : Option Addr) (c1 : Nat) (l1 : List Int) (r : Bool) (w : World) (hr0 : Kd.C (Kd.int .u8) w A0 l0.length l0) (hc0 : l0.length ≤ c0) (hr1 : Kd.C (Kd.int .u8) w A1 l1.length l1) (hc1 : l1.length ≤ c1) (h : laws_FnWhole.f k l0 l1 = some r) :
    Calls Try.prog 3 #[.slice A0 l0.length c0, .slice A1 l1.length c1] w fun e w' => e = .returned (.bool r) ∧ Below w.heap.size w w' := by
  have hfl27_0 : ∀ (x0 x1 : Value) (w : World), Sem.run Try.prog (Instr.field 27 (.agg #[x0, x1]) 0) w = .ok x0 w := by intro x0 x1 w; kernel_rfl
  unfold laws_FnWhole.f at h
  by_cases h0 : (l0.length : Int) > 1048576
  · rw [if_pos h0] at h
    obtain rfl := Option.some.inj h
    exact lw_long k A0 c0 l0 A1 c1 l1 w hr0 hc0 hr1 hc1 (.inl h0)
  rw [if_neg h0] at h
  by_cases h1 : (l1.length : Int) > 1048576
  · rw [if_pos h1] at h
    obtain rfl := Option.some.inj h
    exact lw_long k A0 c0 l0 A1 c1 l1 w hr0 hc0 hr1 hc1 (.inr ⟨h0, h1⟩)
  rw [if_neg h1] at h
  obtain ⟨⟨a0, a1, t⟩, hd, h⟩ := Option.bind_eq_some_iff.mp h
  obtain ⟨⟨l, cd⟩, he, h⟩ := Option.bind_eq_some_iff.mp h
  dsimp only at he h
  by_cases hl : l.length ≤ 1000
  case neg => rw [if_neg hl] at h; cases h
  rw [if_pos hl] at h
  by_cases hq : l.length = 0 ∨ a1 = 0 ∨ t.toList = []
  · rw [if_pos hq] at h
    obtain ⟨b, hw, h⟩ := Option.bind_eq_some_iff.mp h
    obtain ⟨c, hs, h⟩ := Option.bind_eq_some_iff.mp h
    by_cases e : b = c
    · rw [if_pos e] at h
      obtain rfl := Option.some.inj h
      subst e
      exact lw_same k A0 c0 l0 A1 c1 l1 w hr0 hc0 hr1 hc1 a0 a1 t l cd b h0 h1 hd he hq hw hs
    · rw [if_neg e] at h
      cases h
  · rw [if_neg hq] at h
    unfold lw_more at h
    obtain ⟨i, hi, h⟩ := Option.bind_eq_some_iff.mp h
    by_cases hi1 : 0 ≤ i ∧ i < (l.length : Int) ∧ (l.getD i.toNat ByteArray.empty).size ≤ 100000
    case neg => rw [if_neg hi1] at h; cases h
    rw [if_pos hi1] at h
    obtain ⟨a, ha, h⟩ := Option.bind_eq_some_iff.mp h
    by_cases ha1 : 0 ≤ a ∧ a < ((l.getD i.toNat ByteArray.empty).size : Int)
    case neg => rw [if_neg ha1] at h; cases h
    rw [if_pos ha1] at h
    obtain ⟨q, hq2, h⟩ := Option.bind_eq_some_iff.mp h
    obtain ⟨b, hw, h⟩ := Option.bind_eq_some_iff.mp h
    cases b
    case false => rw [if_neg (by decide)] at h; cases h
    rw [if_pos rfl] at h
    obtain ⟨c, hw2, h⟩ := Option.bind_eq_some_iff.mp h
    cases c
    case true => rw [if_pos rfl] at h; cases h
    rw [if_neg (by decide)] at h
    obtain rfl := Option.some.inj h
    exact lw_main k A0 c0 l0 A1 c1 l1 w hr0 hc0 hr1 hc1 a0 a1 t l cd i a q h0 h1 hd he hq hl hi hi1 ha ha1 hq2 hw hw2
def laws_FnWhole.Pure : Prop := ∀ (l0 : List Int) (l1 : List Int), l0.length ≤ maxLen → l0.length * 1 ≤ 140737488351232 → (∀ x ∈ l0, (Lit.int .u8 x).wf = true) → l1.length ≤ maxLen → l1.length * 1 ≤ 140737488351232 → (∀ x ∈ l1, (Lit.int .u8 x).wf = true) → ∃ k, laws_FnWhole.f k l0 l1 = some true
theorem laws_FnWhole.walk (P : laws_FnWhole.Pure) (a0 : Option Addr) (len0 cap0 : Nat) (z0 : List Int) (a1 : Option Addr) (len1 cap1 : Nat) (z1 : List Int) (w : World) (w0 : (a0 = none ∧ len0 = 0 ∧ cap0 = 0 ∧ z0 = []) ∨ ∃ x, a0 = some x ∧ len0 ≤ cap0 ∧ cap0 ≤ maxLen ∧ z0.length = cap0 ∧ (∀ i, i < z0.length → w.cell? (x.add i) = some (.int .u8 (z0.getD i 0))) ∧ ∀ n ∈ z0, (Lit.int .u8 n).wf = true) (y0 : len0 * 1 ≤ 140737488351232) (w1 : (a1 = none ∧ len1 = 0 ∧ cap1 = 0 ∧ z1 = []) ∨ ∃ x, a1 = some x ∧ len1 ≤ cap1 ∧ cap1 ≤ maxLen ∧ z1.length = cap1 ∧ (∀ i, i < z1.length → w.cell? (x.add i) = some (.int .u8 (z1.getD i 0))) ∧ ∀ n ∈ z1, (Lit.int .u8 n).wf = true) (y1 : len1 * 1 ≤ 140737488351232) :
    Calls Try.prog 3 #[.slice a0 len0 cap0, .slice a1 len1 cap1] w fun e w' => e = .returned (.bool true) ∧ Below w.heap.size w w' := by
  obtain ⟨l0, rfl, hr0, hm0, hw0, hc0⟩ := ReadsInt.ofRowC w0
  obtain ⟨l1, rfl, hr1, hm1, hw1, hc1⟩ := ReadsInt.ofRowC w1
  obtain ⟨k, h⟩ := P l0 l1 hm0 y0 hw0 hm1 y1 hw1
  refine (laws_FnWhole.calls k _ _ l0 _ _ l1 true w (Kd.C_of_reads (d := (0 : Int)) (h1 := fun _ => rfl) hr0) hc0 (Kd.C_of_reads (d := (0 : Int)) (h1 := fun _ => rfl) hr1) hc1 h).mono ?_
  rintro e w' ⟨rfl, hd⟩
  exact ⟨rfl, hd⟩
end lw

end Go.Proofs.Ytdbnajnelbebfaa.PFnWhole
