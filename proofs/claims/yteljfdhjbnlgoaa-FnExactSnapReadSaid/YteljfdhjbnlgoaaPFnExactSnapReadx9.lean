/- Functions of the law FnExactSnapRead: the print's, with walks of this session's own. No statement is proved here. -/
import Derived.WalkLawsBesides
-- A program of this session wrote this text: a changed copy of the kit print, with given functions.
import Derived.Test.YteljfdhjbnlgoaaPFnExactSnapReadx0
import Derived.Test.YteljfdhjbnlgoaaPFnExactSnapReadx7
import Derived.Test.YteljfdhjbnlgoaaPFnExactSnapReadx8
namespace Go.Proofs.Yteljfdhjbnlgoaa.PFnExactSnapRead
open Go.RowKit Go.Proofs.YteljfdhjbnlgoaaW.PrintWords Go.Proofs.YteljfdhjbnlgoaaW.PrintLast Go.Proofs.YteljfdhjbnlgoaaW.PrintMore
attribute [local go_sem] max2_int min2_int max_two min_two max_three min_three max_four min_four   -- for this text's walks alone
set_option linter.unusedVariables false
set_option linter.unusedSimpArgs false

/-! ### impl_reader_take: function 138 -/
def impl_reader_take.f (s0_0 : ByteArray) (s0_1 : Int) (s0_2 : Bool) (a1 : Int) : Option (ByteArray × ByteArray × Int × Bool) := if s0_2 = true then (some ((⟨#[]⟩ : ByteArray), s0_0, s0_1, true)) else ((impl_long.f s0_0).bind fun t151 => (if a1 > (wrap64 (t151 - s0_1)) then (some ((⟨#[]⟩ : ByteArray), s0_0, s0_1, true)) else (if 0 ≤ (wrap64 ((wrap64 (s0_1 + a1)) - a1)) then (if (wrap64 ((wrap64 (s0_1 + a1)) - a1)) ≤ (wrap64 (s0_1 + a1)) then (if (wrap64 (s0_1 + a1)) ≤ (s0_0.size : Int) then (some (s0_0.extract ((wrap64 ((wrap64 (s0_1 + a1)) - a1)) : Int).toNat ((wrap64 (s0_1 + a1)) : Int).toNat, s0_0, wrap64 (s0_1 + a1), s0_2)) else (none)) else (none)) else (none))))
set_option maxHeartbeats 8000000 in
set_option maxRecDepth 100000 in
theorem impl_reader_take.calls (g : Nat) (s0_0 : ByteArray) (s0_1 : Int) (s0_2 : Bool) (a1 : Int) (r1 : ByteArray) (r2 : ByteArray) (r3 : Int) (r4 : Bool) (w0 w : World) (hI : IsS153 w0 w g s0_0 s0_1 s0_2) (hB : Below w0.heap.size w0 w) (h : impl_reader_take.f s0_0 s0_1 s0_2 a1 = some (r1, r2, r3, r4)) :
  Calls Try.prog 138 #[.pointer (some ⟨g, 0, none⟩), .int .i64 a1] w fun e w' => e = .returned (.string r1) ∧ IsS153 w0 w' g r2 r3 r4 ∧ Below w0.heap.size w0 w' ∧ KeepBut w w' g none := by
 have HI0 := AM hI
 have HK := AM (KeepBut.refl w g none)
 have HL := AM hB.size
 clear hI
 have HW0 := AM hB.size
 have HB := AM hB
 clear hB
 have H : (if s0_2 = true then (some ((⟨#[]⟩ : ByteArray), s0_0, s0_1, true)) else ((impl_long.f s0_0).bind fun t151 => (if a1 > (wrap64 (t151 - s0_1)) then (some ((⟨#[]⟩ : ByteArray), s0_0, s0_1, true)) else (if 0 ≤ (wrap64 ((wrap64 (s0_1 + a1)) - a1)) then (if (wrap64 ((wrap64 (s0_1 + a1)) - a1)) ≤ (wrap64 (s0_1 + a1)) then (if (wrap64 (s0_1 + a1)) ≤ (s0_0.size : Int) then (some (s0_0.extract ((wrap64 ((wrap64 (s0_1 + a1)) - a1)) : Int).toNat ((wrap64 (s0_1 + a1)) : Int).toNat, s0_0, wrap64 (s0_1 + a1), s0_2)) else (none)) else (none)) else (none))))) = some (r1, r2, r3, r4) := h
 clear h
 by_cases c3 : s0_2 = true
 ·subst c3
  have H1 : (some ((⟨#[]⟩ : ByteArray), s0_0, s0_1, true)) = some (r1, r2, r3, r4) := by rw [if_pos rfl] at H; exact H
  clear H
  have H := H1
  clear H1
  simp only [Option.some.injEq, Prod.mk.injEq] at H
  obtain ⟨rfl, rfl, rfl, rfl⟩ := H
  obtain ⟨HGz4, hgz4⟩ := HI0.out
  have hcz4_0 := cellS153_0 HGz4
  have hcz4_1 := cellS153_1 HGz4
  have hcz4_2 := cellS153_2 HGz4
  have hfz4_0 := blk_frozen HGz4 0
  have hfz4_1 := blk_frozen HGz4 1
  have hfz4_2 := blk_frozen HGz4 2
  clear HGz4 hgz4
  go_enter Try.func138, Try.ntmps138
  go_wp2
  repeat (go_quiet (fail); try go_wp2)
  go_ret
  exact ⟨by first | rfl | (simp [errW_none, errW_some] <;> rfl) | (simp [*, errW_none, errW_some] <;> rfl), by repeat (first | (with_reducible first | exact HI0.out | apply IsS153.alloc | apply IsS153.drewN | apply IsS153.drew | apply IsS153.set_0 | apply IsS153.set_1 | apply IsS153.set_2) | exact HI0.out), by repeat (first | (with_reducible first | exact HB.out | apply Wa | apply Wn | apply Wd | refine Ws ?_ (IsS153.ge HI0.out)) | exact HB.out), by repeat (first | (with_reducible first | exact HK.out | apply KeepBut.set_ | apply keep_drewN | apply keep_drew | apply keep_alloc) | exact HK.out)⟩
 ·replace c3 := Bool.eq_false_iff.mpr c3
  subst c3
  have H1 : ((impl_long.f s0_0).bind fun t151 => (if a1 > (wrap64 (t151 - s0_1)) then (some ((⟨#[]⟩ : ByteArray), s0_0, s0_1, true)) else (if 0 ≤ (wrap64 ((wrap64 (s0_1 + a1)) - a1)) then (if (wrap64 ((wrap64 (s0_1 + a1)) - a1)) ≤ (wrap64 (s0_1 + a1)) then (if (wrap64 (s0_1 + a1)) ≤ (s0_0.size : Int) then (some (s0_0.extract ((wrap64 ((wrap64 (s0_1 + a1)) - a1)) : Int).toNat ((wrap64 (s0_1 + a1)) : Int).toNat, s0_0, wrap64 (s0_1 + a1), false)) else (none)) else (none)) else (none)))) = some (r1, r2, r3, r4) := by rw [if_neg (show ¬ (false = true) by decide)] at H; exact H
  clear H
  have H := H1
  clear H1
  replace H := Option.bind_eq_some_iff.mp H
  obtain ⟨t151, A50, H⟩ := H
  replace H : (if a1 > (wrap64 (t151 - s0_1)) then (some ((⟨#[]⟩ : ByteArray), s0_0, s0_1, true)) else (if 0 ≤ (wrap64 ((wrap64 (s0_1 + a1)) - a1)) then (if (wrap64 ((wrap64 (s0_1 + a1)) - a1)) ≤ (wrap64 (s0_1 + a1)) then (if (wrap64 (s0_1 + a1)) ≤ (s0_0.size : Int) then (some (s0_0.extract ((wrap64 ((wrap64 (s0_1 + a1)) - a1)) : Int).toNat ((wrap64 (s0_1 + a1)) : Int).toNat, s0_0, wrap64 (s0_1 + a1), false)) else (none)) else (none)) else (none))) = some (r1, r2, r3, r4) := H
  have A5 := AM A50
  clear A50
  by_cases c6 : a1 > (wrap64 (t151 - s0_1))
  ·rw [if_pos c6] at H
   have c6b0 : decide ((wrap64 (t151 - s0_1)) < a1) = true := decide_eq_true c6
   try have c6b9 : (decide (((t151 - s0_1)) < a1)) = true := (by have hw0 : wrap64 (t151 - s0_1) = t151 - s0_1 := (by unfold wrap64; omega); have z_ := c6b0; simp only [hw0] at z_; exact z_)
   clear c6
   simp only [Option.some.injEq, Prod.mk.injEq] at H
   obtain ⟨rfl, rfl, rfl, rfl⟩ := H
   obtain ⟨HGz7, hgz7⟩ := HI0.out
   have hcz7_0 := cellS153_0 HGz7
   have hcz7_1 := cellS153_1 HGz7
   have hcz7_2 := cellS153_2 HGz7
   have hfz7_0 := blk_frozen HGz7 0
   have hfz7_1 := blk_frozen HGz7 1
   have hfz7_2 := blk_frozen HGz7 2
   clear HGz7 hgz7
   go_enter Try.func138, Try.ntmps138
   go_wp2_with (first | (go_at_call 146; (with_reducible refine (impl_long.calls s0_0 t151 _ A5.out).mono ?_); rintro e w' ⟨rfl, ⟨nd, rfl⟩⟩; (try first | exact ⟨rfl, _, World.drewN_drewN _ _ _⟩ | exact ⟨rfl, _, Eq.trans (World.drewN_drewN _ _ _) (congrArg (World.drewN _) (Nat.add_assoc _ _ _))⟩)))
   repeat (go_quiet (first | (go_at_call 146; (with_reducible refine (impl_long.calls s0_0 t151 _ A5.out).mono ?_); rintro e w' ⟨rfl, ⟨nd, rfl⟩⟩; (try first | exact ⟨rfl, _, World.drewN_drewN _ _ _⟩ | exact ⟨rfl, _, Eq.trans (World.drewN_drewN _ _ _) (congrArg (World.drewN _) (Nat.add_assoc _ _ _))⟩))); try go_wp2_with (first | (go_at_call 146; (with_reducible refine (impl_long.calls s0_0 t151 _ A5.out).mono ?_); rintro e w' ⟨rfl, ⟨nd, rfl⟩⟩; (try first | exact ⟨rfl, _, World.drewN_drewN _ _ _⟩ | exact ⟨rfl, _, Eq.trans (World.drewN_drewN _ _ _) (congrArg (World.drewN _) (Nat.add_assoc _ _ _))⟩))))
   go_ret
   exact ⟨by first | rfl | (simp [errW_none, errW_some] <;> rfl) | (simp [*, errW_none, errW_some] <;> rfl), by repeat (first | (with_reducible first | exact HI0.out | apply IsS153.alloc | apply IsS153.drewN | apply IsS153.drew | apply IsS153.set_0 | apply IsS153.set_1 | apply IsS153.set_2) | exact HI0.out), by repeat (first | (with_reducible first | exact HB.out | apply Wa | apply Wn | apply Wd | refine Ws ?_ (IsS153.ge HI0.out)) | exact HB.out), by repeat (first | (with_reducible first | exact HK.out | apply KeepBut.set_ | apply keep_drewN | apply keep_drew | apply keep_alloc) | exact HK.out)⟩
  ·rw [if_neg c6] at H
   have c6b0 : decide ((wrap64 (t151 - s0_1)) < a1) = false := decide_eq_false c6
   try have c6b9 : (decide (((t151 - s0_1)) < a1)) = false := (by have hw0 : wrap64 (t151 - s0_1) = t151 - s0_1 := (by unfold wrap64; omega); have z_ := c6b0; simp only [hw0] at z_; exact z_)
   clear c6
   obtain ⟨ji8, hji8⟩ : ∃ j_ : Int, (wrap64 ((wrap64 (s0_1 + a1)) - a1)) = j_ := ⟨_, rfl⟩
   replace H : (if 0 ≤ (ji8) then (if (ji8) ≤ (wrap64 (s0_1 + a1)) then (if (wrap64 (s0_1 + a1)) ≤ (s0_0.size : Int) then (some (s0_0.extract ((ji8) : Int).toNat ((wrap64 (s0_1 + a1)) : Int).toNat, s0_0, wrap64 (s0_1 + a1), false)) else (none)) else (none)) else (none)) = some (r1, r2, r3, r4) := by first | (rw [hji8] at H; exact H) | (simp only [hji8] at H ⊢; exact H)
   (try rw [hji8] at A5)
   have hji8w : (IntKind.i64.wrap ((wrap64 (s0_1 + a1)) - a1)) = ji8 := (i64_w _).trans hji8
   by_cases c9 : 0 ≤ (ji8)
   ·rw [if_pos c9] at H
    have c9b0 := eq_true c9
    have c9b1 : decide (0 ≤ (ji8)) = true := decide_eq_true c9
    clear c9
    by_cases c10 : (ji8) ≤ (wrap64 (s0_1 + a1))
    ·rw [if_pos c10] at H
     have c10b0 := eq_true c10
     have c10b1 : decide ((ji8) ≤ (wrap64 (s0_1 + a1))) = true := decide_eq_true c10
     by_cases c11 : (wrap64 (s0_1 + a1)) ≤ (s0_0.size : Int)
     ·rw [if_pos c11] at H
      have c11b0 := eq_true c11
      have c11b1 : decide ((wrap64 (s0_1 + a1)) ≤ (s0_0.size : Int)) = true := decide_eq_true c11
      simp only [Option.some.injEq, Prod.mk.injEq] at H
      obtain ⟨rfl, rfl, rfl, rfl⟩ := H
      obtain ⟨HGz12, hgz12⟩ := HI0.out
      have hcz12_0 := cellS153_0 HGz12
      have hcz12_1 := cellS153_1 HGz12
      have hcz12_2 := cellS153_2 HGz12
      have hfz12_0 := blk_frozen HGz12 0
      have hfz12_1 := blk_frozen HGz12 1
      have hfz12_2 := blk_frozen HGz12 2
      clear HGz12 hgz12
      go_enter Try.func138, Try.ntmps138
      go_wp2_with (first | (go_at_call 146; (with_reducible refine (impl_long.calls s0_0 t151 _ A5.out).mono ?_); rintro e w' ⟨rfl, ⟨nd, rfl⟩⟩; (try first | exact ⟨rfl, _, World.drewN_drewN _ _ _⟩ | exact ⟨rfl, _, Eq.trans (World.drewN_drewN _ _ _) (congrArg (World.drewN _) (Nat.add_assoc _ _ _))⟩)))
      repeat (go_quiet (first | (go_at_call 146; (with_reducible refine (impl_long.calls s0_0 t151 _ A5.out).mono ?_); rintro e w' ⟨rfl, ⟨nd, rfl⟩⟩; (try first | exact ⟨rfl, _, World.drewN_drewN _ _ _⟩ | exact ⟨rfl, _, Eq.trans (World.drewN_drewN _ _ _) (congrArg (World.drewN _) (Nat.add_assoc _ _ _))⟩))); try go_wp2_with (first | (go_at_call 146; (with_reducible refine (impl_long.calls s0_0 t151 _ A5.out).mono ?_); rintro e w' ⟨rfl, ⟨nd, rfl⟩⟩; (try first | exact ⟨rfl, _, World.drewN_drewN _ _ _⟩ | exact ⟨rfl, _, Eq.trans (World.drewN_drewN _ _ _) (congrArg (World.drewN _) (Nat.add_assoc _ _ _))⟩))))
      go_ret
      exact ⟨by first | rfl | (simp [errW_none, errW_some] <;> rfl) | (simp only [← hji8]; first | rfl | (simp [errW_none, errW_some] <;> rfl)) | (simp [*, errW_none, errW_some] <;> rfl), by repeat (first | (with_reducible first | exact HI0.out | apply IsS153.alloc | apply IsS153.drewN | apply IsS153.drew | apply IsS153.set_0 | apply IsS153.set_1 | apply IsS153.set_2) | exact HI0.out), by repeat (first | (with_reducible first | exact HB.out | apply Wa | apply Wn | apply Wd | refine Ws ?_ (IsS153.ge HI0.out)) | exact HB.out), by repeat (first | (with_reducible first | exact HK.out | apply KeepBut.set_ | apply keep_drewN | apply keep_drew | apply keep_alloc) | exact HK.out)⟩
     ·rw [if_neg c11] at H
      exact absurd H (by simp)
    ·rw [if_neg c10] at H
     exact absurd H (by simp)
   ·rw [if_neg c9] at H
    exact absurd H (by simp)

/-! ### impl_within: function 143 -/
def impl_within.f (a0 : Int) (a1 : Int) (a2 : Int) : Option (Bool) := if a0 ≥ a1 then (some (decide (a0 ≤ a2))) else (some false)
set_option maxHeartbeats 8000000 in
set_option maxRecDepth 100000 in
theorem impl_within.calls (a0 : Int) (a1 : Int) (a2 : Int) (r : Bool) (w : World) (h : impl_within.f a0 a1 a2 = some r) :
  Calls Try.prog 143 #[.int .i64 a0, .int .i64 a1, .int .i64 a2] w fun e w' => e = .returned (.bool r) ∧ Drawn0 w w' := by
 have H : (if a0 ≥ a1 then (some (decide (a0 ≤ a2))) else (some false)) = some r := h
 clear h
 by_cases c4 : a0 ≥ a1
 ·rw [if_pos c4] at H
  have c4b0 : decide (a1 ≤ a0) = true := decide_eq_true c4
  clear c4
  obtain rfl := Option.some.inj H
  go_enter Try.func143, Try.ntmps143
  go_wp2
  go_ret
  exact ⟨by first | rfl | (simp; done) | (simp [*]; done), by repeat (first | exact Drawn0.refl _ | apply Drawn0.step)⟩
 ·rw [if_neg c4] at H
  have c4b0 : decide (a1 ≤ a0) = false := decide_eq_false c4
  clear c4
  obtain rfl := Option.some.inj H
  go_enter Try.func143, Try.ntmps143
  go_wp2
  go_ret
  exact ⟨by first | rfl | (simp; done) | (simp [*]; done), by repeat (first | exact Drawn0.refl _ | apply Drawn0.step)⟩

/-! ### impl_getText: function 94 -/
def impl_getText.f (k : Nat) (a0 : ByteArray) (a1 : Int) : Option (ByteArray × Int × Int) := (impl_getNum.f k a0 a1).bind fun bt153 => (if bt153.2.2 = 0 then ((impl_within.f bt153.1 0 20000).bind fun t157 => (if t157 = true then ((impl_long.f a0).bind fun t158 => (if (wrap64 (bt153.2.1 + bt153.1)) > t158 then (some ((⟨#[]⟩ : ByteArray), 0, 4)) else (if 0 ≤ bt153.2.1 then (if bt153.2.1 ≤ (wrap64 (bt153.2.1 + bt153.1)) then (if (wrap64 (bt153.2.1 + bt153.1)) ≤ (a0.size : Int) then (some (a0.extract (bt153.2.1 : Int).toNat ((wrap64 (bt153.2.1 + bt153.1)) : Int).toNat, wrap64 (bt153.2.1 + bt153.1), 0)) else (none)) else (none)) else (none)))) else (some ((⟨#[]⟩ : ByteArray), 0, 3)))) else (some ((⟨#[]⟩ : ByteArray), 0, bt153.2.2)))
theorem impl_getText.mono : ∀ a0 a1 k, LeO (impl_getText.f k a0 a1) (impl_getText.f (k + 1) a0 a1) := by
 intro a0 a1 k
 unfold impl_getText.f
 repeat' first
   | (with_reducible exact impl_getNum.mono _ _ _)
   | (with_reducible exact LeO.refl _)
   | (with_reducible exact LeO.none _)
   | (with_reducible refine LeO.ite ?_ ?_)
   | (with_reducible refine LeO.bind ?_ (fun _ => ?_))
   | exact impl_getNum.mono _ _ _
   | exact LeO.none _
   | refine LeO.ite ?_ ?_
   | refine LeO.bind ?_ (fun _ => ?_)
def impl_getText.T6 : Bool × List (List Nat × List Nat) := (true, [([], []), ([0], [0]), ([], []), ([2], [2]), ([1, 3], [1, 3]), ([], []), ([5], [5]), ([4, 6], [4, 6]), ([7, 6], [7])])
def impl_getText.B6 : List Nat := [0, 1, 0, 4, 15, 0, 32, 127, 255]
theorem impl_getText.tab6 : rtab .any (opsOf Try.f94 6) = impl_getText.T6 := by kernel_rfl
theorem impl_getText.bits6 : waitsOk impl_getText.T6.2 impl_getText.B6 = true := by kernel_rfl
def impl_getText.T8 : Bool × List (List Nat × List Nat) := (true, [([], []), ([], []), ([1], [1]), ([], []), ([3], [3]), ([], []), ([5], [5]), ([4, 6], [4, 6]), ([0, 2, 7], [0, 2, 7]), ([], []), ([9], [9]), ([], []), ([11], [11]), ([10, 12], [10, 12]), ([8, 13], [8, 13]), ([14, 0, 1, 2, 3, 4, 5, 6, 7, 8, 9, 10, 11, 12, 13, 14], [14])])
def impl_getText.B8 : List Nat := [0, 0, 2, 0, 8, 0, 32, 120, 255, 0, 512, 0, 2048, 7680, 16383, 32767]
theorem impl_getText.tab8 : rtab .any (opsOf Try.f94 8) = impl_getText.T8 := by kernel_rfl
theorem impl_getText.bits8 : waitsOk impl_getText.T8.2 impl_getText.B8 = true := by kernel_rfl
set_option maxHeartbeats 8000000 in
set_option maxRecDepth 100000 in
theorem impl_getText.calls (k : Nat) (a0 : ByteArray) (a1 : Int) (r1 : ByteArray) (r2 : Int) (r3 : Int) (w : World) (h : impl_getText.f k a0 a1 = some (r1, r2, r3)) :
  Calls Try.prog 94 #[.string a0, .int .i64 a1] w fun e w' => e = .returned (.agg #[.string r1, .int .i64 r2, .int .i64 r3]) ∧ Below w.heap.size w w' := by
 have hu30 := Try.underlying30
 have hu36 := Try.underlying36
 have HB := AM (Below.refl w.heap.size w)
 have H : ((impl_getNum.f k a0 a1).bind fun bt153 => (if bt153.2.2 = 0 then ((impl_within.f bt153.1 0 20000).bind fun t157 => (if t157 = true then ((impl_long.f a0).bind fun t158 => (if (wrap64 (bt153.2.1 + bt153.1)) > t158 then (some ((⟨#[]⟩ : ByteArray), 0, 4)) else (if 0 ≤ bt153.2.1 then (if bt153.2.1 ≤ (wrap64 (bt153.2.1 + bt153.1)) then (if (wrap64 (bt153.2.1 + bt153.1)) ≤ (a0.size : Int) then (some (a0.extract (bt153.2.1 : Int).toNat ((wrap64 (bt153.2.1 + bt153.1)) : Int).toNat, wrap64 (bt153.2.1 + bt153.1), 0)) else (none)) else (none)) else (none)))) else (some ((⟨#[]⟩ : ByteArray), 0, 3)))) else (some ((⟨#[]⟩ : ByteArray), 0, bt153.2.2)))) = some (r1, r2, r3) := h
 clear h
 replace H := Option.bind_eq_some_iff.mp H
 obtain ⟨⟨t153, t154, t155⟩, A30, H⟩ := H
 replace H : (if t155 = 0 then ((impl_within.f t153 0 20000).bind fun t157 => (if t157 = true then ((impl_long.f a0).bind fun t158 => (if (wrap64 (t154 + t153)) > t158 then (some ((⟨#[]⟩ : ByteArray), 0, 4)) else (if 0 ≤ t154 then (if t154 ≤ (wrap64 (t154 + t153)) then (if (wrap64 (t154 + t153)) ≤ (a0.size : Int) then (some (a0.extract (t154 : Int).toNat ((wrap64 (t154 + t153)) : Int).toNat, wrap64 (t154 + t153), 0)) else (none)) else (none)) else (none)))) else (some ((⟨#[]⟩ : ByteArray), 0, 3)))) else (some ((⟨#[]⟩ : ByteArray), 0, t155))) = some (r1, r2, r3) := H
 have A3 := AM A30
 clear A30
 by_cases c4 : t155 = 0
 ·rw [if_pos c4] at H
  have c4b0 : (t155 == 0) = true := beq_iff_eq.mpr c4
  have c4b1 : (t155 != 0) = false := bne_eq_false_iff_eq.mpr c4
  clear c4
  replace H := Option.bind_eq_some_iff.mp H
  obtain ⟨t157, A50, H⟩ := H
  replace H : (if t157 = true then ((impl_long.f a0).bind fun t158 => (if (wrap64 (t154 + t153)) > t158 then (some ((⟨#[]⟩ : ByteArray), 0, 4)) else (if 0 ≤ t154 then (if t154 ≤ (wrap64 (t154 + t153)) then (if (wrap64 (t154 + t153)) ≤ (a0.size : Int) then (some (a0.extract (t154 : Int).toNat ((wrap64 (t154 + t153)) : Int).toNat, wrap64 (t154 + t153), 0)) else (none)) else (none)) else (none)))) else (some ((⟨#[]⟩ : ByteArray), 0, 3))) = some (r1, r2, r3) := H
  have A5 := AM A50
  clear A50
  by_cases c6 : t157 = true
  ·subst c6
   have H1 : ((impl_long.f a0).bind fun t158 => (if (wrap64 (t154 + t153)) > t158 then (some ((⟨#[]⟩ : ByteArray), 0, 4)) else (if 0 ≤ t154 then (if t154 ≤ (wrap64 (t154 + t153)) then (if (wrap64 (t154 + t153)) ≤ (a0.size : Int) then (some (a0.extract (t154 : Int).toNat ((wrap64 (t154 + t153)) : Int).toNat, wrap64 (t154 + t153), 0)) else (none)) else (none)) else (none)))) = some (r1, r2, r3) := by rw [if_pos rfl] at H; exact H
   clear H
   have H := H1
   clear H1
   replace H := Option.bind_eq_some_iff.mp H
   obtain ⟨t158, A70, H⟩ := H
   replace H : (if (wrap64 (t154 + t153)) > t158 then (some ((⟨#[]⟩ : ByteArray), 0, 4)) else (if 0 ≤ t154 then (if t154 ≤ (wrap64 (t154 + t153)) then (if (wrap64 (t154 + t153)) ≤ (a0.size : Int) then (some (a0.extract (t154 : Int).toNat ((wrap64 (t154 + t153)) : Int).toNat, wrap64 (t154 + t153), 0)) else (none)) else (none)) else (none))) = some (r1, r2, r3) := H
   have A7 := AM A70
   clear A70
   by_cases c8 : (wrap64 (t154 + t153)) > t158
   ·rw [if_pos c8] at H
    have c8b0 : decide (t158 < (wrap64 (t154 + t153))) = true := decide_eq_true c8
    try have c8b9 : (decide (t158 < ((t154 + t153)))) = true := (by have hw0 : wrap64 (t154 + t153) = t154 + t153 := (by unfold wrap64; omega); have z_ := c8b0; simp only [hw0] at z_; exact z_)
    clear c8
    simp only [Option.some.injEq, Prod.mk.injEq] at H
    obtain ⟨rfl, rfl, rfl⟩ := H
    go_enter Try.func94, Try.ntmps94
    try go_wp2_with (first | ((with_reducible refine gate_dst (N := 4) rfl ?_); refine box_event ?hg (N := 4) ?hd (cs := #[.string (⟨#[]⟩ : ByteArray), .int .i64 0, .int .i64 0]) (t := 30) ?hr ?_; (case hd => rfl); (case hg => rfl); (case hr => first | (go_simp; done) | (go_simp; rfl)); intro gb152 hg w9 hbox hb; have n0_ := AM (below_step (by repeat (first | (with_reducible first | exact HB.out | apply Wa | apply Wn | apply Wd) | exact HB.out)) hb); have n1_ := AM (hbox); have n2_ := AM ((by rw [hg]; exact (below_size (by repeat (first | (with_reducible first | exact HB.out | apply Wa | apply Wn | apply Wd) | exact HB.out))) : w.heap.size ≤ gb152)); have n3_ := AM ((by rw [hg]; exact (below_size (by repeat (first | (with_reducible first | exact HB.out | apply Wa | apply Wn | apply Wd) | exact HB.out))) : w.heap.size ≤ gb152)); clear HB; have HB := n0_; have BK152 := n1_; have GW152 := n2_; have GE152 := n3_; clear n0_ n1_ n2_ n3_; clear hb hbox hg) | ((with_reducible refine gate_callee (f := 92) rfl ?_); refine goesL_ (some 8) rfl rfl Try.func92 (by kernel_rfl) rfl #[.string a0, .int .i64 a1] rfl (by (try simp only [List.map_toArray, List.map_cons, List.map_nil]); first | done | rfl | (simp only [List.length_drop, List.length_take]; rfl)) ?_; (with_reducible refine (impl_getNum.calls k a0 a1 t153 t154 t155 _ A3.out).mono ?_); rintro e w10 ⟨rfl, hb⟩; refine ⟨_, rfl, ?_⟩; have n0_ := AM (blk_below (g := gb152) (o := .cells #[.string (⟨#[]⟩ : ByteArray), .int .i64 0, .int .i64 0] 30 (0, 0)) (by (with_reducible repeat (first | refine Gn ?_ _ | refine Gd ?_ | refine Ga ?_ _)); exact BK152.out) hb); have n1_ := AM (below_step (by repeat (first | (with_reducible first | exact HB.out | apply Wa | apply Wn | apply Wd | refine Ws ?_ GE152.out) | exact HB.out)) hb); clear BK152; clear HB; have BK152 := n0_; have HB := n1_; clear n0_ n1_; (try clear hb); (try clear hb2); (try clear hk); (try clear hi)) | ((with_reducible refine gate_dst (N := 5) rfl ?_); refine box_event ?hg (N := 5) ?hd (cs := #[.int .i64 0, .int .i64 0, .int .i64 0]) (t := 36) ?hr ?_; (case hd => rfl); (case hg => rfl); (case hr => first | (go_simp; done) | (go_simp; rfl)); intro gb156 hg w11 hbox hb; have n0_ := AM (blk_below (g := gb152) (o := .cells #[.string (⟨#[]⟩ : ByteArray), .int .i64 0, .int .i64 0] 30 (0, 0)) (by (with_reducible repeat (first | refine Gn ?_ _ | refine Gd ?_ | refine Ga ?_ _)); exact BK152.out) hb); have n1_ := AM (below_step (by repeat (first | (with_reducible first | exact HB.out | apply Wa | apply Wn | apply Wd | refine Ws ?_ GE152.out) | exact HB.out)) hb); have n2_ := AM (hbox); have n3_ := AM ((by rw [hg]; exact (below_size (by repeat (first | (with_reducible first | exact HB.out | apply Wa | apply Wn | apply Wd | refine Ws ?_ GE152.out) | exact HB.out))) : w.heap.size ≤ gb156)); have n4_ := AM ((by rw [hg]; exact (below_size (by repeat (first | (with_reducible first | exact HB.out | apply Wa | apply Wn | apply Wd | refine Ws ?_ GE152.out) | exact HB.out))) : w.heap.size ≤ gb156)); have n5_ := AM ((by rw [hg]; exact Nat.ne_of_lt (blk_lt (g := gb152) (o := .cells #[.string (⟨#[]⟩ : ByteArray), .int .i64 0, .int .i64 0] 30 (0, 0)) (by (with_reducible repeat (first | refine Gn ?_ _ | refine Gd ?_ | refine Ga ?_ _)); exact BK152.out)) : gb152 ≠ gb156)); have n6_ := AM ((by rw [hg]; exact Nat.ne_of_gt (blk_lt (g := gb152) (o := .cells #[.string (⟨#[]⟩ : ByteArray), .int .i64 0, .int .i64 0] 30 (0, 0)) (by (with_reducible repeat (first | refine Gn ?_ _ | refine Gd ?_ | refine Ga ?_ _)); exact BK152.out)) : gb156 ≠ gb152)); clear BK152; clear HB; have BK152 := n0_; have HB := n1_; have BK156 := n2_; have GW156 := n3_; have GE156 := n4_; have NB152_156 := n5_; have NB156_152 := n6_; clear n0_ n1_ n2_ n3_ n4_ n5_ n6_; clear hb hbox hg; have hnb12 := NB156_152.out; have hnc12 := NB152_156.out; have hcz13_0 : w11.cell? ⟨gb156, 0, none⟩ = some (.int .i64 0) := (blk_cell BK156.out 0).trans rfl; have hcz13_1 : w11.cell? ⟨gb156, 1, none⟩ = some (.int .i64 0) := (blk_cell BK156.out 1).trans rfl; have hcz13_2 : w11.cell? ⟨gb156, 2, none⟩ = some (.int .i64 0) := (blk_cell BK156.out 2).trans rfl; have hfz13_0 := blk_frozen BK156.out 0; have hfz13_1 := blk_frozen BK156.out 1; have hfz13_2 := blk_frozen BK156.out 2) | ((with_reducible refine gate_callee (f := 143) rfl ?_); refine goesL_ (some 19) rfl rfl Try.func143 (by kernel_rfl) rfl #[.int .i64 t153, .int .i64 0, .int .i64 20000] rfl (by (try simp only [List.map_toArray, List.map_cons, List.map_nil]); first | done | rfl | (simp only [List.length_drop, List.length_take]; rfl)) ?_; (with_reducible refine (impl_within.calls t153 0 20000 true _ A5.out).mono ?_); rintro e w' ⟨rfl, ⟨nd, rfl⟩⟩; refine ⟨_, rfl, ?_⟩))
    have n0_ : Aside0 ((((w11.setCell ⟨gb156, 0, none⟩ (.int .i64 t153)).setCell ⟨gb156, 1, none⟩ (.int .i64 t154)).setCell ⟨gb156, 2, none⟩ (.int .i64 t155)).heap[gb152]? = some (.cells #[.string (⟨#[]⟩ : ByteArray), .int .i64 0, .int .i64 0] 30 (0, 0))) := ⟨by (with_reducible repeat (first | refine Gn ?_ _ | refine Gd ?_ | refine Ga ?_ _)); refine blk_far ?_ NB152_156.out _; (with_reducible repeat (first | refine Gn ?_ _ | refine Gd ?_ | refine Ga ?_ _)); refine blk_far ?_ NB152_156.out _; (with_reducible repeat (first | refine Gn ?_ _ | refine Gd ?_ | refine Ga ?_ _)); refine blk_far ?_ NB152_156.out _; (with_reducible repeat (first | refine Gn ?_ _ | refine Gd ?_ | refine Ga ?_ _)); exact BK152.out⟩
    have n1_ : Aside0 ((((w11.setCell ⟨gb156, 0, none⟩ (.int .i64 t153)).setCell ⟨gb156, 1, none⟩ (.int .i64 t154)).setCell ⟨gb156, 2, none⟩ (.int .i64 t155)).heap[gb156]? = some (.cells #[.int .i64 t153, .int .i64 t154, .int .i64 t155] 36 (0, 0))) := ⟨by (with_reducible repeat (first | refine Gn ?_ _ | refine Gd ?_ | refine Ga ?_ _)); refine blk_put (cs := #[.int .i64 t153, .int .i64 t154, .int .i64 0]) ?_ 2 _ rfl; (with_reducible repeat (first | refine Gn ?_ _ | refine Gd ?_ | refine Ga ?_ _)); refine blk_put (cs := #[.int .i64 t153, .int .i64 0, .int .i64 0]) ?_ 1 _ rfl; (with_reducible repeat (first | refine Gn ?_ _ | refine Gd ?_ | refine Ga ?_ _)); refine blk_put (cs := #[.int .i64 0, .int .i64 0, .int .i64 0]) ?_ 0 _ rfl; (with_reducible repeat (first | refine Gn ?_ _ | refine Gd ?_ | refine Ga ?_ _)); exact BK156.out⟩
    have n2_ : Aside0 (Below w.heap.size w (((w11.setCell ⟨gb156, 0, none⟩ (.int .i64 t153)).setCell ⟨gb156, 1, none⟩ (.int .i64 t154)).setCell ⟨gb156, 2, none⟩ (.int .i64 t155))) := ⟨by repeat (first | (with_reducible first | exact HB.out | apply Wa | apply Wn | apply Wd | refine Ws ?_ GE152.out | refine Ws ?_ GE156.out) | exact HB.out)⟩
    (try clear BK152)
    (try clear BK156)
    (try clear HB)
    generalize (((w11.setCell ⟨gb156, 0, none⟩ (.int .i64 t153)).setCell ⟨gb156, 1, none⟩ (.int .i64 t154)).setCell ⟨gb156, 2, none⟩ (.int .i64 t155)) = w14 at n0_ n1_ n2_ ⊢
    have BK152 := n0_
    have BK156 := n1_
    have HB := n2_
    clear n0_ n1_ n2_
    (try (rw [drewN_self w14]; generalize hq_ : World.drewN w14 _ = w14; have n0_ : Aside0 (w14.heap[gb152]? = some (.cells #[.string (⟨#[]⟩ : ByteArray), .int .i64 0, .int .i64 0] 30 (0, 0))) := ⟨by rw [← hq_]; exact (by (with_reducible repeat (first | refine Gn ?_ _ | refine Gd ?_ | refine Ga ?_ _)); exact BK152.out)⟩; have n1_ : Aside0 (w14.heap[gb156]? = some (.cells #[.int .i64 t153, .int .i64 t154, .int .i64 t155] 36 (0, 0))) := ⟨by rw [← hq_]; exact (by (with_reducible repeat (first | refine Gn ?_ _ | refine Gd ?_ | refine Ga ?_ _)); exact BK156.out)⟩; have n2_ : Aside0 (Below w.heap.size w w14) := ⟨by rw [← hq_]; exact (by repeat (first | (with_reducible first | exact HB.out | apply Wa | apply Wn | apply Wd | refine Ws ?_ GE152.out | refine Ws ?_ GE156.out) | exact HB.out))⟩; clear BK152 BK156 HB hq_; have BK152 := n0_; have BK156 := n1_; have HB := n2_; clear n0_ n1_ n2_))
    have n0_ := AM (Gd BK152.out)
    have n1_ := AM (Gd BK156.out)
    have n2_ := AM (Wd HB.out)
    clear BK152
    clear BK156
    clear HB
    have BK152 := n0_
    have BK156 := n1_
    have HB := n2_
    clear n0_ n1_ n2_
    refine start_ (n := 9) (S := fun w' => w'.cell? ⟨gb156, 0, none⟩ = some (.int .i64 t153) ∧ w'.cell? ⟨gb156, 1, none⟩ = some (.int .i64 t154) ∧ w'.cell? ⟨gb156, 2, none⟩ = some (.int .i64 t155)) (ds := []) #[O,O,O,O,O,O,O,O,O] (by kernel_rfl) rfl rfl ⟨(blk_cell BK156.out 0).trans rfl, (blk_cell BK156.out 1).trans rfl, (blk_cell BK156.out 2).trans rfl⟩ (fun hHeld => ?_); refine with_tabW impl_getText.tab6 impl_getText.bits6 (fun HT_ HW_ => ?_)
    generalize w14.drew = w15 at BK152 BK156 HB hHeld ⊢
    refine pure_ (i := 0) (N := some 23) (v := ?_) (a' := ?_) #[I,O,O,O,O,O,O,O,O] rfl rfl (any_of HT_.out (by kernel_rfl)) (fun _ _ _ h => h) (Or.inl ⟨by rfl, ?_⟩) ?_ ?_
    rotate_left
    ·intro w'
     go_simp
     with_reducible rfl
    rotate_left
    ·simp only [Act.put, Pa, List.set_cons_zero, List.set_cons_succ, i64_w, i32_w]
     rfl
    refine pure_ (i := 2) (N := some 25) (v := ?_) (a' := ?_) #[I,O,I,O,O,O,O,O,O] rfl rfl (any_of HT_.out (by kernel_rfl)) (fun _ _ _ h => h) (Or.inl ⟨by rfl, ?_⟩) ?_ ?_
    rotate_left
    ·intro w'
     go_simp
     with_reducible rfl
    rotate_left
    ·simp only [Act.put, Pa, List.set_cons_zero, List.set_cons_succ, i64_w, i32_w]
     rfl
    refine pure_ (i := 5) (N := some 28) (v := ?_) (a' := ?_) #[I,O,I,O,O,I,O,O,O] rfl rfl (any_of HT_.out (by kernel_rfl)) (fun _ _ _ h => h) (Or.inl ⟨by rfl, ?_⟩) ?_ ?_
    rotate_left
    ·intro w'
     go_simp
     with_reducible rfl
    rotate_left
    ·simp only [Act.put, Pa, List.set_cons_zero, List.set_cons_succ, i64_w, i32_w]
     rfl
    refine take_ (i := 1) (N := some 24) (v := ?_) (a' := ?_) #[I,I,I,O,O,I,O,O,O] rfl rfl (take_ofW HT_.out HW_.out (by kernel_rfl)) (fun _ _ _ h => h) (Or.inl ⟨by rfl, ?_⟩) hHeld ?_ ?_
    rotate_left
    ·rintro w' ⟨s0, s1, s2⟩
     go_simp
     with_reducible rfl
    rotate_left
    ·simp only [Act.put, Pa, List.set_cons_zero, List.set_cons_succ, i64_w, i32_w]
     rfl
    refine take_ (i := 3) (N := some 26) (v := ?_) (a' := ?_) #[I,I,I,I,O,I,O,O,O] rfl rfl (take_ofW HT_.out HW_.out (by kernel_rfl)) (fun _ _ _ h => h) (Or.inl ⟨by rfl, ?_⟩) hHeld ?_ ?_
    rotate_left
    ·rintro w' ⟨s0, s1, s2⟩
     go_simp
     with_reducible rfl
    rotate_left
    ·simp only [Act.put, Pa, List.set_cons_zero, List.set_cons_succ, i64_w, i32_w]
     rfl
    refine pure_ (i := 4) (N := some 27) (v := ?_) (a' := ?_) #[I,I,I,I,I,I,O,O,O] rfl rfl (any_of HT_.out (by kernel_rfl)) (fun _ _ _ h => h) (Or.inl ⟨by rfl, ?_⟩) ?_ ?_
    rotate_left
    ·intro w'
     go_simp
     with_reducible rfl
    rotate_left
    ·simp only [Act.put, Pa, List.set_cons_zero, List.set_cons_succ, i64_w, i32_w]
     rfl
    refine one_ (i := 6) (N := some 29) #[true, true, true, true, true, true, true, false, false] rfl rfl (one_of HT_.out (by kernel_rfl)) (by decide) (fun K hK => ?_)
    refine goes_ Try.func146 (by kernel_rfl) rfl #[.string a0] (by rfl) rfl rfl (by (try simp only [List.map_toArray, List.map_cons, List.map_nil]); first | done | rfl | (simp only [List.length_drop, List.length_take]; rfl)) ?_
    with_reducible refine (impl_long.calls a0 t158 _ A7.out).mono ?_
    rintro e w' ⟨rfl, ⟨nd, rfl⟩⟩
    refine ⟨_, rfl, ?_⟩
    refine hK.out _ _ ⟨(blk_cell BK156.out 0).trans rfl, (blk_cell BK156.out 1).trans rfl, (blk_cell BK156.out 2).trans rfl⟩ (fun hHeld => ?_)
    clear hK K
    refine norm_ (a' := ?_) ?_ ?_
    rotate_left
    ·show Act.put _ (some 29) _ = _
     simp only [Act.put, Pa, List.set_cons_zero, List.set_cons_succ, i64_w, i32_w]
     rfl
    refine pure_ (i := 7) (N := some 30) (v := ?_) (a' := ?_) #[I,I,I,I,I,I,I,I,O] rfl rfl (any_of HT_.out (by kernel_rfl)) (fun _ _ _ h => h) (Or.inl ⟨by rfl, ?_⟩) ?_ ?_
    rotate_left
    ·intro w'
     go_simp
     with_reducible rfl
    rotate_left
    ·simp only [Act.put, Pa, List.set_cons_zero, List.set_cons_succ, i64_w, i32_w]
     rfl
    refine pure_ (i := 8) (N := some 22) (v := ?_) (a' := ?_) #[I,I,I,I,I,I,I,I,I] rfl rfl (any_of HT_.out (by kernel_rfl)) (fun _ _ _ h => h) (Or.inl ⟨by rfl, ?_⟩) ?_ ?_
    rotate_left
    ·intro w'
     go_simp
     with_reducible rfl
    rotate_left
    ·simp only [Act.put, Pa, List.set_cons_zero, List.set_cons_succ, i64_w, i32_w]
     rfl
    refine done_ (done_of HT_.out (by kernel_rfl)) ?_
    have hcz16_0 : w15.cell? ⟨gb152, 0, none⟩ = some (.string (⟨#[]⟩ : ByteArray)) := (blk_cell BK152.out 0).trans rfl
    have hcz16_1 : w15.cell? ⟨gb152, 1, none⟩ = some (.int .i64 0) := (blk_cell BK152.out 1).trans rfl
    have hcz16_2 : w15.cell? ⟨gb152, 2, none⟩ = some (.int .i64 0) := (blk_cell BK152.out 2).trans rfl
    have hfz16_0 := blk_frozen BK152.out 0
    have hfz16_1 := blk_frozen BK152.out 1
    have hfz16_2 := blk_frozen BK152.out 2
    try go_wp2
    refine bodyPost_ret (results_cell_row rfl _ _ gb152 30 #[.string (⟨#[]⟩ : ByteArray), .int .i64 0, .int .i64 4] (0, 0) _ rfl (by (with_reducible repeat (first | refine Gn ?_ _ | refine Gd ?_ | refine Ga ?_ _)); refine blk_put (cs := #[.string (⟨#[]⟩ : ByteArray), .int .i64 0, .int .i64 0]) ?_ 2 _ rfl; (with_reducible repeat (first | refine Gn ?_ _ | refine Gd ?_ | refine Ga ?_ _)); refine blk_put (cs := #[.string (⟨#[]⟩ : ByteArray), .int .i64 0, .int .i64 0]) ?_ 1 _ rfl; (with_reducible repeat (first | refine Gn ?_ _ | refine Gd ?_ | refine Ga ?_ _)); refine blk_put (cs := #[.string (⟨#[]⟩ : ByteArray), .int .i64 0, .int .i64 0]) ?_ 0 _ rfl; (with_reducible repeat (first | refine Gn ?_ _ | refine Gd ?_ | refine Ga ?_ _)); exact BK152.out) Try.underlying30 rfl (by kernel_rfl)) rfl ?_
    exact ⟨by first | rfl | (simp [errW_none, errW_some] <;> rfl) | (simp [*, errW_none, errW_some] <;> rfl), by repeat (first | (with_reducible first | exact HB.out | apply Wa | apply Wn | apply Wd | refine Ws ?_ GE152.out | refine Ws ?_ GE156.out) | exact HB.out)⟩
   ·rw [if_neg c8] at H
    have c8b0 : decide (t158 < (wrap64 (t154 + t153))) = false := decide_eq_false c8
    try have c8b9 : (decide (t158 < ((t154 + t153)))) = false := (by have hw0 : wrap64 (t154 + t153) = t154 + t153 := (by unfold wrap64; omega); have z_ := c8b0; simp only [hw0] at z_; exact z_)
    clear c8
    by_cases c17 : 0 ≤ t154
    ·rw [if_pos c17] at H
     have c17b0 := eq_true c17
     have c17b1 : decide (0 ≤ t154) = true := decide_eq_true c17
     clear c17
     by_cases c18 : t154 ≤ (wrap64 (t154 + t153))
     ·rw [if_pos c18] at H
      have c18b0 := eq_true c18
      have c18b1 : decide (t154 ≤ (wrap64 (t154 + t153))) = true := decide_eq_true c18
      by_cases c19 : (wrap64 (t154 + t153)) ≤ (a0.size : Int)
      ·rw [if_pos c19] at H
       have c19b0 := eq_true c19
       have c19b1 : decide ((wrap64 (t154 + t153)) ≤ (a0.size : Int)) = true := decide_eq_true c19
       simp only [Option.some.injEq, Prod.mk.injEq] at H
       obtain ⟨rfl, rfl, rfl⟩ := H
       go_enter Try.func94, Try.ntmps94
       try go_wp2_with (first | ((with_reducible refine gate_dst (N := 4) rfl ?_); refine box_event ?hg (N := 4) ?hd (cs := #[.string (⟨#[]⟩ : ByteArray), .int .i64 0, .int .i64 0]) (t := 30) ?hr ?_; (case hd => rfl); (case hg => rfl); (case hr => first | (go_simp; done) | (go_simp; rfl)); intro gb152 hg w20 hbox hb; have n0_ := AM (below_step (by repeat (first | (with_reducible first | exact HB.out | apply Wa | apply Wn | apply Wd) | exact HB.out)) hb); have n1_ := AM (hbox); have n2_ := AM ((by rw [hg]; exact (below_size (by repeat (first | (with_reducible first | exact HB.out | apply Wa | apply Wn | apply Wd) | exact HB.out))) : w.heap.size ≤ gb152)); have n3_ := AM ((by rw [hg]; exact (below_size (by repeat (first | (with_reducible first | exact HB.out | apply Wa | apply Wn | apply Wd) | exact HB.out))) : w.heap.size ≤ gb152)); clear HB; have HB := n0_; have BK152 := n1_; have GW152 := n2_; have GE152 := n3_; clear n0_ n1_ n2_ n3_; clear hb hbox hg) | ((with_reducible refine gate_callee (f := 92) rfl ?_); refine goesL_ (some 8) rfl rfl Try.func92 (by kernel_rfl) rfl #[.string a0, .int .i64 a1] rfl (by (try simp only [List.map_toArray, List.map_cons, List.map_nil]); first | done | rfl | (simp only [List.length_drop, List.length_take]; rfl)) ?_; (with_reducible refine (impl_getNum.calls k a0 a1 t153 t154 t155 _ A3.out).mono ?_); rintro e w21 ⟨rfl, hb⟩; refine ⟨_, rfl, ?_⟩; have n0_ := AM (blk_below (g := gb152) (o := .cells #[.string (⟨#[]⟩ : ByteArray), .int .i64 0, .int .i64 0] 30 (0, 0)) (by (with_reducible repeat (first | refine Gn ?_ _ | refine Gd ?_ | refine Ga ?_ _)); exact BK152.out) hb); have n1_ := AM (below_step (by repeat (first | (with_reducible first | exact HB.out | apply Wa | apply Wn | apply Wd | refine Ws ?_ GE152.out) | exact HB.out)) hb); clear BK152; clear HB; have BK152 := n0_; have HB := n1_; clear n0_ n1_; (try clear hb); (try clear hb2); (try clear hk); (try clear hi)) | ((with_reducible refine gate_dst (N := 5) rfl ?_); refine box_event ?hg (N := 5) ?hd (cs := #[.int .i64 0, .int .i64 0, .int .i64 0]) (t := 36) ?hr ?_; (case hd => rfl); (case hg => rfl); (case hr => first | (go_simp; done) | (go_simp; rfl)); intro gb156 hg w22 hbox hb; have n0_ := AM (blk_below (g := gb152) (o := .cells #[.string (⟨#[]⟩ : ByteArray), .int .i64 0, .int .i64 0] 30 (0, 0)) (by (with_reducible repeat (first | refine Gn ?_ _ | refine Gd ?_ | refine Ga ?_ _)); exact BK152.out) hb); have n1_ := AM (below_step (by repeat (first | (with_reducible first | exact HB.out | apply Wa | apply Wn | apply Wd | refine Ws ?_ GE152.out) | exact HB.out)) hb); have n2_ := AM (hbox); have n3_ := AM ((by rw [hg]; exact (below_size (by repeat (first | (with_reducible first | exact HB.out | apply Wa | apply Wn | apply Wd | refine Ws ?_ GE152.out) | exact HB.out))) : w.heap.size ≤ gb156)); have n4_ := AM ((by rw [hg]; exact (below_size (by repeat (first | (with_reducible first | exact HB.out | apply Wa | apply Wn | apply Wd | refine Ws ?_ GE152.out) | exact HB.out))) : w.heap.size ≤ gb156)); have n5_ := AM ((by rw [hg]; exact Nat.ne_of_lt (blk_lt (g := gb152) (o := .cells #[.string (⟨#[]⟩ : ByteArray), .int .i64 0, .int .i64 0] 30 (0, 0)) (by (with_reducible repeat (first | refine Gn ?_ _ | refine Gd ?_ | refine Ga ?_ _)); exact BK152.out)) : gb152 ≠ gb156)); have n6_ := AM ((by rw [hg]; exact Nat.ne_of_gt (blk_lt (g := gb152) (o := .cells #[.string (⟨#[]⟩ : ByteArray), .int .i64 0, .int .i64 0] 30 (0, 0)) (by (with_reducible repeat (first | refine Gn ?_ _ | refine Gd ?_ | refine Ga ?_ _)); exact BK152.out)) : gb156 ≠ gb152)); clear BK152; clear HB; have BK152 := n0_; have HB := n1_; have BK156 := n2_; have GW156 := n3_; have GE156 := n4_; have NB152_156 := n5_; have NB156_152 := n6_; clear n0_ n1_ n2_ n3_ n4_ n5_ n6_; clear hb hbox hg; have hnb23 := NB156_152.out; have hnc23 := NB152_156.out; have hcz24_0 : w22.cell? ⟨gb156, 0, none⟩ = some (.int .i64 0) := (blk_cell BK156.out 0).trans rfl; have hcz24_1 : w22.cell? ⟨gb156, 1, none⟩ = some (.int .i64 0) := (blk_cell BK156.out 1).trans rfl; have hcz24_2 : w22.cell? ⟨gb156, 2, none⟩ = some (.int .i64 0) := (blk_cell BK156.out 2).trans rfl; have hfz24_0 := blk_frozen BK156.out 0; have hfz24_1 := blk_frozen BK156.out 1; have hfz24_2 := blk_frozen BK156.out 2) | ((with_reducible refine gate_callee (f := 143) rfl ?_); refine goesL_ (some 19) rfl rfl Try.func143 (by kernel_rfl) rfl #[.int .i64 t153, .int .i64 0, .int .i64 20000] rfl (by (try simp only [List.map_toArray, List.map_cons, List.map_nil]); first | done | rfl | (simp only [List.length_drop, List.length_take]; rfl)) ?_; (with_reducible refine (impl_within.calls t153 0 20000 true _ A5.out).mono ?_); rintro e w' ⟨rfl, ⟨nd, rfl⟩⟩; refine ⟨_, rfl, ?_⟩))
       have n0_ : Aside0 ((((w22.setCell ⟨gb156, 0, none⟩ (.int .i64 t153)).setCell ⟨gb156, 1, none⟩ (.int .i64 t154)).setCell ⟨gb156, 2, none⟩ (.int .i64 t155)).heap[gb152]? = some (.cells #[.string (⟨#[]⟩ : ByteArray), .int .i64 0, .int .i64 0] 30 (0, 0))) := ⟨by (with_reducible repeat (first | refine Gn ?_ _ | refine Gd ?_ | refine Ga ?_ _)); refine blk_far ?_ NB152_156.out _; (with_reducible repeat (first | refine Gn ?_ _ | refine Gd ?_ | refine Ga ?_ _)); refine blk_far ?_ NB152_156.out _; (with_reducible repeat (first | refine Gn ?_ _ | refine Gd ?_ | refine Ga ?_ _)); refine blk_far ?_ NB152_156.out _; (with_reducible repeat (first | refine Gn ?_ _ | refine Gd ?_ | refine Ga ?_ _)); exact BK152.out⟩
       have n1_ : Aside0 ((((w22.setCell ⟨gb156, 0, none⟩ (.int .i64 t153)).setCell ⟨gb156, 1, none⟩ (.int .i64 t154)).setCell ⟨gb156, 2, none⟩ (.int .i64 t155)).heap[gb156]? = some (.cells #[.int .i64 t153, .int .i64 t154, .int .i64 t155] 36 (0, 0))) := ⟨by (with_reducible repeat (first | refine Gn ?_ _ | refine Gd ?_ | refine Ga ?_ _)); refine blk_put (cs := #[.int .i64 t153, .int .i64 t154, .int .i64 0]) ?_ 2 _ rfl; (with_reducible repeat (first | refine Gn ?_ _ | refine Gd ?_ | refine Ga ?_ _)); refine blk_put (cs := #[.int .i64 t153, .int .i64 0, .int .i64 0]) ?_ 1 _ rfl; (with_reducible repeat (first | refine Gn ?_ _ | refine Gd ?_ | refine Ga ?_ _)); refine blk_put (cs := #[.int .i64 0, .int .i64 0, .int .i64 0]) ?_ 0 _ rfl; (with_reducible repeat (first | refine Gn ?_ _ | refine Gd ?_ | refine Ga ?_ _)); exact BK156.out⟩
       have n2_ : Aside0 (Below w.heap.size w (((w22.setCell ⟨gb156, 0, none⟩ (.int .i64 t153)).setCell ⟨gb156, 1, none⟩ (.int .i64 t154)).setCell ⟨gb156, 2, none⟩ (.int .i64 t155))) := ⟨by repeat (first | (with_reducible first | exact HB.out | apply Wa | apply Wn | apply Wd | refine Ws ?_ GE152.out | refine Ws ?_ GE156.out) | exact HB.out)⟩
       (try clear BK152)
       (try clear BK156)
       (try clear HB)
       generalize (((w22.setCell ⟨gb156, 0, none⟩ (.int .i64 t153)).setCell ⟨gb156, 1, none⟩ (.int .i64 t154)).setCell ⟨gb156, 2, none⟩ (.int .i64 t155)) = w25 at n0_ n1_ n2_ ⊢
       have BK152 := n0_
       have BK156 := n1_
       have HB := n2_
       clear n0_ n1_ n2_
       (try (rw [drewN_self w25]; generalize hq_ : World.drewN w25 _ = w25; have n0_ : Aside0 (w25.heap[gb152]? = some (.cells #[.string (⟨#[]⟩ : ByteArray), .int .i64 0, .int .i64 0] 30 (0, 0))) := ⟨by rw [← hq_]; exact (by (with_reducible repeat (first | refine Gn ?_ _ | refine Gd ?_ | refine Ga ?_ _)); exact BK152.out)⟩; have n1_ : Aside0 (w25.heap[gb156]? = some (.cells #[.int .i64 t153, .int .i64 t154, .int .i64 t155] 36 (0, 0))) := ⟨by rw [← hq_]; exact (by (with_reducible repeat (first | refine Gn ?_ _ | refine Gd ?_ | refine Ga ?_ _)); exact BK156.out)⟩; have n2_ : Aside0 (Below w.heap.size w w25) := ⟨by rw [← hq_]; exact (by repeat (first | (with_reducible first | exact HB.out | apply Wa | apply Wn | apply Wd | refine Ws ?_ GE152.out | refine Ws ?_ GE156.out) | exact HB.out))⟩; clear BK152 BK156 HB hq_; have BK152 := n0_; have BK156 := n1_; have HB := n2_; clear n0_ n1_ n2_))
       have n0_ := AM (Gd BK152.out)
       have n1_ := AM (Gd BK156.out)
       have n2_ := AM (Wd HB.out)
       clear BK152
       clear BK156
       clear HB
       have BK152 := n0_
       have BK156 := n1_
       have HB := n2_
       clear n0_ n1_ n2_
       refine start_ (n := 9) (S := fun w' => w'.cell? ⟨gb156, 0, none⟩ = some (.int .i64 t153) ∧ w'.cell? ⟨gb156, 1, none⟩ = some (.int .i64 t154) ∧ w'.cell? ⟨gb156, 2, none⟩ = some (.int .i64 t155)) (ds := []) #[O,O,O,O,O,O,O,O,O] (by kernel_rfl) rfl rfl ⟨(blk_cell BK156.out 0).trans rfl, (blk_cell BK156.out 1).trans rfl, (blk_cell BK156.out 2).trans rfl⟩ (fun hHeld => ?_); refine with_tabW impl_getText.tab6 impl_getText.bits6 (fun HT_ HW_ => ?_)
       generalize w25.drew = w26 at BK152 BK156 HB hHeld ⊢
       refine pure_ (i := 0) (N := some 23) (v := ?_) (a' := ?_) #[I,O,O,O,O,O,O,O,O] rfl rfl (any_of HT_.out (by kernel_rfl)) (fun _ _ _ h => h) (Or.inl ⟨by rfl, ?_⟩) ?_ ?_
       rotate_left
       ·intro w'
        go_simp
        with_reducible rfl
       rotate_left
       ·simp only [Act.put, Pa, List.set_cons_zero, List.set_cons_succ, i64_w, i32_w]
        rfl
       refine pure_ (i := 2) (N := some 25) (v := ?_) (a' := ?_) #[I,O,I,O,O,O,O,O,O] rfl rfl (any_of HT_.out (by kernel_rfl)) (fun _ _ _ h => h) (Or.inl ⟨by rfl, ?_⟩) ?_ ?_
       rotate_left
       ·intro w'
        go_simp
        with_reducible rfl
       rotate_left
       ·simp only [Act.put, Pa, List.set_cons_zero, List.set_cons_succ, i64_w, i32_w]
        rfl
       refine pure_ (i := 5) (N := some 28) (v := ?_) (a' := ?_) #[I,O,I,O,O,I,O,O,O] rfl rfl (any_of HT_.out (by kernel_rfl)) (fun _ _ _ h => h) (Or.inl ⟨by rfl, ?_⟩) ?_ ?_
       rotate_left
       ·intro w'
        go_simp
        with_reducible rfl
       rotate_left
       ·simp only [Act.put, Pa, List.set_cons_zero, List.set_cons_succ, i64_w, i32_w]
        rfl
       refine take_ (i := 1) (N := some 24) (v := ?_) (a' := ?_) #[I,I,I,O,O,I,O,O,O] rfl rfl (take_ofW HT_.out HW_.out (by kernel_rfl)) (fun _ _ _ h => h) (Or.inl ⟨by rfl, ?_⟩) hHeld ?_ ?_
       rotate_left
       ·rintro w' ⟨s0, s1, s2⟩
        go_simp
        with_reducible rfl
       rotate_left
       ·simp only [Act.put, Pa, List.set_cons_zero, List.set_cons_succ, i64_w, i32_w]
        rfl
       refine take_ (i := 3) (N := some 26) (v := ?_) (a' := ?_) #[I,I,I,I,O,I,O,O,O] rfl rfl (take_ofW HT_.out HW_.out (by kernel_rfl)) (fun _ _ _ h => h) (Or.inl ⟨by rfl, ?_⟩) hHeld ?_ ?_
       rotate_left
       ·rintro w' ⟨s0, s1, s2⟩
        go_simp
        with_reducible rfl
       rotate_left
       ·simp only [Act.put, Pa, List.set_cons_zero, List.set_cons_succ, i64_w, i32_w]
        rfl
       refine pure_ (i := 4) (N := some 27) (v := ?_) (a' := ?_) #[I,I,I,I,I,I,O,O,O] rfl rfl (any_of HT_.out (by kernel_rfl)) (fun _ _ _ h => h) (Or.inl ⟨by rfl, ?_⟩) ?_ ?_
       rotate_left
       ·intro w'
        go_simp
        with_reducible rfl
       rotate_left
       ·simp only [Act.put, Pa, List.set_cons_zero, List.set_cons_succ, i64_w, i32_w]
        rfl
       refine one_ (i := 6) (N := some 29) #[true, true, true, true, true, true, true, false, false] rfl rfl (one_of HT_.out (by kernel_rfl)) (by decide) (fun K hK => ?_)
       refine goes_ Try.func146 (by kernel_rfl) rfl #[.string a0] (by rfl) rfl rfl (by (try simp only [List.map_toArray, List.map_cons, List.map_nil]); first | done | rfl | (simp only [List.length_drop, List.length_take]; rfl)) ?_
       with_reducible refine (impl_long.calls a0 t158 _ A7.out).mono ?_
       rintro e w' ⟨rfl, ⟨nd, rfl⟩⟩
       refine ⟨_, rfl, ?_⟩
       refine hK.out _ _ ⟨(blk_cell BK156.out 0).trans rfl, (blk_cell BK156.out 1).trans rfl, (blk_cell BK156.out 2).trans rfl⟩ (fun hHeld => ?_)
       clear hK K
       refine norm_ (a' := ?_) ?_ ?_
       rotate_left
       ·show Act.put _ (some 29) _ = _
        simp only [Act.put, Pa, List.set_cons_zero, List.set_cons_succ, i64_w, i32_w]
        rfl
       refine pure_ (i := 7) (N := some 30) (v := ?_) (a' := ?_) #[I,I,I,I,I,I,I,I,O] rfl rfl (any_of HT_.out (by kernel_rfl)) (fun _ _ _ h => h) (Or.inl ⟨by rfl, ?_⟩) ?_ ?_
       rotate_left
       ·intro w'
        go_simp
        with_reducible rfl
       rotate_left
       ·simp only [Act.put, Pa, List.set_cons_zero, List.set_cons_succ, i64_w, i32_w]
        rfl
       refine pure_ (i := 8) (N := some 22) (v := ?_) (a' := ?_) #[I,I,I,I,I,I,I,I,I] rfl rfl (any_of HT_.out (by kernel_rfl)) (fun _ _ _ h => h) (Or.inl ⟨by rfl, ?_⟩) ?_ ?_
       rotate_left
       ·intro w'
        go_simp
        with_reducible rfl
       rotate_left
       ·simp only [Act.put, Pa, List.set_cons_zero, List.set_cons_succ, i64_w, i32_w]
        rfl
       refine done_ (done_of HT_.out (by kernel_rfl)) ?_
       try go_wp2
       (try (rw [drewN_self w26]; generalize hq_ : World.drewN w26 _ = w26; have n0_ : Aside0 (w26.heap[gb152]? = some (.cells #[.string (⟨#[]⟩ : ByteArray), .int .i64 0, .int .i64 0] 30 (0, 0))) := ⟨by rw [← hq_]; exact (by (with_reducible repeat (first | refine Gn ?_ _ | refine Gd ?_ | refine Ga ?_ _)); exact BK152.out)⟩; have n1_ : Aside0 (w26.heap[gb156]? = some (.cells #[.int .i64 t153, .int .i64 t154, .int .i64 t155] 36 (0, 0))) := ⟨by rw [← hq_]; exact (by (with_reducible repeat (first | refine Gn ?_ _ | refine Gd ?_ | refine Ga ?_ _)); exact BK156.out)⟩; have n2_ : Aside0 (Below w.heap.size w w26) := ⟨by rw [← hq_]; exact (by repeat (first | (with_reducible first | exact HB.out | apply Wa | apply Wn | apply Wd | refine Ws ?_ GE152.out | refine Ws ?_ GE156.out) | exact HB.out))⟩; clear BK152 BK156 HB hq_; have BK152 := n0_; have BK156 := n1_; have HB := n2_; clear n0_ n1_ n2_))
       have n0_ := AM (Gd BK152.out)
       have n1_ := AM (Gd BK156.out)
       have n2_ := AM (Wd HB.out)
       clear BK152
       clear BK156
       clear HB
       have BK152 := n0_
       have BK156 := n1_
       have HB := n2_
       clear n0_ n1_ n2_
       refine start_ (n := 16) (S := fun w' => w'.cell? ⟨gb156, 0, none⟩ = some (.int .i64 t153) ∧ w'.cell? ⟨gb156, 1, none⟩ = some (.int .i64 t154) ∧ w'.cell? ⟨gb156, 2, none⟩ = some (.int .i64 t155)) (ds := []) #[O,O,O,O,O,O,O,O,O,O,O,O,O,O,O,O] (by kernel_rfl) rfl rfl ⟨(blk_cell BK156.out 0).trans rfl, (blk_cell BK156.out 1).trans rfl, (blk_cell BK156.out 2).trans rfl⟩ (fun hHeld => ?_); refine with_tabW impl_getText.tab8 impl_getText.bits8 (fun HT_ HW_ => ?_)
       generalize w26.drew = w27 at BK152 BK156 HB hHeld ⊢
       refine pure_ (i := 0) (N := some 32) (v := ?_) (a' := ?_) #[I,O,O,O,O,O,O,O,O,O,O,O,O,O,O,O] rfl rfl (any_of HT_.out (by kernel_rfl)) (fun _ _ _ h => h) (Or.inl ⟨by rfl, ?_⟩) ?_ ?_
       rotate_left
       ·intro w'
        go_simp
        with_reducible rfl
       rotate_left
       ·simp only [Act.put, Pa, List.set_cons_zero, List.set_cons_succ, i64_w, i32_w]
        rfl
       refine pure_ (i := 1) (N := some 33) (v := ?_) (a' := ?_) #[I,I,O,O,O,O,O,O,O,O,O,O,O,O,O,O] rfl rfl (any_of HT_.out (by kernel_rfl)) (fun _ _ _ h => h) (Or.inl ⟨by rfl, ?_⟩) ?_ ?_
       rotate_left
       ·intro w'
        go_simp
        with_reducible rfl
       rotate_left
       ·simp only [Act.put, Pa, List.set_cons_zero, List.set_cons_succ, i64_w, i32_w]
        rfl
       refine pure_ (i := 3) (N := some 35) (v := ?_) (a' := ?_) #[I,I,O,I,O,O,O,O,O,O,O,O,O,O,O,O] rfl rfl (any_of HT_.out (by kernel_rfl)) (fun _ _ _ h => h) (Or.inl ⟨by rfl, ?_⟩) ?_ ?_
       rotate_left
       ·intro w'
        go_simp
        with_reducible rfl
       rotate_left
       ·simp only [Act.put, Pa, List.set_cons_zero, List.set_cons_succ, i64_w, i32_w]
        rfl
       refine pure_ (i := 5) (N := some 37) (v := ?_) (a' := ?_) #[I,I,O,I,O,I,O,O,O,O,O,O,O,O,O,O] rfl rfl (any_of HT_.out (by kernel_rfl)) (fun _ _ _ h => h) (Or.inl ⟨by rfl, ?_⟩) ?_ ?_
       rotate_left
       ·intro w'
        go_simp
        with_reducible rfl
       rotate_left
       ·simp only [Act.put, Pa, List.set_cons_zero, List.set_cons_succ, i64_w, i32_w]
        rfl
       refine pure_ (i := 9) (N := some 41) (v := ?_) (a' := ?_) #[I,I,O,I,O,I,O,O,O,I,O,O,O,O,O,O] rfl rfl (any_of HT_.out (by kernel_rfl)) (fun _ _ _ h => h) (Or.inl ⟨by rfl, ?_⟩) ?_ ?_
       rotate_left
       ·intro w'
        go_simp
        with_reducible rfl
       rotate_left
       ·simp only [Act.put, Pa, List.set_cons_zero, List.set_cons_succ, i64_w, i32_w]
        rfl
       refine pure_ (i := 11) (N := some 43) (v := ?_) (a' := ?_) #[I,I,O,I,O,I,O,O,O,I,O,I,O,O,O,O] rfl rfl (any_of HT_.out (by kernel_rfl)) (fun _ _ _ h => h) (Or.inl ⟨by rfl, ?_⟩) ?_ ?_
       rotate_left
       ·intro w'
        go_simp
        with_reducible rfl
       rotate_left
       ·simp only [Act.put, Pa, List.set_cons_zero, List.set_cons_succ, i64_w, i32_w]
        rfl
       refine take_ (i := 2) (N := some 34) (v := ?_) (a' := ?_) #[I,I,I,I,O,I,O,O,O,I,O,I,O,O,O,O] rfl rfl (take_ofW HT_.out HW_.out (by kernel_rfl)) (fun _ _ _ h => h) (Or.inl ⟨by rfl, ?_⟩) hHeld ?_ ?_
       rotate_left
       ·rintro w' ⟨s0, s1, s2⟩
        go_simp
        with_reducible rfl
       rotate_left
       ·simp only [Act.put, Pa, List.set_cons_zero, List.set_cons_succ, i64_w, i32_w]
        rfl
       refine take_ (i := 4) (N := some 36) (v := ?_) (a' := ?_) #[I,I,I,I,I,I,O,O,O,I,O,I,O,O,O,O] rfl rfl (take_ofW HT_.out HW_.out (by kernel_rfl)) (fun _ _ _ h => h) (Or.inl ⟨by rfl, ?_⟩) hHeld ?_ ?_
       rotate_left
       ·rintro w' ⟨s0, s1, s2⟩
        go_simp
        with_reducible rfl
       rotate_left
       ·simp only [Act.put, Pa, List.set_cons_zero, List.set_cons_succ, i64_w, i32_w]
        rfl
       refine take_ (i := 6) (N := some 38) (v := ?_) (a' := ?_) #[I,I,I,I,I,I,I,O,O,I,O,I,O,O,O,O] rfl rfl (take_ofW HT_.out HW_.out (by kernel_rfl)) (fun _ _ _ h => h) (Or.inl ⟨by rfl, ?_⟩) hHeld ?_ ?_
       rotate_left
       ·rintro w' ⟨s0, s1, s2⟩
        go_simp
        with_reducible rfl
       rotate_left
       ·simp only [Act.put, Pa, List.set_cons_zero, List.set_cons_succ, i64_w, i32_w]
        rfl
       refine pure_ (i := 7) (N := some 39) (v := ?_) (a' := ?_) #[I,I,I,I,I,I,I,I,O,I,O,I,O,O,O,O] rfl rfl (any_of HT_.out (by kernel_rfl)) (fun _ _ _ h => h) (Or.inl ⟨by rfl, ?_⟩) ?_ ?_
       rotate_left
       ·intro w'
        go_simp
        with_reducible rfl
       rotate_left
       ·simp only [Act.put, Pa, List.set_cons_zero, List.set_cons_succ, i64_w, i32_w]
        rfl
       refine pure_ (i := 8) (N := some 40) (v := ?_) (a' := ?_) #[I,I,I,I,I,I,I,I,I,I,O,I,O,O,O,O] rfl rfl (any_of HT_.out (by kernel_rfl)) (fun _ _ _ h => h) (Or.inl ⟨by rfl, ?_⟩) ?_ ?_
       rotate_left
       ·intro w'
        go_simp
        with_reducible rfl
       rotate_left
       ·simp only [Act.put, Pa, List.set_cons_zero, List.set_cons_succ, i64_w, i32_w]
        rfl
       refine take_ (i := 10) (N := some 42) (v := ?_) (a' := ?_) #[I,I,I,I,I,I,I,I,I,I,I,I,O,O,O,O] rfl rfl (take_ofW HT_.out HW_.out (by kernel_rfl)) (fun _ _ _ h => h) (Or.inl ⟨by rfl, ?_⟩) hHeld ?_ ?_
       rotate_left
       ·rintro w' ⟨s0, s1, s2⟩
        go_simp
        with_reducible rfl
       rotate_left
       ·simp only [Act.put, Pa, List.set_cons_zero, List.set_cons_succ, i64_w, i32_w]
        rfl
       refine take_ (i := 12) (N := some 44) (v := ?_) (a' := ?_) #[I,I,I,I,I,I,I,I,I,I,I,I,I,O,O,O] rfl rfl (take_ofW HT_.out HW_.out (by kernel_rfl)) (fun _ _ _ h => h) (Or.inl ⟨by rfl, ?_⟩) hHeld ?_ ?_
       rotate_left
       ·rintro w' ⟨s0, s1, s2⟩
        go_simp
        with_reducible rfl
       rotate_left
       ·simp only [Act.put, Pa, List.set_cons_zero, List.set_cons_succ, i64_w, i32_w]
        rfl
       refine pure_ (i := 13) (N := some 45) (v := ?_) (a' := ?_) #[I,I,I,I,I,I,I,I,I,I,I,I,I,I,O,O] rfl rfl (any_of HT_.out (by kernel_rfl)) (fun _ _ _ h => h) (Or.inl ⟨by rfl, ?_⟩) ?_ ?_
       rotate_left
       ·intro w'
        go_simp
        with_reducible rfl
       rotate_left
       ·simp only [Act.put, Pa, List.set_cons_zero, List.set_cons_succ, i64_w, i32_w]
        rfl
       refine pure_ (i := 14) (N := some 46) (v := ?_) (a' := ?_) #[I,I,I,I,I,I,I,I,I,I,I,I,I,I,I,O] rfl rfl (any_of HT_.out (by kernel_rfl)) (fun _ _ _ h => h) (Or.inl ⟨by rfl, ?_⟩) ?_ ?_
       rotate_left
       ·intro w'
        go_simp
        with_reducible rfl
       rotate_left
       ·simp only [Act.put, Pa, List.set_cons_zero, List.set_cons_succ, i64_w, i32_w]
        rfl
       refine one_ (i := 15) (N := none) #[true, true, true, true, true, true, true, true, true, true, true, true, true, true, true, true] rfl rfl (one_of HT_.out (by kernel_rfl)) (by decide) (fun K hK => ?_)
       have hs28 : w27.cell? ⟨gb152, 0, none⟩ = some (.string (⟨#[]⟩ : ByteArray)) := (blk_cell BK152.out 0).trans rfl
       have hfs28 := blk_frozen BK152.out 0
       have hns28_1 := NB156_152.out
       have hms28_1 := NB152_156.out
       have hs29 : w27.cell? ⟨gb152, 1, none⟩ = some (.int .i64 0) := (blk_cell BK152.out 1).trans rfl
       have hfs29 := blk_frozen BK152.out 1
       have hns29_1 := NB156_152.out
       have hms29_1 := NB152_156.out
       have hs30 : w27.cell? ⟨gb152, 2, none⟩ = some (.int .i64 0) := (blk_cell BK152.out 2).trans rfl
       have hfs30 := blk_frozen BK152.out 2
       have hns30_1 := NB156_152.out
       have hms30_1 := NB152_156.out
       refine skip_ (w1 := ?_) (by rfl) rfl ?_ ?_
       rotate_left
       ·go_simp
        rfl
       refine hK.out _ _ ⟨((cell_far (p := ⟨gb152, _, none⟩) NB156_152.out _).trans (((cell_far (p := ⟨gb152, _, none⟩) NB156_152.out _).trans (((cell_far (p := ⟨gb152, _, none⟩) NB156_152.out _).trans (hHeld.1)))))), ((cell_far (p := ⟨gb152, _, none⟩) NB156_152.out _).trans (((cell_far (p := ⟨gb152, _, none⟩) NB156_152.out _).trans (((cell_far (p := ⟨gb152, _, none⟩) NB156_152.out _).trans (hHeld.2.1)))))), ((cell_far (p := ⟨gb152, _, none⟩) NB156_152.out _).trans (((cell_far (p := ⟨gb152, _, none⟩) NB156_152.out _).trans (((cell_far (p := ⟨gb152, _, none⟩) NB156_152.out _).trans (hHeld.2.2))))))⟩ (fun hHeld => ?_)
       clear hK K
       refine done_ (done_of HT_.out (by kernel_rfl)) ?_
       try go_wp2
       refine bodyPost_ret (results_cell_row rfl _ _ gb152 30 #[.string (a0.extract (t154 : Int).toNat ((wrap64 (t154 + t153)) : Int).toNat), .int .i64 (wrap64 (t154 + t153)), .int .i64 0] (0, 0) _ rfl (by (with_reducible repeat (first | refine Gn ?_ _ | refine Gd ?_ | refine Ga ?_ _)); refine blk_put (cs := #[.string (a0.extract (t154 : Int).toNat ((wrap64 (t154 + t153)) : Int).toNat), .int .i64 (wrap64 (t154 + t153)), .int .i64 0]) ?_ 2 _ rfl; (with_reducible repeat (first | refine Gn ?_ _ | refine Gd ?_ | refine Ga ?_ _)); refine blk_put (cs := #[.string (a0.extract (t154 : Int).toNat ((wrap64 (t154 + t153)) : Int).toNat), .int .i64 0, .int .i64 0]) ?_ 1 _ rfl; (with_reducible repeat (first | refine Gn ?_ _ | refine Gd ?_ | refine Ga ?_ _)); refine blk_put (cs := #[.string (⟨#[]⟩ : ByteArray), .int .i64 0, .int .i64 0]) ?_ 0 _ rfl; (with_reducible repeat (first | refine Gn ?_ _ | refine Gd ?_ | refine Ga ?_ _)); exact BK152.out) Try.underlying30 rfl (by kernel_rfl)) rfl ?_
       exact ⟨by first | rfl | (simp [errW_none, errW_some] <;> rfl) | (simp [*, errW_none, errW_some] <;> rfl), by repeat (first | (with_reducible first | exact HB.out | apply Wa | apply Wn | apply Wd | refine Ws ?_ GE152.out | refine Ws ?_ GE156.out) | exact HB.out)⟩
      ·rw [if_neg c19] at H
       exact absurd H (by simp)
     ·rw [if_neg c18] at H
      exact absurd H (by simp)
    ·rw [if_neg c17] at H
     exact absurd H (by simp)
  ·replace c6 := Bool.eq_false_iff.mpr c6
   subst c6
   have H1 : (some ((⟨#[]⟩ : ByteArray), 0, 3)) = some (r1, r2, r3) := by rw [if_neg (show ¬ (false = true) by decide)] at H; exact H
   clear H
   have H := H1
   clear H1
   simp only [Option.some.injEq, Prod.mk.injEq] at H
   obtain ⟨rfl, rfl, rfl⟩ := H
   go_enter Try.func94, Try.ntmps94
   go_wp2_with (first | ((with_reducible refine gate_dst (N := 4) rfl ?_); refine box_event ?hg (N := 4) ?hd (cs := #[.string (⟨#[]⟩ : ByteArray), .int .i64 0, .int .i64 0]) (t := 30) ?hr ?_; (case hd => rfl); (case hg => rfl); (case hr => first | (go_simp; done) | (go_simp; rfl)); intro gb152 hg w31 hbox hb; have n0_ := AM (below_step (by repeat (first | (with_reducible first | exact HB.out | apply Wa | apply Wn | apply Wd) | exact HB.out)) hb); have n1_ := AM (hbox); have n2_ := AM ((by rw [hg]; exact (below_size (by repeat (first | (with_reducible first | exact HB.out | apply Wa | apply Wn | apply Wd) | exact HB.out))) : w.heap.size ≤ gb152)); have n3_ := AM ((by rw [hg]; exact (below_size (by repeat (first | (with_reducible first | exact HB.out | apply Wa | apply Wn | apply Wd) | exact HB.out))) : w.heap.size ≤ gb152)); clear HB; have HB := n0_; have BK152 := n1_; have GW152 := n2_; have GE152 := n3_; clear n0_ n1_ n2_ n3_; clear hb hbox hg) | ((with_reducible refine gate_callee (f := 92) rfl ?_); refine goesL_ (some 8) rfl rfl Try.func92 (by kernel_rfl) rfl #[.string a0, .int .i64 a1] rfl (by (try simp only [List.map_toArray, List.map_cons, List.map_nil]); first | done | rfl | (simp only [List.length_drop, List.length_take]; rfl)) ?_; (with_reducible refine (impl_getNum.calls k a0 a1 t153 t154 t155 _ A3.out).mono ?_); rintro e w32 ⟨rfl, hb⟩; refine ⟨_, rfl, ?_⟩; have n0_ := AM (blk_below (g := gb152) (o := .cells #[.string (⟨#[]⟩ : ByteArray), .int .i64 0, .int .i64 0] 30 (0, 0)) (by (with_reducible repeat (first | refine Gn ?_ _ | refine Gd ?_ | refine Ga ?_ _)); exact BK152.out) hb); have n1_ := AM (below_step (by repeat (first | (with_reducible first | exact HB.out | apply Wa | apply Wn | apply Wd | refine Ws ?_ GE152.out) | exact HB.out)) hb); clear BK152; clear HB; have BK152 := n0_; have HB := n1_; clear n0_ n1_; (try clear hb); (try clear hb2); (try clear hk); (try clear hi)) | ((with_reducible refine gate_dst (N := 5) rfl ?_); refine box_event ?hg (N := 5) ?hd (cs := #[.int .i64 0, .int .i64 0, .int .i64 0]) (t := 36) ?hr ?_; (case hd => rfl); (case hg => rfl); (case hr => first | (go_simp; done) | (go_simp; rfl)); intro gb156 hg w33 hbox hb; have n0_ := AM (blk_below (g := gb152) (o := .cells #[.string (⟨#[]⟩ : ByteArray), .int .i64 0, .int .i64 0] 30 (0, 0)) (by (with_reducible repeat (first | refine Gn ?_ _ | refine Gd ?_ | refine Ga ?_ _)); exact BK152.out) hb); have n1_ := AM (below_step (by repeat (first | (with_reducible first | exact HB.out | apply Wa | apply Wn | apply Wd | refine Ws ?_ GE152.out) | exact HB.out)) hb); have n2_ := AM (hbox); have n3_ := AM ((by rw [hg]; exact (below_size (by repeat (first | (with_reducible first | exact HB.out | apply Wa | apply Wn | apply Wd | refine Ws ?_ GE152.out) | exact HB.out))) : w.heap.size ≤ gb156)); have n4_ := AM ((by rw [hg]; exact (below_size (by repeat (first | (with_reducible first | exact HB.out | apply Wa | apply Wn | apply Wd | refine Ws ?_ GE152.out) | exact HB.out))) : w.heap.size ≤ gb156)); have n5_ := AM ((by rw [hg]; exact Nat.ne_of_lt (blk_lt (g := gb152) (o := .cells #[.string (⟨#[]⟩ : ByteArray), .int .i64 0, .int .i64 0] 30 (0, 0)) (by (with_reducible repeat (first | refine Gn ?_ _ | refine Gd ?_ | refine Ga ?_ _)); exact BK152.out)) : gb152 ≠ gb156)); have n6_ := AM ((by rw [hg]; exact Nat.ne_of_gt (blk_lt (g := gb152) (o := .cells #[.string (⟨#[]⟩ : ByteArray), .int .i64 0, .int .i64 0] 30 (0, 0)) (by (with_reducible repeat (first | refine Gn ?_ _ | refine Gd ?_ | refine Ga ?_ _)); exact BK152.out)) : gb156 ≠ gb152)); clear BK152; clear HB; have BK152 := n0_; have HB := n1_; have BK156 := n2_; have GW156 := n3_; have GE156 := n4_; have NB152_156 := n5_; have NB156_152 := n6_; clear n0_ n1_ n2_ n3_ n4_ n5_ n6_; clear hb hbox hg; have hnb34 := NB156_152.out; have hnc34 := NB152_156.out; have hcz35_0 : w33.cell? ⟨gb156, 0, none⟩ = some (.int .i64 0) := (blk_cell BK156.out 0).trans rfl; have hcz35_1 : w33.cell? ⟨gb156, 1, none⟩ = some (.int .i64 0) := (blk_cell BK156.out 1).trans rfl; have hcz35_2 : w33.cell? ⟨gb156, 2, none⟩ = some (.int .i64 0) := (blk_cell BK156.out 2).trans rfl; have hfz35_0 := blk_frozen BK156.out 0; have hfz35_1 := blk_frozen BK156.out 1; have hfz35_2 := blk_frozen BK156.out 2) | ((with_reducible refine gate_callee (f := 143) rfl ?_); refine goesL_ (some 19) rfl rfl Try.func143 (by kernel_rfl) rfl #[.int .i64 t153, .int .i64 0, .int .i64 20000] rfl (by (try simp only [List.map_toArray, List.map_cons, List.map_nil]); first | done | rfl | (simp only [List.length_drop, List.length_take]; rfl)) ?_; (with_reducible refine (impl_within.calls t153 0 20000 false _ A5.out).mono ?_); rintro e w' ⟨rfl, ⟨nd, rfl⟩⟩; refine ⟨_, rfl, ?_⟩; have hcz36_0 : w33.cell? ⟨gb152, 0, none⟩ = some (.string (⟨#[]⟩ : ByteArray)) := (blk_cell BK152.out 0).trans rfl; have hcz36_1 : w33.cell? ⟨gb152, 1, none⟩ = some (.int .i64 0) := (blk_cell BK152.out 1).trans rfl; have hcz36_2 : w33.cell? ⟨gb152, 2, none⟩ = some (.int .i64 0) := (blk_cell BK152.out 2).trans rfl; have hfz36_0 := blk_frozen BK152.out 0; have hfz36_1 := blk_frozen BK152.out 1; have hfz36_2 := blk_frozen BK152.out 2))
   refine bodyPost_ret (results_cell_row rfl _ _ gb152 30 #[.string (⟨#[]⟩ : ByteArray), .int .i64 0, .int .i64 3] (0, 0) _ rfl (by (with_reducible repeat (first | refine Gn ?_ _ | refine Gd ?_ | refine Ga ?_ _)); refine blk_put (cs := #[.string (⟨#[]⟩ : ByteArray), .int .i64 0, .int .i64 0]) ?_ 2 _ rfl; (with_reducible repeat (first | refine Gn ?_ _ | refine Gd ?_ | refine Ga ?_ _)); refine blk_put (cs := #[.string (⟨#[]⟩ : ByteArray), .int .i64 0, .int .i64 0]) ?_ 1 _ rfl; (with_reducible repeat (first | refine Gn ?_ _ | refine Gd ?_ | refine Ga ?_ _)); refine blk_put (cs := #[.string (⟨#[]⟩ : ByteArray), .int .i64 0, .int .i64 0]) ?_ 0 _ rfl; (with_reducible repeat (first | refine Gn ?_ _ | refine Gd ?_ | refine Ga ?_ _)); refine blk_far ?_ NB152_156.out _; (with_reducible repeat (first | refine Gn ?_ _ | refine Gd ?_ | refine Ga ?_ _)); refine blk_far ?_ NB152_156.out _; (with_reducible repeat (first | refine Gn ?_ _ | refine Gd ?_ | refine Ga ?_ _)); refine blk_far ?_ NB152_156.out _; (with_reducible repeat (first | refine Gn ?_ _ | refine Gd ?_ | refine Ga ?_ _)); exact BK152.out) Try.underlying30 rfl (by kernel_rfl)) rfl ?_
   exact ⟨by first | rfl | (simp [errW_none, errW_some] <;> rfl) | (simp [*, errW_none, errW_some] <;> rfl), by repeat (first | (with_reducible first | exact HB.out | apply Wa | apply Wn | apply Wd | refine Ws ?_ GE152.out | refine Ws ?_ GE156.out) | exact HB.out)⟩
 ·rw [if_neg c4] at H
  have c4b0 : (t155 == 0) = false := beq_eq_false_iff_ne.mpr c4
  have c4b1 : (t155 != 0) = true := bne_iff_ne.mpr c4
  simp only [Option.some.injEq, Prod.mk.injEq] at H
  obtain ⟨rfl, rfl, rfl⟩ := H
  go_enter Try.func94, Try.ntmps94
  go_wp2_with (first | ((with_reducible refine gate_dst (N := 4) rfl ?_); refine box_event ?hg (N := 4) ?hd (cs := #[.string (⟨#[]⟩ : ByteArray), .int .i64 0, .int .i64 0]) (t := 30) ?hr ?_; (case hd => rfl); (case hg => rfl); (case hr => first | (go_simp; done) | (go_simp; rfl)); intro gb152 hg w37 hbox hb; have n0_ := AM (below_step (by repeat (first | (with_reducible first | exact HB.out | apply Wa | apply Wn | apply Wd) | exact HB.out)) hb); have n1_ := AM (hbox); have n2_ := AM ((by rw [hg]; exact (below_size (by repeat (first | (with_reducible first | exact HB.out | apply Wa | apply Wn | apply Wd) | exact HB.out))) : w.heap.size ≤ gb152)); have n3_ := AM ((by rw [hg]; exact (below_size (by repeat (first | (with_reducible first | exact HB.out | apply Wa | apply Wn | apply Wd) | exact HB.out))) : w.heap.size ≤ gb152)); clear HB; have HB := n0_; have BK152 := n1_; have GW152 := n2_; have GE152 := n3_; clear n0_ n1_ n2_ n3_; clear hb hbox hg) | ((with_reducible refine gate_callee (f := 92) rfl ?_); refine goesL_ (some 8) rfl rfl Try.func92 (by kernel_rfl) rfl #[.string a0, .int .i64 a1] rfl (by (try simp only [List.map_toArray, List.map_cons, List.map_nil]); first | done | rfl | (simp only [List.length_drop, List.length_take]; rfl)) ?_; (with_reducible refine (impl_getNum.calls k a0 a1 t153 t154 t155 _ A3.out).mono ?_); rintro e w38 ⟨rfl, hb⟩; refine ⟨_, rfl, ?_⟩; have n0_ := AM (blk_below (g := gb152) (o := .cells #[.string (⟨#[]⟩ : ByteArray), .int .i64 0, .int .i64 0] 30 (0, 0)) (by (with_reducible repeat (first | refine Gn ?_ _ | refine Gd ?_ | refine Ga ?_ _)); exact BK152.out) hb); have n1_ := AM (below_step (by repeat (first | (with_reducible first | exact HB.out | apply Wa | apply Wn | apply Wd | refine Ws ?_ GE152.out) | exact HB.out)) hb); clear BK152; clear HB; have BK152 := n0_; have HB := n1_; clear n0_ n1_; (try clear hb); (try clear hb2); (try clear hk); (try clear hi)) | ((with_reducible refine gate_dst (N := 5) rfl ?_); refine box_event ?hg (N := 5) ?hd (cs := #[.int .i64 0, .int .i64 0, .int .i64 0]) (t := 36) ?hr ?_; (case hd => rfl); (case hg => rfl); (case hr => first | (go_simp; done) | (go_simp; rfl)); intro gb156 hg w39 hbox hb; have n0_ := AM (blk_below (g := gb152) (o := .cells #[.string (⟨#[]⟩ : ByteArray), .int .i64 0, .int .i64 0] 30 (0, 0)) (by (with_reducible repeat (first | refine Gn ?_ _ | refine Gd ?_ | refine Ga ?_ _)); exact BK152.out) hb); have n1_ := AM (below_step (by repeat (first | (with_reducible first | exact HB.out | apply Wa | apply Wn | apply Wd | refine Ws ?_ GE152.out) | exact HB.out)) hb); have n2_ := AM (hbox); have n3_ := AM ((by rw [hg]; exact (below_size (by repeat (first | (with_reducible first | exact HB.out | apply Wa | apply Wn | apply Wd | refine Ws ?_ GE152.out) | exact HB.out))) : w.heap.size ≤ gb156)); have n4_ := AM ((by rw [hg]; exact (below_size (by repeat (first | (with_reducible first | exact HB.out | apply Wa | apply Wn | apply Wd | refine Ws ?_ GE152.out) | exact HB.out))) : w.heap.size ≤ gb156)); have n5_ := AM ((by rw [hg]; exact Nat.ne_of_lt (blk_lt (g := gb152) (o := .cells #[.string (⟨#[]⟩ : ByteArray), .int .i64 0, .int .i64 0] 30 (0, 0)) (by (with_reducible repeat (first | refine Gn ?_ _ | refine Gd ?_ | refine Ga ?_ _)); exact BK152.out)) : gb152 ≠ gb156)); have n6_ := AM ((by rw [hg]; exact Nat.ne_of_gt (blk_lt (g := gb152) (o := .cells #[.string (⟨#[]⟩ : ByteArray), .int .i64 0, .int .i64 0] 30 (0, 0)) (by (with_reducible repeat (first | refine Gn ?_ _ | refine Gd ?_ | refine Ga ?_ _)); exact BK152.out)) : gb156 ≠ gb152)); clear BK152; clear HB; have BK152 := n0_; have HB := n1_; have BK156 := n2_; have GW156 := n3_; have GE156 := n4_; have NB152_156 := n5_; have NB156_152 := n6_; clear n0_ n1_ n2_ n3_ n4_ n5_ n6_; clear hb hbox hg; have hnb40 := NB156_152.out; have hnc40 := NB152_156.out; have hcz41_0 : w39.cell? ⟨gb156, 0, none⟩ = some (.int .i64 0) := (blk_cell BK156.out 0).trans rfl; have hcz41_1 : w39.cell? ⟨gb156, 1, none⟩ = some (.int .i64 0) := (blk_cell BK156.out 1).trans rfl; have hcz41_2 : w39.cell? ⟨gb156, 2, none⟩ = some (.int .i64 0) := (blk_cell BK156.out 2).trans rfl; have hfz41_0 := blk_frozen BK156.out 0; have hfz41_1 := blk_frozen BK156.out 1; have hfz41_2 := blk_frozen BK156.out 2; have hcz42_0 : w39.cell? ⟨gb152, 0, none⟩ = some (.string (⟨#[]⟩ : ByteArray)) := (blk_cell BK152.out 0).trans rfl; have hcz42_1 : w39.cell? ⟨gb152, 1, none⟩ = some (.int .i64 0) := (blk_cell BK152.out 1).trans rfl; have hcz42_2 : w39.cell? ⟨gb152, 2, none⟩ = some (.int .i64 0) := (blk_cell BK152.out 2).trans rfl; have hfz42_0 := blk_frozen BK152.out 0; have hfz42_1 := blk_frozen BK152.out 1; have hfz42_2 := blk_frozen BK152.out 2))
  refine bodyPost_ret (results_cell_row rfl _ _ gb152 30 #[.string (⟨#[]⟩ : ByteArray), .int .i64 0, .int .i64 t155] (0, 0) _ rfl (by (with_reducible repeat (first | refine Gn ?_ _ | refine Gd ?_ | refine Ga ?_ _)); refine blk_put (cs := #[.string (⟨#[]⟩ : ByteArray), .int .i64 0, .int .i64 0]) ?_ 2 _ rfl; (with_reducible repeat (first | refine Gn ?_ _ | refine Gd ?_ | refine Ga ?_ _)); refine blk_put (cs := #[.string (⟨#[]⟩ : ByteArray), .int .i64 0, .int .i64 0]) ?_ 1 _ rfl; (with_reducible repeat (first | refine Gn ?_ _ | refine Gd ?_ | refine Ga ?_ _)); refine blk_put (cs := #[.string (⟨#[]⟩ : ByteArray), .int .i64 0, .int .i64 0]) ?_ 0 _ rfl; (with_reducible repeat (first | refine Gn ?_ _ | refine Gd ?_ | refine Ga ?_ _)); refine blk_far ?_ NB152_156.out _; (with_reducible repeat (first | refine Gn ?_ _ | refine Gd ?_ | refine Ga ?_ _)); refine blk_far ?_ NB152_156.out _; (with_reducible repeat (first | refine Gn ?_ _ | refine Gd ?_ | refine Ga ?_ _)); refine blk_far ?_ NB152_156.out _; (with_reducible repeat (first | refine Gn ?_ _ | refine Gd ?_ | refine Ga ?_ _)); exact BK152.out) Try.underlying30 rfl (by kernel_rfl)) rfl ?_
  exact ⟨by first | rfl | (simp [errW_none, errW_some] <;> rfl) | (simp [*, errW_none, errW_some] <;> rfl), by repeat (first | (with_reducible first | exact HB.out | apply Wa | apply Wn | apply Wd | refine Ws ?_ GE152.out | refine Ws ?_ GE156.out) | exact HB.out)⟩

end Go.Proofs.Yteljfdhjbnlgoaa.PFnExactSnapRead
