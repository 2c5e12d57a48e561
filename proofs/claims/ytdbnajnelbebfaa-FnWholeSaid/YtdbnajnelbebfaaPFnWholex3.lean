/- Functions of the law FnWhole: the print's, with walks of this session's own. No statement is proved here. -/
import Derived.WalkLawsBesides
import Derived.Test.YtdbnajnelbebfaaVRegFnWhole
-- A program of this session wrote this text: a changed copy of the kit print, with given functions.
import Derived.Test.YtdbnajnelbebfaaPFnWholex0
import Derived.Test.YtdbnajnelbebfaaPFnWholex1
import Derived.Test.YtdbnajnelbebfaaPFnWholex2
namespace Go.Proofs.Ytdbnajnelbebfaa.PFnWhole
open Go.RowKit Go.Proofs.YtdbnajnelbebfaaW.PrintWords Go.Proofs.YtdbnajnelbebfaaW.PrintLast Go.Proofs.YtdbnajnelbebfaaW.PrintMore Go.Proofs.Ytdbnajnelbebfaa.Reg Go.Proofs.Ytdbnajnelbebfaa.Aut
attribute [local go_sem] max2_int min2_int max_two min_two max_three min_three max_four min_four   -- for this text's walks alone
set_option linter.unusedVariables false
set_option linter.unusedSimpArgs false

/-! ### spec_l01Src_one: function 78 -/
def spec_l01Src_one.f (s0_0 : List Int) (s0_1 : Int) (s0_2 : Int) (s0_3 : Int) (a1 : Int) : Option (Bool × Int × Int × Int) := (spec_l01Src_n.f s0_0 s0_1 s0_2 s0_3 a1).bind fun bt104 => (some ((bt104.1 == 0), bt104.2.1, bt104.2.2.1, bt104.2.2.2))
set_option maxHeartbeats 8000000 in
set_option maxRecDepth 100000 in
theorem spec_l01Src_one.calls (g : Nat) (s0_0 : List Int) (s0_1 : Int) (s0_2 : Int) (s0_3 : Int) (a1 : Int) (r1 : Bool) (r2 : Int) (r3 : Int) (r4 : Int) (w0 w : World) (hI : IsS144 w0 w g s0_0 s0_1 s0_2 s0_3) (hB : Below w0.heap.size w0 w) (h : spec_l01Src_one.f s0_0 s0_1 s0_2 s0_3 a1 = some (r1, r2, r3, r4)) :
    Calls Try.prog 78 #[.pointer (some ⟨g, 0, none⟩), .int .i64 a1] w fun e w' => e = .returned (.bool r1) ∧ IsS144 w0 w' g s0_0 r2 r3 r4 ∧ Below w0.heap.size w0 w' ∧ KeepBut w w' g none := by
  have HI0 := AM hI
  have HK := AM (KeepBut.refl w g none)
  have HL := AM hB.size
  clear hI
  have HW0 := AM hB.size
  have HB := AM hB
  clear hB
  have H : ((spec_l01Src_n.f s0_0 s0_1 s0_2 s0_3 a1).bind fun bt104 => (some ((bt104.1 == 0), bt104.2.1, bt104.2.2.1, bt104.2.2.2))) = some (r1, r2, r3, r4) := h
  clear h
  obtain ⟨⟨t104, t105, t106, t107⟩, A3, H⟩ := OB H
  try dsimp only at H
  replace A3 := AM A3
  simp only [Option.some.injEq, Prod.mk.injEq] at H
  obtain ⟨rfl, rfl, rfl, rfl⟩ := H
  go_enter Try.func78, Try.ntmps78
  go_wp2_with (first | ((with_reducible refine gate_callee (f := 79) rfl ?_); refine gl_ (some 7) Try.func79 #[.pointer (some ⟨g, 0, none⟩), .int .i64 a1] ?_; (with_reducible refine (spec_l01Src_n.calls g s0_0 s0_1 s0_2 s0_3 a1 t104 t105 t106 t107 w0 _ ?side1 ?side2 A3.out).mono ?_); (case side1 => repeat (first | (with_reducible first | exact HI0.out | apply IsS144.alloc | apply IsS144.drewN | apply IsS144.drew | apply IsS144.set_1 | apply IsS144.set_2 | apply IsS144.set_3) | exact HI0.out)); (case side2 => repeat (first | (with_reducible first | exact HB.out | apply below_alloc | apply pw_below_drewN | apply below_drew1 | refine below_set ?_ (IsS144.ge HI0.out)) | exact HB.out)); rintro e w4 ⟨rfl, hi, hb, hk⟩; refine ⟨_, rfl, ?_⟩; replace HK := AM (KeepBut.trans (kp_ (w := w)) hk (.inl rfl)); replace HB := AM hb; replace HI0 := AM hi; (try clear hb); (try clear hb2); (try clear hk); (try clear hi)))
  go_ret
  exact ⟨ri_, is144_, belg_ (IsS144.ge HI0.out), kp_⟩

/-! ### spec_l01Src_l04Code: function 49 -/
def spec_l01Src_l04Code.f (s0_0 : List Int) (s0_1 : Int) (s0_2 : Int) (s0_3 : Int) : Option (Int × Int × Int × Int × Int) := (spec_l01Src_one.f s0_0 s0_1 s0_2 s0_3 25).bind fun bt108 => (if bt108.1 = true then ((spec_l01Src_n.f s0_0 bt108.2.1 bt108.2.2.1 bt108.2.2.2 11).bind fun bt112 => ((spec_l01Src_n.f s0_0 bt112.2.1 bt112.2.2.1 bt112.2.2.2 9).bind fun bt116 => (some (wrap64 (bt112.1 - 1), wrap64 (bt116.1 - 1), bt116.2.1, bt116.2.2.1, bt116.2.2.2)))) else ((spec_l01Src_n.f s0_0 bt108.2.1 bt108.2.2.1 bt108.2.2.2 4).bind fun bt120 => ((spec_l01Src_n.f s0_0 bt120.2.1 bt120.2.2.1 bt120.2.2.2 4).bind fun bt124 => (some (wrap64 (1 + bt120.1), bt124.1, bt124.2.1, bt124.2.2.1, bt124.2.2.2)))))
set_option maxHeartbeats 8000000 in
set_option maxRecDepth 100000 in
theorem spec_l01Src_l04Code.calls (g : Nat) (s0_0 : List Int) (s0_1 : Int) (s0_2 : Int) (s0_3 : Int) (r1 : Int) (r2 : Int) (r3 : Int) (r4 : Int) (r5 : Int) (w0 w : World) (hI : IsS144 w0 w g s0_0 s0_1 s0_2 s0_3) (hB : Below w0.heap.size w0 w) (h : spec_l01Src_l04Code.f s0_0 s0_1 s0_2 s0_3 = some (r1, r2, r3, r4, r5)) :
    Calls Try.prog 49 #[.pointer (some ⟨g, 0, none⟩)] w fun e w' => e = .returned (.tuple #[.int .i64 r1, .int .i64 r2]) ∧ IsS144 w0 w' g s0_0 r3 r4 r5 ∧ Below w0.heap.size w0 w' ∧ KeepBut w w' g none := by
  have HI0 := AM hI
  have HK := AM (KeepBut.refl w g none)
  have HL := AM hB.size
  clear hI
  have HW0 := AM hB.size
  have HB := AM hB
  clear hB
  have H : ((spec_l01Src_one.f s0_0 s0_1 s0_2 s0_3 25).bind fun bt108 => (if bt108.1 = true then ((spec_l01Src_n.f s0_0 bt108.2.1 bt108.2.2.1 bt108.2.2.2 11).bind fun bt112 => ((spec_l01Src_n.f s0_0 bt112.2.1 bt112.2.2.1 bt112.2.2.2 9).bind fun bt116 => (some (wrap64 (bt112.1 - 1), wrap64 (bt116.1 - 1), bt116.2.1, bt116.2.2.1, bt116.2.2.2)))) else ((spec_l01Src_n.f s0_0 bt108.2.1 bt108.2.2.1 bt108.2.2.2 4).bind fun bt120 => ((spec_l01Src_n.f s0_0 bt120.2.1 bt120.2.2.1 bt120.2.2.2 4).bind fun bt124 => (some (wrap64 (1 + bt120.1), bt124.1, bt124.2.1, bt124.2.2.1, bt124.2.2.2)))))) = some (r1, r2, r3, r4, r5) := h
  clear h
  obtain ⟨⟨t108, t109, t110, t111⟩, A2, H⟩ := OB H
  try dsimp only at H
  replace A2 := AM A2
  by_cases c3 : t108 = true
  · subst c3
    rw [if_pos rfl] at H
    obtain ⟨⟨t112, t113, t114, t115⟩, A4, H⟩ := OB H
    try dsimp only at H
    replace A4 := AM A4
    obtain ⟨⟨t116, t117, t118, t119⟩, A5, H⟩ := OB H
    try dsimp only at H
    replace A5 := AM A5
    simp only [Option.some.injEq, Prod.mk.injEq] at H
    obtain ⟨rfl, rfl, rfl, rfl, rfl⟩ := H
    go_enter Try.func49, Try.ntmps49
    go_wp2_with (first | ((with_reducible refine gate_callee (f := 78) rfl ?_); refine gl_ (some 5) Try.func78 #[.pointer (some ⟨g, 0, none⟩), .int .i64 25] ?_; (with_reducible refine (spec_l01Src_one.calls g s0_0 s0_1 s0_2 s0_3 25 true t109 t110 t111 w0 _ ?side1 ?side2 A2.out).mono ?_); (case side1 => repeat (first | (with_reducible first | exact HI0.out | apply IsS144.alloc | apply IsS144.drewN | apply IsS144.drew | apply IsS144.set_1 | apply IsS144.set_2 | apply IsS144.set_3) | exact HI0.out)); (case side2 => repeat (first | (with_reducible first | exact HB.out | apply below_alloc | apply pw_below_drewN | apply below_drew1 | refine below_set ?_ (IsS144.ge HI0.out)) | exact HB.out)); rintro e w6 ⟨rfl, hi, hb, hk⟩; refine ⟨_, rfl, ?_⟩; replace HK := AM (KeepBut.trans (kp_ (w := w)) hk (.inl rfl)); replace HB := AM hb; replace HI0 := AM hi; (try clear hb); (try clear hb2); (try clear hk); (try clear hi)) | ((with_reducible refine gate_callee (f := 79) rfl ?_); refine gl_ (some 7) Try.func79 #[.pointer (some ⟨g, 0, none⟩), .int .i64 11] ?_; (with_reducible refine (spec_l01Src_n.calls g s0_0 t109 t110 t111 11 t112 t113 t114 t115 w0 _ ?side1 ?side2 A4.out).mono ?_); (case side1 => repeat (first | (with_reducible first | exact HI0.out | apply IsS144.alloc | apply IsS144.drewN | apply IsS144.drew | apply IsS144.set_1 | apply IsS144.set_2 | apply IsS144.set_3) | exact HI0.out)); (case side2 => repeat (first | (with_reducible first | exact HB.out | apply below_alloc | apply pw_below_drewN | apply below_drew1 | refine below_set ?_ (IsS144.ge HI0.out)) | exact HB.out)); rintro e w7 ⟨rfl, hi, hb, hk⟩; refine ⟨_, rfl, ?_⟩; replace HK := AM (KeepBut.trans (kp_ (w := w)) hk (.inl rfl)); replace HB := AM hb; replace HI0 := AM hi; (try clear hb); (try clear hb2); (try clear hk); (try clear hi)) | ((with_reducible refine gate_callee (f := 79) rfl ?_); refine gl_ (some 10) Try.func79 #[.pointer (some ⟨g, 0, none⟩), .int .i64 9] ?_; (with_reducible refine (spec_l01Src_n.calls g s0_0 t113 t114 t115 9 t116 t117 t118 t119 w0 _ ?side1 ?side2 A5.out).mono ?_); (case side1 => repeat (first | (with_reducible first | exact HI0.out | apply IsS144.alloc | apply IsS144.drewN | apply IsS144.drew | apply IsS144.set_1 | apply IsS144.set_2 | apply IsS144.set_3) | exact HI0.out)); (case side2 => repeat (first | (with_reducible first | exact HB.out | apply below_alloc | apply pw_below_drewN | apply below_drew1 | refine below_set ?_ (IsS144.ge HI0.out)) | exact HB.out)); rintro e w8 ⟨rfl, hi, hb, hk⟩; refine ⟨_, rfl, ?_⟩; replace HK := AM (KeepBut.trans (kp_ (w := w)) hk (.inl rfl)); replace HB := AM hb; replace HI0 := AM hi; (try clear hb); (try clear hb2); (try clear hk); (try clear hi)))
    go_ret2
    exact ⟨ri_, is144_, belg_ (IsS144.ge HI0.out), kp_⟩
  · replace c3 := Bool.eq_false_iff.mpr c3
    subst c3
    rw [if_neg (show ¬ (false = true) by decide)] at H
    obtain ⟨⟨t120, t121, t122, t123⟩, A9, H⟩ := OB H
    try dsimp only at H
    replace A9 := AM A9
    obtain ⟨⟨t124, t125, t126, t127⟩, A10, H⟩ := OB H
    try dsimp only at H
    replace A10 := AM A10
    simp only [Option.some.injEq, Prod.mk.injEq] at H
    obtain ⟨rfl, rfl, rfl, rfl, rfl⟩ := H
    go_enter Try.func49, Try.ntmps49
    go_wp2_with (first | ((with_reducible refine gate_callee (f := 78) rfl ?_); refine gl_ (some 5) Try.func78 #[.pointer (some ⟨g, 0, none⟩), .int .i64 25] ?_; (with_reducible refine (spec_l01Src_one.calls g s0_0 s0_1 s0_2 s0_3 25 false t109 t110 t111 w0 _ ?side1 ?side2 A2.out).mono ?_); (case side1 => repeat (first | (with_reducible first | exact HI0.out | apply IsS144.alloc | apply IsS144.drewN | apply IsS144.drew | apply IsS144.set_1 | apply IsS144.set_2 | apply IsS144.set_3) | exact HI0.out)); (case side2 => repeat (first | (with_reducible first | exact HB.out | apply below_alloc | apply pw_below_drewN | apply below_drew1 | refine below_set ?_ (IsS144.ge HI0.out)) | exact HB.out)); rintro e w11 ⟨rfl, hi, hb, hk⟩; refine ⟨_, rfl, ?_⟩; replace HK := AM (KeepBut.trans (kp_ (w := w)) hk (.inl rfl)); replace HB := AM hb; replace HI0 := AM hi; (try clear hb); (try clear hb2); (try clear hk); (try clear hi)) | ((with_reducible refine gate_callee (f := 79) rfl ?_); refine gl_ (some 13) Try.func79 #[.pointer (some ⟨g, 0, none⟩), .int .i64 4] ?_; (with_reducible refine (spec_l01Src_n.calls g s0_0 t109 t110 t111 4 t120 t121 t122 t123 w0 _ ?side1 ?side2 A9.out).mono ?_); (case side1 => repeat (first | (with_reducible first | exact HI0.out | apply IsS144.alloc | apply IsS144.drewN | apply IsS144.drew | apply IsS144.set_1 | apply IsS144.set_2 | apply IsS144.set_3) | exact HI0.out)); (case side2 => repeat (first | (with_reducible first | exact HB.out | apply below_alloc | apply pw_below_drewN | apply below_drew1 | refine below_set ?_ (IsS144.ge HI0.out)) | exact HB.out)); rintro e w12 ⟨rfl, hi, hb, hk⟩; refine ⟨_, rfl, ?_⟩; replace HK := AM (KeepBut.trans (kp_ (w := w)) hk (.inl rfl)); replace HB := AM hb; replace HI0 := AM hi; (try clear hb); (try clear hb2); (try clear hk); (try clear hi)) | ((with_reducible refine gate_callee (f := 79) rfl ?_); refine gl_ (some 16) Try.func79 #[.pointer (some ⟨g, 0, none⟩), .int .i64 4] ?_; (with_reducible refine (spec_l01Src_n.calls g s0_0 t121 t122 t123 4 t124 t125 t126 t127 w0 _ ?side1 ?side2 A10.out).mono ?_); (case side1 => repeat (first | (with_reducible first | exact HI0.out | apply IsS144.alloc | apply IsS144.drewN | apply IsS144.drew | apply IsS144.set_1 | apply IsS144.set_2 | apply IsS144.set_3) | exact HI0.out)); (case side2 => repeat (first | (with_reducible first | exact HB.out | apply below_alloc | apply pw_below_drewN | apply below_drew1 | refine below_set ?_ (IsS144.ge HI0.out)) | exact HB.out)); rintro e w13 ⟨rfl, hi, hb, hk⟩; refine ⟨_, rfl, ?_⟩; replace HK := AM (KeepBut.trans (kp_ (w := w)) hk (.inl rfl)); replace HB := AM hb; replace HI0 := AM hi; (try clear hb); (try clear hb2); (try clear hk); (try clear hi)))
    go_ret2
    exact ⟨ri_, is144_, belg_ (IsS144.ge HI0.out), kp_⟩

/-! ### spec_l01Src_bytes: function 81 -/
def spec_l01Src_bytes.l0 : Nat → Int → List Int → Int → List Int → Int → Int → Int → Option (ByteArray × Int × Int × Int)
  | 0, _, _, _, _, _, _, _ => none
  | k + 1, x1, x5, x6, x1000, x1001, x1002, x1003 => if x6 < x1 then ((spec_l01Src_n.f x1000 x1001 x1002 x1003 256).bind fun bt131 => (if x5.length < 140737488355328 then (spec_l01Src_bytes.l0 k x1 (x5 ++ [(bt131.1) % 256]) (wrap64 (x6 + 1)) x1000 bt131.2.1 bt131.2.2.1 bt131.2.2.2) else (none))) else (some (strOfNums x5, x1001, x1002, x1003))
def spec_l01Src_bytes.f (k : Nat) (s0_0 : List Int) (s0_1 : Int) (s0_2 : Int) (s0_3 : Int) (a1 : Int) : Option (ByteArray × Int × Int × Int) := spec_l01Src_bytes.l0 k a1 (([] : List Int)) 0 s0_0 s0_1 s0_2 s0_3
theorem spec_l01Src_bytes.mono_l : ∀ k, (∀ y0 y1 y2 y3 y4 y5 y6, LeO (spec_l01Src_bytes.l0 k y0 y1 y2 y3 y4 y5 y6) (spec_l01Src_bytes.l0 (k + 1) y0 y1 y2 y3 y4 y5 y6))
  | 0 => fun _ _ _ _ _ _ _ r h => by simp [spec_l01Src_bytes.l0] at h
  | k + 1 => by
    have ih0 := spec_l01Src_bytes.mono_l k
    · intro y0 y1 y2 y3 y4 y5 y6
      unfold spec_l01Src_bytes.l0
      repeat' first
      | (with_reducible exact ih0 _ _ _ _ _ _ _)
      | (with_reducible exact LeO.refl _)
      | (with_reducible exact LeO.none _)
      | (with_reducible refine LeO.ite ?_ ?_)
      | (with_reducible refine LeO.bind ?_ (fun _ => ?_))
      | exact ih0 _ _ _ _ _ _ _
      | exact LeO.none _
      | refine LeO.ite ?_ ?_
      | refine LeO.bind ?_ (fun _ => ?_)
theorem spec_l01Src_bytes.mono : ∀ a0 a1 a2 a3 a4 k, LeO (spec_l01Src_bytes.f k a0 a1 a2 a3 a4) (spec_l01Src_bytes.f (k + 1) a0 a1 a2 a3 a4) := by
  intro a0 a1 a2 a3 a4 k
  have ih0 := spec_l01Src_bytes.mono_l k
  unfold spec_l01Src_bytes.f
  repeat' first
      | (with_reducible exact ih0 _ _ _ _ _ _ _)
      | (with_reducible exact LeO.refl _)
      | (with_reducible exact LeO.none _)
      | (with_reducible refine LeO.ite ?_ ?_)
      | (with_reducible refine LeO.bind ?_ (fun _ => ?_))
      | exact ih0 _ _ _ _ _ _ _
      | exact LeO.none _
      | refine LeO.ite ?_ ?_
      | refine LeO.bind ?_ (fun _ => ?_)
set_option maxHeartbeats 8000000 in
set_option maxRecDepth 100000 in
theorem spec_l01Src_bytes.calls (k : Nat) (g : Nat) (s0_0 : List Int) (s0_1 : Int) (s0_2 : Int) (s0_3 : Int) (a1 : Int) (r1 : ByteArray) (r2 : Int) (r3 : Int) (r4 : Int) (w0 w : World) (hI : IsS144 w0 w g s0_0 s0_1 s0_2 s0_3) (hB : Below w0.heap.size w0 w) (h : spec_l01Src_bytes.f k s0_0 s0_1 s0_2 s0_3 a1 = some (r1, r2, r3, r4)) :
    Calls Try.prog 81 #[.pointer (some ⟨g, 0, none⟩), .int .i64 a1] w fun e w' => e = .returned (.string r1) ∧ IsS144 w0 w' g s0_0 r2 r3 r4 ∧ Below w0.heap.size w0 w' ∧ KeepBut w w' g none := by
  have HI0 := AM hI
  have HK := AM (KeepBut.refl w g none)
  have HL := AM hB.size
  clear hI
  have HW0 := AM hB.size
  have HB := AM hB
  clear hB
  have H : (spec_l01Src_bytes.l0 k a1 (([] : List Int)) 0 s0_0 s0_1 s0_2 s0_3) = some (r1, r2, r3, r4) := h
  clear h
  obtain ⟨y128, hy128⟩ : ∃ y_ : List Int, y_ = (([] : List Int)) := ⟨_, rfl⟩
  replace H : (spec_l01Src_bytes.l0 k a1 y128 0 s0_0 s0_1 s0_2 s0_3) = some (r1, r2, r3, r4) := by first | (rw [hy128]; with_reducible exact H) | (have H2_ := (Option.bind_some _ _).symm.trans H; rw [hy128]; with_reducible exact H2_) | (have H2_ := (Option.bind_some _ _).symm.trans H; with_reducible exact H2_) | with_reducible exact H | (rw [hy128]; exact H) | exact H
  have Ny128 := AM hy128
  clear hy128
  have H' := AM H
  clear H
  go_enter Try.func81, Try.ntmps81
  go_wp2_with (first | ((with_reducible refine gate_dst (N := 7) rfl ?_); refine Kd.R_lit (Kd.int .u8) _ 5 ?hgL1 (N := 7) ?hdL1 (xs := ([] : List Int)) (inner := []) (ok := fun _ => True) (okp := fun _ => True) ?hrL1 ?hpL1 (fun _ hk => hk) trivial (Below.refl _ _) (Nat.le_refl _) (by simp) ?_; (case hdL1 => rfl); (case hgL1 => rfl); (case hrL1 => first | (go_simp; done) | (go_simp; rfl)); (case hpL1 => exact (Reps.none _ _)); intro v129 w3 ho4 hb hg_ hnew_; clear hg_ hnew_; (first | rw [← Ny128.out] at ho4 | (simp only [Int.reduceToNat] at ho4; rw [← Ny128.out] at ho4)); have HO130 := AM (Kd.R_lower ho4 (keep_size (w := w) (g := g) (row := none) kp_)); replace HK := AM (KeepBut.trans (kp_ (w := w)) (KeepBut.of_below hb g none) (.inl rfl)); replace HB := AM (below_step (belg_ (IsS144.ge HI0.out)) hb); replace HI0 := AM (IsS144.below is144_ hb); clear hb ho4))
  go_loopg [5, 6] k (fun kq v5 v6 w' => ∃ (x5_1 : List Int) (x6_1 : Int) (x1001_1 : Int) (x1002_1 : Int) (x1003_1 : Int), v6 = .int .i64 x6_1 ∧ Aside0 (spec_l01Src_bytes.l0 kq a1 x5_1 x6_1 s0_0 x1001_1 x1002_1 x1003_1 = some (r1, r2, r3, r4)) ∧ Aside0 (kq ≤ k) ∧ Aside0 (Kd.R (Kd.int .u8) 5 w' w.heap.size (fun _ => True) v5 x5_1) ∧ Aside0 (IsS144 w0 w' g s0_0 x1001_1 x1002_1 x1003_1) ∧ Aside0 (KeepBut w w' g none) ∧ Aside0 (Below w0.heap.size w0 w'))
  case atStart => exact ⟨(y128), (0), (s0_1), (s0_2), (s0_3), (by first | rfl | (simp; done) | (simp [*]; done)), H', ⟨Nat.le_refl _⟩, ⟨ro_ HO130.out⟩, ⟨is144_⟩, ⟨kp_⟩, ⟨belg_ (IsS144.ge HI0.out)⟩⟩
  case round =>
    clear H'
    try clear p2
    obtain ⟨x5_1, x6_1, x1001_1, x1002_1, x1003_1, rfl, HA, HK1, HO_5, HI0, HK, HB⟩ := hrel
    cases gk with
    | zero => exact absurd HA.out (by simp [spec_l01Src_bytes.l0])
    | succ k1 =>
      have H := HA.out
      clear HA
      simp only [spec_l01Src_bytes.l0] at H
      by_cases c5 : x6_1 < a1
      · rw [if_pos c5] at H
        have c5b0 : decide (x6_1 < a1) = true := decide_eq_true c5
        clear c5
        obtain ⟨⟨t131, t132, t133, t134⟩, A6, H⟩ := OB H
        try dsimp only at H
        replace A6 := AM A6
        by_cases c7 : x5_1.length < 140737488355328
        · rw [if_pos c7] at H
          have LMc7 := AM c7
          clear c7
          obtain ⟨y135, hy135⟩ : ∃ y_ : List Int, y_ = (x5_1 ++ [(t131) % 256]) := ⟨_, rfl⟩
          replace H : (spec_l01Src_bytes.l0 k1 a1 y135 (wrap64 (x6_1 + 1)) s0_0 t132 t133 t134) = some (r1, r2, r3, r4) := by first | (rw [hy135]; with_reducible exact H) | (have H2_ := (Option.bind_some _ _).symm.trans H; rw [hy135]; with_reducible exact H2_) | (have H2_ := (Option.bind_some _ _).symm.trans H; with_reducible exact H2_) | with_reducible exact H | (rw [hy135]; exact H) | exact H
          have Ny135 := AM hy135
          clear hy135
          have H' := AM H
          clear H
          go_wp2_with (first | ((with_reducible refine gate_callee (f := 79) rfl ?_); refine gl_ (some 15) Try.func79 #[.pointer (some ⟨g, 0, none⟩), .int .i64 256] ?_; (with_reducible refine (spec_l01Src_n.calls g s0_0 x1001_1 x1002_1 x1003_1 256 t131 t132 t133 t134 w0 _ ?side1 ?side2 A6.out).mono ?_); (case side1 => repeat (first | (with_reducible first | exact HI0.out | apply IsS144.alloc | apply IsS144.drewN | apply IsS144.drew | apply IsS144.set_1 | apply IsS144.set_2 | apply IsS144.set_3) | exact HI0.out)); (case side2 => repeat (first | (with_reducible first | exact HB.out | apply below_alloc | apply pw_below_drewN | apply below_drew1 | refine below_set ?_ (IsS144.ge HI0.out)) | exact HB.out)); rintro e w8 ⟨rfl, hi, hb, hk⟩; refine ⟨_, rfl, ?_⟩; replace HO_5 := AM (Kd.R_mono (Kd.R_keep (IsS144.apart (show IsS144 w0 _ g s0_0 x1001_1 x1002_1 x1003_1 from is144_) (ro_ HO_5.out) (by decide)) hk (fun _ h => h.2)) (fun _ h => h.1)); replace HK := AM (KeepBut.trans (kp_ (w := w)) hk (.inl rfl)); replace HB := AM hb; replace HI0 := AM hi; (try clear hb); (try clear hb2); (try clear hk); (try clear hi)) | ((with_reducible refine gate_builtin (b := .append) (xs := #[.tmp 13, .tmp 17]) rfl ?_); at_builtin; refine Kd.R_append (Kd.int .u8) w.heap.size rfl (.tmp 13) (.tmp 17) 22 5 (.int .u8 0) 1 rfl Try.underlying22 info5 rfl (by decide) (by omega) u5 x5_1 ((t131) % 256) [.int .u8 ((t131) % 256)] (fun _ => True) (fun _ => False) rfl rfl ?aP (fun _ hk => hk.elim) ?aF ?aO (Below.refl _ _) ?aS ?aL ?_; (case aP => exact rfl); (case aF => exact (fun _ _ => trivial)); (case aO => exact (ro_ HO_5.out)); (case aS => exact (keep_size (w := w) (g := g) (row := none) kp_)); (case aL => have := LMc7.out; omega); intro v136 w9 ho hb hg hat; rw [← Ny135.out] at ho; have n0_ := AM (IsS144.grown is144_ hg (IsS144.own_ne HI0.out HO_5.out (by decide))); have n1_ := AM (below_weaken (belg_ (IsS144.ge HI0.out)) HL.out hb); have n2_ := AM (KeepBut.trans (kp_ (w := w)) (KeepBut.of_grown hg g) (Kd.R_base2 HO_5.out)); have n3_ := AM ho; clear HI0; clear HB; clear HK; clear HO_5; have HI0 := n0_; have HB := n1_; have HK := n2_; have HO137 := n3_; clear n0_ n1_ n2_ n3_; clear ho hb hg hat))
          go_roundg k1
          case measure => have := HK1.out; omega
          case rel => exact ⟨(y135), (wrap64 (x6_1 + 1)), (t132), (t133), (t134), (by first | rfl | (simp; done) | (simp [*]; done)), H', ⟨by have := HK1.out; omega⟩, ⟨ro_ HO137.out⟩, ⟨is144_⟩, ⟨kp_⟩, ⟨belg_ (IsS144.ge HI0.out)⟩⟩
        · rw [if_neg c7] at H
          exact absurd H (by simp)
      · rw [if_neg c5] at H
        have c5b0 : decide (x6_1 < a1) = false := decide_eq_false c5
        clear c5
        simp only [Option.some.injEq, Prod.mk.injEq] at H
        obtain ⟨rfl, rfl, rfl, rfl⟩ := H
        have hcv10 := own_string (P := Try.prog) Try.underlying22 Try.underlying5 Try.underlying9 (Kd.own_of_R HO_5.out)
        go_wp2
        go_ret
        exact ⟨ri_, is144_, belg_ (IsS144.ge HI0.out), kp_⟩

/-! ### spec_l01Src_l04Text: function 50 -/
def spec_l01Src_l04Text.f (k : Nat) (s0_0 : List Int) (s0_1 : Int) (s0_2 : Int) (s0_3 : Int) : Option (ByteArray × Int × Int × Int) := (spec_l01Src_n.f s0_0 s0_1 s0_2 s0_3 (wrap64 (10 + (wrap64 (8 * s0_3))))).bind fun bt138 => ((spec_l01Src_bytes.f k s0_0 bt138.2.1 bt138.2.2.1 bt138.2.2.2 bt138.1).bind fun bt142 => (some (bt142.1, bt142.2.1, bt142.2.2.1, bt142.2.2.2)))
theorem spec_l01Src_l04Text.mono : ∀ a0 a1 a2 a3 k, LeO (spec_l01Src_l04Text.f k a0 a1 a2 a3) (spec_l01Src_l04Text.f (k + 1) a0 a1 a2 a3) := by
  intro a0 a1 a2 a3 k
  unfold spec_l01Src_l04Text.f
  repeat' first
      | (with_reducible exact spec_l01Src_bytes.mono _ _ _ _ _ _)
      | (with_reducible exact LeO.refl _)
      | (with_reducible exact LeO.none _)
      | (with_reducible refine LeO.ite ?_ ?_)
      | (with_reducible refine LeO.bind ?_ (fun _ => ?_))
      | exact spec_l01Src_bytes.mono _ _ _ _ _ _
      | exact LeO.none _
      | refine LeO.ite ?_ ?_
      | refine LeO.bind ?_ (fun _ => ?_)
set_option maxHeartbeats 8000000 in
set_option maxRecDepth 100000 in
theorem spec_l01Src_l04Text.calls (k : Nat) (g : Nat) (s0_0 : List Int) (s0_1 : Int) (s0_2 : Int) (s0_3 : Int) (r1 : ByteArray) (r2 : Int) (r3 : Int) (r4 : Int) (w0 w : World) (hI : IsS144 w0 w g s0_0 s0_1 s0_2 s0_3) (hB : Below w0.heap.size w0 w) (h : spec_l01Src_l04Text.f k s0_0 s0_1 s0_2 s0_3 = some (r1, r2, r3, r4)) :
    Calls Try.prog 50 #[.pointer (some ⟨g, 0, none⟩)] w fun e w' => e = .returned (.string r1) ∧ IsS144 w0 w' g s0_0 r2 r3 r4 ∧ Below w0.heap.size w0 w' ∧ KeepBut w w' g none := by
  have HI0 := AM hI
  have HK := AM (KeepBut.refl w g none)
  have HL := AM hB.size
  clear hI
  have HW0 := AM hB.size
  have HB := AM hB
  clear hB
  have H : ((spec_l01Src_n.f s0_0 s0_1 s0_2 s0_3 (wrap64 (10 + (wrap64 (8 * s0_3))))).bind fun bt138 => ((spec_l01Src_bytes.f k s0_0 bt138.2.1 bt138.2.2.1 bt138.2.2.2 bt138.1).bind fun bt142 => (some (bt142.1, bt142.2.1, bt142.2.2.1, bt142.2.2.2)))) = some (r1, r2, r3, r4) := h
  clear h
  obtain ⟨⟨t138, t139, t140, t141⟩, A2, H⟩ := OB H
  try dsimp only at H
  replace A2 := AM A2
  obtain ⟨⟨t142, t143, t144, t145⟩, A3, H⟩ := OB H
  try dsimp only at H
  replace A3 := AM A3
  simp only [Option.some.injEq, Prod.mk.injEq] at H
  obtain ⟨rfl, rfl, rfl, rfl⟩ := H
  obtain ⟨ASz4_0, cSz4_0, HGz4, hgz4, HSz4_0⟩ := HI0.out
  have hcz4_0 := cellS144_0 HGz4
  have hcz4_1 := cellS144_1 HGz4
  have hcz4_2 := cellS144_2 HGz4
  have hcz4_3 := cellS144_3 HGz4
  have hfz4_1 := blk_frozen HGz4 1
  have hfz4_2 := blk_frozen HGz4 2
  have hfz4_3 := blk_frozen HGz4 3
  clear HGz4 hgz4
  go_enter Try.func50, Try.ntmps50
  go_wp2_with (first | ((with_reducible refine gate_callee (f := 79) rfl ?_); refine gl_ (some 11) Try.func79 #[.pointer (some ⟨g, 0, none⟩), .int .i64 (wrap64 (10 + (wrap64 (8 * s0_3))))] ?_; (with_reducible refine (spec_l01Src_n.calls g s0_0 s0_1 s0_2 s0_3 (wrap64 (10 + (wrap64 (8 * s0_3)))) t138 t139 t140 t141 w0 _ ?side1 ?side2 A2.out).mono ?_); (case side1 => repeat (first | (with_reducible first | exact HI0.out | apply IsS144.alloc | apply IsS144.drewN | apply IsS144.drew | apply IsS144.set_1 | apply IsS144.set_2 | apply IsS144.set_3) | exact HI0.out)); (case side2 => repeat (first | (with_reducible first | exact HB.out | apply below_alloc | apply pw_below_drewN | apply below_drew1 | refine below_set ?_ (IsS144.ge HI0.out)) | exact HB.out)); rintro e w5 ⟨rfl, hi, hb, hk⟩; refine ⟨_, rfl, ?_⟩; replace HK := AM (KeepBut.trans (kp_ (w := w)) hk (.inl rfl)); replace HB := AM hb; replace HI0 := AM hi; (try clear hb); (try clear hb2); (try clear hk); (try clear hi)) | ((with_reducible refine gate_callee (f := 81) rfl ?_); refine gl_ (some 12) Try.func81 #[.pointer (some ⟨g, 0, none⟩), .int .i64 t138] ?_; (with_reducible refine (spec_l01Src_bytes.calls k g s0_0 t139 t140 t141 t138 t142 t143 t144 t145 w0 _ ?side1 ?side2 A3.out).mono ?_); (case side1 => repeat (first | (with_reducible first | exact HI0.out | apply IsS144.alloc | apply IsS144.drewN | apply IsS144.drew | apply IsS144.set_1 | apply IsS144.set_2 | apply IsS144.set_3) | exact HI0.out)); (case side2 => repeat (first | (with_reducible first | exact HB.out | apply below_alloc | apply pw_below_drewN | apply below_drew1 | refine below_set ?_ (IsS144.ge HI0.out)) | exact HB.out)); rintro e w6 ⟨rfl, hi, hb, hk⟩; refine ⟨_, rfl, ?_⟩; replace HK := AM (KeepBut.trans (kp_ (w := w)) hk (.inl rfl)); replace HB := AM hb; replace HI0 := AM hi; (try clear hb); (try clear hb2); (try clear hk); (try clear hi)))
  go_ret
  exact ⟨ri_, is144_, belg_ (IsS144.ge HI0.out), kp_⟩

/-! ### spec_DrawEncode: function 8 -/
def spec_DrawEncode.f (k : Nat) (l0 : List Int) : Option (Int × Int × ByteArray) := (spec_l01Source.f k l0).bind fun bt146 => ((spec_l01Src_l04Code.f bt146.1 bt146.2.1 bt146.2.2.1 bt146.2.2.2).bind fun bt151 => ((spec_l01Src_l04Text.f k bt146.1 bt151.2.2.1 bt151.2.2.2.1 bt151.2.2.2.2).bind fun bt156 => (some (bt151.1, bt151.2.1, bt156.1))))
theorem spec_DrawEncode.mono : ∀ a0 k, LeO (spec_DrawEncode.f k a0) (spec_DrawEncode.f (k + 1) a0) := by
  intro a0 k
  unfold spec_DrawEncode.f
  repeat' first
      | (with_reducible exact spec_l01Source.mono _ _)
      | (with_reducible exact spec_l01Src_l04Text.mono _ _ _ _ _)
      | (with_reducible exact LeO.refl _)
      | (with_reducible exact LeO.none _)
      | (with_reducible refine LeO.ite ?_ ?_)
      | (with_reducible refine LeO.bind ?_ (fun _ => ?_))
      | exact spec_l01Source.mono _ _
      | exact spec_l01Src_l04Text.mono _ _ _ _ _
      | exact LeO.none _
      | refine LeO.ite ?_ ?_
      | refine LeO.bind ?_ (fun _ => ?_)
set_option maxHeartbeats 8000000 in
set_option maxRecDepth 100000 in
theorem spec_DrawEncode.calls (k : Nat) (A0 : Option Addr) (c0 : Nat) (l0 : List Int) (r1 : Int) (r2 : Int) (r3 : ByteArray) (w : World) (hr0 : Kd.C (Kd.int .u8) w A0 l0.length l0) (hc0 : l0.length ≤ c0) (h : spec_DrawEncode.f k l0 = some (r1, r2, r3)) :
    Calls Try.prog 8 #[.slice A0 l0.length c0] w fun e w' => e = .returned (.tuple #[.int .i64 r1, .int .i64 r2, .string r3]) ∧ Below w.heap.size w w' := by
  have HR0 := AM hr0
  have HC0 := AM hc0
  clear hr0 hc0
  have HB := AM (Below.refl w.heap.size w)
  have H : ((spec_l01Source.f k l0).bind fun bt146 => ((spec_l01Src_l04Code.f bt146.1 bt146.2.1 bt146.2.2.1 bt146.2.2.2).bind fun bt151 => ((spec_l01Src_l04Text.f k bt146.1 bt151.2.2.1 bt151.2.2.2.1 bt151.2.2.2.2).bind fun bt156 => (some (bt151.1, bt151.2.1, bt156.1))))) = some (r1, r2, r3) := h
  clear h
  obtain ⟨⟨t146, t147, t148, t149⟩, A2, H⟩ := OB H
  try dsimp only at H
  replace A2 := AM A2
  obtain ⟨⟨t151, t152, t153, t154, t155⟩, A3, H⟩ := OB H
  try dsimp only at H
  replace A3 := AM A3
  obtain ⟨⟨t156, t157, t158, t159⟩, A4, H⟩ := OB H
  try dsimp only at H
  replace A4 := AM A4
  simp only [Option.some.injEq, Prod.mk.injEq] at H
  obtain ⟨rfl, rfl, rfl⟩ := H
  go_enter Try.func8, Try.ntmps8
  go_wp2_with (first | ((with_reducible refine gate_callee (f := 48) rfl ?_); refine gl_ (some 9) Try.func48 #[.slice A0 l0.length c0] ?_; (with_reducible refine (spec_l01Source.calls k _ _ l0 t146 t147 t148 t149 w _ ?side1 ?side2 ?side3 A2.out).mono ?_); (case side1 => repeat (first | (with_reducible first | exact HB.out | apply below_alloc | apply pw_below_drewN | apply below_drew1) | exact HB.out)); (case side2 => exact HR0.out); (case side3 => exact HC0.out); rintro e w5 ⟨g150, rfl, hi, hb, hb2⟩; refine ⟨_, rfl, ?_⟩; replace HB := AM hb; have HI150 := AM hi; (try clear hb); (try clear hb2); (try clear hk); (try clear hi)) | ((with_reducible refine gate_callee (f := 49) rfl ?_); refine gl_ (some 12) Try.func49 #[.pointer (some ⟨g150, 0, none⟩)] ?_; (with_reducible refine (spec_l01Src_l04Code.calls g150 t146 t147 t148 t149 t151 t152 t153 t154 t155 w _ ?side1 ?side2 A3.out).mono ?_); (case side1 => repeat (first | (with_reducible first | exact HI150.out | apply IsS144.alloc | apply IsS144.drewN | apply IsS144.drew | apply IsS144.set_1 | apply IsS144.set_2 | apply IsS144.set_3) | exact HI150.out)); (case side2 => repeat (first | (with_reducible first | exact HB.out | apply below_alloc | apply pw_below_drewN | apply below_drew1 | refine below_set ?_ (IsS144.ge HI150.out)) | exact HB.out)); rintro e w6 ⟨rfl, hi, hb, hk⟩; refine ⟨_, rfl, ?_⟩; replace HB := AM hb; replace HI150 := AM hi; (try clear hb); (try clear hb2); (try clear hk); (try clear hi)) | ((with_reducible refine gate_callee (f := 50) rfl ?_); refine gl_ (some 18) Try.func50 #[.pointer (some ⟨g150, 0, none⟩)] ?_; (with_reducible refine (spec_l01Src_l04Text.calls k g150 t146 t153 t154 t155 t156 t157 t158 t159 w _ ?side1 ?side2 A4.out).mono ?_); (case side1 => repeat (first | (with_reducible first | exact HI150.out | apply IsS144.alloc | apply IsS144.drewN | apply IsS144.drew | apply IsS144.set_1 | apply IsS144.set_2 | apply IsS144.set_3) | exact HI150.out)); (case side2 => repeat (first | (with_reducible first | exact HB.out | apply below_alloc | apply pw_below_drewN | apply below_drew1 | refine below_set ?_ (IsS144.ge HI150.out)) | exact HB.out)); rintro e w7 ⟨rfl, hi, hb, hk⟩; refine ⟨_, rfl, ?_⟩; replace HB := AM hb; replace HI150 := AM hi; (try clear hb); (try clear hb2); (try clear hk); (try clear hi)))
  go_ret3
  exact ⟨ri_, belg_ (IsS144.ge HI150.out)⟩

/-! ### spec_CodeRight: function 51 -/
def spec_CodeRight.f (a0 : Int) (a1 : Int) : Option (Bool) := if a0 ≥ 1 then (if a0 ≤ 8 then (if a1 ≥ 0 then (some (decide (a1 ≤ 6))) else (some false)) else (some false)) else (some false)
set_option maxHeartbeats 8000000 in
set_option maxRecDepth 100000 in
theorem spec_CodeRight.calls (a0 : Int) (a1 : Int) (r : Bool) (w : World) (h : spec_CodeRight.f a0 a1 = some r) :
    Calls Try.prog 51 #[.int .i64 a0, .int .i64 a1] w fun e w' => e = .returned (.bool r) ∧ Drawn0 w w' := by
  have H : (if a0 ≥ 1 then (if a0 ≤ 8 then (if a1 ≥ 0 then (some (decide (a1 ≤ 6))) else (some false)) else (some false)) else (some false)) = some r := h
  clear h
  by_cases c3 : a0 ≥ 1
  · rw [if_pos c3] at H
    have c3b0 : decide (1 ≤ a0) = true := decide_eq_true c3
    clear c3
    by_cases c4 : a0 ≤ 8
    · rw [if_pos c4] at H
      have c4b0 : decide (a0 ≤ 8) = true := decide_eq_true c4
      clear c4
      by_cases c5 : a1 ≥ 0
      · rw [if_pos c5] at H
        have c5b0 : decide (0 ≤ a1) = true := decide_eq_true c5
        clear c5
        obtain rfl := Option.some.inj H
        go_enter Try.func51, Try.ntmps51
        go_wp2
        go_ret
        exact ⟨by first | rfl | (simp; done) | (simp [*]; done), by repeat (first | exact Drawn0.refl _ | apply Drawn0.step)⟩
      · rw [if_neg c5] at H
        have c5b0 : decide (0 ≤ a1) = false := decide_eq_false c5
        clear c5
        obtain rfl := Option.some.inj H
        go_enter Try.func51, Try.ntmps51
        go_wp2
        go_ret
        exact ⟨by first | rfl | (simp; done) | (simp [*]; done), by repeat (first | exact Drawn0.refl _ | apply Drawn0.step)⟩
    · rw [if_neg c4] at H
      have c4b0 : decide (a0 ≤ 8) = false := decide_eq_false c4
      clear c4
      obtain rfl := Option.some.inj H
      go_enter Try.func51, Try.ntmps51
      go_wp2
      go_ret
      exact ⟨by first | rfl | (simp; done) | (simp [*]; done), by repeat (first | exact Drawn0.refl _ | apply Drawn0.step)⟩
  · rw [if_neg c3] at H
    have c3b0 : decide (1 ≤ a0) = false := decide_eq_false c3
    clear c3
    obtain rfl := Option.some.inj H
    go_enter Try.func51, Try.ntmps51
    go_wp2
    go_ret
    exact ⟨by first | rfl | (simp; done) | (simp [*]; done), by repeat (first | exact Drawn0.refl _ | apply Drawn0.step)⟩

/-! ### spec_l04Size: function 118 -/
def spec_l04Size.f (a0 : Int) : Option (Bool) := if a0 ≥ 0 then (some (decide (a0 ≤ 20000))) else (some false)
set_option maxHeartbeats 8000000 in
set_option maxRecDepth 100000 in
theorem spec_l04Size.calls (a0 : Int) (r : Bool) (w : World) (h : spec_l04Size.f a0 = some r) :
    Calls Try.prog 118 #[.int .i64 a0] w fun e w' => e = .returned (.bool r) ∧ Drawn0 w w' := by
  have H : (if a0 ≥ 0 then (some (decide (a0 ≤ 20000))) else (some false)) = some r := h
  clear h
  by_cases c2 : a0 ≥ 0
  · rw [if_pos c2] at H
    have c2b0 : decide (0 ≤ a0) = true := decide_eq_true c2
    clear c2
    obtain rfl := Option.some.inj H
    go_enter Try.func118, Try.ntmps118
    go_wp2
    go_ret
    exact ⟨by first | rfl | (simp; done) | (simp [*]; done), by repeat (first | exact Drawn0.refl _ | apply Drawn0.step)⟩
  · rw [if_neg c2] at H
    have c2b0 : decide (0 ≤ a0) = false := decide_eq_false c2
    clear c2
    obtain rfl := Option.some.inj H
    go_enter Try.func118, Try.ntmps118
    go_wp2
    go_ret
    exact ⟨by first | rfl | (simp; done) | (simp [*]; done), by repeat (first | exact Drawn0.refl _ | apply Drawn0.step)⟩

/-! ### spec_ShardSize: function 52 -/
def spec_ShardSize.f (a0 : Int) (a1 : Int) : Option (Int) := (spec_CodeRight.f a0 0).bind fun t160 => (if t160 = true then ((spec_l04Size.f a1).bind fun t161 => (if t161 = true then (if a0 = 0 then (none) else (some (wrap64 (Int.tdiv (wrap64 ((wrap64 (a1 + a0)) - 1)) a0)))) else (some 0))) else (some 0))
set_option maxHeartbeats 8000000 in
set_option maxRecDepth 100000 in
theorem spec_ShardSize.calls (a0 : Int) (a1 : Int) (r : Int) (w : World) (h : spec_ShardSize.f a0 a1 = some r) :
    Calls Try.prog 52 #[.int .i64 a0, .int .i64 a1] w fun e w' => e = .returned (.int .i64 r) ∧ Drawn0 w w' := by
  have H : ((spec_CodeRight.f a0 0).bind fun t160 => (if t160 = true then ((spec_l04Size.f a1).bind fun t161 => (if t161 = true then (if a0 = 0 then (none) else (some (wrap64 (Int.tdiv (wrap64 ((wrap64 (a1 + a0)) - 1)) a0)))) else (some 0))) else (some 0))) = some r := h
  clear h
  obtain ⟨t160, A3, H⟩ := OB H
  try dsimp only at H
  replace A3 := AM A3
  by_cases c4 : t160 = true
  · subst c4
    rw [if_pos rfl] at H
    obtain ⟨t161, A5, H⟩ := OB H
    try dsimp only at H
    replace A5 := AM A5
    by_cases c6 : t161 = true
    · subst c6
      rw [if_pos rfl] at H
      by_cases c7 : a0 = 0
      · rw [if_pos c7] at H
        exact absurd H (by simp)
      · rw [if_neg c7] at H
        have c7b0 : (a0 == 0) = false := beq_eq_false_iff_ne.mpr c7
        have c7b1 : (a0 != 0) = true := bne_iff_ne.mpr c7
        obtain rfl := Option.some.inj H
        go_enter Try.func52, Try.ntmps52
        go_wp2_with (first | ((with_reducible refine gate_callee (f := 51) rfl ?_); refine gl_ (some 6) Try.func51 #[.int .i64 a0, .int .i64 0] ?_; (with_reducible refine (spec_CodeRight.calls a0 0 true _ A3.out).mono ?_); rintro e w' ⟨rfl, ⟨nd, rfl⟩⟩; refine ⟨_, rfl, ?_⟩) | (go_at_call 118; (with_reducible refine (spec_l04Size.calls a1 true _ A5.out).mono ?_); rintro e w' ⟨rfl, ⟨nd, rfl⟩⟩))
        go_ret
        exact ⟨by first | rfl | (simp; done) | (simp [*]; done), by repeat (first | exact Drawn0.refl _ | apply Drawn0.step)⟩
    · replace c6 := Bool.eq_false_iff.mpr c6
      subst c6
      rw [if_neg (show ¬ (false = true) by decide)] at H
      obtain rfl := Option.some.inj H
      go_enter Try.func52, Try.ntmps52
      go_wp2_with (first | ((with_reducible refine gate_callee (f := 51) rfl ?_); refine gl_ (some 6) Try.func51 #[.int .i64 a0, .int .i64 0] ?_; (with_reducible refine (spec_CodeRight.calls a0 0 true _ A3.out).mono ?_); rintro e w' ⟨rfl, ⟨nd, rfl⟩⟩; refine ⟨_, rfl, ?_⟩) | (go_at_call 118; (with_reducible refine (spec_l04Size.calls a1 false _ A5.out).mono ?_); rintro e w' ⟨rfl, ⟨nd, rfl⟩⟩))
      go_ret
      exact ⟨by first | rfl | (simp; done) | (simp [*]; done), by repeat (first | exact Drawn0.refl _ | apply Drawn0.step)⟩
  · replace c4 := Bool.eq_false_iff.mpr c4
    subst c4
    rw [if_neg (show ¬ (false = true) by decide)] at H
    obtain rfl := Option.some.inj H
    go_enter Try.func52, Try.ntmps52
    go_wp2_with (first | ((with_reducible refine gate_callee (f := 51) rfl ?_); refine gl_ (some 6) Try.func51 #[.int .i64 a0, .int .i64 0] ?_; (with_reducible refine (spec_CodeRight.calls a0 0 false _ A3.out).mono ?_); rintro e w' ⟨rfl, ⟨nd, rfl⟩⟩; refine ⟨_, rfl, ?_⟩))
    go_ret
    exact ⟨by first | rfl | (simp; done) | (simp [*]; done), by repeat (first | exact Drawn0.refl _ | apply Drawn0.step)⟩

/-! ### spec_l02Mul: function 119 -/
def spec_l02Mul.l0 : Nat → Int → Int → Int → Option (Int)
  | 0, _, _, _ => none
  | k + 1, x0, x1, x5 => if x1 > 0 then (if (Int.tmod x1 2) = 1 then (if (wrap64 (2 * x0)) > 255 then (spec_l02Mul.l0 k (Go.bits .xor .i64 (wrap64 (2 * x0)) 285) (wrap64 (Int.tdiv x1 2)) (Go.bits .xor .i64 x5 x0)) else (spec_l02Mul.l0 k (wrap64 (2 * x0)) (wrap64 (Int.tdiv x1 2)) (Go.bits .xor .i64 x5 x0))) else (if (wrap64 (2 * x0)) > 255 then (spec_l02Mul.l0 k (Go.bits .xor .i64 (wrap64 (2 * x0)) 285) (wrap64 (Int.tdiv x1 2)) x5) else (spec_l02Mul.l0 k (wrap64 (2 * x0)) (wrap64 (Int.tdiv x1 2)) x5))) else (some x5)
def spec_l02Mul.f (k : Nat) (a0 : Int) (a1 : Int) : Option (Int) := spec_l02Mul.l0 k a0 a1 0
theorem spec_l02Mul.mono_l : ∀ k, (∀ y0 y1 y2, LeO (spec_l02Mul.l0 k y0 y1 y2) (spec_l02Mul.l0 (k + 1) y0 y1 y2))
  | 0 => fun _ _ _ r h => by simp [spec_l02Mul.l0] at h
  | k + 1 => by
    have ih0 := spec_l02Mul.mono_l k
    · intro y0 y1 y2
      unfold spec_l02Mul.l0
      repeat' first
      | (with_reducible exact ih0 _ _ _)
      | (with_reducible exact LeO.refl _)
      | (with_reducible exact LeO.none _)
      | (with_reducible refine LeO.ite ?_ ?_)
      | (with_reducible refine LeO.bind ?_ (fun _ => ?_))
      | exact ih0 _ _ _
      | exact LeO.none _
      | refine LeO.ite ?_ ?_
      | refine LeO.bind ?_ (fun _ => ?_)
theorem spec_l02Mul.mono : ∀ a0 a1 k, LeO (spec_l02Mul.f k a0 a1) (spec_l02Mul.f (k + 1) a0 a1) := by
  intro a0 a1 k
  have ih0 := spec_l02Mul.mono_l k
  unfold spec_l02Mul.f
  repeat' first
      | (with_reducible exact ih0 _ _ _)
      | (with_reducible exact LeO.refl _)
      | (with_reducible exact LeO.none _)
      | (with_reducible refine LeO.ite ?_ ?_)
      | (with_reducible refine LeO.bind ?_ (fun _ => ?_))
      | exact ih0 _ _ _
      | exact LeO.none _
      | refine LeO.ite ?_ ?_
      | refine LeO.bind ?_ (fun _ => ?_)
set_option maxHeartbeats 8000000 in
set_option maxRecDepth 100000 in
theorem spec_l02Mul.calls (k : Nat) (a0 : Int) (a1 : Int) (r : Int) (w : World) (h : spec_l02Mul.f k a0 a1 = some r) :
    Calls Try.prog 119 #[.int .i64 a0, .int .i64 a1] w fun e w' => e = .returned (.int .i64 r) ∧ Drawn0 w w' := by
  have H : (spec_l02Mul.l0 k a0 a1 0) = some r := h
  clear h
  have H' := AM H
  clear H
  go_enter Try.func119, Try.ntmps119
  go_wp2
  go_loopg [0, 1, 5] k (fun kq v0 v1 v5 w' => ∃ (x0_1 : Int) (x1_1 : Int) (x5_1 : Int), v0 = .int .i64 x0_1 ∧ v1 = .int .i64 x1_1 ∧ v5 = .int .i64 x5_1 ∧ Aside0 (spec_l02Mul.l0 kq x0_1 x1_1 x5_1 = some r) ∧ Aside0 (kq ≤ k) ∧ Drawn0 w w')
  case atStart => exact ⟨(a0), (a1), (0), (by first | rfl | (simp; done) | (simp [*]; done)), (by first | rfl | (simp; done) | (simp [*]; done)), (by first | rfl | (simp; done) | (simp [*]; done)), H', ⟨Nat.le_refl _⟩, by repeat (first | exact Drawn0.refl _ | apply Drawn0.step)⟩
  case round =>
    clear H'
    try clear c1
    try clear p2
    obtain ⟨x0_1, x1_1, x5_1, rfl, rfl, rfl, HA, HK1, ⟨m1, rfl⟩⟩ := hrel
    cases gk with
    | zero => exact absurd HA.out (by simp [spec_l02Mul.l0])
    | succ k1 =>
      have H := HA.out
      clear HA
      simp only [spec_l02Mul.l0] at H
      by_cases c3 : x1_1 > 0
      · rw [if_pos c3] at H
        have c3b0 : decide (0 < x1_1) = true := decide_eq_true c3
        clear c3
        by_cases c4 : (Int.tmod x1_1 2) = 1
        · rw [if_pos c4] at H
          have c4b0 : ((Int.tmod x1_1 2) == 1) = true := beq_iff_eq.mpr c4
          have c4b1 : ((Int.tmod x1_1 2) != 1) = false := bne_eq_false_iff_eq.mpr c4
          clear c4
          by_cases c5 : (wrap64 (2 * x0_1)) > 255
          · rw [if_pos c5] at H
            have c5b0 : decide (255 < (wrap64 (2 * x0_1))) = true := decide_eq_true c5
            try have c5b9 : (decide (255 < ((2 * x0_1)))) = true := (by have hw0 : wrap64 (2 * x0_1) = 2 * x0_1 := (by unfold wrap64; omega); have z_ := c5b0; simp only [hw0] at z_; exact z_)
            clear c5
            have H' := AM H
            clear H
            go_wp2
            go_roundg k1
            case measure => have := HK1.out; omega
            case rel => exact ⟨(Go.bits .xor .i64 (wrap64 (2 * x0_1)) 285), (wrap64 (Int.tdiv x1_1 2)), (Go.bits .xor .i64 x5_1 x0_1), (by first | rfl | (simp; done) | (simp [*]; done)), (by first | rfl | (simp; done) | (simp [*]; done)), (by first | rfl | (simp; done) | (simp [*]; done)), H', ⟨by have := HK1.out; omega⟩, by repeat (first | exact Drawn0.refl _ | apply Drawn0.step)⟩
          · rw [if_neg c5] at H
            have c5b0 : decide (255 < (wrap64 (2 * x0_1))) = false := decide_eq_false c5
            try have c5b9 : (decide (255 < ((2 * x0_1)))) = false := (by have hw0 : wrap64 (2 * x0_1) = 2 * x0_1 := (by unfold wrap64; omega); have z_ := c5b0; simp only [hw0] at z_; exact z_)
            clear c5
            have H' := AM H
            clear H
            go_wp2
            go_roundg k1
            case measure => have := HK1.out; omega
            case rel => exact ⟨(wrap64 (2 * x0_1)), (wrap64 (Int.tdiv x1_1 2)), (Go.bits .xor .i64 x5_1 x0_1), (by first | rfl | (simp; done) | (simp [*]; done)), (by first | rfl | (simp; done) | (simp [*]; done)), (by first | rfl | (simp; done) | (simp [*]; done)), H', ⟨by have := HK1.out; omega⟩, by repeat (first | exact Drawn0.refl _ | apply Drawn0.step)⟩
        · rw [if_neg c4] at H
          have c4b0 : ((Int.tmod x1_1 2) == 1) = false := beq_eq_false_iff_ne.mpr c4
          have c4b1 : ((Int.tmod x1_1 2) != 1) = true := bne_iff_ne.mpr c4
          by_cases c6 : (wrap64 (2 * x0_1)) > 255
          · rw [if_pos c6] at H
            have c6b0 : decide (255 < (wrap64 (2 * x0_1))) = true := decide_eq_true c6
            try have c6b9 : (decide (255 < ((2 * x0_1)))) = true := (by have hw0 : wrap64 (2 * x0_1) = 2 * x0_1 := (by unfold wrap64; omega); have z_ := c6b0; simp only [hw0] at z_; exact z_)
            clear c6
            have H' := AM H
            clear H
            go_wp2
            go_roundg k1
            case measure => have := HK1.out; omega
            case rel => exact ⟨(Go.bits .xor .i64 (wrap64 (2 * x0_1)) 285), (wrap64 (Int.tdiv x1_1 2)), (x5_1), (by first | rfl | (simp; done) | (simp [*]; done)), (by first | rfl | (simp; done) | (simp [*]; done)), (by first | rfl | (simp; done) | (simp [*]; done)), H', ⟨by have := HK1.out; omega⟩, by repeat (first | exact Drawn0.refl _ | apply Drawn0.step)⟩
          · rw [if_neg c6] at H
            have c6b0 : decide (255 < (wrap64 (2 * x0_1))) = false := decide_eq_false c6
            try have c6b9 : (decide (255 < ((2 * x0_1)))) = false := (by have hw0 : wrap64 (2 * x0_1) = 2 * x0_1 := (by unfold wrap64; omega); have z_ := c6b0; simp only [hw0] at z_; exact z_)
            clear c6
            have H' := AM H
            clear H
            go_wp2
            go_roundg k1
            case measure => have := HK1.out; omega
            case rel => exact ⟨(wrap64 (2 * x0_1)), (wrap64 (Int.tdiv x1_1 2)), (x5_1), (by first | rfl | (simp; done) | (simp [*]; done)), (by first | rfl | (simp; done) | (simp [*]; done)), (by first | rfl | (simp; done) | (simp [*]; done)), H', ⟨by have := HK1.out; omega⟩, by repeat (first | exact Drawn0.refl _ | apply Drawn0.step)⟩
      · rw [if_neg c3] at H
        have c3b0 : decide (0 < x1_1) = false := decide_eq_false c3
        clear c3
        obtain rfl := Option.some.inj H
        go_wp2
        go_ret
        exact ⟨by first | rfl | (simp; done) | (simp [*]; done), by repeat (first | exact Drawn0.refl _ | apply Drawn0.step)⟩

end Go.Proofs.Ytdbnajnelbebfaa.PFnWhole
