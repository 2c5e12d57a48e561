-- A program of this session wrote this text: a changed copy of the kit print, with given functions.
import Derived.Test.YtfffdndeccipnaaDoorPFnHashx0
import Derived.Test.YtfffdndeccipnaaDoorPFnHashx3
import Derived.Test.YtfffdndeccipnaaDoorPFnHashx5
import Derived.Test.YtfffdndeccipnaaDoorPFnHashx6
namespace Go.Proofs.YtfffdndeccipnaaDoor.PFnHash
open Go.RowKit Go.Proofs.YtfffdndeccipnaaDoorW.PrintWords Go.Proofs.YtfffdndeccipnaaDoorW.PrintLast Go.Proofs.YtfffdndeccipnaaDoorW.PrintMore Go.Proofs.YtfffdndeccipnaaDoor.Aut
attribute [local go_sem] max2_int min2_int max_two min_two max_three min_three max_four min_four   -- for this text's walks alone
set_option linter.unusedVariables false
set_option linter.unusedSimpArgs false

/-! ### laws_FnHash: function 5 -/
mutual
def laws_FnHash.j0 : Nat → List Int → List Int → Bool → Option (Bool)
  | 0, _, _, _ => none
  | k + 1, x0, x1, x18 => if x18 = true then (some true) else ((spec_DrawDigest.f k x0).bind fun t210 => ((impl_Digest.f t210).bind fun t211 => ((spec_Digest.f k t210).bind fun t212 => (if t211.toList = t212.toList then (if (t210.size : Int) > 20000 then (some (t211.toList == ([] : List UInt8))) else ((impl_HashBegin.f).bind fun bt213 => (laws_FnHash.l0 k x1 t210 t211 t210 0 bt213.1 bt213.2.1 bt213.2.2))) else (some false)))))
def laws_FnHash.l0 : Nat → List Int → ByteArray → ByteArray → ByteArray → Int → List Int → ByteArray → Int → Option (Bool)
  | 0, _, _, _, _, _, _, _, _ => none
  | k + 1, x1, x5, x6, x8, x9, x219000, x219001, x219002 => if x9 < 5 then ((laws_lwAt.f x1 x9 (wrap64 ((x8.size : Int) + 1))).bind fun t219 => (if 0 ≤ t219 then (if t219 ≤ (x8.size : Int) then ((impl_HashMore.f x219000 x219001 x219002 (x8.extract 0 (t219 : Int).toNat)).bind fun bt220 => ((impl_HashRight.f bt220.1 bt220.2.1 bt220.2.2).bind fun t225 => (if t225 = true then (laws_FnHash.l0 k x1 x5 x6 (x8.extract (t219 : Int).toNat x8.size) (wrap64 (x9 + 1)) bt220.1 bt220.2.1 bt220.2.2) else (some false)))) else (none)) else (none))) else ((impl_HashMore.f x219000 x219001 x219002 x8).bind fun bt226 => ((impl_HashEnd.f bt226.1 bt226.2.1 bt226.2.2).bind fun t231 => (if t231.toList = x6.toList then (if (x6.size : Int) = 32 then ((impl_Short.f k x5).bind fun t232 => (if 0 ≤ 4 then (if 4 ≤ (x6.size : Int) then ((impl_Hex.f k (x6.extract 0 4)).bind fun t233 => (if t232.toList = t233.toList then (some (bt226.2.2 == (x5.size : Int))) else (some false))) else (none)) else (none))) else (some false)) else (some false))))
end
def laws_FnHash.f (k : Nat) (l0 : List Int) (l1 : List Int) : Option (Bool) := if (l0.length : Int) > 1048576 then (laws_FnHash.j0 k l0 l1 true) else (laws_FnHash.j0 k l0 l1 (decide ((l1.length : Int) > 1048576)))
theorem laws_FnHash.mono_l : ∀ k, (∀ y0 y1 y2, LeO (laws_FnHash.j0 k y0 y1 y2) (laws_FnHash.j0 (k + 1) y0 y1 y2)) ∧ (∀ y0 y1 y2 y3 y4 y5 y6 y7, LeO (laws_FnHash.l0 k y0 y1 y2 y3 y4 y5 y6 y7) (laws_FnHash.l0 (k + 1) y0 y1 y2 y3 y4 y5 y6 y7))
  | 0 => ⟨fun _ _ _ r h => by simp [laws_FnHash.j0] at h, fun _ _ _ _ _ _ _ _ r h => by simp [laws_FnHash.l0] at h⟩
  | k + 1 => by
    obtain ⟨ih0, ih1⟩ := laws_FnHash.mono_l k
    refine ⟨?_, ?_⟩
    · intro y0 y1 y2
      unfold laws_FnHash.j0
      repeat' first
      | (with_reducible exact ih0 _ _ _)
      | (with_reducible exact ih1 _ _ _ _ _ _ _ _)
      | (with_reducible exact impl_Hex.mono _ _)
      | (with_reducible exact impl_Short.mono _ _)
      | (with_reducible exact spec_Digest.mono _ _)
      | (with_reducible exact spec_DrawDigest.mono _ _)
      | (with_reducible exact LeO.refl _)
      | (with_reducible exact LeO.none _)
      | (with_reducible refine LeO.ite ?_ ?_)
      | (with_reducible refine LeO.bind ?_ (fun _ => ?_))
      | exact ih0 _ _ _
      | exact ih1 _ _ _ _ _ _ _ _
      | exact impl_Hex.mono _ _
      | exact impl_Short.mono _ _
      | exact spec_Digest.mono _ _
      | exact spec_DrawDigest.mono _ _
      | exact LeO.none _
      | refine LeO.ite ?_ ?_
      | refine LeO.bind ?_ (fun _ => ?_)
    · intro y0 y1 y2 y3 y4 y5 y6 y7
      unfold laws_FnHash.l0
      repeat' first
      | (with_reducible exact ih0 _ _ _)
      | (with_reducible exact ih1 _ _ _ _ _ _ _ _)
      | (with_reducible exact impl_Hex.mono _ _)
      | (with_reducible exact impl_Short.mono _ _)
      | (with_reducible exact spec_Digest.mono _ _)
      | (with_reducible exact spec_DrawDigest.mono _ _)
      | (with_reducible exact LeO.refl _)
      | (with_reducible exact LeO.none _)
      | (with_reducible refine LeO.ite ?_ ?_)
      | (with_reducible refine LeO.bind ?_ (fun _ => ?_))
      | exact ih0 _ _ _
      | exact ih1 _ _ _ _ _ _ _ _
      | exact impl_Hex.mono _ _
      | exact impl_Short.mono _ _
      | exact spec_Digest.mono _ _
      | exact spec_DrawDigest.mono _ _
      | exact LeO.none _
      | refine LeO.ite ?_ ?_
      | refine LeO.bind ?_ (fun _ => ?_)
theorem laws_FnHash.mono : ∀ a0 a1 k, LeO (laws_FnHash.f k a0 a1) (laws_FnHash.f (k + 1) a0 a1) := by
  intro a0 a1 k
  obtain ⟨ih0, ih1⟩ := laws_FnHash.mono_l k
  unfold laws_FnHash.f
  repeat' first
      | (with_reducible exact ih0 _ _ _)
      | (with_reducible exact ih1 _ _ _ _ _ _ _ _)
      | (with_reducible exact impl_Hex.mono _ _)
      | (with_reducible exact impl_Short.mono _ _)
      | (with_reducible exact spec_Digest.mono _ _)
      | (with_reducible exact spec_DrawDigest.mono _ _)
      | (with_reducible exact LeO.refl _)
      | (with_reducible exact LeO.none _)
      | (with_reducible refine LeO.ite ?_ ?_)
      | (with_reducible refine LeO.bind ?_ (fun _ => ?_))
      | exact ih0 _ _ _
      | exact ih1 _ _ _ _ _ _ _ _
      | exact impl_Hex.mono _ _
      | exact impl_Short.mono _ _
      | exact spec_Digest.mono _ _
      | exact spec_DrawDigest.mono _ _
      | exact LeO.none _
      | refine LeO.ite ?_ ?_
      | refine LeO.bind ?_ (fun _ => ?_)
def laws_FnHash.T20 : Bool × List (List Nat × List Nat) := (true, [([], []), ([0], [0]), ([], []), ([1, 2], [1, 2]), ([3, 1], [3]), ([4], [4]), ([5, 4], [4, 5]), ([6, 4], [4, 6]), ([4, 7], [4, 7]), ([8, 4], [8]), ([9], [9]), ([10, 9, 9], [9, 10]), ([9], [9]), ([12, 9], [9, 12]), ([13, 11, 9], [9, 13]), ([11, 14, 9], [9, 11, 14]), ([9, 15], [9, 15]), ([16, 14], [16]), ([17], [17]), ([18, 17], [17, 18]), ([17], [17]), ([20, 17], [17, 20]), ([19, 21, 17], [17, 19, 21]), ([17, 22], [17, 22]), ([23, 17, 0, 1, 2, 3, 4, 5, 6, 7, 8, 9, 10, 11, 12, 13, 14, 15, 16, 17, 18, 19, 20, 21, 22, 23], [23])])
def laws_FnHash.B20 : List Nat := [0, 1, 0, 7, 15, 31, 63, 127, 255, 511, 1023, 2047, 1023, 5119, 16383, 32767, 65535, 131071, 262143, 524287, 262143, 1310719, 4194303, 8388607, 16777215]
theorem laws_FnHash.tab20 : rtab .any (opsOf Tryd.f5 20) = laws_FnHash.T20 := by kernel_rfl
theorem laws_FnHash.bits20 : waitsOk laws_FnHash.T20.2 laws_FnHash.B20 = true := by kernel_rfl
set_option maxHeartbeats 8000000 in
set_option maxRecDepth 100000 in
theorem laws_FnHash.calls (k : Nat) (A0 : Option Addr) (c0 : Nat) (l0 : List Int) (A1 : Option Addr) (c1 : Nat) (l1 : List Int) (r : Bool) (w : World) (hr0 : Kd.C (Kd.int .u8) w A0 l0.length l0) (hc0 : l0.length ≤ c0) (hr1 : Kd.C (Kd.int .u8) w A1 l1.length l1) (hc1 : l1.length ≤ c1) (h : laws_FnHash.f k l0 l1 = some r) (hL : Hand.LaidG w := by first | exact hL | exact Hand.LaidG.below hL bel_) :
    Calls Tryd.prog 5 #[.slice A0 l0.length c0, .slice A1 l1.length c1] w fun e w' => e = .returned (.bool r) ∧ Below w.heap.size w w' := by
  have hu39 := Tryd.underlying39
  have HR0 := AM hr0
  have HC0 := AM hc0
  clear hr0 hc0
  have HR1 := AM hr1
  have HC1 := AM hc1
  clear hr1 hc1
  have HB := AM (Below.refl w.heap.size w)
  have H : (if (l0.length : Int) > 1048576 then (laws_FnHash.j0 k l0 l1 true) else (laws_FnHash.j0 k l0 l1 (decide ((l1.length : Int) > 1048576)))) = some r := h
  clear h
  have HC3 := AM H
  clear H
  go_enter Tryd.func5, Tryd.ntmps5
  go_upto_region 1 with (fail)
  go_cut [18] (fun v18 wc => ∃ (kq : Nat) (x18_2 : Bool), v18 = .bool x18_2 ∧ Aside0 (laws_FnHash.j0 kq l0 l1 x18_2 = some r) ∧ Aside0 (kq ≤ k) ∧ Aside0 (Below w.heap.size w wc))
  case first =>
    have H := HC3.out
    clear HC3
    by_cases c4 : (l0.length : Int) > 1048576
    · rw [if_pos c4] at H
      have c4b0 : decide (1048576 < (l0.length : Int)) = true := decide_eq_true c4
      have c4b1 : decide (1048576 < l0.length) = true := decide_eq_true (by omega)
      clear c4
      (first | rw [c4b0] | (simp only [i64_w, i32_w]; rw [c4b0]) | skip)
      have H' := AM H
      clear H
      go_wp2
      go_meet
      case rel => exact ⟨_, (true), (by first | rfl | (simp; done) | (simp [*]; done)), H', ⟨by first | omega | exact Nat.le_refl _⟩, ⟨bel_⟩⟩
    · rw [if_neg c4] at H
      have c4b0 : decide (1048576 < (l0.length : Int)) = false := decide_eq_false c4
      have c4b1 : decide (1048576 < l0.length) = false := decide_eq_false (by omega)
      clear c4
      (first | rw [c4b0] | (simp only [i64_w, i32_w]; rw [c4b0]) | skip)
      have H' := AM H
      clear H
      go_wp2
      go_meet
      case rel => exact ⟨_, (decide ((l1.length : Int) > 1048576)), (by first | rfl | (simp; done) | (simp [*]; done)), H', ⟨by first | omega | exact Nat.le_refl _⟩, ⟨bel_⟩⟩
  case rest =>
    clear HC3
    try clear c1
    try clear p2
    try clear c4
    try clear c4b0
    try clear c4b1
    obtain ⟨kq, x18_2, rfl, HA, HJ2, HB⟩ := hcut
    cases kq with
    | zero => exact absurd HA.out (by simp [laws_FnHash.j0])
    | succ kj2 =>
      have H := HA.out
      clear HA
      simp only [laws_FnHash.j0] at H
      by_cases c5 : x18_2 = true
      · subst c5
        rw [if_pos rfl] at H
        obtain rfl := Option.some.inj H
        go_wp2
        go_ret
        exact ⟨ri_, bel_⟩
      · replace c5 := Bool.eq_false_iff.mpr c5
        subst c5
        rw [if_neg (show ¬ (false = true) by decide)] at H
        obtain ⟨t210, A6, H⟩ := OB H
        try dsimp only at H
        replace A6 := AM A6
        obtain ⟨t211, A7, H⟩ := OB H
        try dsimp only at H
        replace A7 := AM A7
        obtain ⟨t212, A8, H⟩ := OB H
        try dsimp only at H
        replace A8 := AM A8
        by_cases c9 : t211.toList = t212.toList
        · rw [if_pos c9] at H
          have c9b0 : (t211.toList == t212.toList) = true := beq_iff_eq.mpr c9
          have c9b1 : (t211.toList != t212.toList) = false := bne_eq_false_iff_eq.mpr c9
          clear c9
          by_cases c10 : (t210.size : Int) > 20000
          · rw [if_pos c10] at H
            have c10b0 : decide (20000 < (t210.size : Int)) = true := decide_eq_true c10
            have c10b1 : decide (20000 < t210.size) = true := decide_eq_true (by omega)
            clear c10
            obtain rfl := Option.some.inj H
            go_wp2_with (first | ((with_reducible refine gate_callee (f := 19) rfl ?_); refine gl_ (some 20) Tryd.func19 #[.slice A0 l0.length c0] ?_; (with_reducible refine (spec_DrawDigest.calls kj2 _ _ l0 t210 _ ?side1 ?side2 A6.out).mono ?_); (case side1 => repeat (first | exact (Kd.C_below HR0.out HB.out) | (with_reducible refine Kd.C_alloc ?_ _) | (with_reducible refine Kd.C_drewN ?_ _) | (with_reducible refine Kd.C_drew ?_))); (case side2 => exact HC0.out); rintro e w11 ⟨rfl, hb⟩; refine ⟨_, rfl, ?_⟩; replace HB := AM (below_step bel_ hb); (try clear hb); (try clear hb2); (try clear hk); (try clear hi)) | ((with_reducible refine gate_callee (f := 20) rfl ?_); refine gl_ (some 22) Tryd.func20 #[.string t210] ?_; (with_reducible refine (impl_Digest.calls t210 t211 _ A7.out).mono ?_); rintro e w12 ⟨rfl, hb⟩; refine ⟨_, rfl, ?_⟩; replace HB := AM (below_step bel_ hb); (try clear hb); (try clear hb2); (try clear hk); (try clear hi)) | ((with_reducible refine gate_callee (f := 21) rfl ?_); refine gl_ (some 25) Tryd.func21 #[.string t210] ?_; (with_reducible refine (spec_Digest.calls kj2 t210 t212 _ A8.out).mono ?_); rintro e w13 ⟨rfl, hb⟩; refine ⟨_, rfl, ?_⟩; replace HB := AM (below_step bel_ hb); (try clear hb); (try clear hb2); (try clear hk); (try clear hi)))
            go_ret
            exact ⟨ri_, bel_⟩
          · rw [if_neg c10] at H
            have c10b0 : decide (20000 < (t210.size : Int)) = false := decide_eq_false c10
            have c10b1 : decide (20000 < t210.size) = false := decide_eq_false (by omega)
            clear c10
            obtain ⟨⟨t213, t216, t217⟩, A14, H⟩ := OB H
            try dsimp only at H
            replace A14 := AM A14
            have H' := AM H
            clear H
            go_wp2_with (first | ((with_reducible refine gate_callee (f := 19) rfl ?_); refine gl_ (some 20) Tryd.func19 #[.slice A0 l0.length c0] ?_; (with_reducible refine (spec_DrawDigest.calls kj2 _ _ l0 t210 _ ?side1 ?side2 A6.out).mono ?_); (case side1 => repeat (first | exact (Kd.C_below HR0.out HB.out) | (with_reducible refine Kd.C_alloc ?_ _) | (with_reducible refine Kd.C_drewN ?_ _) | (with_reducible refine Kd.C_drew ?_))); (case side2 => exact HC0.out); rintro e w15 ⟨rfl, hb⟩; refine ⟨_, rfl, ?_⟩; replace HB := AM (below_step bel_ hb); (try clear hb); (try clear hb2); (try clear hk); (try clear hi)) | ((with_reducible refine gate_callee (f := 20) rfl ?_); refine gl_ (some 22) Tryd.func20 #[.string t210] ?_; (with_reducible refine (impl_Digest.calls t210 t211 _ A7.out).mono ?_); rintro e w16 ⟨rfl, hb⟩; refine ⟨_, rfl, ?_⟩; replace HB := AM (below_step bel_ hb); (try clear hb); (try clear hb2); (try clear hk); (try clear hi)) | ((with_reducible refine gate_callee (f := 21) rfl ?_); refine gl_ (some 25) Tryd.func21 #[.string t210] ?_; (with_reducible refine (spec_Digest.calls kj2 t210 t212 _ A8.out).mono ?_); rintro e w17 ⟨rfl, hb⟩; refine ⟨_, rfl, ?_⟩; replace HB := AM (below_step bel_ hb); (try clear hb); (try clear hb2); (try clear hk); (try clear hi)) | ((with_reducible refine gate_callee (f := 22) rfl ?_); refine gl_ (some 32) Tryd.func22 #[] ?_; (with_reducible refine (impl_HashBegin.calls  t213 t216 t217 _ A14.out).mono ?_); rintro e w18 ⟨v214, rfl, ho0, hb⟩; refine ⟨_, rfl, ?_⟩; have HO215 := AM (Kd.R_lower ho0 (below_size bel_)); replace HB := AM (below_step bel_ hb); (try clear hb); (try clear hb2); (try clear hk); (try clear hi); (try clear ho0)) | ((with_reducible refine gate_dst (N := 7) rfl ?_); (try (refine gate_guard (by rfl) ?_; dsimp only)); refine be_ 7 #[.slice none 0 0, .string (⟨#[]⟩ : ByteArray), .int .i64 0] 39 ?_; intro gb218 hg w19 hbox hb; replace HO215 := AM (Kd.R_below (ro_ HO215.out) hb); have BK218 := AM hbox; have GW218 := AM ((by rw [hg]; exact (below_size bel_) : w.heap.size ≤ gb218)); have GE218 := AM ((by rw [hg]; exact (below_size bel_) : w.heap.size ≤ gb218)); replace HB := AM (below_step bel_ hb); clear hb hbox hg; obtain ⟨Ao20, co20, eo20⟩ := Kd.R_slice HO215.out; subst eo20; have hcz21_0 : w19.cell? ⟨gb218, 0, none⟩ = some (.slice none 0 0) := (blk_cell BK218.out 0).trans rfl; have hcz21_1 : w19.cell? ⟨gb218, 1, none⟩ = some (.string (⟨#[]⟩ : ByteArray)) := (blk_cell BK218.out 1).trans rfl; have hcz21_2 : w19.cell? ⟨gb218, 2, none⟩ = some (.int .i64 0) := (blk_cell BK218.out 2).trans rfl; have hfz21_0 := blk_frozen BK218.out 0; have hfz21_1 := blk_frozen BK218.out 1; have hfz21_2 := blk_frozen BK218.out 2))
            go_loopg [8, 9] kj2 (fun kq v8 v9 w' => ∃ (x8_2 : ByteArray) (x9_2 : Int) (x219000_2 : List Int) (x219001_2 : ByteArray) (x219002_2 : Int) (u219000 : Value), v8 = .string x8_2 ∧ v9 = .int .i64 x9_2 ∧ Aside0 (laws_FnHash.l0 kq l1 t210 t211 x8_2 x9_2 x219000_2 x219001_2 x219002_2 = some r) ∧ Aside0 (kq ≤ kj2) ∧ Aside0 (Kd.R (Kd.int .i64) 2 w' w.heap.size (fun _ => True) u219000 x219000_2) ∧ Aside0 (w'.heap[gb218]? = some (.cells #[u219000, .string x219001_2, .int .i64 x219002_2] 39 (0, 0))) ∧ Aside0 (Below w.heap.size w w'))
            case atStart => exact ⟨(t210), (0), (t213), (t216), (t217), (.slice Ao20 t213.length co20), (by first | rfl | (simp; done) | (simp [*]; done)), (by first | rfl | (simp; done) | (simp [*]; done)), H', ⟨Nat.le_refl _⟩, ⟨by (with_reducible repeat (first | apply Kd.R_alloc | apply Kd.R_drewN | apply Kd.R_drew)); exact Kd.R_mono (Kd.R_far (p := ⟨gb218, 2, none⟩) (Kd.R_far (p := ⟨gb218, 1, none⟩) (Kd.R_far (p := ⟨gb218, 0, none⟩) (Kd.R_types HO215.out BK218.out (by decide)) (fun _ hk => hk.2) (.slice Ao20 t213.length co20)) (fun _ hk => hk.2) (.string t216)) (fun _ hk => hk.2) (.int .i64 t217)) (fun _ hk => trivial)⟩, ⟨bka_⟩, ⟨bel_⟩⟩
            case round =>
              clear H'
              try clear c1
              try clear c2
              try clear p2
              try clear c4
              try clear c4b0
              try clear c4b1
              try clear c5
              try clear c9
              try clear c9b0
              try clear c9b1
              try clear c10
              try clear c10b0
              try clear c10b1
              try clear c19
              try clear c20
              try clear c21
              try clear hcz21_0
              try clear hcz21_1
              try clear hcz21_2
              try clear hfz21_0
              try clear hfz21_1
              try clear hfz21_2
              try clear p2
              obtain ⟨x8_2, x9_2, x219000_2, x219001_2, x219002_2, u219000, rfl, rfl, HA, HK2, HO_219000, BK218, HB⟩ := hrel
              cases gk with
              | zero => exact absurd HA.out (by simp [laws_FnHash.l0])
              | succ k2 =>
                have H := HA.out
                clear HA
                simp only [laws_FnHash.l0] at H
                by_cases c22 : x9_2 < 5
                · rw [if_pos c22] at H
                  have c22b0 : decide (x9_2 < 5) = true := decide_eq_true c22
                  clear c22
                  obtain ⟨t219, A23, H⟩ := OB H
                  try dsimp only at H
                  replace A23 := AM A23
                  by_cases c24 : 0 ≤ t219
                  · rw [if_pos c24] at H
                    have c24b0 := eq_true c24
                    have c24b1 : decide (0 ≤ t219) = true := decide_eq_true c24
                    clear c24
                    by_cases c25 : t219 ≤ (x8_2.size : Int)
                    · rw [if_pos c25] at H
                      have c25b0 := eq_true c25
                      have c25b1 : decide (t219 ≤ (x8_2.size : Int)) = true := decide_eq_true c25
                      clear c25
                      obtain ⟨⟨t220, t223, t224⟩, A26, H⟩ := OB H
                      try dsimp only at H
                      replace A26 := AM A26
                      have c27b0 := eq_true (of_decide_eq_true (by first | (with_reducible assumption) | assumption) : 0 ≤ t219)
                      have c28b0 := eq_true (of_decide_eq_true (by first | (with_reducible assumption) | assumption) : t219 ≤ (x8_2.size : Int))
                      obtain ⟨t225, A29, H⟩ := OB H
                      try dsimp only at H
                      replace A29 := AM A29
                      by_cases c30 : t225 = true
                      · subst c30
                        rw [if_pos rfl] at H
                        have H' := AM H
                        clear H
                        try go_wp2_with (first | ((with_reducible refine gate_callee (f := 23) rfl ?_); refine gl_ (some 43) Tryd.func23 #[.slice A1 l1.length c1, .int .i64 x9_2, .int .i64 (wrap64 ((x8_2.size : Int) + 1))] ?_; (with_reducible refine (laws_lwAt.calls _ _ l1 x9_2 (wrap64 ((x8_2.size : Int) + 1)) t219 _ ?side1 ?side2 A23.out).mono ?_); (case side1 => repeat (first | exact (Kd.C_below HR1.out HB.out) | (with_reducible refine Kd.C_alloc ?_ _) | (with_reducible refine Kd.C_drewN ?_ _) | (with_reducible refine Kd.C_drew ?_))); (case side2 => exact HC1.out); rintro e w' ⟨rfl, ⟨nd, rfl⟩⟩; refine ⟨_, rfl, ?_⟩; (try (rw [drewN_self wr]; generalize hq_ : World.drewN wr _ = wr; replace HO_219000 : Aside0 (Kd.R (Kd.int .i64) 2 wr w.heap.size (fun _ => True) u219000 x219000_2) := ⟨by rw [← hq_]; exact (ro_ HO_219000.out)⟩; replace BK218 : Aside0 (wr.heap[gb218]? = some (.cells #[u219000, .string x219001_2, .int .i64 x219002_2] 39 (0, 0))) := ⟨by rw [← hq_]; exact (bk_ BK218.out)⟩; replace HB : Aside0 (Below w.heap.size w wr) := ⟨by rw [← hq_]; exact bel_⟩; clear hq_))))
                        replace HO_219000 := AM (Kd.R_drew HO_219000.out)
                        replace BK218 := AM (blk_drew BK218.out)
                        replace HB := AM (below_drew1 HB.out)
                        obtain ⟨Ao32, co32, eo32⟩ := Kd.R_slice HO_219000.out
                        (first | subst eo32 | (injection eo32 with f1_ f2_ f3_; have f4_ := f1_.symm; have f5_ := f3_.symm; clear f1_ f2_ f3_; subst f4_; subst f5_))
                        refine start_ (n := 6) (S := fun w' => w'.cell? ⟨gb218, 0, none⟩ = some (.slice Ao32 x219000_2.length co32) ∧ w'.cell? ⟨gb218, 1, none⟩ = some (.string x219001_2) ∧ w'.cell? ⟨gb218, 2, none⟩ = some (.int .i64 x219002_2)) (ds := [5]) #[false, false, false, false, false, false] (by kernel_rfl) rfl rfl ⟨(blk_cell BK218.out 0).trans rfl, (blk_cell BK218.out 1).trans rfl, (blk_cell BK218.out 2).trans rfl⟩ (fun hHeld => ?_)
                        generalize wr.drew = w31 at HO_219000 BK218 HB hHeld ⊢
                        refine pure_ (i := 1) (N := some 45) (v := ?_) (a' := ?_) #[false, true, false, false, false, false] rfl rfl (by kernel_rfl) (fun _ _ _ h => h) (Or.inl ⟨by rfl, ?_⟩) ?_ ?_
                        rotate_left
                        · intro w'
                          go_simp
                          with_reducible rfl
                        rotate_left
                        · simp only [Act.put, List.setIfInBounds_toArray, List.set_cons_zero, List.set_cons_succ, i64_w, i32_w]
                          rfl
                        refine pure_ (i := 2) (N := some 46) (v := ?_) (a' := ?_) #[false, true, true, false, false, false] rfl rfl (by kernel_rfl) (fun _ _ _ h => h) (Or.inl ⟨by rfl, ?_⟩) ?_ ?_
                        rotate_left
                        · intro w'
                          go_simp
                          with_reducible rfl
                        rotate_left
                        · simp only [Act.put, List.setIfInBounds_toArray, List.set_cons_zero, List.set_cons_succ, i64_w, i32_w]
                          rfl
                        refine pure_ (i := 3) (N := some 47) (v := ?_) (a' := ?_) #[false, true, true, true, false, false] rfl rfl (by kernel_rfl) (fun _ _ _ h => h) (Or.inl ⟨by rfl, ?_⟩) ?_ ?_
                        rotate_left
                        · intro w'
                          go_simp
                          with_reducible rfl
                        rotate_left
                        · simp only [Act.put, List.setIfInBounds_toArray, List.set_cons_zero, List.set_cons_succ, i64_w, i32_w]
                          rfl
                        refine take_ (i := 0) (N := some 44) (v := ?_) (a' := ?_) #[true, true, true, true, false, false] rfl rfl (by kernel_rfl) (fun _ _ _ h => h) (Or.inl ⟨by rfl, ?_⟩) hHeld ?_ ?_
                        rotate_left
                        · rintro w' ⟨s0, s1, s2⟩
                          go_simp
                          with_reducible rfl
                        rotate_left
                        · simp only [Act.put, List.setIfInBounds_toArray, List.set_cons_zero, List.set_cons_succ, i64_w, i32_w]
                          rfl
                        refine one_ (i := 4) (N := some 48) #[true, true, true, true, true, false] rfl rfl (by kernel_rfl) (by decide) (fun K hK => ?_)
                        refine go1_ Tryd.func24 #[.agg #[.slice Ao32 x219000_2.length co32, .string x219001_2, .int .i64 x219002_2], .string (x8_2.extract 0 (t219 : Int).toNat)] ?_
                        with_reducible refine (impl_HashMore.calls _ _ x219000_2 x219001_2 x219002_2 (x8_2.extract 0 (t219 : Int).toNat) t220 t223 t224 _ ?side1 ?side2 A26.out).mono ?_
                        (case side1 => repeat (first | exact (Kd.R_reads' HO_219000.out).2.2 | (with_reducible refine Kd.C_alloc ?_ _) | (with_reducible refine Kd.C_drewN ?_ _) | (with_reducible refine Kd.C_drew ?_)))
                        (case side2 => exact (Kd.R_reads' HO_219000.out).2.1)
                        rintro e w33 ⟨v221, rfl, ho0, hb⟩
                        refine ⟨_, rfl, ?_⟩
                        have HO222 := AM (Kd.R_lower (Kd.R_new' ho0 (Kd.R_lt (ro_ HO_219000.out))) (below_size bel_))
                        replace HO_219000 := AM (Kd.R_elder' (ro_ HO_219000.out) (Kd.R_base ho0) hb)
                        replace BK218 := AM (blk_below (g := gb218) (o := .cells #[.slice Ao32 x219000_2.length co32, .string x219001_2, .int .i64 x219002_2] 39 (0, 0)) (bk_ BK218.out) hb)
                        replace HB := AM (below_step bel_ hb)
                        (try clear hb)
                        (try clear hb2)
                        (try clear hk)
                        (try clear hi)
                        (try clear ho0)
                        obtain ⟨Ao34, co34, eo34⟩ := Kd.R_slice HO222.out
                        (first | subst eo34 | (injection eo34 with f1_ f2_ f3_; have f4_ := f1_.symm; have f5_ := f3_.symm; clear f1_ f2_ f3_; subst f4_; subst f5_))
                        refine hK.out _ _ ⟨(blk_cell BK218.out 0).trans rfl, (blk_cell BK218.out 1).trans rfl, (blk_cell BK218.out 2).trans rfl⟩ (fun hHeld => ?_)
                        clear hK K
                        refine nm_ ?_
                        refine last_ (i := 5) (N := none) #[true, true, true, true, true, true] rfl rfl (by kernel_rfl) (by decide) (fun K hK => ?_)
                        have hs35 : w33.cell? ⟨gb218, 0, none⟩ = some (.slice Ao32 x219000_2.length co32) := (blk_cell BK218.out 0).trans rfl
                        have hfs35 := blk_frozen BK218.out 0
                        have hs36 : w33.cell? ⟨gb218, 1, none⟩ = some (.string x219001_2) := (blk_cell BK218.out 1).trans rfl
                        have hfs36 := blk_frozen BK218.out 1
                        have hs37 : w33.cell? ⟨gb218, 2, none⟩ = some (.int .i64 x219002_2) := (blk_cell BK218.out 2).trans rfl
                        have hfs37 := blk_frozen BK218.out 2
                        refine sk_ ?_
                        refine hK.out _ _ ?_
                        clear hK K
                        refine done_ (by kernel_rfl) ?_
                        have hcz38_0 : w33.cell? ⟨gb218, 0, none⟩ = some (.slice Ao32 x219000_2.length co32) := (blk_cell BK218.out 0).trans rfl
                        have hcz38_1 : w33.cell? ⟨gb218, 1, none⟩ = some (.string x219001_2) := (blk_cell BK218.out 1).trans rfl
                        have hcz38_2 : w33.cell? ⟨gb218, 2, none⟩ = some (.int .i64 x219002_2) := (blk_cell BK218.out 2).trans rfl
                        have hfz38_0 := blk_frozen BK218.out 0
                        have hfz38_1 := blk_frozen BK218.out 1
                        have hfz38_2 := blk_frozen BK218.out 2
                        try go_wp2_with (first | ((with_reducible refine gate_callee (f := 25) rfl ?_); refine gl_ (some 53) Tryd.func25 #[.agg #[.slice Ao34 t220.length co34, .string t223, .int .i64 t224]] ?_; (with_reducible refine (impl_HashRight.calls _ _ t220 t223 t224 true _ ?side1 ?side2 A29.out).mono ?_); (case side1 => refine (Kd.R_reads' (e := 2) (base := w.heap.size) (ok := fun k_ => (True ∧ some k_ ≠ (.slice Ao32 x219000_2.length co32 : Value).ownBlock)) (n := t220.length) (c := co34) ?_).2.2; exact (by (with_reducible repeat (first | apply Kd.R_alloc | apply Kd.R_drewN | apply Kd.R_drew)); exact (Kd.R_mono (Kd.R_far (p := ⟨gb218, 2, none⟩) (Kd.R_far (p := ⟨gb218, 1, none⟩) (Kd.R_far (p := ⟨gb218, 0, none⟩) (Kd.R_types HO222.out BK218.out (by decide)) (fun _ hk => hk.2) (.slice Ao34 t220.length co34)) (fun _ hk => hk.2) (.string t223)) (fun _ hk => hk.2) (.int .i64 t224)) (fun _ h_ => h_.1)))); (case side2 => exact (Kd.R_reads' HO222.out).2.1); rintro e w39 ⟨rfl, hb⟩; refine ⟨_, rfl, ?_⟩; replace HO_219000 := AM (Kd.R_below (by (with_reducible repeat (first | apply Kd.R_alloc | apply Kd.R_drewN | apply Kd.R_drew)); exact (Kd.R_mono (Kd.R_far (p := ⟨gb218, 2, none⟩) (Kd.R_far (p := ⟨gb218, 1, none⟩) (Kd.R_far (p := ⟨gb218, 0, none⟩) (Kd.R_types HO_219000.out BK218.out (by decide)) (fun _ hk => hk.2) (.slice Ao34 t220.length co34)) (fun _ hk => hk.2) (.string t223)) (fun _ hk => hk.2) (.int .i64 t224)) (fun _ h_ => h_.1))) hb); replace HO222 := AM (Kd.R_below (by (with_reducible repeat (first | apply Kd.R_alloc | apply Kd.R_drewN | apply Kd.R_drew)); exact (Kd.R_mono (Kd.R_far (p := ⟨gb218, 2, none⟩) (Kd.R_far (p := ⟨gb218, 1, none⟩) (Kd.R_far (p := ⟨gb218, 0, none⟩) (Kd.R_types HO222.out BK218.out (by decide)) (fun _ hk => hk.2) (.slice Ao34 t220.length co34)) (fun _ hk => hk.2) (.string t223)) (fun _ hk => hk.2) (.int .i64 t224)) (fun _ h_ => h_.1))) hb); replace BK218 := AM (blk_below (g := gb218) (o := .cells #[.slice Ao34 t220.length co34, .string t223, .int .i64 t224] 39 (0, 0)) bka_ hb); replace HB := AM (below_step bel_ hb); (try clear hb); (try clear hb2); (try clear hk); (try clear hi)))
                        go_roundg k2
                        case measure => have := HJ2.out; have := HK2.out; omega
                        case rel => exact ⟨(x8_2.extract (t219 : Int).toNat x8_2.size), (wrap64 (x9_2 + 1)), (t220), (t223), (t224), (.slice Ao34 t220.length co34), (by first | rfl | (simp; done) | (simp [*]; done)), (by first | rfl | (simp; done) | (simp [*]; done)), H', ⟨by have := HJ2.out; have := HK2.out; omega⟩, ⟨by (with_reducible repeat (first | apply Kd.R_alloc | apply Kd.R_drewN | apply Kd.R_drew)); exact Kd.R_mono HO222.out (fun _ hk => trivial)⟩, ⟨bk_ BK218.out⟩, ⟨bel_⟩⟩
                      · replace c30 := Bool.eq_false_iff.mpr c30
                        subst c30
                        rw [if_neg (show ¬ (false = true) by decide)] at H
                        obtain rfl := Option.some.inj H
                        try go_wp2_with (first | ((with_reducible refine gate_callee (f := 23) rfl ?_); refine gl_ (some 43) Tryd.func23 #[.slice A1 l1.length c1, .int .i64 x9_2, .int .i64 (wrap64 ((x8_2.size : Int) + 1))] ?_; (with_reducible refine (laws_lwAt.calls _ _ l1 x9_2 (wrap64 ((x8_2.size : Int) + 1)) t219 _ ?side1 ?side2 A23.out).mono ?_); (case side1 => repeat (first | exact (Kd.C_below HR1.out HB.out) | (with_reducible refine Kd.C_alloc ?_ _) | (with_reducible refine Kd.C_drewN ?_ _) | (with_reducible refine Kd.C_drew ?_))); (case side2 => exact HC1.out); rintro e w' ⟨rfl, ⟨nd, rfl⟩⟩; refine ⟨_, rfl, ?_⟩; (try (rw [drewN_self wr]; generalize hq_ : World.drewN wr _ = wr; replace HO_219000 : Aside0 (Kd.R (Kd.int .i64) 2 wr w.heap.size (fun _ => True) u219000 x219000_2) := ⟨by rw [← hq_]; exact (ro_ HO_219000.out)⟩; replace BK218 : Aside0 (wr.heap[gb218]? = some (.cells #[u219000, .string x219001_2, .int .i64 x219002_2] 39 (0, 0))) := ⟨by rw [← hq_]; exact (bk_ BK218.out)⟩; replace HB : Aside0 (Below w.heap.size w wr) := ⟨by rw [← hq_]; exact bel_⟩; clear hq_))))
                        replace HO_219000 := AM (Kd.R_drew HO_219000.out)
                        replace BK218 := AM (blk_drew BK218.out)
                        replace HB := AM (below_drew1 HB.out)
                        obtain ⟨Ao41, co41, eo41⟩ := Kd.R_slice HO_219000.out
                        (first | subst eo41 | (injection eo41 with f1_ f2_ f3_; have f4_ := f1_.symm; have f5_ := f3_.symm; clear f1_ f2_ f3_; subst f4_; subst f5_))
                        refine start_ (n := 6) (S := fun w' => w'.cell? ⟨gb218, 0, none⟩ = some (.slice Ao41 x219000_2.length co41) ∧ w'.cell? ⟨gb218, 1, none⟩ = some (.string x219001_2) ∧ w'.cell? ⟨gb218, 2, none⟩ = some (.int .i64 x219002_2)) (ds := [5]) #[false, false, false, false, false, false] (by kernel_rfl) rfl rfl ⟨(blk_cell BK218.out 0).trans rfl, (blk_cell BK218.out 1).trans rfl, (blk_cell BK218.out 2).trans rfl⟩ (fun hHeld => ?_)
                        generalize wr.drew = w40 at HO_219000 BK218 HB hHeld ⊢
                        refine pure_ (i := 1) (N := some 45) (v := ?_) (a' := ?_) #[false, true, false, false, false, false] rfl rfl (by kernel_rfl) (fun _ _ _ h => h) (Or.inl ⟨by rfl, ?_⟩) ?_ ?_
                        rotate_left
                        · intro w'
                          go_simp
                          with_reducible rfl
                        rotate_left
                        · simp only [Act.put, List.setIfInBounds_toArray, List.set_cons_zero, List.set_cons_succ, i64_w, i32_w]
                          rfl
                        refine pure_ (i := 2) (N := some 46) (v := ?_) (a' := ?_) #[false, true, true, false, false, false] rfl rfl (by kernel_rfl) (fun _ _ _ h => h) (Or.inl ⟨by rfl, ?_⟩) ?_ ?_
                        rotate_left
                        · intro w'
                          go_simp
                          with_reducible rfl
                        rotate_left
                        · simp only [Act.put, List.setIfInBounds_toArray, List.set_cons_zero, List.set_cons_succ, i64_w, i32_w]
                          rfl
                        refine pure_ (i := 3) (N := some 47) (v := ?_) (a' := ?_) #[false, true, true, true, false, false] rfl rfl (by kernel_rfl) (fun _ _ _ h => h) (Or.inl ⟨by rfl, ?_⟩) ?_ ?_
                        rotate_left
                        · intro w'
                          go_simp
                          with_reducible rfl
                        rotate_left
                        · simp only [Act.put, List.setIfInBounds_toArray, List.set_cons_zero, List.set_cons_succ, i64_w, i32_w]
                          rfl
                        refine take_ (i := 0) (N := some 44) (v := ?_) (a' := ?_) #[true, true, true, true, false, false] rfl rfl (by kernel_rfl) (fun _ _ _ h => h) (Or.inl ⟨by rfl, ?_⟩) hHeld ?_ ?_
                        rotate_left
                        · rintro w' ⟨s0, s1, s2⟩
                          go_simp
                          with_reducible rfl
                        rotate_left
                        · simp only [Act.put, List.setIfInBounds_toArray, List.set_cons_zero, List.set_cons_succ, i64_w, i32_w]
                          rfl
                        refine one_ (i := 4) (N := some 48) #[true, true, true, true, true, false] rfl rfl (by kernel_rfl) (by decide) (fun K hK => ?_)
                        refine go1_ Tryd.func24 #[.agg #[.slice Ao41 x219000_2.length co41, .string x219001_2, .int .i64 x219002_2], .string (x8_2.extract 0 (t219 : Int).toNat)] ?_
                        with_reducible refine (impl_HashMore.calls _ _ x219000_2 x219001_2 x219002_2 (x8_2.extract 0 (t219 : Int).toNat) t220 t223 t224 _ ?side1 ?side2 A26.out).mono ?_
                        (case side1 => repeat (first | exact (Kd.R_reads' HO_219000.out).2.2 | (with_reducible refine Kd.C_alloc ?_ _) | (with_reducible refine Kd.C_drewN ?_ _) | (with_reducible refine Kd.C_drew ?_)))
                        (case side2 => exact (Kd.R_reads' HO_219000.out).2.1)
                        rintro e w42 ⟨v221, rfl, ho0, hb⟩
                        refine ⟨_, rfl, ?_⟩
                        have HO222 := AM (Kd.R_lower (Kd.R_new' ho0 (Kd.R_lt (ro_ HO_219000.out))) (below_size bel_))
                        replace HO_219000 := AM (Kd.R_elder' (ro_ HO_219000.out) (Kd.R_base ho0) hb)
                        replace BK218 := AM (blk_below (g := gb218) (o := .cells #[.slice Ao41 x219000_2.length co41, .string x219001_2, .int .i64 x219002_2] 39 (0, 0)) (bk_ BK218.out) hb)
                        replace HB := AM (below_step bel_ hb)
                        (try clear hb)
                        (try clear hb2)
                        (try clear hk)
                        (try clear hi)
                        (try clear ho0)
                        obtain ⟨Ao43, co43, eo43⟩ := Kd.R_slice HO222.out
                        (first | subst eo43 | (injection eo43 with f1_ f2_ f3_; have f4_ := f1_.symm; have f5_ := f3_.symm; clear f1_ f2_ f3_; subst f4_; subst f5_))
                        refine hK.out _ _ ⟨(blk_cell BK218.out 0).trans rfl, (blk_cell BK218.out 1).trans rfl, (blk_cell BK218.out 2).trans rfl⟩ (fun hHeld => ?_)
                        clear hK K
                        refine nm_ ?_
                        refine last_ (i := 5) (N := none) #[true, true, true, true, true, true] rfl rfl (by kernel_rfl) (by decide) (fun K hK => ?_)
                        have hs44 : w42.cell? ⟨gb218, 0, none⟩ = some (.slice Ao41 x219000_2.length co41) := (blk_cell BK218.out 0).trans rfl
                        have hfs44 := blk_frozen BK218.out 0
                        have hs45 : w42.cell? ⟨gb218, 1, none⟩ = some (.string x219001_2) := (blk_cell BK218.out 1).trans rfl
                        have hfs45 := blk_frozen BK218.out 1
                        have hs46 : w42.cell? ⟨gb218, 2, none⟩ = some (.int .i64 x219002_2) := (blk_cell BK218.out 2).trans rfl
                        have hfs46 := blk_frozen BK218.out 2
                        refine sk_ ?_
                        refine hK.out _ _ ?_
                        clear hK K
                        refine done_ (by kernel_rfl) ?_
                        have hcz47_0 : w42.cell? ⟨gb218, 0, none⟩ = some (.slice Ao41 x219000_2.length co41) := (blk_cell BK218.out 0).trans rfl
                        have hcz47_1 : w42.cell? ⟨gb218, 1, none⟩ = some (.string x219001_2) := (blk_cell BK218.out 1).trans rfl
                        have hcz47_2 : w42.cell? ⟨gb218, 2, none⟩ = some (.int .i64 x219002_2) := (blk_cell BK218.out 2).trans rfl
                        have hfz47_0 := blk_frozen BK218.out 0
                        have hfz47_1 := blk_frozen BK218.out 1
                        have hfz47_2 := blk_frozen BK218.out 2
                        try go_wp2_with (first | ((with_reducible refine gate_callee (f := 25) rfl ?_); refine gl_ (some 53) Tryd.func25 #[.agg #[.slice Ao43 t220.length co43, .string t223, .int .i64 t224]] ?_; (with_reducible refine (impl_HashRight.calls _ _ t220 t223 t224 false _ ?side1 ?side2 A29.out).mono ?_); (case side1 => refine (Kd.R_reads' (e := 2) (base := w.heap.size) (ok := fun k_ => (True ∧ some k_ ≠ (.slice Ao41 x219000_2.length co41 : Value).ownBlock)) (n := t220.length) (c := co43) ?_).2.2; exact (by (with_reducible repeat (first | apply Kd.R_alloc | apply Kd.R_drewN | apply Kd.R_drew)); exact (Kd.R_mono (Kd.R_far (p := ⟨gb218, 2, none⟩) (Kd.R_far (p := ⟨gb218, 1, none⟩) (Kd.R_far (p := ⟨gb218, 0, none⟩) (Kd.R_types HO222.out BK218.out (by decide)) (fun _ hk => hk.2) (.slice Ao43 t220.length co43)) (fun _ hk => hk.2) (.string t223)) (fun _ hk => hk.2) (.int .i64 t224)) (fun _ h_ => h_.1)))); (case side2 => exact (Kd.R_reads' HO222.out).2.1); rintro e w48 ⟨rfl, hb⟩; refine ⟨_, rfl, ?_⟩; replace HO_219000 := AM (Kd.R_below (by (with_reducible repeat (first | apply Kd.R_alloc | apply Kd.R_drewN | apply Kd.R_drew)); exact (Kd.R_mono (Kd.R_far (p := ⟨gb218, 2, none⟩) (Kd.R_far (p := ⟨gb218, 1, none⟩) (Kd.R_far (p := ⟨gb218, 0, none⟩) (Kd.R_types HO_219000.out BK218.out (by decide)) (fun _ hk => hk.2) (.slice Ao43 t220.length co43)) (fun _ hk => hk.2) (.string t223)) (fun _ hk => hk.2) (.int .i64 t224)) (fun _ h_ => h_.1))) hb); replace HO222 := AM (Kd.R_below (by (with_reducible repeat (first | apply Kd.R_alloc | apply Kd.R_drewN | apply Kd.R_drew)); exact (Kd.R_mono (Kd.R_far (p := ⟨gb218, 2, none⟩) (Kd.R_far (p := ⟨gb218, 1, none⟩) (Kd.R_far (p := ⟨gb218, 0, none⟩) (Kd.R_types HO222.out BK218.out (by decide)) (fun _ hk => hk.2) (.slice Ao43 t220.length co43)) (fun _ hk => hk.2) (.string t223)) (fun _ hk => hk.2) (.int .i64 t224)) (fun _ h_ => h_.1))) hb); replace BK218 := AM (blk_below (g := gb218) (o := .cells #[.slice Ao43 t220.length co43, .string t223, .int .i64 t224] 39 (0, 0)) bka_ hb); replace HB := AM (below_step bel_ hb); (try clear hb); (try clear hb2); (try clear hk); (try clear hi)))
                        go_ret
                        exact ⟨ri_, bel_⟩
                    · rw [if_neg c25] at H
                      exact absurd H (by simp)
                  · rw [if_neg c24] at H
                    exact absurd H (by simp)
                · rw [if_neg c22] at H
                  have c22b0 : decide (x9_2 < 5) = false := decide_eq_false c22
                  clear c22
                  obtain ⟨⟨t226, t229, t230⟩, A49, H⟩ := OB H
                  try dsimp only at H
                  replace A49 := AM A49
                  obtain ⟨t231, A50, H⟩ := OB H
                  try dsimp only at H
                  replace A50 := AM A50
                  by_cases c51 : t231.toList = t211.toList
                  · rw [if_pos c51] at H
                    have c51b0 : (t231.toList == t211.toList) = true := beq_iff_eq.mpr c51
                    have c51b1 : (t231.toList != t211.toList) = false := bne_eq_false_iff_eq.mpr c51
                    clear c51
                    by_cases c52 : (t211.size : Int) = 32
                    · rw [if_pos c52] at H
                      have c52b0 : ((t211.size : Int) == 32) = true := beq_iff_eq.mpr c52
                      have c52b1 : ((t211.size : Int) != 32) = false := bne_eq_false_iff_eq.mpr c52
                      clear c52
                      obtain ⟨t232, A53, H⟩ := OB H
                      try dsimp only at H
                      replace A53 := AM A53
                      by_cases c54 : 0 ≤ 4
                      · rw [if_pos c54] at H
                        have c54b0 := eq_true c54
                        have c54b1 : decide (0 ≤ 4) = true := decide_eq_true c54
                        clear c54
                        by_cases c55 : 4 ≤ (t211.size : Int)
                        · rw [if_pos c55] at H
                          have c55b0 := eq_true c55
                          have c55b1 : decide (4 ≤ (t211.size : Int)) = true := decide_eq_true c55
                          clear c55
                          obtain ⟨t233, A56, H⟩ := OB H
                          try dsimp only at H
                          replace A56 := AM A56
                          by_cases c57 : t232.toList = t233.toList
                          · rw [if_pos c57] at H
                            have c57b0 : (t232.toList == t233.toList) = true := beq_iff_eq.mpr c57
                            have c57b1 : (t232.toList != t233.toList) = false := bne_eq_false_iff_eq.mpr c57
                            clear c57
                            obtain rfl := Option.some.inj H
                            have hcz58_0 : wr.cell? ⟨gb218, 0, none⟩ = some (u219000) := (blk_cell BK218.out 0).trans rfl
                            have hcz58_1 : wr.cell? ⟨gb218, 1, none⟩ = some (.string x219001_2) := (blk_cell BK218.out 1).trans rfl
                            have hcz58_2 : wr.cell? ⟨gb218, 2, none⟩ = some (.int .i64 x219002_2) := (blk_cell BK218.out 2).trans rfl
                            have hfz58_0 := blk_frozen BK218.out 0
                            have hfz58_1 := blk_frozen BK218.out 1
                            have hfz58_2 := blk_frozen BK218.out 2
                            obtain ⟨Ao59, co59, eo59⟩ := Kd.R_slice HO_219000.out
                            subst eo59
                            try go_wp2_with (first | ((with_reducible refine gate_callee (f := 24) rfl ?_); refine gl_ (some 57) Tryd.func24 #[.agg #[.slice Ao59 x219000_2.length co59, .string x219001_2, .int .i64 x219002_2], .string x8_2] ?_; (with_reducible refine (impl_HashMore.calls _ _ x219000_2 x219001_2 x219002_2 x8_2 t226 t229 t230 _ ?side1 ?side2 A49.out).mono ?_); (case side1 => repeat (first | exact (Kd.R_reads' HO_219000.out).2.2 | (with_reducible refine Kd.C_alloc ?_ _) | (with_reducible refine Kd.C_drewN ?_ _) | (with_reducible refine Kd.C_drew ?_))); (case side2 => exact (Kd.R_reads' HO_219000.out).2.1); rintro e w60 ⟨v227, rfl, ho0, hb⟩; refine ⟨_, rfl, ?_⟩; have HO228 := AM (Kd.R_lower (Kd.R_new' ho0 (Kd.R_lt (ro_ HO_219000.out))) (below_size bel_)); replace HO_219000 := AM (Kd.R_elder' (ro_ HO_219000.out) (Kd.R_base ho0) hb); replace BK218 := AM (blk_below (g := gb218) (o := .cells #[.slice Ao59 x219000_2.length co59, .string x219001_2, .int .i64 x219002_2] 39 (0, 0)) (bk_ BK218.out) hb); replace HB := AM (below_step bel_ hb); (try clear hb); (try clear hb2); (try clear hk); (try clear hi); (try clear ho0); obtain ⟨Ao61, co61, eo61⟩ := Kd.R_slice HO228.out; subst eo61; have hcz62_0 : w60.cell? ⟨gb218, 0, none⟩ = some (.slice Ao59 x219000_2.length co59) := (blk_cell BK218.out 0).trans rfl; have hcz62_1 : w60.cell? ⟨gb218, 1, none⟩ = some (.string x219001_2) := (blk_cell BK218.out 1).trans rfl; have hcz62_2 : w60.cell? ⟨gb218, 2, none⟩ = some (.int .i64 x219002_2) := (blk_cell BK218.out 2).trans rfl; have hfz62_0 := blk_frozen BK218.out 0; have hfz62_1 := blk_frozen BK218.out 1; have hfz62_2 := blk_frozen BK218.out 2))
                            have n0_ : Aside0 (Kd.R (Kd.int .i64) 2 (((w60.setCell ⟨gb218, 0, none⟩ (.slice Ao61 t226.length co61)).setCell ⟨gb218, 1, none⟩ (.string t229)).setCell ⟨gb218, 2, none⟩ (.int .i64 t230)) w.heap.size (fun k_ => some k_ ≠ (.slice Ao61 t226.length co61 : Value).ownBlock) (.slice Ao59 x219000_2.length co59) x219000_2) := ⟨by (with_reducible repeat (first | apply Kd.R_alloc | apply Kd.R_drewN | apply Kd.R_drew)); exact Kd.R_mono (Kd.R_far (p := ⟨gb218, 2, none⟩) (Kd.R_far (p := ⟨gb218, 1, none⟩) (Kd.R_far (p := ⟨gb218, 0, none⟩) (Kd.R_types HO_219000.out BK218.out (by decide)) (fun _ hk => hk.2) (.slice Ao61 t226.length co61)) (fun _ hk => hk.2) (.string t229)) (fun _ hk => hk.2) (.int .i64 t230)) (fun _ hk => hk.1.2)⟩
                            have n1_ : Aside0 (Kd.R (Kd.int .i64) 2 (((w60.setCell ⟨gb218, 0, none⟩ (.slice Ao61 t226.length co61)).setCell ⟨gb218, 1, none⟩ (.string t229)).setCell ⟨gb218, 2, none⟩ (.int .i64 t230)) w.heap.size (fun k_ => some k_ ≠ (.slice Ao59 x219000_2.length co59 : Value).ownBlock) (.slice Ao61 t226.length co61) t226) := ⟨by (with_reducible repeat (first | apply Kd.R_alloc | apply Kd.R_drewN | apply Kd.R_drew)); exact Kd.R_mono (Kd.R_far (p := ⟨gb218, 2, none⟩) (Kd.R_far (p := ⟨gb218, 1, none⟩) (Kd.R_far (p := ⟨gb218, 0, none⟩) (Kd.R_types HO228.out BK218.out (by decide)) (fun _ hk => hk.2) (.slice Ao61 t226.length co61)) (fun _ hk => hk.2) (.string t229)) (fun _ hk => hk.2) (.int .i64 t230)) (fun _ hk => hk.1.2)⟩
                            have n2_ : Aside0 ((((w60.setCell ⟨gb218, 0, none⟩ (.slice Ao61 t226.length co61)).setCell ⟨gb218, 1, none⟩ (.string t229)).setCell ⟨gb218, 2, none⟩ (.int .i64 t230)).heap[gb218]? = some (.cells #[.slice Ao61 t226.length co61, .string t229, .int .i64 t230] 39 (0, 0))) := ⟨bka_⟩
                            have n3_ : Aside0 (Below w.heap.size w (((w60.setCell ⟨gb218, 0, none⟩ (.slice Ao61 t226.length co61)).setCell ⟨gb218, 1, none⟩ (.string t229)).setCell ⟨gb218, 2, none⟩ (.int .i64 t230))) := ⟨bel_⟩
                            (try clear HO_219000)
                            (try clear HO228)
                            (try clear BK218)
                            (try clear HB)
                            generalize (((w60.setCell ⟨gb218, 0, none⟩ (.slice Ao61 t226.length co61)).setCell ⟨gb218, 1, none⟩ (.string t229)).setCell ⟨gb218, 2, none⟩ (.int .i64 t230)) = w63 at n0_ n1_ n2_ n3_ ⊢
                            have HO_219000 := n0_
                            have HO228 := n1_
                            have BK218 := n2_
                            have HB := n3_
                            clear n0_ n1_ n2_ n3_
                            replace HO_219000 := AM (Kd.R_drew HO_219000.out)
                            replace HO228 := AM (Kd.R_drew HO228.out)
                            replace BK218 := AM (blk_drew BK218.out)
                            replace HB := AM (below_drew1 HB.out)
                            refine start_ (n := 25) (S := fun w' => w'.cell? ⟨gb218, 0, none⟩ = some (.slice Ao61 t226.length co61) ∧ w'.cell? ⟨gb218, 1, none⟩ = some (.string t229) ∧ w'.cell? ⟨gb218, 2, none⟩ = some (.int .i64 t230)) (ds := []) #[false, false, false, false, false, false, false, false, false, false, false, false, false, false, false, false, false, false, false, false, false, false, false, false, false] (by kernel_rfl) rfl rfl ⟨(blk_cell BK218.out 0).trans rfl, (blk_cell BK218.out 1).trans rfl, (blk_cell BK218.out 2).trans rfl⟩ (fun hHeld => ?_); refine with_tabW laws_FnHash.tab20 laws_FnHash.bits20 (fun HT_ HW_ => ?_)
                            generalize w63.drew = w64 at HO_219000 HO228 BK218 HB hHeld ⊢
                            refine pu_ HT_ 2 (some 60) #[false, false, true, false, false, false, false, false, false, false, false, false, false, false, false, false, false, false, false, false, false, false, false, false, false] ?_
                            refine ta_ HT_ HW_ 0 (some 58) #[true, false, true, false, false, false, false, false, false, false, false, false, false, false, false, false, false, false, false, false, false, false, false, false, false] hHeld ?_
                            refine on_ HT_ 1 (some 59) #[true, true, true, false, false, false, false, false, false, false, false, false, false, false, false, false, false, false, false, false, false, false, false, false, false] (fun K hK => ?_)
                            refine go1_ Tryd.func26 #[.agg #[.slice Ao61 t226.length co61, .string t229, .int .i64 t230]] ?_
                            with_reducible refine (impl_HashEnd.calls _ _ t226 t229 t230 t231 _ ?side1 ?side2 A50.out).mono ?_
                            (case side1 => repeat (first | exact (Kd.R_reads' HO228.out).2.2 | (with_reducible refine Kd.C_alloc ?_ _) | (with_reducible refine Kd.C_drewN ?_ _) | (with_reducible refine Kd.C_drew ?_)))
                            (case side2 => exact (Kd.R_reads' HO228.out).2.1)
                            rintro e w65 ⟨rfl, hb⟩
                            refine ⟨_, rfl, ?_⟩
                            replace HO_219000 := AM (Kd.R_below (ro_ HO_219000.out) hb)
                            replace HO228 := AM (Kd.R_below (ro_ HO228.out) hb)
                            replace BK218 := AM (blk_below (g := gb218) (o := .cells #[.slice Ao61 t226.length co61, .string t229, .int .i64 t230] 39 (0, 0)) (bk_ BK218.out) hb)
                            replace HB := AM (below_step bel_ hb)
                            (try clear hb)
                            (try clear hb2)
                            (try clear hk)
                            (try clear hi)
                            refine hK.out _ _ ⟨(blk_cell BK218.out 0).trans rfl, (blk_cell BK218.out 1).trans rfl, (blk_cell BK218.out 2).trans rfl⟩ (fun hHeld => ?_)
                            clear hK K
                            refine nm_ ?_
                            refine pu_ HT_ 3 (some 61) #[true, true, true, true, false, false, false, false, false, false, false, false, false, false, false, false, false, false, false, false, false, false, false, false, false] ?_
                            refine pu_ HT_ 4 (some 62) #[true, true, true, true, true, false, false, false, false, false, false, false, false, false, false, false, false, false, false, false, false, false, false, false, false] ?_
                            refine pu_ HT_ 5 (some 63) #[true, true, true, true, true, true, false, false, false, false, false, false, false, false, false, false, false, false, false, false, false, false, false, false, false] ?_
                            refine pu_ HT_ 6 (some 64) #[true, true, true, true, true, true, true, false, false, false, false, false, false, false, false, false, false, false, false, false, false, false, false, false, false] ?_
                            refine pu_ HT_ 7 (some 65) #[true, true, true, true, true, true, true, true, false, false, false, false, false, false, false, false, false, false, false, false, false, false, false, false, false] ?_
                            refine pu_ HT_ 8 (some 66) #[true, true, true, true, true, true, true, true, true, false, false, false, false, false, false, false, false, false, false, false, false, false, false, false, false] ?_
                            refine pu_ HT_ 9 (some 67) #[true, true, true, true, true, true, true, true, true, true, false, false, false, false, false, false, false, false, false, false, false, false, false, false, false] ?_
                            refine pu_ HT_ 10 (some 68) #[true, true, true, true, true, true, true, true, true, true, true, false, false, false, false, false, false, false, false, false, false, false, false, false, false] ?_
                            refine pu_ HT_ 12 (some 70) #[true, true, true, true, true, true, true, true, true, true, true, false, true, false, false, false, false, false, false, false, false, false, false, false, false] ?_
                            refine pu_ HT_ 13 (some 71) #[true, true, true, true, true, true, true, true, true, true, true, false, true, true, false, false, false, false, false, false, false, false, false, false, false] ?_
                            refine on_ HT_ 11 (some 69) #[true, true, true, true, true, true, true, true, true, true, true, true, true, true, false, false, false, false, false, false, false, false, false, false, false] (fun K hK => ?_)
                            refine go1_ Tryd.func27 #[.string t210] ?_
                            with_reducible refine (impl_Short.calls k2 t210 t232 _ A53.out).mono ?_
                            rintro e w66 ⟨rfl, hb⟩
                            refine ⟨_, rfl, ?_⟩
                            replace HO_219000 := AM (Kd.R_below (ro_ HO_219000.out) hb)
                            replace HO228 := AM (Kd.R_below (ro_ HO228.out) hb)
                            replace BK218 := AM (blk_below (g := gb218) (o := .cells #[.slice Ao61 t226.length co61, .string t229, .int .i64 t230] 39 (0, 0)) (bk_ BK218.out) hb)
                            replace HB := AM (below_step bel_ hb)
                            (try clear hb)
                            (try clear hb2)
                            (try clear hk)
                            (try clear hi)
                            refine hK.out _ _ ⟨(blk_cell BK218.out 0).trans rfl, (blk_cell BK218.out 1).trans rfl, (blk_cell BK218.out 2).trans rfl⟩ (fun hHeld => ?_)
                            clear hK K
                            refine nm_ ?_
                            refine on_ HT_ 14 (some 72) #[true, true, true, true, true, true, true, true, true, true, true, true, true, true, true, false, false, false, false, false, false, false, false, false, false] (fun K hK => ?_)
                            refine go1_ Tryd.func28 #[.string (t211.extract 0 4)] ?_
                            with_reducible refine (impl_Hex.calls k2 (t211.extract 0 4) t233 _ A56.out).mono ?_
                            rintro e w67 ⟨rfl, hb⟩
                            refine ⟨_, rfl, ?_⟩
                            replace HO_219000 := AM (Kd.R_below (ro_ HO_219000.out) hb)
                            replace HO228 := AM (Kd.R_below (ro_ HO228.out) hb)
                            replace BK218 := AM (blk_below (g := gb218) (o := .cells #[.slice Ao61 t226.length co61, .string t229, .int .i64 t230] 39 (0, 0)) (bk_ BK218.out) hb)
                            replace HB := AM (below_step bel_ hb)
                            (try clear hb)
                            (try clear hb2)
                            (try clear hk)
                            (try clear hi)
                            refine hK.out _ _ ⟨(blk_cell BK218.out 0).trans rfl, (blk_cell BK218.out 1).trans rfl, (blk_cell BK218.out 2).trans rfl⟩ (fun hHeld => ?_)
                            clear hK K
                            refine nm_ ?_
                            refine pu_ HT_ 15 (some 73) #[true, true, true, true, true, true, true, true, true, true, true, true, true, true, true, true, false, false, false, false, false, false, false, false, false] ?_
                            refine pu_ HT_ 16 (some 74) #[true, true, true, true, true, true, true, true, true, true, true, true, true, true, true, true, true, false, false, false, false, false, false, false, false] ?_
                            refine pu_ HT_ 17 (some 75) #[true, true, true, true, true, true, true, true, true, true, true, true, true, true, true, true, true, true, false, false, false, false, false, false, false] ?_
                            refine pu_ HT_ 18 (some 76) #[true, true, true, true, true, true, true, true, true, true, true, true, true, true, true, true, true, true, true, false, false, false, false, false, false] ?_
                            refine pu_ HT_ 20 (some 78) #[true, true, true, true, true, true, true, true, true, true, true, true, true, true, true, true, true, true, true, false, true, false, false, false, false] ?_
                            refine pu_ HT_ 21 (some 79) #[true, true, true, true, true, true, true, true, true, true, true, true, true, true, true, true, true, true, true, false, true, true, false, false, false] ?_
                            refine ta_ HT_ HW_ 19 (some 77) #[true, true, true, true, true, true, true, true, true, true, true, true, true, true, true, true, true, true, true, true, true, true, false, false, false] hHeld ?_
                            refine pu_ HT_ 22 (some 80) #[true, true, true, true, true, true, true, true, true, true, true, true, true, true, true, true, true, true, true, true, true, true, true, false, false] ?_
                            refine pu_ HT_ 23 (some 81) #[true, true, true, true, true, true, true, true, true, true, true, true, true, true, true, true, true, true, true, true, true, true, true, true, false] ?_
                            refine pu_ HT_ 24 (some 4) #[true, true, true, true, true, true, true, true, true, true, true, true, true, true, true, true, true, true, true, true, true, true, true, true, true] ?_
                            refine dn_ HT_ ?_
                            try go_wp2
                            go_ret
                            exact ⟨ri_, bel_⟩
                          · rw [if_neg c57] at H
                            have c57b0 : (t232.toList == t233.toList) = false := beq_eq_false_iff_ne.mpr c57
                            have c57b1 : (t232.toList != t233.toList) = true := bne_iff_ne.mpr c57
                            obtain rfl := Option.some.inj H
                            have hcz68_0 : wr.cell? ⟨gb218, 0, none⟩ = some (u219000) := (blk_cell BK218.out 0).trans rfl
                            have hcz68_1 : wr.cell? ⟨gb218, 1, none⟩ = some (.string x219001_2) := (blk_cell BK218.out 1).trans rfl
                            have hcz68_2 : wr.cell? ⟨gb218, 2, none⟩ = some (.int .i64 x219002_2) := (blk_cell BK218.out 2).trans rfl
                            have hfz68_0 := blk_frozen BK218.out 0
                            have hfz68_1 := blk_frozen BK218.out 1
                            have hfz68_2 := blk_frozen BK218.out 2
                            obtain ⟨Ao69, co69, eo69⟩ := Kd.R_slice HO_219000.out
                            subst eo69
                            try go_wp2_with (first | ((with_reducible refine gate_callee (f := 24) rfl ?_); refine gl_ (some 57) Tryd.func24 #[.agg #[.slice Ao69 x219000_2.length co69, .string x219001_2, .int .i64 x219002_2], .string x8_2] ?_; (with_reducible refine (impl_HashMore.calls _ _ x219000_2 x219001_2 x219002_2 x8_2 t226 t229 t230 _ ?side1 ?side2 A49.out).mono ?_); (case side1 => repeat (first | exact (Kd.R_reads' HO_219000.out).2.2 | (with_reducible refine Kd.C_alloc ?_ _) | (with_reducible refine Kd.C_drewN ?_ _) | (with_reducible refine Kd.C_drew ?_))); (case side2 => exact (Kd.R_reads' HO_219000.out).2.1); rintro e w70 ⟨v227, rfl, ho0, hb⟩; refine ⟨_, rfl, ?_⟩; have HO228 := AM (Kd.R_lower (Kd.R_new' ho0 (Kd.R_lt (ro_ HO_219000.out))) (below_size bel_)); replace HO_219000 := AM (Kd.R_elder' (ro_ HO_219000.out) (Kd.R_base ho0) hb); replace BK218 := AM (blk_below (g := gb218) (o := .cells #[.slice Ao69 x219000_2.length co69, .string x219001_2, .int .i64 x219002_2] 39 (0, 0)) (bk_ BK218.out) hb); replace HB := AM (below_step bel_ hb); (try clear hb); (try clear hb2); (try clear hk); (try clear hi); (try clear ho0); obtain ⟨Ao71, co71, eo71⟩ := Kd.R_slice HO228.out; subst eo71; have hcz72_0 : w70.cell? ⟨gb218, 0, none⟩ = some (.slice Ao69 x219000_2.length co69) := (blk_cell BK218.out 0).trans rfl; have hcz72_1 : w70.cell? ⟨gb218, 1, none⟩ = some (.string x219001_2) := (blk_cell BK218.out 1).trans rfl; have hcz72_2 : w70.cell? ⟨gb218, 2, none⟩ = some (.int .i64 x219002_2) := (blk_cell BK218.out 2).trans rfl; have hfz72_0 := blk_frozen BK218.out 0; have hfz72_1 := blk_frozen BK218.out 1; have hfz72_2 := blk_frozen BK218.out 2))
                            have n0_ : Aside0 (Kd.R (Kd.int .i64) 2 (((w70.setCell ⟨gb218, 0, none⟩ (.slice Ao71 t226.length co71)).setCell ⟨gb218, 1, none⟩ (.string t229)).setCell ⟨gb218, 2, none⟩ (.int .i64 t230)) w.heap.size (fun k_ => some k_ ≠ (.slice Ao71 t226.length co71 : Value).ownBlock) (.slice Ao69 x219000_2.length co69) x219000_2) := ⟨by (with_reducible repeat (first | apply Kd.R_alloc | apply Kd.R_drewN | apply Kd.R_drew)); exact Kd.R_mono (Kd.R_far (p := ⟨gb218, 2, none⟩) (Kd.R_far (p := ⟨gb218, 1, none⟩) (Kd.R_far (p := ⟨gb218, 0, none⟩) (Kd.R_types HO_219000.out BK218.out (by decide)) (fun _ hk => hk.2) (.slice Ao71 t226.length co71)) (fun _ hk => hk.2) (.string t229)) (fun _ hk => hk.2) (.int .i64 t230)) (fun _ hk => hk.1.2)⟩
                            have n1_ : Aside0 (Kd.R (Kd.int .i64) 2 (((w70.setCell ⟨gb218, 0, none⟩ (.slice Ao71 t226.length co71)).setCell ⟨gb218, 1, none⟩ (.string t229)).setCell ⟨gb218, 2, none⟩ (.int .i64 t230)) w.heap.size (fun k_ => some k_ ≠ (.slice Ao69 x219000_2.length co69 : Value).ownBlock) (.slice Ao71 t226.length co71) t226) := ⟨by (with_reducible repeat (first | apply Kd.R_alloc | apply Kd.R_drewN | apply Kd.R_drew)); exact Kd.R_mono (Kd.R_far (p := ⟨gb218, 2, none⟩) (Kd.R_far (p := ⟨gb218, 1, none⟩) (Kd.R_far (p := ⟨gb218, 0, none⟩) (Kd.R_types HO228.out BK218.out (by decide)) (fun _ hk => hk.2) (.slice Ao71 t226.length co71)) (fun _ hk => hk.2) (.string t229)) (fun _ hk => hk.2) (.int .i64 t230)) (fun _ hk => hk.1.2)⟩
                            have n2_ : Aside0 ((((w70.setCell ⟨gb218, 0, none⟩ (.slice Ao71 t226.length co71)).setCell ⟨gb218, 1, none⟩ (.string t229)).setCell ⟨gb218, 2, none⟩ (.int .i64 t230)).heap[gb218]? = some (.cells #[.slice Ao71 t226.length co71, .string t229, .int .i64 t230] 39 (0, 0))) := ⟨bka_⟩
                            have n3_ : Aside0 (Below w.heap.size w (((w70.setCell ⟨gb218, 0, none⟩ (.slice Ao71 t226.length co71)).setCell ⟨gb218, 1, none⟩ (.string t229)).setCell ⟨gb218, 2, none⟩ (.int .i64 t230))) := ⟨bel_⟩
                            (try clear HO_219000)
                            (try clear HO228)
                            (try clear BK218)
                            (try clear HB)
                            generalize (((w70.setCell ⟨gb218, 0, none⟩ (.slice Ao71 t226.length co71)).setCell ⟨gb218, 1, none⟩ (.string t229)).setCell ⟨gb218, 2, none⟩ (.int .i64 t230)) = w73 at n0_ n1_ n2_ n3_ ⊢
                            have HO_219000 := n0_
                            have HO228 := n1_
                            have BK218 := n2_
                            have HB := n3_
                            clear n0_ n1_ n2_ n3_
                            replace HO_219000 := AM (Kd.R_drew HO_219000.out)
                            replace HO228 := AM (Kd.R_drew HO228.out)
                            replace BK218 := AM (blk_drew BK218.out)
                            replace HB := AM (below_drew1 HB.out)
                            refine start_ (n := 25) (S := fun w' => w'.cell? ⟨gb218, 0, none⟩ = some (.slice Ao71 t226.length co71) ∧ w'.cell? ⟨gb218, 1, none⟩ = some (.string t229) ∧ w'.cell? ⟨gb218, 2, none⟩ = some (.int .i64 t230)) (ds := []) #[false, false, false, false, false, false, false, false, false, false, false, false, false, false, false, false, false, false, false, false, false, false, false, false, false] (by kernel_rfl) rfl rfl ⟨(blk_cell BK218.out 0).trans rfl, (blk_cell BK218.out 1).trans rfl, (blk_cell BK218.out 2).trans rfl⟩ (fun hHeld => ?_); refine with_tabW laws_FnHash.tab20 laws_FnHash.bits20 (fun HT_ HW_ => ?_)
                            generalize w73.drew = w74 at HO_219000 HO228 BK218 HB hHeld ⊢
                            refine pu_ HT_ 2 (some 60) #[false, false, true, false, false, false, false, false, false, false, false, false, false, false, false, false, false, false, false, false, false, false, false, false, false] ?_
                            refine ta_ HT_ HW_ 0 (some 58) #[true, false, true, false, false, false, false, false, false, false, false, false, false, false, false, false, false, false, false, false, false, false, false, false, false] hHeld ?_
                            refine on_ HT_ 1 (some 59) #[true, true, true, false, false, false, false, false, false, false, false, false, false, false, false, false, false, false, false, false, false, false, false, false, false] (fun K hK => ?_)
                            refine go1_ Tryd.func26 #[.agg #[.slice Ao71 t226.length co71, .string t229, .int .i64 t230]] ?_
                            with_reducible refine (impl_HashEnd.calls _ _ t226 t229 t230 t231 _ ?side1 ?side2 A50.out).mono ?_
                            (case side1 => repeat (first | exact (Kd.R_reads' HO228.out).2.2 | (with_reducible refine Kd.C_alloc ?_ _) | (with_reducible refine Kd.C_drewN ?_ _) | (with_reducible refine Kd.C_drew ?_)))
                            (case side2 => exact (Kd.R_reads' HO228.out).2.1)
                            rintro e w75 ⟨rfl, hb⟩
                            refine ⟨_, rfl, ?_⟩
                            replace HO_219000 := AM (Kd.R_below (ro_ HO_219000.out) hb)
                            replace HO228 := AM (Kd.R_below (ro_ HO228.out) hb)
                            replace BK218 := AM (blk_below (g := gb218) (o := .cells #[.slice Ao71 t226.length co71, .string t229, .int .i64 t230] 39 (0, 0)) (bk_ BK218.out) hb)
                            replace HB := AM (below_step bel_ hb)
                            (try clear hb)
                            (try clear hb2)
                            (try clear hk)
                            (try clear hi)
                            refine hK.out _ _ ⟨(blk_cell BK218.out 0).trans rfl, (blk_cell BK218.out 1).trans rfl, (blk_cell BK218.out 2).trans rfl⟩ (fun hHeld => ?_)
                            clear hK K
                            refine nm_ ?_
                            refine pu_ HT_ 3 (some 61) #[true, true, true, true, false, false, false, false, false, false, false, false, false, false, false, false, false, false, false, false, false, false, false, false, false] ?_
                            refine pu_ HT_ 4 (some 62) #[true, true, true, true, true, false, false, false, false, false, false, false, false, false, false, false, false, false, false, false, false, false, false, false, false] ?_
                            refine pu_ HT_ 5 (some 63) #[true, true, true, true, true, true, false, false, false, false, false, false, false, false, false, false, false, false, false, false, false, false, false, false, false] ?_
                            refine pu_ HT_ 6 (some 64) #[true, true, true, true, true, true, true, false, false, false, false, false, false, false, false, false, false, false, false, false, false, false, false, false, false] ?_
                            refine pu_ HT_ 7 (some 65) #[true, true, true, true, true, true, true, true, false, false, false, false, false, false, false, false, false, false, false, false, false, false, false, false, false] ?_
                            refine pu_ HT_ 8 (some 66) #[true, true, true, true, true, true, true, true, true, false, false, false, false, false, false, false, false, false, false, false, false, false, false, false, false] ?_
                            refine pu_ HT_ 9 (some 67) #[true, true, true, true, true, true, true, true, true, true, false, false, false, false, false, false, false, false, false, false, false, false, false, false, false] ?_
                            refine pu_ HT_ 10 (some 68) #[true, true, true, true, true, true, true, true, true, true, true, false, false, false, false, false, false, false, false, false, false, false, false, false, false] ?_
                            refine pu_ HT_ 12 (some 70) #[true, true, true, true, true, true, true, true, true, true, true, false, true, false, false, false, false, false, false, false, false, false, false, false, false] ?_
                            refine pu_ HT_ 13 (some 71) #[true, true, true, true, true, true, true, true, true, true, true, false, true, true, false, false, false, false, false, false, false, false, false, false, false] ?_
                            refine on_ HT_ 11 (some 69) #[true, true, true, true, true, true, true, true, true, true, true, true, true, true, false, false, false, false, false, false, false, false, false, false, false] (fun K hK => ?_)
                            refine go1_ Tryd.func27 #[.string t210] ?_
                            with_reducible refine (impl_Short.calls k2 t210 t232 _ A53.out).mono ?_
                            rintro e w76 ⟨rfl, hb⟩
                            refine ⟨_, rfl, ?_⟩
                            replace HO_219000 := AM (Kd.R_below (ro_ HO_219000.out) hb)
                            replace HO228 := AM (Kd.R_below (ro_ HO228.out) hb)
                            replace BK218 := AM (blk_below (g := gb218) (o := .cells #[.slice Ao71 t226.length co71, .string t229, .int .i64 t230] 39 (0, 0)) (bk_ BK218.out) hb)
                            replace HB := AM (below_step bel_ hb)
                            (try clear hb)
                            (try clear hb2)
                            (try clear hk)
                            (try clear hi)
                            refine hK.out _ _ ⟨(blk_cell BK218.out 0).trans rfl, (blk_cell BK218.out 1).trans rfl, (blk_cell BK218.out 2).trans rfl⟩ (fun hHeld => ?_)
                            clear hK K
                            refine nm_ ?_
                            refine on_ HT_ 14 (some 72) #[true, true, true, true, true, true, true, true, true, true, true, true, true, true, true, false, false, false, false, false, false, false, false, false, false] (fun K hK => ?_)
                            refine go1_ Tryd.func28 #[.string (t211.extract 0 4)] ?_
                            with_reducible refine (impl_Hex.calls k2 (t211.extract 0 4) t233 _ A56.out).mono ?_
                            rintro e w77 ⟨rfl, hb⟩
                            refine ⟨_, rfl, ?_⟩
                            replace HO_219000 := AM (Kd.R_below (ro_ HO_219000.out) hb)
                            replace HO228 := AM (Kd.R_below (ro_ HO228.out) hb)
                            replace BK218 := AM (blk_below (g := gb218) (o := .cells #[.slice Ao71 t226.length co71, .string t229, .int .i64 t230] 39 (0, 0)) (bk_ BK218.out) hb)
                            replace HB := AM (below_step bel_ hb)
                            (try clear hb)
                            (try clear hb2)
                            (try clear hk)
                            (try clear hi)
                            refine hK.out _ _ ⟨(blk_cell BK218.out 0).trans rfl, (blk_cell BK218.out 1).trans rfl, (blk_cell BK218.out 2).trans rfl⟩ (fun hHeld => ?_)
                            clear hK K
                            refine nm_ ?_
                            refine pu_ HT_ 15 (some 73) #[true, true, true, true, true, true, true, true, true, true, true, true, true, true, true, true, false, false, false, false, false, false, false, false, false] ?_
                            refine pu_ HT_ 16 (some 74) #[true, true, true, true, true, true, true, true, true, true, true, true, true, true, true, true, true, false, false, false, false, false, false, false, false] ?_
                            refine pu_ HT_ 17 (some 75) #[true, true, true, true, true, true, true, true, true, true, true, true, true, true, true, true, true, true, false, false, false, false, false, false, false] ?_
                            refine pu_ HT_ 18 (some 76) #[true, true, true, true, true, true, true, true, true, true, true, true, true, true, true, true, true, true, true, false, false, false, false, false, false] ?_
                            refine pu_ HT_ 19 (some 77) #[true, true, true, true, true, true, true, true, true, true, true, true, true, true, true, true, true, true, true, true, false, false, false, false, false] ?_
                            refine pu_ HT_ 20 (some 78) #[true, true, true, true, true, true, true, true, true, true, true, true, true, true, true, true, true, true, true, true, true, false, false, false, false] ?_
                            refine pu_ HT_ 21 (some 79) #[true, true, true, true, true, true, true, true, true, true, true, true, true, true, true, true, true, true, true, true, true, true, false, false, false] ?_
                            refine pu_ HT_ 22 (some 80) #[true, true, true, true, true, true, true, true, true, true, true, true, true, true, true, true, true, true, true, true, true, true, true, false, false] ?_
                            refine pu_ HT_ 23 (some 81) #[true, true, true, true, true, true, true, true, true, true, true, true, true, true, true, true, true, true, true, true, true, true, true, true, false] ?_
                            refine pu_ HT_ 24 (some 4) #[true, true, true, true, true, true, true, true, true, true, true, true, true, true, true, true, true, true, true, true, true, true, true, true, true] ?_
                            refine dn_ HT_ ?_
                            try go_wp2
                            go_ret
                            exact ⟨ri_, bel_⟩
                        · rw [if_neg c55] at H
                          exact absurd H (by simp)
                      · rw [if_neg c54] at H
                        exact absurd H (by simp)
                    · rw [if_neg c52] at H
                      have c52b0 : ((t211.size : Int) == 32) = false := beq_eq_false_iff_ne.mpr c52
                      have c52b1 : ((t211.size : Int) != 32) = true := bne_iff_ne.mpr c52
                      obtain rfl := Option.some.inj H
                      have hcz78_0 : wr.cell? ⟨gb218, 0, none⟩ = some (u219000) := (blk_cell BK218.out 0).trans rfl
                      have hcz78_1 : wr.cell? ⟨gb218, 1, none⟩ = some (.string x219001_2) := (blk_cell BK218.out 1).trans rfl
                      have hcz78_2 : wr.cell? ⟨gb218, 2, none⟩ = some (.int .i64 x219002_2) := (blk_cell BK218.out 2).trans rfl
                      have hfz78_0 := blk_frozen BK218.out 0
                      have hfz78_1 := blk_frozen BK218.out 1
                      have hfz78_2 := blk_frozen BK218.out 2
                      obtain ⟨Ao79, co79, eo79⟩ := Kd.R_slice HO_219000.out
                      subst eo79
                      try go_wp2_with (first | ((with_reducible refine gate_callee (f := 24) rfl ?_); refine gl_ (some 57) Tryd.func24 #[.agg #[.slice Ao79 x219000_2.length co79, .string x219001_2, .int .i64 x219002_2], .string x8_2] ?_; (with_reducible refine (impl_HashMore.calls _ _ x219000_2 x219001_2 x219002_2 x8_2 t226 t229 t230 _ ?side1 ?side2 A49.out).mono ?_); (case side1 => repeat (first | exact (Kd.R_reads' HO_219000.out).2.2 | (with_reducible refine Kd.C_alloc ?_ _) | (with_reducible refine Kd.C_drewN ?_ _) | (with_reducible refine Kd.C_drew ?_))); (case side2 => exact (Kd.R_reads' HO_219000.out).2.1); rintro e w80 ⟨v227, rfl, ho0, hb⟩; refine ⟨_, rfl, ?_⟩; have HO228 := AM (Kd.R_lower (Kd.R_new' ho0 (Kd.R_lt (ro_ HO_219000.out))) (below_size bel_)); replace HO_219000 := AM (Kd.R_elder' (ro_ HO_219000.out) (Kd.R_base ho0) hb); replace BK218 := AM (blk_below (g := gb218) (o := .cells #[.slice Ao79 x219000_2.length co79, .string x219001_2, .int .i64 x219002_2] 39 (0, 0)) (bk_ BK218.out) hb); replace HB := AM (below_step bel_ hb); (try clear hb); (try clear hb2); (try clear hk); (try clear hi); (try clear ho0); obtain ⟨Ao81, co81, eo81⟩ := Kd.R_slice HO228.out; subst eo81; have hcz82_0 : w80.cell? ⟨gb218, 0, none⟩ = some (.slice Ao79 x219000_2.length co79) := (blk_cell BK218.out 0).trans rfl; have hcz82_1 : w80.cell? ⟨gb218, 1, none⟩ = some (.string x219001_2) := (blk_cell BK218.out 1).trans rfl; have hcz82_2 : w80.cell? ⟨gb218, 2, none⟩ = some (.int .i64 x219002_2) := (blk_cell BK218.out 2).trans rfl; have hfz82_0 := blk_frozen BK218.out 0; have hfz82_1 := blk_frozen BK218.out 1; have hfz82_2 := blk_frozen BK218.out 2))
                      have n0_ : Aside0 (Kd.R (Kd.int .i64) 2 (((w80.setCell ⟨gb218, 0, none⟩ (.slice Ao81 t226.length co81)).setCell ⟨gb218, 1, none⟩ (.string t229)).setCell ⟨gb218, 2, none⟩ (.int .i64 t230)) w.heap.size (fun k_ => some k_ ≠ (.slice Ao81 t226.length co81 : Value).ownBlock) (.slice Ao79 x219000_2.length co79) x219000_2) := ⟨by (with_reducible repeat (first | apply Kd.R_alloc | apply Kd.R_drewN | apply Kd.R_drew)); exact Kd.R_mono (Kd.R_far (p := ⟨gb218, 2, none⟩) (Kd.R_far (p := ⟨gb218, 1, none⟩) (Kd.R_far (p := ⟨gb218, 0, none⟩) (Kd.R_types HO_219000.out BK218.out (by decide)) (fun _ hk => hk.2) (.slice Ao81 t226.length co81)) (fun _ hk => hk.2) (.string t229)) (fun _ hk => hk.2) (.int .i64 t230)) (fun _ hk => hk.1.2)⟩
                      have n1_ : Aside0 (Kd.R (Kd.int .i64) 2 (((w80.setCell ⟨gb218, 0, none⟩ (.slice Ao81 t226.length co81)).setCell ⟨gb218, 1, none⟩ (.string t229)).setCell ⟨gb218, 2, none⟩ (.int .i64 t230)) w.heap.size (fun k_ => some k_ ≠ (.slice Ao79 x219000_2.length co79 : Value).ownBlock) (.slice Ao81 t226.length co81) t226) := ⟨by (with_reducible repeat (first | apply Kd.R_alloc | apply Kd.R_drewN | apply Kd.R_drew)); exact Kd.R_mono (Kd.R_far (p := ⟨gb218, 2, none⟩) (Kd.R_far (p := ⟨gb218, 1, none⟩) (Kd.R_far (p := ⟨gb218, 0, none⟩) (Kd.R_types HO228.out BK218.out (by decide)) (fun _ hk => hk.2) (.slice Ao81 t226.length co81)) (fun _ hk => hk.2) (.string t229)) (fun _ hk => hk.2) (.int .i64 t230)) (fun _ hk => hk.1.2)⟩
                      have n2_ : Aside0 ((((w80.setCell ⟨gb218, 0, none⟩ (.slice Ao81 t226.length co81)).setCell ⟨gb218, 1, none⟩ (.string t229)).setCell ⟨gb218, 2, none⟩ (.int .i64 t230)).heap[gb218]? = some (.cells #[.slice Ao81 t226.length co81, .string t229, .int .i64 t230] 39 (0, 0))) := ⟨bka_⟩
                      have n3_ : Aside0 (Below w.heap.size w (((w80.setCell ⟨gb218, 0, none⟩ (.slice Ao81 t226.length co81)).setCell ⟨gb218, 1, none⟩ (.string t229)).setCell ⟨gb218, 2, none⟩ (.int .i64 t230))) := ⟨bel_⟩
                      (try clear HO_219000)
                      (try clear HO228)
                      (try clear BK218)
                      (try clear HB)
                      generalize (((w80.setCell ⟨gb218, 0, none⟩ (.slice Ao81 t226.length co81)).setCell ⟨gb218, 1, none⟩ (.string t229)).setCell ⟨gb218, 2, none⟩ (.int .i64 t230)) = w83 at n0_ n1_ n2_ n3_ ⊢
                      have HO_219000 := n0_
                      have HO228 := n1_
                      have BK218 := n2_
                      have HB := n3_
                      clear n0_ n1_ n2_ n3_
                      replace HO_219000 := AM (Kd.R_drew HO_219000.out)
                      replace HO228 := AM (Kd.R_drew HO228.out)
                      replace BK218 := AM (blk_drew BK218.out)
                      replace HB := AM (below_drew1 HB.out)
                      refine start_ (n := 25) (S := fun w' => w'.cell? ⟨gb218, 0, none⟩ = some (.slice Ao81 t226.length co81) ∧ w'.cell? ⟨gb218, 1, none⟩ = some (.string t229) ∧ w'.cell? ⟨gb218, 2, none⟩ = some (.int .i64 t230)) (ds := []) #[false, false, false, false, false, false, false, false, false, false, false, false, false, false, false, false, false, false, false, false, false, false, false, false, false] (by kernel_rfl) rfl rfl ⟨(blk_cell BK218.out 0).trans rfl, (blk_cell BK218.out 1).trans rfl, (blk_cell BK218.out 2).trans rfl⟩ (fun hHeld => ?_); refine with_tabW laws_FnHash.tab20 laws_FnHash.bits20 (fun HT_ HW_ => ?_)
                      generalize w83.drew = w84 at HO_219000 HO228 BK218 HB hHeld ⊢
                      refine pu_ HT_ 2 (some 60) #[false, false, true, false, false, false, false, false, false, false, false, false, false, false, false, false, false, false, false, false, false, false, false, false, false] ?_
                      refine ta_ HT_ HW_ 0 (some 58) #[true, false, true, false, false, false, false, false, false, false, false, false, false, false, false, false, false, false, false, false, false, false, false, false, false] hHeld ?_
                      refine on_ HT_ 1 (some 59) #[true, true, true, false, false, false, false, false, false, false, false, false, false, false, false, false, false, false, false, false, false, false, false, false, false] (fun K hK => ?_)
                      refine go1_ Tryd.func26 #[.agg #[.slice Ao81 t226.length co81, .string t229, .int .i64 t230]] ?_
                      with_reducible refine (impl_HashEnd.calls _ _ t226 t229 t230 t231 _ ?side1 ?side2 A50.out).mono ?_
                      (case side1 => repeat (first | exact (Kd.R_reads' HO228.out).2.2 | (with_reducible refine Kd.C_alloc ?_ _) | (with_reducible refine Kd.C_drewN ?_ _) | (with_reducible refine Kd.C_drew ?_)))
                      (case side2 => exact (Kd.R_reads' HO228.out).2.1)
                      rintro e w85 ⟨rfl, hb⟩
                      refine ⟨_, rfl, ?_⟩
                      replace HO_219000 := AM (Kd.R_below (ro_ HO_219000.out) hb)
                      replace HO228 := AM (Kd.R_below (ro_ HO228.out) hb)
                      replace BK218 := AM (blk_below (g := gb218) (o := .cells #[.slice Ao81 t226.length co81, .string t229, .int .i64 t230] 39 (0, 0)) (bk_ BK218.out) hb)
                      replace HB := AM (below_step bel_ hb)
                      (try clear hb)
                      (try clear hb2)
                      (try clear hk)
                      (try clear hi)
                      refine hK.out _ _ ⟨(blk_cell BK218.out 0).trans rfl, (blk_cell BK218.out 1).trans rfl, (blk_cell BK218.out 2).trans rfl⟩ (fun hHeld => ?_)
                      clear hK K
                      refine nm_ ?_
                      refine pu_ HT_ 3 (some 61) #[true, true, true, true, false, false, false, false, false, false, false, false, false, false, false, false, false, false, false, false, false, false, false, false, false] ?_
                      refine pu_ HT_ 4 (some 62) #[true, true, true, true, true, false, false, false, false, false, false, false, false, false, false, false, false, false, false, false, false, false, false, false, false] ?_
                      refine pu_ HT_ 5 (some 63) #[true, true, true, true, true, true, false, false, false, false, false, false, false, false, false, false, false, false, false, false, false, false, false, false, false] ?_
                      refine pu_ HT_ 6 (some 64) #[true, true, true, true, true, true, true, false, false, false, false, false, false, false, false, false, false, false, false, false, false, false, false, false, false] ?_
                      refine pu_ HT_ 7 (some 65) #[true, true, true, true, true, true, true, true, false, false, false, false, false, false, false, false, false, false, false, false, false, false, false, false, false] ?_
                      refine pu_ HT_ 8 (some 66) #[true, true, true, true, true, true, true, true, true, false, false, false, false, false, false, false, false, false, false, false, false, false, false, false, false] ?_
                      refine pu_ HT_ 9 (some 67) #[true, true, true, true, true, true, true, true, true, true, false, false, false, false, false, false, false, false, false, false, false, false, false, false, false] ?_
                      refine pu_ HT_ 10 (some 68) #[true, true, true, true, true, true, true, true, true, true, true, false, false, false, false, false, false, false, false, false, false, false, false, false, false] ?_
                      refine pu_ HT_ 11 (some 69) #[true, true, true, true, true, true, true, true, true, true, true, true, false, false, false, false, false, false, false, false, false, false, false, false, false] ?_
                      refine pu_ HT_ 12 (some 70) #[true, true, true, true, true, true, true, true, true, true, true, true, true, false, false, false, false, false, false, false, false, false, false, false, false] ?_
                      refine pu_ HT_ 13 (some 71) #[true, true, true, true, true, true, true, true, true, true, true, true, true, true, false, false, false, false, false, false, false, false, false, false, false] ?_
                      refine pu_ HT_ 14 (some 72) #[true, true, true, true, true, true, true, true, true, true, true, true, true, true, true, false, false, false, false, false, false, false, false, false, false] ?_
                      refine pu_ HT_ 15 (some 73) #[true, true, true, true, true, true, true, true, true, true, true, true, true, true, true, true, false, false, false, false, false, false, false, false, false] ?_
                      refine pu_ HT_ 16 (some 74) #[true, true, true, true, true, true, true, true, true, true, true, true, true, true, true, true, true, false, false, false, false, false, false, false, false] ?_
                      refine pu_ HT_ 17 (some 75) #[true, true, true, true, true, true, true, true, true, true, true, true, true, true, true, true, true, true, false, false, false, false, false, false, false] ?_
                      refine pu_ HT_ 18 (some 76) #[true, true, true, true, true, true, true, true, true, true, true, true, true, true, true, true, true, true, true, false, false, false, false, false, false] ?_
                      refine pu_ HT_ 19 (some 77) #[true, true, true, true, true, true, true, true, true, true, true, true, true, true, true, true, true, true, true, true, false, false, false, false, false] ?_
                      refine pu_ HT_ 20 (some 78) #[true, true, true, true, true, true, true, true, true, true, true, true, true, true, true, true, true, true, true, true, true, false, false, false, false] ?_
                      refine pu_ HT_ 21 (some 79) #[true, true, true, true, true, true, true, true, true, true, true, true, true, true, true, true, true, true, true, true, true, true, false, false, false] ?_
                      refine pu_ HT_ 22 (some 80) #[true, true, true, true, true, true, true, true, true, true, true, true, true, true, true, true, true, true, true, true, true, true, true, false, false] ?_
                      refine pu_ HT_ 23 (some 81) #[true, true, true, true, true, true, true, true, true, true, true, true, true, true, true, true, true, true, true, true, true, true, true, true, false] ?_
                      refine pu_ HT_ 24 (some 4) #[true, true, true, true, true, true, true, true, true, true, true, true, true, true, true, true, true, true, true, true, true, true, true, true, true] ?_
                      refine dn_ HT_ ?_
                      try go_wp2
                      go_ret
                      exact ⟨ri_, bel_⟩
                  · rw [if_neg c51] at H
                    have c51b0 : (t231.toList == t211.toList) = false := beq_eq_false_iff_ne.mpr c51
                    have c51b1 : (t231.toList != t211.toList) = true := bne_iff_ne.mpr c51
                    obtain rfl := Option.some.inj H
                    have hcz86_0 : wr.cell? ⟨gb218, 0, none⟩ = some (u219000) := (blk_cell BK218.out 0).trans rfl
                    have hcz86_1 : wr.cell? ⟨gb218, 1, none⟩ = some (.string x219001_2) := (blk_cell BK218.out 1).trans rfl
                    have hcz86_2 : wr.cell? ⟨gb218, 2, none⟩ = some (.int .i64 x219002_2) := (blk_cell BK218.out 2).trans rfl
                    have hfz86_0 := blk_frozen BK218.out 0
                    have hfz86_1 := blk_frozen BK218.out 1
                    have hfz86_2 := blk_frozen BK218.out 2
                    obtain ⟨Ao87, co87, eo87⟩ := Kd.R_slice HO_219000.out
                    subst eo87
                    try go_wp2_with (first | ((with_reducible refine gate_callee (f := 24) rfl ?_); refine gl_ (some 57) Tryd.func24 #[.agg #[.slice Ao87 x219000_2.length co87, .string x219001_2, .int .i64 x219002_2], .string x8_2] ?_; (with_reducible refine (impl_HashMore.calls _ _ x219000_2 x219001_2 x219002_2 x8_2 t226 t229 t230 _ ?side1 ?side2 A49.out).mono ?_); (case side1 => repeat (first | exact (Kd.R_reads' HO_219000.out).2.2 | (with_reducible refine Kd.C_alloc ?_ _) | (with_reducible refine Kd.C_drewN ?_ _) | (with_reducible refine Kd.C_drew ?_))); (case side2 => exact (Kd.R_reads' HO_219000.out).2.1); rintro e w88 ⟨v227, rfl, ho0, hb⟩; refine ⟨_, rfl, ?_⟩; have HO228 := AM (Kd.R_lower (Kd.R_new' ho0 (Kd.R_lt (ro_ HO_219000.out))) (below_size bel_)); replace HO_219000 := AM (Kd.R_elder' (ro_ HO_219000.out) (Kd.R_base ho0) hb); replace BK218 := AM (blk_below (g := gb218) (o := .cells #[.slice Ao87 x219000_2.length co87, .string x219001_2, .int .i64 x219002_2] 39 (0, 0)) (bk_ BK218.out) hb); replace HB := AM (below_step bel_ hb); (try clear hb); (try clear hb2); (try clear hk); (try clear hi); (try clear ho0); obtain ⟨Ao89, co89, eo89⟩ := Kd.R_slice HO228.out; subst eo89; have hcz90_0 : w88.cell? ⟨gb218, 0, none⟩ = some (.slice Ao87 x219000_2.length co87) := (blk_cell BK218.out 0).trans rfl; have hcz90_1 : w88.cell? ⟨gb218, 1, none⟩ = some (.string x219001_2) := (blk_cell BK218.out 1).trans rfl; have hcz90_2 : w88.cell? ⟨gb218, 2, none⟩ = some (.int .i64 x219002_2) := (blk_cell BK218.out 2).trans rfl; have hfz90_0 := blk_frozen BK218.out 0; have hfz90_1 := blk_frozen BK218.out 1; have hfz90_2 := blk_frozen BK218.out 2))
                    have n0_ : Aside0 (Kd.R (Kd.int .i64) 2 (((w88.setCell ⟨gb218, 0, none⟩ (.slice Ao89 t226.length co89)).setCell ⟨gb218, 1, none⟩ (.string t229)).setCell ⟨gb218, 2, none⟩ (.int .i64 t230)) w.heap.size (fun k_ => some k_ ≠ (.slice Ao89 t226.length co89 : Value).ownBlock) (.slice Ao87 x219000_2.length co87) x219000_2) := ⟨by (with_reducible repeat (first | apply Kd.R_alloc | apply Kd.R_drewN | apply Kd.R_drew)); exact Kd.R_mono (Kd.R_far (p := ⟨gb218, 2, none⟩) (Kd.R_far (p := ⟨gb218, 1, none⟩) (Kd.R_far (p := ⟨gb218, 0, none⟩) (Kd.R_types HO_219000.out BK218.out (by decide)) (fun _ hk => hk.2) (.slice Ao89 t226.length co89)) (fun _ hk => hk.2) (.string t229)) (fun _ hk => hk.2) (.int .i64 t230)) (fun _ hk => hk.1.2)⟩
                    have n1_ : Aside0 (Kd.R (Kd.int .i64) 2 (((w88.setCell ⟨gb218, 0, none⟩ (.slice Ao89 t226.length co89)).setCell ⟨gb218, 1, none⟩ (.string t229)).setCell ⟨gb218, 2, none⟩ (.int .i64 t230)) w.heap.size (fun k_ => some k_ ≠ (.slice Ao87 x219000_2.length co87 : Value).ownBlock) (.slice Ao89 t226.length co89) t226) := ⟨by (with_reducible repeat (first | apply Kd.R_alloc | apply Kd.R_drewN | apply Kd.R_drew)); exact Kd.R_mono (Kd.R_far (p := ⟨gb218, 2, none⟩) (Kd.R_far (p := ⟨gb218, 1, none⟩) (Kd.R_far (p := ⟨gb218, 0, none⟩) (Kd.R_types HO228.out BK218.out (by decide)) (fun _ hk => hk.2) (.slice Ao89 t226.length co89)) (fun _ hk => hk.2) (.string t229)) (fun _ hk => hk.2) (.int .i64 t230)) (fun _ hk => hk.1.2)⟩
                    have n2_ : Aside0 ((((w88.setCell ⟨gb218, 0, none⟩ (.slice Ao89 t226.length co89)).setCell ⟨gb218, 1, none⟩ (.string t229)).setCell ⟨gb218, 2, none⟩ (.int .i64 t230)).heap[gb218]? = some (.cells #[.slice Ao89 t226.length co89, .string t229, .int .i64 t230] 39 (0, 0))) := ⟨bka_⟩
                    have n3_ : Aside0 (Below w.heap.size w (((w88.setCell ⟨gb218, 0, none⟩ (.slice Ao89 t226.length co89)).setCell ⟨gb218, 1, none⟩ (.string t229)).setCell ⟨gb218, 2, none⟩ (.int .i64 t230))) := ⟨bel_⟩
                    (try clear HO_219000)
                    (try clear HO228)
                    (try clear BK218)
                    (try clear HB)
                    generalize (((w88.setCell ⟨gb218, 0, none⟩ (.slice Ao89 t226.length co89)).setCell ⟨gb218, 1, none⟩ (.string t229)).setCell ⟨gb218, 2, none⟩ (.int .i64 t230)) = w91 at n0_ n1_ n2_ n3_ ⊢
                    have HO_219000 := n0_
                    have HO228 := n1_
                    have BK218 := n2_
                    have HB := n3_
                    clear n0_ n1_ n2_ n3_
                    replace HO_219000 := AM (Kd.R_drew HO_219000.out)
                    replace HO228 := AM (Kd.R_drew HO228.out)
                    replace BK218 := AM (blk_drew BK218.out)
                    replace HB := AM (below_drew1 HB.out)
                    refine start_ (n := 25) (S := fun w' => w'.cell? ⟨gb218, 0, none⟩ = some (.slice Ao89 t226.length co89) ∧ w'.cell? ⟨gb218, 1, none⟩ = some (.string t229) ∧ w'.cell? ⟨gb218, 2, none⟩ = some (.int .i64 t230)) (ds := []) #[false, false, false, false, false, false, false, false, false, false, false, false, false, false, false, false, false, false, false, false, false, false, false, false, false] (by kernel_rfl) rfl rfl ⟨(blk_cell BK218.out 0).trans rfl, (blk_cell BK218.out 1).trans rfl, (blk_cell BK218.out 2).trans rfl⟩ (fun hHeld => ?_); refine with_tabW laws_FnHash.tab20 laws_FnHash.bits20 (fun HT_ HW_ => ?_)
                    generalize w91.drew = w92 at HO_219000 HO228 BK218 HB hHeld ⊢
                    refine pu_ HT_ 2 (some 60) #[false, false, true, false, false, false, false, false, false, false, false, false, false, false, false, false, false, false, false, false, false, false, false, false, false] ?_
                    refine ta_ HT_ HW_ 0 (some 58) #[true, false, true, false, false, false, false, false, false, false, false, false, false, false, false, false, false, false, false, false, false, false, false, false, false] hHeld ?_
                    refine on_ HT_ 1 (some 59) #[true, true, true, false, false, false, false, false, false, false, false, false, false, false, false, false, false, false, false, false, false, false, false, false, false] (fun K hK => ?_)
                    refine go1_ Tryd.func26 #[.agg #[.slice Ao89 t226.length co89, .string t229, .int .i64 t230]] ?_
                    with_reducible refine (impl_HashEnd.calls _ _ t226 t229 t230 t231 _ ?side1 ?side2 A50.out).mono ?_
                    (case side1 => repeat (first | exact (Kd.R_reads' HO228.out).2.2 | (with_reducible refine Kd.C_alloc ?_ _) | (with_reducible refine Kd.C_drewN ?_ _) | (with_reducible refine Kd.C_drew ?_)))
                    (case side2 => exact (Kd.R_reads' HO228.out).2.1)
                    rintro e w93 ⟨rfl, hb⟩
                    refine ⟨_, rfl, ?_⟩
                    replace HO_219000 := AM (Kd.R_below (ro_ HO_219000.out) hb)
                    replace HO228 := AM (Kd.R_below (ro_ HO228.out) hb)
                    replace BK218 := AM (blk_below (g := gb218) (o := .cells #[.slice Ao89 t226.length co89, .string t229, .int .i64 t230] 39 (0, 0)) (bk_ BK218.out) hb)
                    replace HB := AM (below_step bel_ hb)
                    (try clear hb)
                    (try clear hb2)
                    (try clear hk)
                    (try clear hi)
                    refine hK.out _ _ ⟨(blk_cell BK218.out 0).trans rfl, (blk_cell BK218.out 1).trans rfl, (blk_cell BK218.out 2).trans rfl⟩ (fun hHeld => ?_)
                    clear hK K
                    refine nm_ ?_
                    refine pu_ HT_ 3 (some 61) #[true, true, true, true, false, false, false, false, false, false, false, false, false, false, false, false, false, false, false, false, false, false, false, false, false] ?_
                    refine pu_ HT_ 4 (some 62) #[true, true, true, true, true, false, false, false, false, false, false, false, false, false, false, false, false, false, false, false, false, false, false, false, false] ?_
                    refine pu_ HT_ 5 (some 63) #[true, true, true, true, true, true, false, false, false, false, false, false, false, false, false, false, false, false, false, false, false, false, false, false, false] ?_
                    refine pu_ HT_ 6 (some 64) #[true, true, true, true, true, true, true, false, false, false, false, false, false, false, false, false, false, false, false, false, false, false, false, false, false] ?_
                    refine pu_ HT_ 7 (some 65) #[true, true, true, true, true, true, true, true, false, false, false, false, false, false, false, false, false, false, false, false, false, false, false, false, false] ?_
                    refine pu_ HT_ 8 (some 66) #[true, true, true, true, true, true, true, true, true, false, false, false, false, false, false, false, false, false, false, false, false, false, false, false, false] ?_
                    refine pu_ HT_ 9 (some 67) #[true, true, true, true, true, true, true, true, true, true, false, false, false, false, false, false, false, false, false, false, false, false, false, false, false] ?_
                    refine pu_ HT_ 10 (some 68) #[true, true, true, true, true, true, true, true, true, true, true, false, false, false, false, false, false, false, false, false, false, false, false, false, false] ?_
                    refine pu_ HT_ 11 (some 69) #[true, true, true, true, true, true, true, true, true, true, true, true, false, false, false, false, false, false, false, false, false, false, false, false, false] ?_
                    refine pu_ HT_ 12 (some 70) #[true, true, true, true, true, true, true, true, true, true, true, true, true, false, false, false, false, false, false, false, false, false, false, false, false] ?_
                    refine pu_ HT_ 13 (some 71) #[true, true, true, true, true, true, true, true, true, true, true, true, true, true, false, false, false, false, false, false, false, false, false, false, false] ?_
                    refine pu_ HT_ 14 (some 72) #[true, true, true, true, true, true, true, true, true, true, true, true, true, true, true, false, false, false, false, false, false, false, false, false, false] ?_
                    refine pu_ HT_ 15 (some 73) #[true, true, true, true, true, true, true, true, true, true, true, true, true, true, true, true, false, false, false, false, false, false, false, false, false] ?_
                    refine pu_ HT_ 16 (some 74) #[true, true, true, true, true, true, true, true, true, true, true, true, true, true, true, true, true, false, false, false, false, false, false, false, false] ?_
                    refine pu_ HT_ 17 (some 75) #[true, true, true, true, true, true, true, true, true, true, true, true, true, true, true, true, true, true, false, false, false, false, false, false, false] ?_
                    refine pu_ HT_ 18 (some 76) #[true, true, true, true, true, true, true, true, true, true, true, true, true, true, true, true, true, true, true, false, false, false, false, false, false] ?_
                    refine pu_ HT_ 19 (some 77) #[true, true, true, true, true, true, true, true, true, true, true, true, true, true, true, true, true, true, true, true, false, false, false, false, false] ?_
                    refine pu_ HT_ 20 (some 78) #[true, true, true, true, true, true, true, true, true, true, true, true, true, true, true, true, true, true, true, true, true, false, false, false, false] ?_
                    refine pu_ HT_ 21 (some 79) #[true, true, true, true, true, true, true, true, true, true, true, true, true, true, true, true, true, true, true, true, true, true, false, false, false] ?_
                    refine pu_ HT_ 22 (some 80) #[true, true, true, true, true, true, true, true, true, true, true, true, true, true, true, true, true, true, true, true, true, true, true, false, false] ?_
                    refine pu_ HT_ 23 (some 81) #[true, true, true, true, true, true, true, true, true, true, true, true, true, true, true, true, true, true, true, true, true, true, true, true, false] ?_
                    refine pu_ HT_ 24 (some 4) #[true, true, true, true, true, true, true, true, true, true, true, true, true, true, true, true, true, true, true, true, true, true, true, true, true] ?_
                    refine dn_ HT_ ?_
                    try go_wp2
                    go_ret
                    exact ⟨ri_, bel_⟩
        · rw [if_neg c9] at H
          have c9b0 : (t211.toList == t212.toList) = false := beq_eq_false_iff_ne.mpr c9
          have c9b1 : (t211.toList != t212.toList) = true := bne_iff_ne.mpr c9
          obtain rfl := Option.some.inj H
          go_wp2_with (first | ((with_reducible refine gate_callee (f := 19) rfl ?_); refine gl_ (some 20) Tryd.func19 #[.slice A0 l0.length c0] ?_; (with_reducible refine (spec_DrawDigest.calls kj2 _ _ l0 t210 _ ?side1 ?side2 A6.out).mono ?_); (case side1 => repeat (first | exact (Kd.C_below HR0.out HB.out) | (with_reducible refine Kd.C_alloc ?_ _) | (with_reducible refine Kd.C_drewN ?_ _) | (with_reducible refine Kd.C_drew ?_))); (case side2 => exact HC0.out); rintro e w94 ⟨rfl, hb⟩; refine ⟨_, rfl, ?_⟩; replace HB := AM (below_step bel_ hb); (try clear hb); (try clear hb2); (try clear hk); (try clear hi)) | ((with_reducible refine gate_callee (f := 20) rfl ?_); refine gl_ (some 22) Tryd.func20 #[.string t210] ?_; (with_reducible refine (impl_Digest.calls t210 t211 _ A7.out).mono ?_); rintro e w95 ⟨rfl, hb⟩; refine ⟨_, rfl, ?_⟩; replace HB := AM (below_step bel_ hb); (try clear hb); (try clear hb2); (try clear hk); (try clear hi)) | ((with_reducible refine gate_callee (f := 21) rfl ?_); refine gl_ (some 25) Tryd.func21 #[.string t210] ?_; (with_reducible refine (spec_Digest.calls kj2 t210 t212 _ A8.out).mono ?_); rintro e w96 ⟨rfl, hb⟩; refine ⟨_, rfl, ?_⟩; replace HB := AM (below_step bel_ hb); (try clear hb); (try clear hb2); (try clear hk); (try clear hi)))
          go_ret
          exact ⟨ri_, bel_⟩

/-- THE ONE PURE STATEMENT of laws_FnHash: yours. -/
def laws_FnHash.Pure : Prop := ∀ (l0 : List Int) (l1 : List Int), l0.length ≤ maxLen → l0.length * 1 ≤ 140737488351232 → (∀ x ∈ l0, (Lit.int .u8 x).wf = true) → l1.length ≤ maxLen → l1.length * 1 ≤ 140737488351232 → (∀ x ∈ l1, (Lit.int .u8 x).wf = true) → ∃ k, laws_FnHash.f k l0 l1 = some true
theorem laws_FnHash.walk (P : laws_FnHash.Pure) (a0 : Option Addr) (len0 cap0 : Nat) (z0 : List Int) (a1 : Option Addr) (len1 cap1 : Nat) (z1 : List Int) (w : World) (w0 : (a0 = none ∧ len0 = 0 ∧ cap0 = 0 ∧ z0 = []) ∨ ∃ x, a0 = some x ∧ len0 ≤ cap0 ∧ cap0 ≤ maxLen ∧ z0.length = cap0 ∧ (∀ i, i < z0.length → w.cell? (x.add i) = some (.int .u8 (z0.getD i 0))) ∧ ∀ n ∈ z0, (Lit.int .u8 n).wf = true) (y0 : len0 * 1 ≤ 140737488351232) (w1 : (a1 = none ∧ len1 = 0 ∧ cap1 = 0 ∧ z1 = []) ∨ ∃ x, a1 = some x ∧ len1 ≤ cap1 ∧ cap1 ≤ maxLen ∧ z1.length = cap1 ∧ (∀ i, i < z1.length → w.cell? (x.add i) = some (.int .u8 (z1.getD i 0))) ∧ ∀ n ∈ z1, (Lit.int .u8 n).wf = true) (y1 : len1 * 1 ≤ 140737488351232) (hL : Hand.LaidG w := by first | exact hL | exact Hand.LaidG.below hL bel_) :
    Calls Tryd.prog 5 #[.slice a0 len0 cap0, .slice a1 len1 cap1] w fun e w' => e = .returned (.bool true) ∧ Below w.heap.size w w' := by
  obtain ⟨l0, rfl, hr0, hm0, hw0, hc0⟩ := ReadsInt.ofRowC w0
  obtain ⟨l1, rfl, hr1, hm1, hw1, hc1⟩ := ReadsInt.ofRowC w1
  obtain ⟨k, h⟩ := P l0 l1 hm0 y0 hw0 hm1 y1 hw1
  refine (laws_FnHash.calls k _ _ l0 _ _ l1 true w (Kd.C_of_reads (d := (0 : Int)) (h1 := fun _ => rfl) hr0) hc0 (Kd.C_of_reads (d := (0 : Int)) (h1 := fun _ => rfl) hr1) hc1 h).mono ?_
  rintro e w' ⟨rfl, hd⟩
  exact ⟨rfl, hd⟩

end Go.Proofs.YtfffdndeccipnaaDoor.PFnHash
