-- A program of this session wrote this text: a changed copy of the kit print, with given functions.
import Derived.Test.YtddapeieolfolaaDoorPFnScanx0
import Derived.Test.YtddapeieolfolaaDoorPFnScanx1
import Derived.Test.YtddapeieolfolaaDoorPFnScanx7
import Derived.Test.YtddapeieolfolaaDoorPFnScanx11
import Derived.Test.YtddapeieolfolaaDoorPFnScanx14
import Derived.Test.YtddapeieolfolaaDoorPFnScanx16
namespace Go.Proofs.YtddapeieolfolaaDoor.PFnScan
open Go.RowKit Go.Proofs.YtddapeieolfolaaDoorW.PrintWords Go.Proofs.YtddapeieolfolaaDoorW.PrintLast Go.Proofs.YtddapeieolfolaaDoorW.PrintMore Go.Proofs.YtddapeieolfolaaDoor.Aut
attribute [local go_sem] max2_int min2_int max_two min_two max_three min_three max_four min_four   -- for this text's walks alone
set_option linter.unusedVariables false
set_option linter.unusedSimpArgs false

attribute [local go_sem high] eqA66
/-! ### laws_FnScan: function 9 -/
mutual
def laws_FnScan.j0 : Nat → List Int → List Int → Bool → Option (Bool)
  | 0, _, _, _ => none
  | k + 1, x0, x1, x18 => if x18 = true then (some true) else ((spec_DrawPackBytes.f k x0).bind fun t398 => ((spec_PackBytes.f k t398).bind fun t401 => (laws_FnScan.l0 k x1 t398 t401 (([] : List Int)) 0)))
def laws_FnScan.l0 : Nat → List Int → List (S64) → ByteArray → List Int → Int → Option (Bool)
  | 0, _, _, _, _, _ => none
  | k + 1, x1, x5, x6, x7, x8 => if x8 < (x1.length : Int) then (laws_FnScan.j2 k x1 x5 x6 x7 x8 (decide (x8 < 40))) else (laws_FnScan.j2 k x1 x5 x6 x7 x8 false)
def laws_FnScan.j2 : Nat → List Int → List (S64) → ByteArray → List Int → Int → Bool → Option (Bool)
  | 0, _, _, _, _, _, _ => none
  | k + 1, x1, x5, x6, x7, x8, x31 => if x31 = true then (if 0 ≤ x8 then (if x8 < (x1.length : Int) then (if (rd x1 x8) = 66 then (laws_FnScan.l0 k x1 x5 x6 x7 (wrap64 (x8 + 1))) else (if x7.length < 140737488355328 then (laws_FnScan.l0 k x1 x5 x6 (x7 ++ [rd x1 x8]) (wrap64 (x8 + 1))) else (none))) else (none)) else (none)) else (if (strOfNums x7).size + x6.size ≤ 9223372036854775807 then ((impl_PackScan.f k ((strOfNums x7) ++ x6)).bind fun t410 => ((spec_PackBytes.f k x5).bind fun t413 => (if t413.toList = ([] : List UInt8) then (some ((t410.length : Int) == 0)) else (if (t410.length : Int) = (x5.length : Int) then (laws_FnScan.l1 k x5 ((strOfNums x7) ++ x6) t410 0) else (some false))))) else (none))
def laws_FnScan.l1 : Nat → List (S64) → ByteArray → List (S61) → Int → Option (Bool)
  | 0, _, _, _, _ => none
  | k + 1, x5, x6, x9, x10 => if x10 < (x5.length : Int) then (if 0 ≤ x10 then (if x10 < (x9.length : Int) then ((impl_BlobKey.f k ((rd_T64 x5 x10).f0) ((rd_T64 x5 x10).f1)).bind fun t416 => (if ((rd_T61 x9 x10).f0).toList = t416.toList then (if ((rd_T61 x9 x10).f3) = (((rd_T64 x5 x10).f1).size : Int) then ((impl_PackGet.f k x6 ((rd_T61 x9 x10).f0) ((rd_T61 x9 x10).f1) ((rd_T61 x9 x10).f2) ((rd_T61 x9 x10).f3)).bind fun bt420 => (if ((!(bt420.1 == ((rd_T64 x5 x10).f0)) || (!(bt420.2.1.toList == (((rd_T64 x5 x10).f1).toList)))) || (!(bt420.2.2 == 0))) = true then (some false) else (laws_FnScan.l1 k x5 x6 x9 (wrap64 (x10 + 1))))) else (some false)) else (some false))) else (none)) else (none)) else (some true)
end
def laws_FnScan.f (k : Nat) (l0 : List Int) (l1 : List Int) : Option (Bool) := if (l0.length : Int) > 1048576 then (laws_FnScan.j0 k l0 l1 true) else (laws_FnScan.j0 k l0 l1 (decide ((l1.length : Int) > 1048576)))
theorem laws_FnScan.mono_l : ∀ k, (∀ y0 y1 y2, LeO (laws_FnScan.j0 k y0 y1 y2) (laws_FnScan.j0 (k + 1) y0 y1 y2)) ∧ (∀ y0 y1 y2 y3 y4, LeO (laws_FnScan.l0 k y0 y1 y2 y3 y4) (laws_FnScan.l0 (k + 1) y0 y1 y2 y3 y4)) ∧ (∀ y0 y1 y2 y3 y4 y5, LeO (laws_FnScan.j2 k y0 y1 y2 y3 y4 y5) (laws_FnScan.j2 (k + 1) y0 y1 y2 y3 y4 y5)) ∧ (∀ y0 y1 y2 y3, LeO (laws_FnScan.l1 k y0 y1 y2 y3) (laws_FnScan.l1 (k + 1) y0 y1 y2 y3))
  | 0 => ⟨fun _ _ _ r h => by simp [laws_FnScan.j0] at h, fun _ _ _ _ _ r h => by simp [laws_FnScan.l0] at h, fun _ _ _ _ _ _ r h => by simp [laws_FnScan.j2] at h, fun _ _ _ _ r h => by simp [laws_FnScan.l1] at h⟩
  | k + 1 => by
    obtain ⟨ih0, ih1, ih2, ih3⟩ := laws_FnScan.mono_l k
    refine ⟨?_, ?_, ?_, ?_⟩
    · intro y0 y1 y2
      unfold laws_FnScan.j0
      repeat' first
      | (with_reducible exact ih0 _ _ _)
      | (with_reducible exact ih1 _ _ _ _ _)
      | (with_reducible exact ih2 _ _ _ _ _ _)
      | (with_reducible exact ih3 _ _ _ _)
      | (with_reducible exact impl_BlobKey.mono _ _ _)
      | (with_reducible exact impl_PackGet.mono _ _ _ _ _ _)
      | (with_reducible exact impl_PackScan.mono _ _)
      | (with_reducible exact spec_DrawPackBytes.mono _ _)
      | (with_reducible exact spec_PackBytes.mono _ _)
      | (with_reducible exact LeO.refl _)
      | (with_reducible exact LeO.none _)
      | (with_reducible refine LeO.ite ?_ ?_)
      | (with_reducible refine LeO.bind ?_ (fun _ => ?_))
      | exact ih0 _ _ _
      | exact ih1 _ _ _ _ _
      | exact ih2 _ _ _ _ _ _
      | exact ih3 _ _ _ _
      | exact impl_BlobKey.mono _ _ _
      | exact impl_PackGet.mono _ _ _ _ _ _
      | exact impl_PackScan.mono _ _
      | exact spec_DrawPackBytes.mono _ _
      | exact spec_PackBytes.mono _ _
      | exact LeO.none _
      | refine LeO.ite ?_ ?_
      | refine LeO.bind ?_ (fun _ => ?_)
    · intro y0 y1 y2 y3 y4
      unfold laws_FnScan.l0
      repeat' first
      | (with_reducible exact ih0 _ _ _)
      | (with_reducible exact ih1 _ _ _ _ _)
      | (with_reducible exact ih2 _ _ _ _ _ _)
      | (with_reducible exact ih3 _ _ _ _)
      | (with_reducible exact impl_BlobKey.mono _ _ _)
      | (with_reducible exact impl_PackGet.mono _ _ _ _ _ _)
      | (with_reducible exact impl_PackScan.mono _ _)
      | (with_reducible exact spec_DrawPackBytes.mono _ _)
      | (with_reducible exact spec_PackBytes.mono _ _)
      | (with_reducible exact LeO.refl _)
      | (with_reducible exact LeO.none _)
      | (with_reducible refine LeO.ite ?_ ?_)
      | (with_reducible refine LeO.bind ?_ (fun _ => ?_))
      | exact ih0 _ _ _
      | exact ih1 _ _ _ _ _
      | exact ih2 _ _ _ _ _ _
      | exact ih3 _ _ _ _
      | exact impl_BlobKey.mono _ _ _
      | exact impl_PackGet.mono _ _ _ _ _ _
      | exact impl_PackScan.mono _ _
      | exact spec_DrawPackBytes.mono _ _
      | exact spec_PackBytes.mono _ _
      | exact LeO.none _
      | refine LeO.ite ?_ ?_
      | refine LeO.bind ?_ (fun _ => ?_)
    · intro y0 y1 y2 y3 y4 y5
      unfold laws_FnScan.j2
      repeat' first
      | (with_reducible exact ih0 _ _ _)
      | (with_reducible exact ih1 _ _ _ _ _)
      | (with_reducible exact ih2 _ _ _ _ _ _)
      | (with_reducible exact ih3 _ _ _ _)
      | (with_reducible exact impl_BlobKey.mono _ _ _)
      | (with_reducible exact impl_PackGet.mono _ _ _ _ _ _)
      | (with_reducible exact impl_PackScan.mono _ _)
      | (with_reducible exact spec_DrawPackBytes.mono _ _)
      | (with_reducible exact spec_PackBytes.mono _ _)
      | (with_reducible exact LeO.refl _)
      | (with_reducible exact LeO.none _)
      | (with_reducible refine LeO.ite ?_ ?_)
      | (with_reducible refine LeO.bind ?_ (fun _ => ?_))
      | exact ih0 _ _ _
      | exact ih1 _ _ _ _ _
      | exact ih2 _ _ _ _ _ _
      | exact ih3 _ _ _ _
      | exact impl_BlobKey.mono _ _ _
      | exact impl_PackGet.mono _ _ _ _ _ _
      | exact impl_PackScan.mono _ _
      | exact spec_DrawPackBytes.mono _ _
      | exact spec_PackBytes.mono _ _
      | exact LeO.none _
      | refine LeO.ite ?_ ?_
      | refine LeO.bind ?_ (fun _ => ?_)
    · intro y0 y1 y2 y3
      unfold laws_FnScan.l1
      repeat' first
      | (with_reducible exact ih0 _ _ _)
      | (with_reducible exact ih1 _ _ _ _ _)
      | (with_reducible exact ih2 _ _ _ _ _ _)
      | (with_reducible exact ih3 _ _ _ _)
      | (with_reducible exact impl_BlobKey.mono _ _ _)
      | (with_reducible exact impl_PackGet.mono _ _ _ _ _ _)
      | (with_reducible exact impl_PackScan.mono _ _)
      | (with_reducible exact spec_DrawPackBytes.mono _ _)
      | (with_reducible exact spec_PackBytes.mono _ _)
      | (with_reducible exact LeO.refl _)
      | (with_reducible exact LeO.none _)
      | (with_reducible refine LeO.ite ?_ ?_)
      | (with_reducible refine LeO.bind ?_ (fun _ => ?_))
      | exact ih0 _ _ _
      | exact ih1 _ _ _ _ _
      | exact ih2 _ _ _ _ _ _
      | exact ih3 _ _ _ _
      | exact impl_BlobKey.mono _ _ _
      | exact impl_PackGet.mono _ _ _ _ _ _
      | exact impl_PackScan.mono _ _
      | exact spec_DrawPackBytes.mono _ _
      | exact spec_PackBytes.mono _ _
      | exact LeO.none _
      | refine LeO.ite ?_ ?_
      | refine LeO.bind ?_ (fun _ => ?_)
theorem laws_FnScan.mono : ∀ a0 a1 k, LeO (laws_FnScan.f k a0 a1) (laws_FnScan.f (k + 1) a0 a1) := by
  intro a0 a1 k
  obtain ⟨ih0, ih1, ih2, ih3⟩ := laws_FnScan.mono_l k
  unfold laws_FnScan.f
  repeat' first
      | (with_reducible exact ih0 _ _ _)
      | (with_reducible exact ih1 _ _ _ _ _)
      | (with_reducible exact ih2 _ _ _ _ _ _)
      | (with_reducible exact ih3 _ _ _ _)
      | (with_reducible exact impl_BlobKey.mono _ _ _)
      | (with_reducible exact impl_PackGet.mono _ _ _ _ _ _)
      | (with_reducible exact impl_PackScan.mono _ _)
      | (with_reducible exact spec_DrawPackBytes.mono _ _)
      | (with_reducible exact spec_PackBytes.mono _ _)
      | (with_reducible exact LeO.refl _)
      | (with_reducible exact LeO.none _)
      | (with_reducible refine LeO.ite ?_ ?_)
      | (with_reducible refine LeO.bind ?_ (fun _ => ?_))
      | exact ih0 _ _ _
      | exact ih1 _ _ _ _ _
      | exact ih2 _ _ _ _ _ _
      | exact ih3 _ _ _ _
      | exact impl_BlobKey.mono _ _ _
      | exact impl_PackGet.mono _ _ _ _ _ _
      | exact impl_PackScan.mono _ _
      | exact spec_DrawPackBytes.mono _ _
      | exact spec_PackBytes.mono _ _
      | exact LeO.none _
      | refine LeO.ite ?_ ?_
      | refine LeO.bind ?_ (fun _ => ?_)
def laws_FnScan.T20 : Bool × List (List Nat × List Nat) := (true, [([], []), ([], []), ([0, 1], [0, 1]), ([2], [2]), ([3], [3]), ([], []), ([], []), ([5, 6], [5, 6]), ([7], [7]), ([8], [8]), ([4, 9], [4, 9]), ([10, 9], [10]), ([11], [11]), ([11], [11]), ([12, 13, 11], [11, 12, 13]), ([14, 11], [11, 14]), ([15, 11], [11, 15]), ([11], [11]), ([11], [11]), ([17, 18, 11], [11, 17, 18]), ([19, 11], [11, 19]), ([20, 11], [11, 20]), ([21, 11], [11, 21]), ([16, 22, 11], [11, 16, 22]), ([11, 23], [11, 23]), ([24, 11], [24]), ([25], [25]), ([25], [25]), ([25], [25]), ([27, 28, 25], [25, 27, 28]), ([29, 25], [25, 29]), ([26, 30, 25, 25], [25, 26, 30]), ([25], [25]), ([25], [25]), ([32, 33, 25], [25, 32, 33]), ([34, 25], [25, 34]), ([35, 25], [25, 35]), ([31, 36, 25], [25, 31, 36]), ([25, 37], [25, 37])])
def laws_FnScan.B20 : List Nat := [0, 0, 3, 7, 15, 0, 0, 96, 224, 480, 1023, 2047, 4095, 4095, 16383, 32767, 65535, 4095, 4095, 397311, 921599, 1970175, 4067327, 8388607, 16777215, 33554431, 67108863, 67108863, 67108863, 469762047, 1006632959, 2147483647, 67108863, 67108863, 12952010751, 30131879935, 64491618303, 137438953471, 274877906943]
theorem laws_FnScan.tab20 : rtab .any (opsOf Tryd.f9 20) = laws_FnScan.T20 := by kernel_rfl
theorem laws_FnScan.bits20 : waitsOk laws_FnScan.T20.2 laws_FnScan.B20 = true := by kernel_rfl
set_option maxHeartbeats 8000000 in
set_option maxRecDepth 100000 in
theorem laws_FnScan.calls (k : Nat) (A0 : Option Addr) (c0 : Nat) (l0 : List Int) (A1 : Option Addr) (c1 : Nat) (l1 : List Int) (r : Bool) (w : World) (hr0 : Kd.C (Kd.int .u8) w A0 l0.length l0) (hc0 : l0.length ≤ c0) (hr1 : Kd.C (Kd.int .u8) w A1 l1.length l1) (hc1 : l1.length ≤ c1) (h : laws_FnScan.f k l0 l1 = some r) (hL : Hand.LaidG w := by first | exact hL | exact Hand.LaidG.below hL bel_) :
    Calls Tryd.prog 9 #[.slice A0 l0.length c0, .slice A1 l1.length c1] w fun e w' => e = .returned (.bool r) ∧ Below w.heap.size w w' := by
  have hu64 := Tryd.underlying64
  have hu61 := Tryd.underlying61
  have hu66 := Tryd.underlying66
  have HR0 := AM hr0
  have HC0 := AM hc0
  clear hr0 hc0
  have HR1 := AM hr1
  have HC1 := AM hc1
  clear hr1 hc1
  have HB := AM (Below.refl w.heap.size w)
  have H : (if (l0.length : Int) > 1048576 then (laws_FnScan.j0 k l0 l1 true) else (laws_FnScan.j0 k l0 l1 (decide ((l1.length : Int) > 1048576)))) = some r := h
  clear h
  have HC3 := AM H
  clear H
  go_enter Tryd.func9, Tryd.ntmps9
  go_upto_region 1 with (fail)
  go_cut [18] (fun v18 wc => ∃ (kq : Nat) (x18_2 : Bool), v18 = .bool x18_2 ∧ Aside0 (laws_FnScan.j0 kq l0 l1 x18_2 = some r) ∧ Aside0 (kq ≤ k) ∧ Aside0 (Below w.heap.size w wc))
  case first =>
    have H := HC3.out
    clear HC3
    by_cases c4 : (l0.length : Int) > 1048576
    · rw [if_pos c4] at H
      have c4b0 : decide (1048576 < (l0.length : Int)) = true := decide_eq_true c4
      have c4b1 : decide (1048576 < l0.length) = true := decide_eq_true (by omega)
      clear c4
      (first | rw [c4b0] | (simp only [i64_w, i32_w]; rw [c4b0]) | skip)
      have H' := AM H
      clear H
      go_wp2
      go_meet
      case rel => exact ⟨_, (true), (by first | rfl | (simp; done) | (simp [*]; done)), H', ⟨by first | omega | exact Nat.le_refl _⟩, ⟨bel_⟩⟩
    · rw [if_neg c4] at H
      have c4b0 : decide (1048576 < (l0.length : Int)) = false := decide_eq_false c4
      have c4b1 : decide (1048576 < l0.length) = false := decide_eq_false (by omega)
      clear c4
      (first | rw [c4b0] | (simp only [i64_w, i32_w]; rw [c4b0]) | skip)
      have H' := AM H
      clear H
      go_wp2
      go_meet
      case rel => exact ⟨_, (decide ((l1.length : Int) > 1048576)), (by first | rfl | (simp; done) | (simp [*]; done)), H', ⟨by first | omega | exact Nat.le_refl _⟩, ⟨bel_⟩⟩
  case rest =>
    clear HC3
    try clear c1
    try clear p2
    try clear c4
    try clear c4b0
    try clear c4b1
    obtain ⟨kq, x18_2, rfl, HA, HJ2, HB⟩ := hcut
    cases kq with
    | zero => exact absurd HA.out (by simp [laws_FnScan.j0])
    | succ kj2 =>
      have H := HA.out
      clear HA
      simp only [laws_FnScan.j0] at H
      by_cases c5 : x18_2 = true
      · subst c5
        rw [if_pos rfl] at H
        obtain rfl := Option.some.inj H
        go_wp2
        go_ret
        exact ⟨ri_, bel_⟩
      · replace c5 := Bool.eq_false_iff.mpr c5
        subst c5
        rw [if_neg (show ¬ (false = true) by decide)] at H
        obtain ⟨t398, A6, H⟩ := OB H
        try dsimp only at H
        replace A6 := AM A6
        obtain ⟨t401, A7, H⟩ := OB H
        try dsimp only at H
        replace A7 := AM A7
        obtain ⟨y402, hy402⟩ : ∃ y_ : List Int, y_ = (([] : List Int)) := ⟨_, rfl⟩
        replace H : (laws_FnScan.l0 kj2 l1 t398 t401 y402 0) = some r := by first | (rw [hy402]; with_reducible exact H) | (have H2_ := (Option.bind_some _ _).symm.trans H; rw [hy402]; with_reducible exact H2_) | (have H2_ := (Option.bind_some _ _).symm.trans H; with_reducible exact H2_) | with_reducible exact H | (rw [hy402]; exact H) | exact H
        have Ny402 := AM hy402
        clear hy402
        have H' := AM H
        clear H
        go_wp2_with (first | ((with_reducible refine gate_callee (f := 40) rfl ?_); refine gl_ (some 20) Tryd.func40 #[.slice A0 l0.length c0] ?_; (with_reducible refine (spec_DrawPackBytes.calls kj2 _ _ l0 t398 _ ?side1 ?side2 A6.out).mono ?_); (case side1 => repeat (first | exact (Kd.C_below HR0.out HB.out) | (with_reducible refine Kd.C_alloc ?_ _) | (with_reducible refine Kd.C_drewN ?_ _) | (with_reducible refine Kd.C_drew ?_))); (case side2 => exact HC0.out); rintro e w8 ⟨v399, rfl, ho0, hb⟩; refine ⟨_, rfl, ?_⟩; have HO400 := AM (Kd.R_lower ho0 (below_size bel_)); replace HB := AM (below_step bel_ hb); (try clear hb); (try clear hb2); (try clear hk); (try clear hi); (try clear ho0); obtain ⟨Ao9, co9, eo9⟩ := Kd.R_slice HO400.out; subst eo9) | ((with_reducible refine gate_callee (f := 41) rfl ?_); refine gl_ (some 22) Tryd.func41 #[.slice Ao9 t398.length co9] ?_; (with_reducible refine (spec_PackBytes.calls kj2 _ _ t398 t401 _ ?side1 ?side2 A7.out).mono ?_); (case side1 => repeat (first | exact (Kd.R_reads' HO400.out).2.2 | (with_reducible refine Kd.C_alloc ?_ _) | (with_reducible refine Kd.C_drewN ?_ _) | (with_reducible refine Kd.C_drew ?_))); (case side2 => exact (Kd.R_reads' HO400.out).2.1); rintro e w10 ⟨rfl, hb⟩; refine ⟨_, rfl, ?_⟩; replace HO400 := AM (Kd.R_below (ro_ HO400.out) hb); replace HB := AM (below_step bel_ hb); (try clear hb); (try clear hb2); (try clear hk); (try clear hi)) | ((with_reducible refine gate_dst (N := 23) rfl ?_); (try (refine gate_guard (by rfl) ?_; dsimp only)); refine Kd.R_lit (Kd.int .u8) _ 5 ?hg (N := 23) ?hd (xs := ([] : List Int)) (inner := []) (ok := fun _ => True) (okp := fun _ => True) ?hr ?hp (fun _ hk => hk) trivial (Below.refl _ _) (Nat.le_refl _) (by simp) ?_; (case hd => rfl); (case hg => rfl); (case hr => first | (go_simp; done) | (go_simp; rfl)); (case hp => exact (Reps.none _ _)); intro v403 w11 ho12 hb hg_ hnew_; clear hg_ hnew_; (first | rw [← Ny402.out] at ho12 | (simp only [Int.reduceToNat] at ho12; rw [← Ny402.out] at ho12)); replace HO400 := AM (Kd.R_below (ro_ HO400.out) hb); have HO404 := AM (Kd.R_lower ho12 (below_size bel_)); replace HB := AM (below_step bel_ hb); clear hb ho12))
        go_loopg [7, 8] kj2 (fun kq v7 v8 w' => ∃ (x7_2 : List Int) (x8_2 : Int), v8 = .int .i64 x8_2 ∧ Aside0 (laws_FnScan.l0 kq l1 t398 t401 x7_2 x8_2 = some r) ∧ Aside0 (kq ≤ kj2) ∧ Aside0 (Kd.R k64 64 w' w.heap.size (fun _ => True) (.slice Ao9 t398.length co9) t398) ∧ Aside0 (Kd.R (Kd.int .u8) 5 w' w.heap.size (fun _ => True) v7 x7_2) ∧ Aside0 (Below w.heap.size w w'))
        case atStart => exact ⟨(y402), (0), (by first | rfl | (simp; done) | (simp [*]; done)), H', ⟨Nat.le_refl _⟩, ⟨ro_ HO400.out⟩, ⟨ro_ HO404.out⟩, ⟨bel_⟩⟩
        case round =>
          clear H'
          try clear c1
          try clear p2
          try clear c4
          try clear c4b0
          try clear c4b1
          try clear c5
          try clear c9
          try clear p2
          obtain ⟨x7_2, x8_2, rfl, HA, HK2, HO_5, HO_7, HB⟩ := hrel
          cases gk with
          | zero => exact absurd HA.out (by simp [laws_FnScan.l0])
          | succ k2 =>
            have H := HA.out
            clear HA
            simp only [laws_FnScan.l0] at H
            have HC13 := AM H
            clear H
            go_upto_region 7 with (fail)
            go_cut [31] (fun v31 wc => ∃ (kq : Nat) (x31_12 : Bool), v31 = .bool x31_12 ∧ Aside0 (laws_FnScan.j2 kq l1 t398 t401 x7_2 x8_2 x31_12 = some r) ∧ Aside0 (kq ≤ k2) ∧ Aside0 (Kd.R k64 64 wc w.heap.size (fun _ => True) (.slice Ao9 t398.length co9) t398) ∧ Aside0 (Kd.R (Kd.int .u8) 5 wc w.heap.size (fun _ => True) u7 x7_2) ∧ Aside0 (Below w.heap.size w wc))
            case first =>
              have H := HC13.out
              clear HC13
              by_cases c14 : x8_2 < (l1.length : Int)
              · rw [if_pos c14] at H
                have c14b0 : decide (x8_2 < (l1.length : Int)) = true := decide_eq_true c14
                clear c14
                (first | rw [c14b0] | (simp only [i64_w, i32_w]; rw [c14b0]) | skip)
                have H' := AM H
                clear H
                go_wp2
                go_meet
                case rel => exact ⟨_, (decide (x8_2 < 40)), (by first | rfl | (simp; done) | (simp [*]; done)), H', ⟨by have := HJ2.out; have := HK2.out; first | omega | exact Nat.le_refl _⟩, ⟨ro_ HO_5.out⟩, ⟨ro_ HO_7.out⟩, ⟨bel_⟩⟩
              · rw [if_neg c14] at H
                have c14b0 : decide (x8_2 < (l1.length : Int)) = false := decide_eq_false c14
                clear c14
                (first | rw [c14b0] | (simp only [i64_w, i32_w]; rw [c14b0]) | skip)
                have H' := AM H
                clear H
                go_wp2
                go_meet
                case rel => exact ⟨_, (false), (by first | rfl | (simp; done) | (simp [*]; done)), H', ⟨by have := HJ2.out; have := HK2.out; first | omega | exact Nat.le_refl _⟩, ⟨ro_ HO_5.out⟩, ⟨ro_ HO_7.out⟩, ⟨bel_⟩⟩
            case rest =>
              clear HC13
              try clear c1
              try clear p2
              try clear c4
              try clear c4b0
              try clear c4b1
              try clear c5
              try clear c9
              try clear c14
              try clear c14b0
              try clear p2
              obtain ⟨kq, x31_12, rfl, HA, HJ12, HO_5, HO_7, HB⟩ := hcut
              cases kq with
              | zero => exact absurd HA.out (by simp [laws_FnScan.j2])
              | succ kj12 =>
                have H := HA.out
                clear HA
                simp only [laws_FnScan.j2] at H
                by_cases c15 : x31_12 = true
                · subst c15
                  rw [if_pos rfl] at H
                  by_cases c16 : 0 ≤ x8_2
                  · rw [if_pos c16] at H
                    have c16b0 : decide (0 ≤ x8_2) = true := decide_eq_true c16
                    clear c16
                    by_cases c17 : x8_2 < (l1.length : Int)
                    · rw [if_pos c17] at H
                      have c17b0 : decide (x8_2 < (l1.length : Int)) = true := decide_eq_true c17
                      clear c17
                      by_cases c18 : (rd l1 x8_2) = 66
                      · rw [if_pos c18] at H
                        have c18b0 : ((rd l1 x8_2) == 66) = true := beq_iff_eq.mpr c18
                        have c18b1 : ((rd l1 x8_2) != 66) = false := bne_eq_false_iff_eq.mpr c18
                        clear c18
                        have H' := AM H
                        clear H
                        have p405 : 0 ≤ (x8_2 : Int) := of_decide_eq_true (by first | (with_reducible assumption) | assumption)
                        have q405 : x8_2 < (l1.length : Int) := of_decide_eq_true (by first | (with_reducible assumption) | assumption)
                        obtain ⟨ad405, e405, hx405_0⟩ := Kd.at_int HR1.out x8_2 p405 q405
                        cases e405
                        replace hx405_0 := (HB.out.cell (World.block_lt_of_cell? w _ hx405_0)).trans hx405_0
                        replace p405 := eq_true p405
                        replace q405 := eq_true q405
                        go_wp2
                        go_roundg kj12
                        case measure => have := HJ2.out; have := HK2.out; have := HJ12.out; omega
                        case rel => exact ⟨(x7_2), (wrap64 (x8_2 + 1)), (by first | rfl | (simp; done) | (simp [*]; done)), H', ⟨by have := HJ2.out; have := HK2.out; have := HJ12.out; omega⟩, ⟨ro_ HO_5.out⟩, ⟨ro_ HO_7.out⟩, ⟨bel_⟩⟩
                      · rw [if_neg c18] at H
                        have c18b0 : ((rd l1 x8_2) == 66) = false := beq_eq_false_iff_ne.mpr c18
                        have c18b1 : ((rd l1 x8_2) != 66) = true := bne_iff_ne.mpr c18
                        by_cases c19 : x7_2.length < 140737488355328
                        · rw [if_pos c19] at H
                          have LMc19 := AM c19
                          clear c19
                          obtain ⟨y407, hy407⟩ : ∃ y_ : List Int, y_ = (x7_2 ++ [rd l1 x8_2]) := ⟨_, rfl⟩
                          replace H : (laws_FnScan.l0 kj12 l1 t398 t401 y407 (wrap64 (x8_2 + 1))) = some r := by first | (rw [hy407]; with_reducible exact H) | (have H2_ := (Option.bind_some _ _).symm.trans H; rw [hy407]; with_reducible exact H2_) | (have H2_ := (Option.bind_some _ _).symm.trans H; with_reducible exact H2_) | with_reducible exact H | (rw [hy407]; exact H) | exact H
                          have Ny407 := AM hy407
                          clear hy407
                          have H' := AM H
                          clear H
                          have p405 : 0 ≤ (x8_2 : Int) := of_decide_eq_true (by first | (with_reducible assumption) | assumption)
                          have q405 : x8_2 < (l1.length : Int) := of_decide_eq_true (by first | (with_reducible assumption) | assumption)
                          obtain ⟨ad405, e405, hx405_0⟩ := Kd.at_int HR1.out x8_2 p405 q405
                          cases e405
                          replace hx405_0 := (HB.out.cell (World.block_lt_of_cell? w _ hx405_0)).trans hx405_0
                          replace p405 := eq_true p405
                          replace q405 := eq_true q405
                          have p406 : 0 ≤ (x8_2 : Int) := of_decide_eq_true (by first | (with_reducible assumption) | assumption)
                          have q406 : x8_2 < (l1.length : Int) := of_decide_eq_true (by first | (with_reducible assumption) | assumption)
                          obtain ⟨ad406, e406, hx406_0⟩ := Kd.at_int HR1.out x8_2 p406 q406
                          obtain rfl : ad405 = ad406 := (by injection e406)
                          replace hx406_0 := (HB.out.cell (World.block_lt_of_cell? w _ hx406_0)).trans hx406_0
                          replace p406 := eq_true p406
                          replace q406 := eq_true q406
                          go_wp2_with (first | ((with_reducible refine gate_builtin (b := .append) (xs := #[.tmp 39, .tmp 44]) rfl ?_); (try (refine gate_guard (by rfl) ?_; dsimp only)); at_builtin; refine Kd.R_append (Kd.int .u8) (w0 := w) w.heap.size rfl (.tmp 39) (.tmp 44) 38 5 (.int .u8 0) 1 rfl Tryd.underlying38 info5 rfl (by decide) (by omega) u7 x7_2 (rd l1 x8_2) [.int .u8 (rd l1 x8_2)] (fun _ => True) (fun _ => False) rfl rfl ?aP (fun _ hk => hk.elim) ?aF ?aO ?aB ?aS ?aL ?_; (case aP => exact rfl); (case aB => exact bel_); (case aF => exact (fun _ _ => trivial)); (case aO => exact (ro_ HO_7.out)); (case aS => exact (below_size bel_)); (case aL => have := LMc19.out; omega); intro v408 w20 ho hb hg hat; rw [← Ny407.out] at ho; have n0_ := AM (Kd.R_over' (ro_ HO_5.out) (Kd.R_typed (ro_ HO_7.out)) (by decide) hg); have n1_ := AM hb; have n2_ := AM ho; clear HO_5; clear HB; clear HO_7; have HO_5 := n0_; have HB := n1_; have HO409 := n2_; clear n0_ n1_ n2_; clear ho hb hg hat))
                          go_roundg kj12
                          case measure => have := HJ2.out; have := HK2.out; have := HJ12.out; omega
                          case rel => exact ⟨(y407), (wrap64 (x8_2 + 1)), (by first | rfl | (simp; done) | (simp [*]; done)), H', ⟨by have := HJ2.out; have := HK2.out; have := HJ12.out; omega⟩, ⟨ro_ HO_5.out⟩, ⟨ro_ HO409.out⟩, ⟨bel_⟩⟩
                        · rw [if_neg c19] at H
                          exact absurd H (by simp)
                    · rw [if_neg c17] at H
                      exact absurd H (by simp)
                  · rw [if_neg c16] at H
                    exact absurd H (by simp)
                · replace c15 := Bool.eq_false_iff.mpr c15
                  subst c15
                  rw [if_neg (show ¬ (false = true) by decide)] at H
                  by_cases c21 : (strOfNums x7_2).size + t401.size ≤ 9223372036854775807
                  · rw [if_pos c21] at H
                    have c21b0 := eq_true c21
                    have c21b1 : decide ((strOfNums x7_2).size + t401.size ≤ 9223372036854775807) = true := decide_eq_true c21
                    try have c21b2 : (9223372036854775807 < (strOfNums x7_2).size + t401.size) = False := eq_false (Nat.not_lt.2 c21)
                    obtain ⟨t410, A22, H⟩ := OB H
                    try dsimp only at H
                    replace A22 := AM A22
                    obtain ⟨t413, A23, H⟩ := OB H
                    try dsimp only at H
                    replace A23 := AM A23
                    by_cases c24 : t413.toList = ([] : List UInt8)
                    · rw [if_pos c24] at H
                      have c24b0 : (t413.toList == ([] : List UInt8)) = true := beq_iff_eq.mpr c24
                      have c24b1 : (t413.toList != ([] : List UInt8)) = false := bne_eq_false_iff_eq.mpr c24
                      clear c24
                      obtain rfl := Option.some.inj H
                      have hcv25 := own_string (P := Tryd.prog) Tryd.underlying38 Tryd.underlying5 Tryd.underlying9 (Kd.own_of_R HO_7.out)
                      go_wp2_with (first | ((with_reducible refine gate_callee (f := 36) rfl ?_); refine gl_ (some 51) Tryd.func36 #[.string ((strOfNums x7_2) ++ t401)] ?_; (with_reducible refine (impl_PackScan.calls kj12 ((strOfNums x7_2) ++ t401) t410 _ A22.out).mono ?_); rintro e w26 ⟨v411, rfl, ho0, hb⟩; refine ⟨_, rfl, ?_⟩; replace HO_5 := AM (Kd.R_below (ro_ HO_5.out) hb); replace HO_7 := AM (Kd.R_below (ro_ HO_7.out) hb); have HO412 := AM (Kd.R_lower ho0 (below_size bel_)); replace HB := AM (below_step bel_ hb); (try clear hb); (try clear hb2); (try clear hk); (try clear hi); (try clear ho0)) | ((with_reducible refine gate_callee (f := 41) rfl ?_); refine gl_ (some 53) Tryd.func41 #[.slice Ao9 t398.length co9] ?_; (with_reducible refine (spec_PackBytes.calls kj12 _ _ t398 t413 _ ?side1 ?side2 A23.out).mono ?_); (case side1 => repeat (first | exact (Kd.R_reads' HO_5.out).2.2 | (with_reducible refine Kd.C_alloc ?_ _) | (with_reducible refine Kd.C_drewN ?_ _) | (with_reducible refine Kd.C_drew ?_))); (case side2 => exact (Kd.R_reads' HO_5.out).2.1); rintro e w27 ⟨rfl, hb⟩; refine ⟨_, rfl, ?_⟩; replace HO_5 := AM (Kd.R_below (ro_ HO_5.out) hb); replace HO_7 := AM (Kd.R_below (ro_ HO_7.out) hb); replace HO412 := AM (Kd.R_below (ro_ HO412.out) hb); replace HB := AM (below_step bel_ hb); (try clear hb); (try clear hb2); (try clear hk); (try clear hi); obtain ⟨Ao28, co28, eo28⟩ := Kd.R_slice HO412.out; subst eo28))
                      go_ret
                      exact ⟨ri_, bel_⟩
                    · rw [if_neg c24] at H
                      have c24b0 : (t413.toList == ([] : List UInt8)) = false := beq_eq_false_iff_ne.mpr c24
                      have c24b1 : (t413.toList != ([] : List UInt8)) = true := bne_iff_ne.mpr c24
                      by_cases c29 : (t410.length : Int) = (t398.length : Int)
                      · rw [if_pos c29] at H
                        have c29b0 : ((t410.length : Int) == (t398.length : Int)) = true := beq_iff_eq.mpr c29
                        have c29b1 : ((t410.length : Int) != (t398.length : Int)) = false := bne_eq_false_iff_eq.mpr c29
                        have c29b2 : (t410.length == t398.length) = true := by first | simpa using c29 | (simp at c29 ⊢; omega)
                        clear c29
                        have H' := AM H
                        clear H
                        have hcv30 := own_string (P := Tryd.prog) Tryd.underlying38 Tryd.underlying5 Tryd.underlying9 (Kd.own_of_R HO_7.out)
                        go_wp2_with (first | ((with_reducible refine gate_callee (f := 36) rfl ?_); refine gl_ (some 51) Tryd.func36 #[.string ((strOfNums x7_2) ++ t401)] ?_; (with_reducible refine (impl_PackScan.calls kj12 ((strOfNums x7_2) ++ t401) t410 _ A22.out).mono ?_); rintro e w31 ⟨v411, rfl, ho0, hb⟩; refine ⟨_, rfl, ?_⟩; replace HO_5 := AM (Kd.R_below (ro_ HO_5.out) hb); replace HO_7 := AM (Kd.R_below (ro_ HO_7.out) hb); have HO412 := AM (Kd.R_lower ho0 (below_size bel_)); replace HB := AM (below_step bel_ hb); (try clear hb); (try clear hb2); (try clear hk); (try clear hi); (try clear ho0)) | ((with_reducible refine gate_callee (f := 41) rfl ?_); refine gl_ (some 53) Tryd.func41 #[.slice Ao9 t398.length co9] ?_; (with_reducible refine (spec_PackBytes.calls kj12 _ _ t398 t413 _ ?side1 ?side2 A23.out).mono ?_); (case side1 => repeat (first | exact (Kd.R_reads' HO_5.out).2.2 | (with_reducible refine Kd.C_alloc ?_ _) | (with_reducible refine Kd.C_drewN ?_ _) | (with_reducible refine Kd.C_drew ?_))); (case side2 => exact (Kd.R_reads' HO_5.out).2.1); rintro e w32 ⟨rfl, hb⟩; refine ⟨_, rfl, ?_⟩; replace HO_5 := AM (Kd.R_below (ro_ HO_5.out) hb); replace HO_7 := AM (Kd.R_below (ro_ HO_7.out) hb); replace HO412 := AM (Kd.R_below (ro_ HO412.out) hb); replace HB := AM (below_step bel_ hb); (try clear hb); (try clear hb2); (try clear hk); (try clear hi); obtain ⟨Ao33, co33, eo33⟩ := Kd.R_slice HO412.out; subst eo33))
                        go_loopg [10] kj12 (fun kq v10 w' => ∃ (x10_4 : Int), v10 = .int .i64 x10_4 ∧ Aside0 (laws_FnScan.l1 kq t398 ((strOfNums x7_2) ++ t401) t410 x10_4 = some r) ∧ Aside0 (kq ≤ kj12) ∧ Aside0 (Kd.R k64 64 w' w.heap.size (fun _ => True) (.slice Ao9 t398.length co9) t398) ∧ Aside0 (Kd.R k61 61 w' w.heap.size (fun _ => True) (.slice Ao33 t410.length co33) t410) ∧ Aside0 (Below w.heap.size w w'))
                        case atStart => exact ⟨(0), (by first | rfl | (simp; done) | (simp [*]; done)), H', ⟨Nat.le_refl _⟩, ⟨ro_ HO_5.out⟩, ⟨ro_ HO412.out⟩, ⟨bel_⟩⟩
                        case round =>
                          clear H'
                          try clear c1
                          try clear c2
                          try clear p2
                          try clear hcv2
                          try clear c3
                          try clear hcv3
                          try clear c4
                          try clear c4b0
                          try clear c4b1
                          try clear p4
                          try clear q4
                          try clear hx4
                          try clear c5
                          try clear p6
                          try clear c9
                          try clear c14
                          try clear c14b0
                          try clear c15
                          try clear c16
                          try clear c16b0
                          try clear c17
                          try clear c17b0
                          try clear c18
                          try clear c18b0
                          try clear c18b1
                          try clear c19
                          try clear c21
                          try clear c21b0
                          try clear c21b1
                          try clear c21b2
                          try clear c24
                          try clear c24b0
                          try clear c24b1
                          try clear hcv25
                          try clear c29
                          try clear c29b0
                          try clear c29b1
                          try clear c29b2
                          try clear hcv30
                          try clear hx405_0
                          try clear hx406_0
                          try clear p2
                          try clear p405
                          try clear p406
                          try clear q405
                          try clear q406
                          obtain ⟨x10_4, rfl, HA, HK4, HO_5, HO_9, HB⟩ := hrel
                          cases gk with
                          | zero => exact absurd HA.out (by simp [laws_FnScan.l1])
                          | succ k4 =>
                            have H := HA.out
                            clear HA
                            simp only [laws_FnScan.l1] at H
                            by_cases c34 : x10_4 < (t398.length : Int)
                            · rw [if_pos c34] at H
                              have c34b0 : decide (x10_4 < (t398.length : Int)) = true := decide_eq_true c34
                              clear c34
                              by_cases c35 : 0 ≤ x10_4
                              · rw [if_pos c35] at H
                                have c35b0 : decide (0 ≤ x10_4) = true := decide_eq_true c35
                                clear c35
                                by_cases c36 : x10_4 < (t410.length : Int)
                                · rw [if_pos c36] at H
                                  have c36b0 : decide (x10_4 < (t410.length : Int)) = true := decide_eq_true c36
                                  clear c36
                                  obtain ⟨t416, A37, H⟩ := OB H
                                  try dsimp only at H
                                  replace A37 := AM A37
                                  by_cases c38 : ((rd_T61 t410 x10_4).f0).toList = t416.toList
                                  · rw [if_pos c38] at H
                                    have c38b0 : (((rd_T61 t410 x10_4).f0).toList == t416.toList) = true := beq_iff_eq.mpr c38
                                    have c38b1 : (((rd_T61 t410 x10_4).f0).toList != t416.toList) = false := bne_eq_false_iff_eq.mpr c38
                                    clear c38
                                    by_cases c39 : ((rd_T61 t410 x10_4).f3) = (((rd_T64 t398 x10_4).f1).size : Int)
                                    · rw [if_pos c39] at H
                                      have c39b0 : (((rd_T61 t410 x10_4).f3) == (((rd_T64 t398 x10_4).f1).size : Int)) = true := beq_iff_eq.mpr c39
                                      have c39b1 : (((rd_T61 t410 x10_4).f3) != (((rd_T64 t398 x10_4).f1).size : Int)) = false := bne_eq_false_iff_eq.mpr c39
                                      clear c39
                                      obtain ⟨⟨t420, t421, t422⟩, A40, H⟩ := OB H
                                      try dsimp only at H
                                      replace A40 := AM A40
                                      by_cases c41 : ((!(t420 == ((rd_T64 t398 x10_4).f0)) || (!(t421.toList == (((rd_T64 t398 x10_4).f1).toList)))) || (!(t422 == 0))) = true
                                      · rw [if_pos c41] at H
                                        have c41b0 : ((!(t420 == ((rd_T64 t398 x10_4).f0)) || (!(t421.toList == (((rd_T64 t398 x10_4).f1).toList)))) || (!(t422 == 0))) = true := c41
                                        clear c41
                                        obtain rfl := Option.some.inj H
                                        try go_wp2
                                        replace HO_5 := AM (Kd.R_drew HO_5.out)
                                        replace HO_9 := AM (Kd.R_drew HO_9.out)
                                        replace HB := AM (below_drew1 HB.out)
                                        have p414 : 0 ≤ (x10_4 : Int) := of_decide_eq_true (by first | (with_reducible assumption) | assumption)
                                        have q414 : x10_4 < (t410.length : Int) := of_decide_eq_true (by first | (with_reducible assumption) | assumption)
                                        obtain ⟨ad414, e414, hx414_0, hx414_1, hx414_2, hx414_3⟩ := at_T61 (Kd.R_reads' HO_9.out).2.2 x10_4 p414 q414
                                        cases e414
                                        replace p414 := eq_true p414
                                        replace q414 := eq_true q414
                                        have p415 : 0 ≤ (x10_4 : Int) := of_decide_eq_true (by first | (with_reducible assumption) | assumption)
                                        have q415 : x10_4 < (t398.length : Int) := of_decide_eq_true (by first | (with_reducible assumption) | assumption)
                                        obtain ⟨ad415, e415, hx415_0, hx415_1⟩ := at_T64 (Kd.R_reads' HO_5.out).2.2 x10_4 p415 q415
                                        cases e415
                                        replace p415 := eq_true p415
                                        replace q415 := eq_true q415
                                        have p417 : 0 ≤ (x10_4 : Int) := of_decide_eq_true (by first | (with_reducible assumption) | assumption)
                                        have q417 : x10_4 < (t410.length : Int) := of_decide_eq_true (by first | (with_reducible assumption) | assumption)
                                        obtain ⟨ad417, e417, hx417_0, hx417_1, hx417_2, hx417_3⟩ := at_T61 (Kd.R_reads' HO_9.out).2.2 x10_4 p417 q417
                                        obtain rfl : ad414 = ad417 := (by injection e417)
                                        replace p417 := eq_true p417
                                        replace q417 := eq_true q417
                                        have p418 : 0 ≤ (x10_4 : Int) := of_decide_eq_true (by first | (with_reducible assumption) | assumption)
                                        have q418 : x10_4 < (t398.length : Int) := of_decide_eq_true (by first | (with_reducible assumption) | assumption)
                                        obtain ⟨ad418, e418, hx418_0, hx418_1⟩ := at_T64 (Kd.R_reads' HO_5.out).2.2 x10_4 p418 q418
                                        obtain rfl : ad415 = ad418 := (by injection e418)
                                        replace p418 := eq_true p418
                                        replace q418 := eq_true q418
                                        have p419 : 0 ≤ (x10_4 : Int) := of_decide_eq_true (by first | (with_reducible assumption) | assumption)
                                        have q419 : x10_4 < (t410.length : Int) := of_decide_eq_true (by first | (with_reducible assumption) | assumption)
                                        obtain ⟨ad419, e419, hx419_0, hx419_1, hx419_2, hx419_3⟩ := at_T61 (Kd.R_reads' HO_9.out).2.2 x10_4 p419 q419
                                        obtain rfl : ad414 = ad419 := (by injection e419)
                                        replace p419 := eq_true p419
                                        replace q419 := eq_true q419
                                        have p423 : 0 ≤ (x10_4 : Int) := of_decide_eq_true (by first | (with_reducible assumption) | assumption)
                                        have q423 : x10_4 < (t398.length : Int) := of_decide_eq_true (by first | (with_reducible assumption) | assumption)
                                        obtain ⟨ad423, e423, hx423_0, hx423_1⟩ := at_T64 (Kd.R_reads' HO_5.out).2.2 x10_4 p423 q423
                                        obtain rfl : ad415 = ad423 := (by injection e423)
                                        replace p423 := eq_true p423
                                        replace q423 := eq_true q423
                                        refine start_ (n := 39) (S := fun w' => w'.cell? (ad414.add ((x10_4).toNat * 4)) = some (.string ((rd_T61 t410 x10_4).f0)) ∧ w'.cell? ⟨(ad414.add ((x10_4).toNat * 4)).block, (ad414.add ((x10_4).toNat * 4)).off + 1, none⟩ = some (.int .i64 ((rd_T61 t410 x10_4).f1)) ∧ w'.cell? ⟨(ad414.add ((x10_4).toNat * 4)).block, (ad414.add ((x10_4).toNat * 4)).off + 2, none⟩ = some (.int .i64 ((rd_T61 t410 x10_4).f2)) ∧ w'.cell? ⟨(ad414.add ((x10_4).toNat * 4)).block, (ad414.add ((x10_4).toNat * 4)).off + 3, none⟩ = some (.int .i64 ((rd_T61 t410 x10_4).f3)) ∧ w'.cell? (ad415.add ((x10_4).toNat * 2)) = some (.int .i64 ((rd_T64 t398 x10_4).f0)) ∧ w'.cell? ⟨(ad415.add ((x10_4).toNat * 2)).block, (ad415.add ((x10_4).toNat * 2)).off + 1, none⟩ = some (.string ((rd_T64 t398 x10_4).f1)) ∧ w'.cell? (ad414.add ((x10_4).toNat * 4)) = some (.string ((rd_T61 t410 x10_4).f0)) ∧ w'.cell? ⟨(ad414.add ((x10_4).toNat * 4)).block, (ad414.add ((x10_4).toNat * 4)).off + 1, none⟩ = some (.int .i64 ((rd_T61 t410 x10_4).f1)) ∧ w'.cell? ⟨(ad414.add ((x10_4).toNat * 4)).block, (ad414.add ((x10_4).toNat * 4)).off + 2, none⟩ = some (.int .i64 ((rd_T61 t410 x10_4).f2)) ∧ w'.cell? ⟨(ad414.add ((x10_4).toNat * 4)).block, (ad414.add ((x10_4).toNat * 4)).off + 3, none⟩ = some (.int .i64 ((rd_T61 t410 x10_4).f3)) ∧ w'.cell? (ad415.add ((x10_4).toNat * 2)) = some (.int .i64 ((rd_T64 t398 x10_4).f0)) ∧ w'.cell? ⟨(ad415.add ((x10_4).toNat * 2)).block, (ad415.add ((x10_4).toNat * 2)).off + 1, none⟩ = some (.string ((rd_T64 t398 x10_4).f1)) ∧ w'.cell? (ad414.add ((x10_4).toNat * 4)) = some (.string ((rd_T61 t410 x10_4).f0)) ∧ w'.cell? ⟨(ad414.add ((x10_4).toNat * 4)).block, (ad414.add ((x10_4).toNat * 4)).off + 1, none⟩ = some (.int .i64 ((rd_T61 t410 x10_4).f1)) ∧ w'.cell? ⟨(ad414.add ((x10_4).toNat * 4)).block, (ad414.add ((x10_4).toNat * 4)).off + 2, none⟩ = some (.int .i64 ((rd_T61 t410 x10_4).f2)) ∧ w'.cell? ⟨(ad414.add ((x10_4).toNat * 4)).block, (ad414.add ((x10_4).toNat * 4)).off + 3, none⟩ = some (.int .i64 ((rd_T61 t410 x10_4).f3)) ∧ w'.cell? (ad415.add ((x10_4).toNat * 2)) = some (.int .i64 ((rd_T64 t398 x10_4).f0)) ∧ w'.cell? ⟨(ad415.add ((x10_4).toNat * 2)).block, (ad415.add ((x10_4).toNat * 2)).off + 1, none⟩ = some (.string ((rd_T64 t398 x10_4).f1))) (ds := []) #[false, false, false, false, false, false, false, false, false, false, false, false, false, false, false, false, false, false, false, false, false, false, false, false, false, false, false, false, false, false, false, false, false, false, false, false, false, false, false] (by kernel_rfl) rfl rfl ⟨hx414_0, hx414_1, hx414_2, hx414_3, hx415_0, hx415_1, hx417_0, hx417_1, hx417_2, hx417_3, hx418_0, hx418_1, hx419_0, hx419_1, hx419_2, hx419_3, hx423_0, hx423_1⟩ (fun hHeld => ?_); refine with_tabW laws_FnScan.tab20 laws_FnScan.bits20 (fun HT_ HW_ => ?_)
                                        generalize wr.drew = w42 at HO_5 HO_9 HB hx414_0 hx414_1 hx414_2 hx414_3 hx415_0 hx415_1 hx417_0 hx417_1 hx417_2 hx417_3 hx418_0 hx418_1 hx419_0 hx419_1 hx419_2 hx419_3 hx423_0 hx423_1 hHeld ⊢
                                        refine pu_ HT_ 0 (some 69) #[true, false, false, false, false, false, false, false, false, false, false, false, false, false, false, false, false, false, false, false, false, false, false, false, false, false, false, false, false, false, false, false, false, false, false, false, false, false, false] ?_
                                        refine pu_ HT_ 1 (some 70) #[true, true, false, false, false, false, false, false, false, false, false, false, false, false, false, false, false, false, false, false, false, false, false, false, false, false, false, false, false, false, false, false, false, false, false, false, false, false, false] ?_
                                        refine pu_ HT_ 2 (some 71) #[true, true, true, false, false, false, false, false, false, false, false, false, false, false, false, false, false, false, false, false, false, false, false, false, false, false, false, false, false, false, false, false, false, false, false, false, false, false, false] ?_
                                        refine pu_ HT_ 3 (some 72) #[true, true, true, true, false, false, false, false, false, false, false, false, false, false, false, false, false, false, false, false, false, false, false, false, false, false, false, false, false, false, false, false, false, false, false, false, false, false, false] ?_
                                        refine pu_ HT_ 5 (some 74) #[true, true, true, true, false, true, false, false, false, false, false, false, false, false, false, false, false, false, false, false, false, false, false, false, false, false, false, false, false, false, false, false, false, false, false, false, false, false, false] ?_
                                        refine pu_ HT_ 6 (some 75) #[true, true, true, true, false, true, true, false, false, false, false, false, false, false, false, false, false, false, false, false, false, false, false, false, false, false, false, false, false, false, false, false, false, false, false, false, false, false, false] ?_
                                        refine pu_ HT_ 7 (some 76) #[true, true, true, true, false, true, true, true, false, false, false, false, false, false, false, false, false, false, false, false, false, false, false, false, false, false, false, false, false, false, false, false, false, false, false, false, false, false, false] ?_
                                        refine ta_ HT_ HW_ 4 (some 73) #[true, true, true, true, true, true, true, true, false, false, false, false, false, false, false, false, false, false, false, false, false, false, false, false, false, false, false, false, false, false, false, false, false, false, false, false, false, false, false] hHeld ?_
                                        refine ta_ HT_ HW_ 8 (some 77) #[true, true, true, true, true, true, true, true, true, false, false, false, false, false, false, false, false, false, false, false, false, false, false, false, false, false, false, false, false, false, false, false, false, false, false, false, false, false, false] hHeld ?_
                                        refine on_ HT_ 9 (some 78) #[true, true, true, true, true, true, true, true, true, true, false, false, false, false, false, false, false, false, false, false, false, false, false, false, false, false, false, false, false, false, false, false, false, false, false, false, false, false, false] (fun K hK => ?_)
                                        refine go1_ Tryd.func42 #[.agg #[.int .i64 ((rd_T64 t398 x10_4).f0), .string ((rd_T64 t398 x10_4).f1)]] ?_
                                        with_reducible refine (impl_BlobKey.calls k4 ((rd_T64 t398 x10_4).f0) ((rd_T64 t398 x10_4).f1) t416 _ A37.out).mono ?_
                                        rintro e w43 ⟨rfl, hb⟩
                                        have HS0_ := (hb.cell (World.block_lt_of_cell? _ _ (hHeld.1))).trans (hHeld.1)
                                        have HS1_ := (hb.cell (World.block_lt_of_cell? _ _ (hHeld.2.1))).trans (hHeld.2.1)
                                        have HS2_ := (hb.cell (World.block_lt_of_cell? _ _ (hHeld.2.2.1))).trans (hHeld.2.2.1)
                                        have HS3_ := (hb.cell (World.block_lt_of_cell? _ _ (hHeld.2.2.2.1))).trans (hHeld.2.2.2.1)
                                        have HS4_ := (hb.cell (World.block_lt_of_cell? _ _ (hHeld.2.2.2.2.1))).trans (hHeld.2.2.2.2.1)
                                        have HS5_ := (hb.cell (World.block_lt_of_cell? _ _ (hHeld.2.2.2.2.2.1))).trans (hHeld.2.2.2.2.2.1)
                                        have HS6_ := (hb.cell (World.block_lt_of_cell? _ _ (hHeld.2.2.2.2.2.2.1))).trans (hHeld.2.2.2.2.2.2.1)
                                        have HS7_ := (hb.cell (World.block_lt_of_cell? _ _ (hHeld.2.2.2.2.2.2.2.1))).trans (hHeld.2.2.2.2.2.2.2.1)
                                        have HS8_ := (hb.cell (World.block_lt_of_cell? _ _ (hHeld.2.2.2.2.2.2.2.2.1))).trans (hHeld.2.2.2.2.2.2.2.2.1)
                                        have HS9_ := (hb.cell (World.block_lt_of_cell? _ _ (hHeld.2.2.2.2.2.2.2.2.2.1))).trans (hHeld.2.2.2.2.2.2.2.2.2.1)
                                        have HS10_ := (hb.cell (World.block_lt_of_cell? _ _ (hHeld.2.2.2.2.2.2.2.2.2.2.1))).trans (hHeld.2.2.2.2.2.2.2.2.2.2.1)
                                        have HS11_ := (hb.cell (World.block_lt_of_cell? _ _ (hHeld.2.2.2.2.2.2.2.2.2.2.2.1))).trans (hHeld.2.2.2.2.2.2.2.2.2.2.2.1)
                                        have HS12_ := (hb.cell (World.block_lt_of_cell? _ _ (hHeld.2.2.2.2.2.2.2.2.2.2.2.2.1))).trans (hHeld.2.2.2.2.2.2.2.2.2.2.2.2.1)
                                        have HS13_ := (hb.cell (World.block_lt_of_cell? _ _ (hHeld.2.2.2.2.2.2.2.2.2.2.2.2.2.1))).trans (hHeld.2.2.2.2.2.2.2.2.2.2.2.2.2.1)
                                        have HS14_ := (hb.cell (World.block_lt_of_cell? _ _ (hHeld.2.2.2.2.2.2.2.2.2.2.2.2.2.2.1))).trans (hHeld.2.2.2.2.2.2.2.2.2.2.2.2.2.2.1)
                                        have HS15_ := (hb.cell (World.block_lt_of_cell? _ _ (hHeld.2.2.2.2.2.2.2.2.2.2.2.2.2.2.2.1))).trans (hHeld.2.2.2.2.2.2.2.2.2.2.2.2.2.2.2.1)
                                        have HS16_ := (hb.cell (World.block_lt_of_cell? _ _ (hHeld.2.2.2.2.2.2.2.2.2.2.2.2.2.2.2.2.1))).trans (hHeld.2.2.2.2.2.2.2.2.2.2.2.2.2.2.2.2.1)
                                        have HS17_ := (hb.cell (World.block_lt_of_cell? _ _ (hHeld.2.2.2.2.2.2.2.2.2.2.2.2.2.2.2.2.2))).trans (hHeld.2.2.2.2.2.2.2.2.2.2.2.2.2.2.2.2.2)
                                        refine ⟨_, rfl, ?_⟩
                                        replace HO_5 := AM (Kd.R_below (ro_ HO_5.out) hb)
                                        replace HO_9 := AM (Kd.R_below (ro_ HO_9.out) hb)
                                        replace HB := AM (below_step bel_ hb)
                                        (try clear hb)
                                        (try clear hb2)
                                        (try clear hk)
                                        (try clear hi)
                                        refine hK.out _ _ ⟨HS0_, HS1_, HS2_, HS3_, HS4_, HS5_, HS6_, HS7_, HS8_, HS9_, HS10_, HS11_, HS12_, HS13_, HS14_, HS15_, HS16_, HS17_⟩ (fun hHeld => ?_)
                                        clear hK K
                                        refine nm_ ?_
                                        refine pu_ HT_ 10 (some 79) #[true, true, true, true, true, true, true, true, true, true, true, false, false, false, false, false, false, false, false, false, false, false, false, false, false, false, false, false, false, false, false, false, false, false, false, false, false, false, false] ?_
                                        refine pu_ HT_ 11 (some 80) #[true, true, true, true, true, true, true, true, true, true, true, true, false, false, false, false, false, false, false, false, false, false, false, false, false, false, false, false, false, false, false, false, false, false, false, false, false, false, false] ?_
                                        refine pu_ HT_ 12 (some 81) #[true, true, true, true, true, true, true, true, true, true, true, true, true, false, false, false, false, false, false, false, false, false, false, false, false, false, false, false, false, false, false, false, false, false, false, false, false, false, false] ?_
                                        refine pu_ HT_ 13 (some 82) #[true, true, true, true, true, true, true, true, true, true, true, true, true, true, false, false, false, false, false, false, false, false, false, false, false, false, false, false, false, false, false, false, false, false, false, false, false, false, false] ?_
                                        refine pu_ HT_ 14 (some 83) #[true, true, true, true, true, true, true, true, true, true, true, true, true, true, true, false, false, false, false, false, false, false, false, false, false, false, false, false, false, false, false, false, false, false, false, false, false, false, false] ?_
                                        refine pu_ HT_ 15 (some 84) #[true, true, true, true, true, true, true, true, true, true, true, true, true, true, true, true, false, false, false, false, false, false, false, false, false, false, false, false, false, false, false, false, false, false, false, false, false, false, false] ?_
                                        refine pu_ HT_ 17 (some 86) #[true, true, true, true, true, true, true, true, true, true, true, true, true, true, true, true, false, true, false, false, false, false, false, false, false, false, false, false, false, false, false, false, false, false, false, false, false, false, false] ?_
                                        refine pu_ HT_ 18 (some 87) #[true, true, true, true, true, true, true, true, true, true, true, true, true, true, true, true, false, true, true, false, false, false, false, false, false, false, false, false, false, false, false, false, false, false, false, false, false, false, false] ?_
                                        refine pu_ HT_ 19 (some 88) #[true, true, true, true, true, true, true, true, true, true, true, true, true, true, true, true, false, true, true, true, false, false, false, false, false, false, false, false, false, false, false, false, false, false, false, false, false, false, false] ?_
                                        refine pu_ HT_ 20 (some 89) #[true, true, true, true, true, true, true, true, true, true, true, true, true, true, true, true, false, true, true, true, true, false, false, false, false, false, false, false, false, false, false, false, false, false, false, false, false, false, false] ?_
                                        refine ta_ HT_ HW_ 16 (some 85) #[true, true, true, true, true, true, true, true, true, true, true, true, true, true, true, true, true, true, true, true, true, false, false, false, false, false, false, false, false, false, false, false, false, false, false, false, false, false, false] hHeld ?_
                                        refine ta_ HT_ HW_ 21 (some 90) #[true, true, true, true, true, true, true, true, true, true, true, true, true, true, true, true, true, true, true, true, true, true, false, false, false, false, false, false, false, false, false, false, false, false, false, false, false, false, false] hHeld ?_
                                        refine pu_ HT_ 22 (some 91) #[true, true, true, true, true, true, true, true, true, true, true, true, true, true, true, true, true, true, true, true, true, true, true, false, false, false, false, false, false, false, false, false, false, false, false, false, false, false, false] ?_
                                        refine pu_ HT_ 23 (some 92) #[true, true, true, true, true, true, true, true, true, true, true, true, true, true, true, true, true, true, true, true, true, true, true, true, false, false, false, false, false, false, false, false, false, false, false, false, false, false, false] ?_
                                        refine pu_ HT_ 24 (some 93) #[true, true, true, true, true, true, true, true, true, true, true, true, true, true, true, true, true, true, true, true, true, true, true, true, true, false, false, false, false, false, false, false, false, false, false, false, false, false, false] ?_
                                        refine pu_ HT_ 25 (some 94) #[true, true, true, true, true, true, true, true, true, true, true, true, true, true, true, true, true, true, true, true, true, true, true, true, true, true, false, false, false, false, false, false, false, false, false, false, false, false, false] ?_
                                        refine pu_ HT_ 26 (some 95) #[true, true, true, true, true, true, true, true, true, true, true, true, true, true, true, true, true, true, true, true, true, true, true, true, true, true, true, false, false, false, false, false, false, false, false, false, false, false, false] ?_
                                        refine pu_ HT_ 27 (some 96) #[true, true, true, true, true, true, true, true, true, true, true, true, true, true, true, true, true, true, true, true, true, true, true, true, true, true, true, true, false, false, false, false, false, false, false, false, false, false, false] ?_
                                        refine pu_ HT_ 28 (some 97) #[true, true, true, true, true, true, true, true, true, true, true, true, true, true, true, true, true, true, true, true, true, true, true, true, true, true, true, true, true, false, false, false, false, false, false, false, false, false, false] ?_
                                        refine pu_ HT_ 29 (some 98) #[true, true, true, true, true, true, true, true, true, true, true, true, true, true, true, true, true, true, true, true, true, true, true, true, true, true, true, true, true, true, false, false, false, false, false, false, false, false, false] ?_
                                        refine pu_ HT_ 32 (some 101) #[true, true, true, true, true, true, true, true, true, true, true, true, true, true, true, true, true, true, true, true, true, true, true, true, true, true, true, true, true, true, false, false, true, false, false, false, false, false, false] ?_
                                        refine pu_ HT_ 33 (some 102) #[true, true, true, true, true, true, true, true, true, true, true, true, true, true, true, true, true, true, true, true, true, true, true, true, true, true, true, true, true, true, false, false, true, true, false, false, false, false, false] ?_
                                        refine pu_ HT_ 34 (some 103) #[true, true, true, true, true, true, true, true, true, true, true, true, true, true, true, true, true, true, true, true, true, true, true, true, true, true, true, true, true, true, false, false, true, true, true, false, false, false, false] ?_
                                        refine ta_ HT_ HW_ 30 (some 99) #[true, true, true, true, true, true, true, true, true, true, true, true, true, true, true, true, true, true, true, true, true, true, true, true, true, true, true, true, true, true, true, false, true, true, true, false, false, false, false] hHeld ?_
                                        refine ta_ HT_ HW_ 35 (some 104) #[true, true, true, true, true, true, true, true, true, true, true, true, true, true, true, true, true, true, true, true, true, true, true, true, true, true, true, true, true, true, true, false, true, true, true, true, false, false, false] hHeld ?_
                                        refine pu_ HT_ 36 (some 105) #[true, true, true, true, true, true, true, true, true, true, true, true, true, true, true, true, true, true, true, true, true, true, true, true, true, true, true, true, true, true, true, false, true, true, true, true, true, false, false] ?_
                                        refine on_ HT_ 31 (some 100) #[true, true, true, true, true, true, true, true, true, true, true, true, true, true, true, true, true, true, true, true, true, true, true, true, true, true, true, true, true, true, true, true, true, true, true, true, true, false, false] (fun K hK => ?_)
                                        refine go1_ Tryd.func43 #[.string ((strOfNums x7_2) ++ t401), .agg #[.string ((rd_T61 t410 x10_4).f0), .int .i64 ((rd_T61 t410 x10_4).f1), .int .i64 ((rd_T61 t410 x10_4).f2), .int .i64 ((rd_T61 t410 x10_4).f3)]] ?_
                                        with_reducible refine (impl_PackGet.calls k4 ((strOfNums x7_2) ++ t401) ((rd_T61 t410 x10_4).f0) ((rd_T61 t410 x10_4).f1) ((rd_T61 t410 x10_4).f2) ((rd_T61 t410 x10_4).f3) t420 t421 t422 _ A40.out).mono ?_
                                        rintro e w44 ⟨rfl, hb⟩
                                        have HS0_ := (hb.cell (World.block_lt_of_cell? _ _ (hHeld.1))).trans (hHeld.1)
                                        have HS1_ := (hb.cell (World.block_lt_of_cell? _ _ (hHeld.2.1))).trans (hHeld.2.1)
                                        have HS2_ := (hb.cell (World.block_lt_of_cell? _ _ (hHeld.2.2.1))).trans (hHeld.2.2.1)
                                        have HS3_ := (hb.cell (World.block_lt_of_cell? _ _ (hHeld.2.2.2.1))).trans (hHeld.2.2.2.1)
                                        have HS4_ := (hb.cell (World.block_lt_of_cell? _ _ (hHeld.2.2.2.2.1))).trans (hHeld.2.2.2.2.1)
                                        have HS5_ := (hb.cell (World.block_lt_of_cell? _ _ (hHeld.2.2.2.2.2.1))).trans (hHeld.2.2.2.2.2.1)
                                        have HS6_ := (hb.cell (World.block_lt_of_cell? _ _ (hHeld.2.2.2.2.2.2.1))).trans (hHeld.2.2.2.2.2.2.1)
                                        have HS7_ := (hb.cell (World.block_lt_of_cell? _ _ (hHeld.2.2.2.2.2.2.2.1))).trans (hHeld.2.2.2.2.2.2.2.1)
                                        have HS8_ := (hb.cell (World.block_lt_of_cell? _ _ (hHeld.2.2.2.2.2.2.2.2.1))).trans (hHeld.2.2.2.2.2.2.2.2.1)
                                        have HS9_ := (hb.cell (World.block_lt_of_cell? _ _ (hHeld.2.2.2.2.2.2.2.2.2.1))).trans (hHeld.2.2.2.2.2.2.2.2.2.1)
                                        have HS10_ := (hb.cell (World.block_lt_of_cell? _ _ (hHeld.2.2.2.2.2.2.2.2.2.2.1))).trans (hHeld.2.2.2.2.2.2.2.2.2.2.1)
                                        have HS11_ := (hb.cell (World.block_lt_of_cell? _ _ (hHeld.2.2.2.2.2.2.2.2.2.2.2.1))).trans (hHeld.2.2.2.2.2.2.2.2.2.2.2.1)
                                        have HS12_ := (hb.cell (World.block_lt_of_cell? _ _ (hHeld.2.2.2.2.2.2.2.2.2.2.2.2.1))).trans (hHeld.2.2.2.2.2.2.2.2.2.2.2.2.1)
                                        have HS13_ := (hb.cell (World.block_lt_of_cell? _ _ (hHeld.2.2.2.2.2.2.2.2.2.2.2.2.2.1))).trans (hHeld.2.2.2.2.2.2.2.2.2.2.2.2.2.1)
                                        have HS14_ := (hb.cell (World.block_lt_of_cell? _ _ (hHeld.2.2.2.2.2.2.2.2.2.2.2.2.2.2.1))).trans (hHeld.2.2.2.2.2.2.2.2.2.2.2.2.2.2.1)
                                        have HS15_ := (hb.cell (World.block_lt_of_cell? _ _ (hHeld.2.2.2.2.2.2.2.2.2.2.2.2.2.2.2.1))).trans (hHeld.2.2.2.2.2.2.2.2.2.2.2.2.2.2.2.1)
                                        have HS16_ := (hb.cell (World.block_lt_of_cell? _ _ (hHeld.2.2.2.2.2.2.2.2.2.2.2.2.2.2.2.2.1))).trans (hHeld.2.2.2.2.2.2.2.2.2.2.2.2.2.2.2.2.1)
                                        have HS17_ := (hb.cell (World.block_lt_of_cell? _ _ (hHeld.2.2.2.2.2.2.2.2.2.2.2.2.2.2.2.2.2))).trans (hHeld.2.2.2.2.2.2.2.2.2.2.2.2.2.2.2.2.2)
                                        refine ⟨_, rfl, ?_⟩
                                        replace HO_5 := AM (Kd.R_below (ro_ HO_5.out) hb)
                                        replace HO_9 := AM (Kd.R_below (ro_ HO_9.out) hb)
                                        replace HB := AM (below_step bel_ hb)
                                        (try clear hb)
                                        (try clear hb2)
                                        (try clear hk)
                                        (try clear hi)
                                        refine hK.out _ _ ⟨HS0_, HS1_, HS2_, HS3_, HS4_, HS5_, HS6_, HS7_, HS8_, HS9_, HS10_, HS11_, HS12_, HS13_, HS14_, HS15_, HS16_, HS17_⟩ (fun hHeld => ?_)
                                        clear hK K
                                        refine nm_ ?_
                                        refine pu_ HT_ 37 (some 106) #[true, true, true, true, true, true, true, true, true, true, true, true, true, true, true, true, true, true, true, true, true, true, true, true, true, true, true, true, true, true, true, true, true, true, true, true, true, true, false] ?_
                                        refine pu_ HT_ 38 (some 107) #[true, true, true, true, true, true, true, true, true, true, true, true, true, true, true, true, true, true, true, true, true, true, true, true, true, true, true, true, true, true, true, true, true, true, true, true, true, true, true] ?_
                                        refine dn_ HT_ ?_
                                        try go_wp2
                                        go_ret
                                        exact ⟨ri_, bel_⟩
                                      · rw [if_neg c41] at H
                                        have c41b0 : ((!(t420 == ((rd_T64 t398 x10_4).f0)) || (!(t421.toList == (((rd_T64 t398 x10_4).f1).toList)))) || (!(t422 == 0))) = false := by simpa using c41
                                        clear c41
                                        have H' := AM H
                                        clear H
                                        try go_wp2
                                        replace HO_5 := AM (Kd.R_drew HO_5.out)
                                        replace HO_9 := AM (Kd.R_drew HO_9.out)
                                        replace HB := AM (below_drew1 HB.out)
                                        have p414 : 0 ≤ (x10_4 : Int) := of_decide_eq_true (by first | (with_reducible assumption) | assumption)
                                        have q414 : x10_4 < (t410.length : Int) := of_decide_eq_true (by first | (with_reducible assumption) | assumption)
                                        obtain ⟨ad414, e414, hx414_0, hx414_1, hx414_2, hx414_3⟩ := at_T61 (Kd.R_reads' HO_9.out).2.2 x10_4 p414 q414
                                        cases e414
                                        replace p414 := eq_true p414
                                        replace q414 := eq_true q414
                                        have p415 : 0 ≤ (x10_4 : Int) := of_decide_eq_true (by first | (with_reducible assumption) | assumption)
                                        have q415 : x10_4 < (t398.length : Int) := of_decide_eq_true (by first | (with_reducible assumption) | assumption)
                                        obtain ⟨ad415, e415, hx415_0, hx415_1⟩ := at_T64 (Kd.R_reads' HO_5.out).2.2 x10_4 p415 q415
                                        cases e415
                                        replace p415 := eq_true p415
                                        replace q415 := eq_true q415
                                        have p417 : 0 ≤ (x10_4 : Int) := of_decide_eq_true (by first | (with_reducible assumption) | assumption)
                                        have q417 : x10_4 < (t410.length : Int) := of_decide_eq_true (by first | (with_reducible assumption) | assumption)
                                        obtain ⟨ad417, e417, hx417_0, hx417_1, hx417_2, hx417_3⟩ := at_T61 (Kd.R_reads' HO_9.out).2.2 x10_4 p417 q417
                                        obtain rfl : ad414 = ad417 := (by injection e417)
                                        replace p417 := eq_true p417
                                        replace q417 := eq_true q417
                                        have p418 : 0 ≤ (x10_4 : Int) := of_decide_eq_true (by first | (with_reducible assumption) | assumption)
                                        have q418 : x10_4 < (t398.length : Int) := of_decide_eq_true (by first | (with_reducible assumption) | assumption)
                                        obtain ⟨ad418, e418, hx418_0, hx418_1⟩ := at_T64 (Kd.R_reads' HO_5.out).2.2 x10_4 p418 q418
                                        obtain rfl : ad415 = ad418 := (by injection e418)
                                        replace p418 := eq_true p418
                                        replace q418 := eq_true q418
                                        have p419 : 0 ≤ (x10_4 : Int) := of_decide_eq_true (by first | (with_reducible assumption) | assumption)
                                        have q419 : x10_4 < (t410.length : Int) := of_decide_eq_true (by first | (with_reducible assumption) | assumption)
                                        obtain ⟨ad419, e419, hx419_0, hx419_1, hx419_2, hx419_3⟩ := at_T61 (Kd.R_reads' HO_9.out).2.2 x10_4 p419 q419
                                        obtain rfl : ad414 = ad419 := (by injection e419)
                                        replace p419 := eq_true p419
                                        replace q419 := eq_true q419
                                        have p423 : 0 ≤ (x10_4 : Int) := of_decide_eq_true (by first | (with_reducible assumption) | assumption)
                                        have q423 : x10_4 < (t398.length : Int) := of_decide_eq_true (by first | (with_reducible assumption) | assumption)
                                        obtain ⟨ad423, e423, hx423_0, hx423_1⟩ := at_T64 (Kd.R_reads' HO_5.out).2.2 x10_4 p423 q423
                                        obtain rfl : ad415 = ad423 := (by injection e423)
                                        replace p423 := eq_true p423
                                        replace q423 := eq_true q423
                                        refine start_ (n := 39) (S := fun w' => w'.cell? (ad414.add ((x10_4).toNat * 4)) = some (.string ((rd_T61 t410 x10_4).f0)) ∧ w'.cell? ⟨(ad414.add ((x10_4).toNat * 4)).block, (ad414.add ((x10_4).toNat * 4)).off + 1, none⟩ = some (.int .i64 ((rd_T61 t410 x10_4).f1)) ∧ w'.cell? ⟨(ad414.add ((x10_4).toNat * 4)).block, (ad414.add ((x10_4).toNat * 4)).off + 2, none⟩ = some (.int .i64 ((rd_T61 t410 x10_4).f2)) ∧ w'.cell? ⟨(ad414.add ((x10_4).toNat * 4)).block, (ad414.add ((x10_4).toNat * 4)).off + 3, none⟩ = some (.int .i64 ((rd_T61 t410 x10_4).f3)) ∧ w'.cell? (ad415.add ((x10_4).toNat * 2)) = some (.int .i64 ((rd_T64 t398 x10_4).f0)) ∧ w'.cell? ⟨(ad415.add ((x10_4).toNat * 2)).block, (ad415.add ((x10_4).toNat * 2)).off + 1, none⟩ = some (.string ((rd_T64 t398 x10_4).f1)) ∧ w'.cell? (ad414.add ((x10_4).toNat * 4)) = some (.string ((rd_T61 t410 x10_4).f0)) ∧ w'.cell? ⟨(ad414.add ((x10_4).toNat * 4)).block, (ad414.add ((x10_4).toNat * 4)).off + 1, none⟩ = some (.int .i64 ((rd_T61 t410 x10_4).f1)) ∧ w'.cell? ⟨(ad414.add ((x10_4).toNat * 4)).block, (ad414.add ((x10_4).toNat * 4)).off + 2, none⟩ = some (.int .i64 ((rd_T61 t410 x10_4).f2)) ∧ w'.cell? ⟨(ad414.add ((x10_4).toNat * 4)).block, (ad414.add ((x10_4).toNat * 4)).off + 3, none⟩ = some (.int .i64 ((rd_T61 t410 x10_4).f3)) ∧ w'.cell? (ad415.add ((x10_4).toNat * 2)) = some (.int .i64 ((rd_T64 t398 x10_4).f0)) ∧ w'.cell? ⟨(ad415.add ((x10_4).toNat * 2)).block, (ad415.add ((x10_4).toNat * 2)).off + 1, none⟩ = some (.string ((rd_T64 t398 x10_4).f1)) ∧ w'.cell? (ad414.add ((x10_4).toNat * 4)) = some (.string ((rd_T61 t410 x10_4).f0)) ∧ w'.cell? ⟨(ad414.add ((x10_4).toNat * 4)).block, (ad414.add ((x10_4).toNat * 4)).off + 1, none⟩ = some (.int .i64 ((rd_T61 t410 x10_4).f1)) ∧ w'.cell? ⟨(ad414.add ((x10_4).toNat * 4)).block, (ad414.add ((x10_4).toNat * 4)).off + 2, none⟩ = some (.int .i64 ((rd_T61 t410 x10_4).f2)) ∧ w'.cell? ⟨(ad414.add ((x10_4).toNat * 4)).block, (ad414.add ((x10_4).toNat * 4)).off + 3, none⟩ = some (.int .i64 ((rd_T61 t410 x10_4).f3)) ∧ w'.cell? (ad415.add ((x10_4).toNat * 2)) = some (.int .i64 ((rd_T64 t398 x10_4).f0)) ∧ w'.cell? ⟨(ad415.add ((x10_4).toNat * 2)).block, (ad415.add ((x10_4).toNat * 2)).off + 1, none⟩ = some (.string ((rd_T64 t398 x10_4).f1))) (ds := []) #[false, false, false, false, false, false, false, false, false, false, false, false, false, false, false, false, false, false, false, false, false, false, false, false, false, false, false, false, false, false, false, false, false, false, false, false, false, false, false] (by kernel_rfl) rfl rfl ⟨hx414_0, hx414_1, hx414_2, hx414_3, hx415_0, hx415_1, hx417_0, hx417_1, hx417_2, hx417_3, hx418_0, hx418_1, hx419_0, hx419_1, hx419_2, hx419_3, hx423_0, hx423_1⟩ (fun hHeld => ?_); refine with_tabW laws_FnScan.tab20 laws_FnScan.bits20 (fun HT_ HW_ => ?_)
                                        generalize wr.drew = w45 at HO_5 HO_9 HB hx414_0 hx414_1 hx414_2 hx414_3 hx415_0 hx415_1 hx417_0 hx417_1 hx417_2 hx417_3 hx418_0 hx418_1 hx419_0 hx419_1 hx419_2 hx419_3 hx423_0 hx423_1 hHeld ⊢
                                        refine pu_ HT_ 0 (some 69) #[true, false, false, false, false, false, false, false, false, false, false, false, false, false, false, false, false, false, false, false, false, false, false, false, false, false, false, false, false, false, false, false, false, false, false, false, false, false, false] ?_
                                        refine pu_ HT_ 1 (some 70) #[true, true, false, false, false, false, false, false, false, false, false, false, false, false, false, false, false, false, false, false, false, false, false, false, false, false, false, false, false, false, false, false, false, false, false, false, false, false, false] ?_
                                        refine pu_ HT_ 2 (some 71) #[true, true, true, false, false, false, false, false, false, false, false, false, false, false, false, false, false, false, false, false, false, false, false, false, false, false, false, false, false, false, false, false, false, false, false, false, false, false, false] ?_
                                        refine pu_ HT_ 3 (some 72) #[true, true, true, true, false, false, false, false, false, false, false, false, false, false, false, false, false, false, false, false, false, false, false, false, false, false, false, false, false, false, false, false, false, false, false, false, false, false, false] ?_
                                        refine pu_ HT_ 5 (some 74) #[true, true, true, true, false, true, false, false, false, false, false, false, false, false, false, false, false, false, false, false, false, false, false, false, false, false, false, false, false, false, false, false, false, false, false, false, false, false, false] ?_
                                        refine pu_ HT_ 6 (some 75) #[true, true, true, true, false, true, true, false, false, false, false, false, false, false, false, false, false, false, false, false, false, false, false, false, false, false, false, false, false, false, false, false, false, false, false, false, false, false, false] ?_
                                        refine pu_ HT_ 7 (some 76) #[true, true, true, true, false, true, true, true, false, false, false, false, false, false, false, false, false, false, false, false, false, false, false, false, false, false, false, false, false, false, false, false, false, false, false, false, false, false, false] ?_
                                        refine ta_ HT_ HW_ 4 (some 73) #[true, true, true, true, true, true, true, true, false, false, false, false, false, false, false, false, false, false, false, false, false, false, false, false, false, false, false, false, false, false, false, false, false, false, false, false, false, false, false] hHeld ?_
                                        refine ta_ HT_ HW_ 8 (some 77) #[true, true, true, true, true, true, true, true, true, false, false, false, false, false, false, false, false, false, false, false, false, false, false, false, false, false, false, false, false, false, false, false, false, false, false, false, false, false, false] hHeld ?_
                                        refine on_ HT_ 9 (some 78) #[true, true, true, true, true, true, true, true, true, true, false, false, false, false, false, false, false, false, false, false, false, false, false, false, false, false, false, false, false, false, false, false, false, false, false, false, false, false, false] (fun K hK => ?_)
                                        refine go1_ Tryd.func42 #[.agg #[.int .i64 ((rd_T64 t398 x10_4).f0), .string ((rd_T64 t398 x10_4).f1)]] ?_
                                        with_reducible refine (impl_BlobKey.calls k4 ((rd_T64 t398 x10_4).f0) ((rd_T64 t398 x10_4).f1) t416 _ A37.out).mono ?_
                                        rintro e w46 ⟨rfl, hb⟩
                                        have HS0_ := (hb.cell (World.block_lt_of_cell? _ _ (hHeld.1))).trans (hHeld.1)
                                        have HS1_ := (hb.cell (World.block_lt_of_cell? _ _ (hHeld.2.1))).trans (hHeld.2.1)
                                        have HS2_ := (hb.cell (World.block_lt_of_cell? _ _ (hHeld.2.2.1))).trans (hHeld.2.2.1)
                                        have HS3_ := (hb.cell (World.block_lt_of_cell? _ _ (hHeld.2.2.2.1))).trans (hHeld.2.2.2.1)
                                        have HS4_ := (hb.cell (World.block_lt_of_cell? _ _ (hHeld.2.2.2.2.1))).trans (hHeld.2.2.2.2.1)
                                        have HS5_ := (hb.cell (World.block_lt_of_cell? _ _ (hHeld.2.2.2.2.2.1))).trans (hHeld.2.2.2.2.2.1)
                                        have HS6_ := (hb.cell (World.block_lt_of_cell? _ _ (hHeld.2.2.2.2.2.2.1))).trans (hHeld.2.2.2.2.2.2.1)
                                        have HS7_ := (hb.cell (World.block_lt_of_cell? _ _ (hHeld.2.2.2.2.2.2.2.1))).trans (hHeld.2.2.2.2.2.2.2.1)
                                        have HS8_ := (hb.cell (World.block_lt_of_cell? _ _ (hHeld.2.2.2.2.2.2.2.2.1))).trans (hHeld.2.2.2.2.2.2.2.2.1)
                                        have HS9_ := (hb.cell (World.block_lt_of_cell? _ _ (hHeld.2.2.2.2.2.2.2.2.2.1))).trans (hHeld.2.2.2.2.2.2.2.2.2.1)
                                        have HS10_ := (hb.cell (World.block_lt_of_cell? _ _ (hHeld.2.2.2.2.2.2.2.2.2.2.1))).trans (hHeld.2.2.2.2.2.2.2.2.2.2.1)
                                        have HS11_ := (hb.cell (World.block_lt_of_cell? _ _ (hHeld.2.2.2.2.2.2.2.2.2.2.2.1))).trans (hHeld.2.2.2.2.2.2.2.2.2.2.2.1)
                                        have HS12_ := (hb.cell (World.block_lt_of_cell? _ _ (hHeld.2.2.2.2.2.2.2.2.2.2.2.2.1))).trans (hHeld.2.2.2.2.2.2.2.2.2.2.2.2.1)
                                        have HS13_ := (hb.cell (World.block_lt_of_cell? _ _ (hHeld.2.2.2.2.2.2.2.2.2.2.2.2.2.1))).trans (hHeld.2.2.2.2.2.2.2.2.2.2.2.2.2.1)
                                        have HS14_ := (hb.cell (World.block_lt_of_cell? _ _ (hHeld.2.2.2.2.2.2.2.2.2.2.2.2.2.2.1))).trans (hHeld.2.2.2.2.2.2.2.2.2.2.2.2.2.2.1)
                                        have HS15_ := (hb.cell (World.block_lt_of_cell? _ _ (hHeld.2.2.2.2.2.2.2.2.2.2.2.2.2.2.2.1))).trans (hHeld.2.2.2.2.2.2.2.2.2.2.2.2.2.2.2.1)
                                        have HS16_ := (hb.cell (World.block_lt_of_cell? _ _ (hHeld.2.2.2.2.2.2.2.2.2.2.2.2.2.2.2.2.1))).trans (hHeld.2.2.2.2.2.2.2.2.2.2.2.2.2.2.2.2.1)
                                        have HS17_ := (hb.cell (World.block_lt_of_cell? _ _ (hHeld.2.2.2.2.2.2.2.2.2.2.2.2.2.2.2.2.2))).trans (hHeld.2.2.2.2.2.2.2.2.2.2.2.2.2.2.2.2.2)
                                        refine ⟨_, rfl, ?_⟩
                                        replace HO_5 := AM (Kd.R_below (ro_ HO_5.out) hb)
                                        replace HO_9 := AM (Kd.R_below (ro_ HO_9.out) hb)
                                        replace HB := AM (below_step bel_ hb)
                                        (try clear hb)
                                        (try clear hb2)
                                        (try clear hk)
                                        (try clear hi)
                                        refine hK.out _ _ ⟨HS0_, HS1_, HS2_, HS3_, HS4_, HS5_, HS6_, HS7_, HS8_, HS9_, HS10_, HS11_, HS12_, HS13_, HS14_, HS15_, HS16_, HS17_⟩ (fun hHeld => ?_)
                                        clear hK K
                                        refine nm_ ?_
                                        refine pu_ HT_ 10 (some 79) #[true, true, true, true, true, true, true, true, true, true, true, false, false, false, false, false, false, false, false, false, false, false, false, false, false, false, false, false, false, false, false, false, false, false, false, false, false, false, false] ?_
                                        refine pu_ HT_ 11 (some 80) #[true, true, true, true, true, true, true, true, true, true, true, true, false, false, false, false, false, false, false, false, false, false, false, false, false, false, false, false, false, false, false, false, false, false, false, false, false, false, false] ?_
                                        refine pu_ HT_ 12 (some 81) #[true, true, true, true, true, true, true, true, true, true, true, true, true, false, false, false, false, false, false, false, false, false, false, false, false, false, false, false, false, false, false, false, false, false, false, false, false, false, false] ?_
                                        refine pu_ HT_ 13 (some 82) #[true, true, true, true, true, true, true, true, true, true, true, true, true, true, false, false, false, false, false, false, false, false, false, false, false, false, false, false, false, false, false, false, false, false, false, false, false, false, false] ?_
                                        refine pu_ HT_ 14 (some 83) #[true, true, true, true, true, true, true, true, true, true, true, true, true, true, true, false, false, false, false, false, false, false, false, false, false, false, false, false, false, false, false, false, false, false, false, false, false, false, false] ?_
                                        refine pu_ HT_ 15 (some 84) #[true, true, true, true, true, true, true, true, true, true, true, true, true, true, true, true, false, false, false, false, false, false, false, false, false, false, false, false, false, false, false, false, false, false, false, false, false, false, false] ?_
                                        refine pu_ HT_ 17 (some 86) #[true, true, true, true, true, true, true, true, true, true, true, true, true, true, true, true, false, true, false, false, false, false, false, false, false, false, false, false, false, false, false, false, false, false, false, false, false, false, false] ?_
                                        refine pu_ HT_ 18 (some 87) #[true, true, true, true, true, true, true, true, true, true, true, true, true, true, true, true, false, true, true, false, false, false, false, false, false, false, false, false, false, false, false, false, false, false, false, false, false, false, false] ?_
                                        refine pu_ HT_ 19 (some 88) #[true, true, true, true, true, true, true, true, true, true, true, true, true, true, true, true, false, true, true, true, false, false, false, false, false, false, false, false, false, false, false, false, false, false, false, false, false, false, false] ?_
                                        refine pu_ HT_ 20 (some 89) #[true, true, true, true, true, true, true, true, true, true, true, true, true, true, true, true, false, true, true, true, true, false, false, false, false, false, false, false, false, false, false, false, false, false, false, false, false, false, false] ?_
                                        refine ta_ HT_ HW_ 16 (some 85) #[true, true, true, true, true, true, true, true, true, true, true, true, true, true, true, true, true, true, true, true, true, false, false, false, false, false, false, false, false, false, false, false, false, false, false, false, false, false, false] hHeld ?_
                                        refine ta_ HT_ HW_ 21 (some 90) #[true, true, true, true, true, true, true, true, true, true, true, true, true, true, true, true, true, true, true, true, true, true, false, false, false, false, false, false, false, false, false, false, false, false, false, false, false, false, false] hHeld ?_
                                        refine pu_ HT_ 22 (some 91) #[true, true, true, true, true, true, true, true, true, true, true, true, true, true, true, true, true, true, true, true, true, true, true, false, false, false, false, false, false, false, false, false, false, false, false, false, false, false, false] ?_
                                        refine pu_ HT_ 23 (some 92) #[true, true, true, true, true, true, true, true, true, true, true, true, true, true, true, true, true, true, true, true, true, true, true, true, false, false, false, false, false, false, false, false, false, false, false, false, false, false, false] ?_
                                        refine pu_ HT_ 24 (some 93) #[true, true, true, true, true, true, true, true, true, true, true, true, true, true, true, true, true, true, true, true, true, true, true, true, true, false, false, false, false, false, false, false, false, false, false, false, false, false, false] ?_
                                        refine pu_ HT_ 25 (some 94) #[true, true, true, true, true, true, true, true, true, true, true, true, true, true, true, true, true, true, true, true, true, true, true, true, true, true, false, false, false, false, false, false, false, false, false, false, false, false, false] ?_
                                        refine pu_ HT_ 26 (some 95) #[true, true, true, true, true, true, true, true, true, true, true, true, true, true, true, true, true, true, true, true, true, true, true, true, true, true, true, false, false, false, false, false, false, false, false, false, false, false, false] ?_
                                        refine pu_ HT_ 27 (some 96) #[true, true, true, true, true, true, true, true, true, true, true, true, true, true, true, true, true, true, true, true, true, true, true, true, true, true, true, true, false, false, false, false, false, false, false, false, false, false, false] ?_
                                        refine pu_ HT_ 28 (some 97) #[true, true, true, true, true, true, true, true, true, true, true, true, true, true, true, true, true, true, true, true, true, true, true, true, true, true, true, true, true, false, false, false, false, false, false, false, false, false, false] ?_
                                        refine pu_ HT_ 29 (some 98) #[true, true, true, true, true, true, true, true, true, true, true, true, true, true, true, true, true, true, true, true, true, true, true, true, true, true, true, true, true, true, false, false, false, false, false, false, false, false, false] ?_
                                        refine pu_ HT_ 32 (some 101) #[true, true, true, true, true, true, true, true, true, true, true, true, true, true, true, true, true, true, true, true, true, true, true, true, true, true, true, true, true, true, false, false, true, false, false, false, false, false, false] ?_
                                        refine pu_ HT_ 33 (some 102) #[true, true, true, true, true, true, true, true, true, true, true, true, true, true, true, true, true, true, true, true, true, true, true, true, true, true, true, true, true, true, false, false, true, true, false, false, false, false, false] ?_
                                        refine pu_ HT_ 34 (some 103) #[true, true, true, true, true, true, true, true, true, true, true, true, true, true, true, true, true, true, true, true, true, true, true, true, true, true, true, true, true, true, false, false, true, true, true, false, false, false, false] ?_
                                        refine ta_ HT_ HW_ 30 (some 99) #[true, true, true, true, true, true, true, true, true, true, true, true, true, true, true, true, true, true, true, true, true, true, true, true, true, true, true, true, true, true, true, false, true, true, true, false, false, false, false] hHeld ?_
                                        refine ta_ HT_ HW_ 35 (some 104) #[true, true, true, true, true, true, true, true, true, true, true, true, true, true, true, true, true, true, true, true, true, true, true, true, true, true, true, true, true, true, true, false, true, true, true, true, false, false, false] hHeld ?_
                                        refine pu_ HT_ 36 (some 105) #[true, true, true, true, true, true, true, true, true, true, true, true, true, true, true, true, true, true, true, true, true, true, true, true, true, true, true, true, true, true, true, false, true, true, true, true, true, false, false] ?_
                                        refine on_ HT_ 31 (some 100) #[true, true, true, true, true, true, true, true, true, true, true, true, true, true, true, true, true, true, true, true, true, true, true, true, true, true, true, true, true, true, true, true, true, true, true, true, true, false, false] (fun K hK => ?_)
                                        refine go1_ Tryd.func43 #[.string ((strOfNums x7_2) ++ t401), .agg #[.string ((rd_T61 t410 x10_4).f0), .int .i64 ((rd_T61 t410 x10_4).f1), .int .i64 ((rd_T61 t410 x10_4).f2), .int .i64 ((rd_T61 t410 x10_4).f3)]] ?_
                                        with_reducible refine (impl_PackGet.calls k4 ((strOfNums x7_2) ++ t401) ((rd_T61 t410 x10_4).f0) ((rd_T61 t410 x10_4).f1) ((rd_T61 t410 x10_4).f2) ((rd_T61 t410 x10_4).f3) t420 t421 t422 _ A40.out).mono ?_
                                        rintro e w47 ⟨rfl, hb⟩
                                        have HS0_ := (hb.cell (World.block_lt_of_cell? _ _ (hHeld.1))).trans (hHeld.1)
                                        have HS1_ := (hb.cell (World.block_lt_of_cell? _ _ (hHeld.2.1))).trans (hHeld.2.1)
                                        have HS2_ := (hb.cell (World.block_lt_of_cell? _ _ (hHeld.2.2.1))).trans (hHeld.2.2.1)
                                        have HS3_ := (hb.cell (World.block_lt_of_cell? _ _ (hHeld.2.2.2.1))).trans (hHeld.2.2.2.1)
                                        have HS4_ := (hb.cell (World.block_lt_of_cell? _ _ (hHeld.2.2.2.2.1))).trans (hHeld.2.2.2.2.1)
                                        have HS5_ := (hb.cell (World.block_lt_of_cell? _ _ (hHeld.2.2.2.2.2.1))).trans (hHeld.2.2.2.2.2.1)
                                        have HS6_ := (hb.cell (World.block_lt_of_cell? _ _ (hHeld.2.2.2.2.2.2.1))).trans (hHeld.2.2.2.2.2.2.1)
                                        have HS7_ := (hb.cell (World.block_lt_of_cell? _ _ (hHeld.2.2.2.2.2.2.2.1))).trans (hHeld.2.2.2.2.2.2.2.1)
                                        have HS8_ := (hb.cell (World.block_lt_of_cell? _ _ (hHeld.2.2.2.2.2.2.2.2.1))).trans (hHeld.2.2.2.2.2.2.2.2.1)
                                        have HS9_ := (hb.cell (World.block_lt_of_cell? _ _ (hHeld.2.2.2.2.2.2.2.2.2.1))).trans (hHeld.2.2.2.2.2.2.2.2.2.1)
                                        have HS10_ := (hb.cell (World.block_lt_of_cell? _ _ (hHeld.2.2.2.2.2.2.2.2.2.2.1))).trans (hHeld.2.2.2.2.2.2.2.2.2.2.1)
                                        have HS11_ := (hb.cell (World.block_lt_of_cell? _ _ (hHeld.2.2.2.2.2.2.2.2.2.2.2.1))).trans (hHeld.2.2.2.2.2.2.2.2.2.2.2.1)
                                        have HS12_ := (hb.cell (World.block_lt_of_cell? _ _ (hHeld.2.2.2.2.2.2.2.2.2.2.2.2.1))).trans (hHeld.2.2.2.2.2.2.2.2.2.2.2.2.1)
                                        have HS13_ := (hb.cell (World.block_lt_of_cell? _ _ (hHeld.2.2.2.2.2.2.2.2.2.2.2.2.2.1))).trans (hHeld.2.2.2.2.2.2.2.2.2.2.2.2.2.1)
                                        have HS14_ := (hb.cell (World.block_lt_of_cell? _ _ (hHeld.2.2.2.2.2.2.2.2.2.2.2.2.2.2.1))).trans (hHeld.2.2.2.2.2.2.2.2.2.2.2.2.2.2.1)
                                        have HS15_ := (hb.cell (World.block_lt_of_cell? _ _ (hHeld.2.2.2.2.2.2.2.2.2.2.2.2.2.2.2.1))).trans (hHeld.2.2.2.2.2.2.2.2.2.2.2.2.2.2.2.1)
                                        have HS16_ := (hb.cell (World.block_lt_of_cell? _ _ (hHeld.2.2.2.2.2.2.2.2.2.2.2.2.2.2.2.2.1))).trans (hHeld.2.2.2.2.2.2.2.2.2.2.2.2.2.2.2.2.1)
                                        have HS17_ := (hb.cell (World.block_lt_of_cell? _ _ (hHeld.2.2.2.2.2.2.2.2.2.2.2.2.2.2.2.2.2))).trans (hHeld.2.2.2.2.2.2.2.2.2.2.2.2.2.2.2.2.2)
                                        refine ⟨_, rfl, ?_⟩
                                        replace HO_5 := AM (Kd.R_below (ro_ HO_5.out) hb)
                                        replace HO_9 := AM (Kd.R_below (ro_ HO_9.out) hb)
                                        replace HB := AM (below_step bel_ hb)
                                        (try clear hb)
                                        (try clear hb2)
                                        (try clear hk)
                                        (try clear hi)
                                        refine hK.out _ _ ⟨HS0_, HS1_, HS2_, HS3_, HS4_, HS5_, HS6_, HS7_, HS8_, HS9_, HS10_, HS11_, HS12_, HS13_, HS14_, HS15_, HS16_, HS17_⟩ (fun hHeld => ?_)
                                        clear hK K
                                        refine nm_ ?_
                                        refine pu_ HT_ 37 (some 106) #[true, true, true, true, true, true, true, true, true, true, true, true, true, true, true, true, true, true, true, true, true, true, true, true, true, true, true, true, true, true, true, true, true, true, true, true, true, true, false] ?_
                                        refine pu_ HT_ 38 (some 107) #[true, true, true, true, true, true, true, true, true, true, true, true, true, true, true, true, true, true, true, true, true, true, true, true, true, true, true, true, true, true, true, true, true, true, true, true, true, true, true] ?_
                                        refine dn_ HT_ ?_
                                        try go_wp2
                                        go_roundg k4
                                        case measure => have := HJ2.out; have := HK2.out; have := HJ12.out; have := HK4.out; omega
                                        case rel => exact ⟨(wrap64 (x10_4 + 1)), (by first | rfl | (simp; done) | (simp [*]; done)), H', ⟨by have := HJ2.out; have := HK2.out; have := HJ12.out; have := HK4.out; omega⟩, ⟨ro_ HO_5.out⟩, ⟨ro_ HO_9.out⟩, ⟨bel_⟩⟩
                                    · rw [if_neg c39] at H
                                      have c39b0 : (((rd_T61 t410 x10_4).f3) == (((rd_T64 t398 x10_4).f1).size : Int)) = false := beq_eq_false_iff_ne.mpr c39
                                      have c39b1 : (((rd_T61 t410 x10_4).f3) != (((rd_T64 t398 x10_4).f1).size : Int)) = true := bne_iff_ne.mpr c39
                                      obtain rfl := Option.some.inj H
                                      try go_wp2
                                      replace HO_5 := AM (Kd.R_drew HO_5.out)
                                      replace HO_9 := AM (Kd.R_drew HO_9.out)
                                      replace HB := AM (below_drew1 HB.out)
                                      have p414 : 0 ≤ (x10_4 : Int) := of_decide_eq_true (by first | (with_reducible assumption) | assumption)
                                      have q414 : x10_4 < (t410.length : Int) := of_decide_eq_true (by first | (with_reducible assumption) | assumption)
                                      obtain ⟨ad414, e414, hx414_0, hx414_1, hx414_2, hx414_3⟩ := at_T61 (Kd.R_reads' HO_9.out).2.2 x10_4 p414 q414
                                      cases e414
                                      replace p414 := eq_true p414
                                      replace q414 := eq_true q414
                                      have p415 : 0 ≤ (x10_4 : Int) := of_decide_eq_true (by first | (with_reducible assumption) | assumption)
                                      have q415 : x10_4 < (t398.length : Int) := of_decide_eq_true (by first | (with_reducible assumption) | assumption)
                                      obtain ⟨ad415, e415, hx415_0, hx415_1⟩ := at_T64 (Kd.R_reads' HO_5.out).2.2 x10_4 p415 q415
                                      cases e415
                                      replace p415 := eq_true p415
                                      replace q415 := eq_true q415
                                      have p417 : 0 ≤ (x10_4 : Int) := of_decide_eq_true (by first | (with_reducible assumption) | assumption)
                                      have q417 : x10_4 < (t410.length : Int) := of_decide_eq_true (by first | (with_reducible assumption) | assumption)
                                      obtain ⟨ad417, e417, hx417_0, hx417_1, hx417_2, hx417_3⟩ := at_T61 (Kd.R_reads' HO_9.out).2.2 x10_4 p417 q417
                                      obtain rfl : ad414 = ad417 := (by injection e417)
                                      replace p417 := eq_true p417
                                      replace q417 := eq_true q417
                                      have p418 : 0 ≤ (x10_4 : Int) := of_decide_eq_true (by first | (with_reducible assumption) | assumption)
                                      have q418 : x10_4 < (t398.length : Int) := of_decide_eq_true (by first | (with_reducible assumption) | assumption)
                                      obtain ⟨ad418, e418, hx418_0, hx418_1⟩ := at_T64 (Kd.R_reads' HO_5.out).2.2 x10_4 p418 q418
                                      obtain rfl : ad415 = ad418 := (by injection e418)
                                      replace p418 := eq_true p418
                                      replace q418 := eq_true q418
                                      refine start_ (n := 39) (S := fun w' => w'.cell? (ad414.add ((x10_4).toNat * 4)) = some (.string ((rd_T61 t410 x10_4).f0)) ∧ w'.cell? ⟨(ad414.add ((x10_4).toNat * 4)).block, (ad414.add ((x10_4).toNat * 4)).off + 1, none⟩ = some (.int .i64 ((rd_T61 t410 x10_4).f1)) ∧ w'.cell? ⟨(ad414.add ((x10_4).toNat * 4)).block, (ad414.add ((x10_4).toNat * 4)).off + 2, none⟩ = some (.int .i64 ((rd_T61 t410 x10_4).f2)) ∧ w'.cell? ⟨(ad414.add ((x10_4).toNat * 4)).block, (ad414.add ((x10_4).toNat * 4)).off + 3, none⟩ = some (.int .i64 ((rd_T61 t410 x10_4).f3)) ∧ w'.cell? (ad415.add ((x10_4).toNat * 2)) = some (.int .i64 ((rd_T64 t398 x10_4).f0)) ∧ w'.cell? ⟨(ad415.add ((x10_4).toNat * 2)).block, (ad415.add ((x10_4).toNat * 2)).off + 1, none⟩ = some (.string ((rd_T64 t398 x10_4).f1)) ∧ w'.cell? (ad414.add ((x10_4).toNat * 4)) = some (.string ((rd_T61 t410 x10_4).f0)) ∧ w'.cell? ⟨(ad414.add ((x10_4).toNat * 4)).block, (ad414.add ((x10_4).toNat * 4)).off + 1, none⟩ = some (.int .i64 ((rd_T61 t410 x10_4).f1)) ∧ w'.cell? ⟨(ad414.add ((x10_4).toNat * 4)).block, (ad414.add ((x10_4).toNat * 4)).off + 2, none⟩ = some (.int .i64 ((rd_T61 t410 x10_4).f2)) ∧ w'.cell? ⟨(ad414.add ((x10_4).toNat * 4)).block, (ad414.add ((x10_4).toNat * 4)).off + 3, none⟩ = some (.int .i64 ((rd_T61 t410 x10_4).f3)) ∧ w'.cell? (ad415.add ((x10_4).toNat * 2)) = some (.int .i64 ((rd_T64 t398 x10_4).f0)) ∧ w'.cell? ⟨(ad415.add ((x10_4).toNat * 2)).block, (ad415.add ((x10_4).toNat * 2)).off + 1, none⟩ = some (.string ((rd_T64 t398 x10_4).f1))) (ds := []) #[false, false, false, false, false, false, false, false, false, false, false, false, false, false, false, false, false, false, false, false, false, false, false, false, false, false, false, false, false, false, false, false, false, false, false, false, false, false, false] (by kernel_rfl) rfl rfl ⟨hx414_0, hx414_1, hx414_2, hx414_3, hx415_0, hx415_1, hx417_0, hx417_1, hx417_2, hx417_3, hx418_0, hx418_1⟩ (fun hHeld => ?_); refine with_tabW laws_FnScan.tab20 laws_FnScan.bits20 (fun HT_ HW_ => ?_)
                                      generalize wr.drew = w48 at HO_5 HO_9 HB hx414_0 hx414_1 hx414_2 hx414_3 hx415_0 hx415_1 hx417_0 hx417_1 hx417_2 hx417_3 hx418_0 hx418_1 hHeld ⊢
                                      refine pu_ HT_ 0 (some 69) #[true, false, false, false, false, false, false, false, false, false, false, false, false, false, false, false, false, false, false, false, false, false, false, false, false, false, false, false, false, false, false, false, false, false, false, false, false, false, false] ?_
                                      refine pu_ HT_ 1 (some 70) #[true, true, false, false, false, false, false, false, false, false, false, false, false, false, false, false, false, false, false, false, false, false, false, false, false, false, false, false, false, false, false, false, false, false, false, false, false, false, false] ?_
                                      refine pu_ HT_ 2 (some 71) #[true, true, true, false, false, false, false, false, false, false, false, false, false, false, false, false, false, false, false, false, false, false, false, false, false, false, false, false, false, false, false, false, false, false, false, false, false, false, false] ?_
                                      refine pu_ HT_ 3 (some 72) #[true, true, true, true, false, false, false, false, false, false, false, false, false, false, false, false, false, false, false, false, false, false, false, false, false, false, false, false, false, false, false, false, false, false, false, false, false, false, false] ?_
                                      refine pu_ HT_ 5 (some 74) #[true, true, true, true, false, true, false, false, false, false, false, false, false, false, false, false, false, false, false, false, false, false, false, false, false, false, false, false, false, false, false, false, false, false, false, false, false, false, false] ?_
                                      refine pu_ HT_ 6 (some 75) #[true, true, true, true, false, true, true, false, false, false, false, false, false, false, false, false, false, false, false, false, false, false, false, false, false, false, false, false, false, false, false, false, false, false, false, false, false, false, false] ?_
                                      refine pu_ HT_ 7 (some 76) #[true, true, true, true, false, true, true, true, false, false, false, false, false, false, false, false, false, false, false, false, false, false, false, false, false, false, false, false, false, false, false, false, false, false, false, false, false, false, false] ?_
                                      refine ta_ HT_ HW_ 4 (some 73) #[true, true, true, true, true, true, true, true, false, false, false, false, false, false, false, false, false, false, false, false, false, false, false, false, false, false, false, false, false, false, false, false, false, false, false, false, false, false, false] hHeld ?_
                                      refine ta_ HT_ HW_ 8 (some 77) #[true, true, true, true, true, true, true, true, true, false, false, false, false, false, false, false, false, false, false, false, false, false, false, false, false, false, false, false, false, false, false, false, false, false, false, false, false, false, false] hHeld ?_
                                      refine on_ HT_ 9 (some 78) #[true, true, true, true, true, true, true, true, true, true, false, false, false, false, false, false, false, false, false, false, false, false, false, false, false, false, false, false, false, false, false, false, false, false, false, false, false, false, false] (fun K hK => ?_)
                                      refine go1_ Tryd.func42 #[.agg #[.int .i64 ((rd_T64 t398 x10_4).f0), .string ((rd_T64 t398 x10_4).f1)]] ?_
                                      with_reducible refine (impl_BlobKey.calls k4 ((rd_T64 t398 x10_4).f0) ((rd_T64 t398 x10_4).f1) t416 _ A37.out).mono ?_
                                      rintro e w49 ⟨rfl, hb⟩
                                      have HS0_ := (hb.cell (World.block_lt_of_cell? _ _ (hHeld.1))).trans (hHeld.1)
                                      have HS1_ := (hb.cell (World.block_lt_of_cell? _ _ (hHeld.2.1))).trans (hHeld.2.1)
                                      have HS2_ := (hb.cell (World.block_lt_of_cell? _ _ (hHeld.2.2.1))).trans (hHeld.2.2.1)
                                      have HS3_ := (hb.cell (World.block_lt_of_cell? _ _ (hHeld.2.2.2.1))).trans (hHeld.2.2.2.1)
                                      have HS4_ := (hb.cell (World.block_lt_of_cell? _ _ (hHeld.2.2.2.2.1))).trans (hHeld.2.2.2.2.1)
                                      have HS5_ := (hb.cell (World.block_lt_of_cell? _ _ (hHeld.2.2.2.2.2.1))).trans (hHeld.2.2.2.2.2.1)
                                      have HS6_ := (hb.cell (World.block_lt_of_cell? _ _ (hHeld.2.2.2.2.2.2.1))).trans (hHeld.2.2.2.2.2.2.1)
                                      have HS7_ := (hb.cell (World.block_lt_of_cell? _ _ (hHeld.2.2.2.2.2.2.2.1))).trans (hHeld.2.2.2.2.2.2.2.1)
                                      have HS8_ := (hb.cell (World.block_lt_of_cell? _ _ (hHeld.2.2.2.2.2.2.2.2.1))).trans (hHeld.2.2.2.2.2.2.2.2.1)
                                      have HS9_ := (hb.cell (World.block_lt_of_cell? _ _ (hHeld.2.2.2.2.2.2.2.2.2.1))).trans (hHeld.2.2.2.2.2.2.2.2.2.1)
                                      have HS10_ := (hb.cell (World.block_lt_of_cell? _ _ (hHeld.2.2.2.2.2.2.2.2.2.2.1))).trans (hHeld.2.2.2.2.2.2.2.2.2.2.1)
                                      have HS11_ := (hb.cell (World.block_lt_of_cell? _ _ (hHeld.2.2.2.2.2.2.2.2.2.2.2))).trans (hHeld.2.2.2.2.2.2.2.2.2.2.2)
                                      refine ⟨_, rfl, ?_⟩
                                      replace HO_5 := AM (Kd.R_below (ro_ HO_5.out) hb)
                                      replace HO_9 := AM (Kd.R_below (ro_ HO_9.out) hb)
                                      replace HB := AM (below_step bel_ hb)
                                      (try clear hb)
                                      (try clear hb2)
                                      (try clear hk)
                                      (try clear hi)
                                      refine hK.out _ _ ⟨HS0_, HS1_, HS2_, HS3_, HS4_, HS5_, HS6_, HS7_, HS8_, HS9_, HS10_, HS11_⟩ (fun hHeld => ?_)
                                      clear hK K
                                      refine nm_ ?_
                                      refine pu_ HT_ 10 (some 79) #[true, true, true, true, true, true, true, true, true, true, true, false, false, false, false, false, false, false, false, false, false, false, false, false, false, false, false, false, false, false, false, false, false, false, false, false, false, false, false] ?_
                                      refine pu_ HT_ 11 (some 80) #[true, true, true, true, true, true, true, true, true, true, true, true, false, false, false, false, false, false, false, false, false, false, false, false, false, false, false, false, false, false, false, false, false, false, false, false, false, false, false] ?_
                                      refine pu_ HT_ 12 (some 81) #[true, true, true, true, true, true, true, true, true, true, true, true, true, false, false, false, false, false, false, false, false, false, false, false, false, false, false, false, false, false, false, false, false, false, false, false, false, false, false] ?_
                                      refine pu_ HT_ 13 (some 82) #[true, true, true, true, true, true, true, true, true, true, true, true, true, true, false, false, false, false, false, false, false, false, false, false, false, false, false, false, false, false, false, false, false, false, false, false, false, false, false] ?_
                                      refine pu_ HT_ 14 (some 83) #[true, true, true, true, true, true, true, true, true, true, true, true, true, true, true, false, false, false, false, false, false, false, false, false, false, false, false, false, false, false, false, false, false, false, false, false, false, false, false] ?_
                                      refine pu_ HT_ 15 (some 84) #[true, true, true, true, true, true, true, true, true, true, true, true, true, true, true, true, false, false, false, false, false, false, false, false, false, false, false, false, false, false, false, false, false, false, false, false, false, false, false] ?_
                                      refine pu_ HT_ 17 (some 86) #[true, true, true, true, true, true, true, true, true, true, true, true, true, true, true, true, false, true, false, false, false, false, false, false, false, false, false, false, false, false, false, false, false, false, false, false, false, false, false] ?_
                                      refine pu_ HT_ 18 (some 87) #[true, true, true, true, true, true, true, true, true, true, true, true, true, true, true, true, false, true, true, false, false, false, false, false, false, false, false, false, false, false, false, false, false, false, false, false, false, false, false] ?_
                                      refine pu_ HT_ 19 (some 88) #[true, true, true, true, true, true, true, true, true, true, true, true, true, true, true, true, false, true, true, true, false, false, false, false, false, false, false, false, false, false, false, false, false, false, false, false, false, false, false] ?_
                                      refine pu_ HT_ 20 (some 89) #[true, true, true, true, true, true, true, true, true, true, true, true, true, true, true, true, false, true, true, true, true, false, false, false, false, false, false, false, false, false, false, false, false, false, false, false, false, false, false] ?_
                                      refine ta_ HT_ HW_ 16 (some 85) #[true, true, true, true, true, true, true, true, true, true, true, true, true, true, true, true, true, true, true, true, true, false, false, false, false, false, false, false, false, false, false, false, false, false, false, false, false, false, false] hHeld ?_
                                      refine ta_ HT_ HW_ 21 (some 90) #[true, true, true, true, true, true, true, true, true, true, true, true, true, true, true, true, true, true, true, true, true, true, false, false, false, false, false, false, false, false, false, false, false, false, false, false, false, false, false] hHeld ?_
                                      refine pu_ HT_ 22 (some 91) #[true, true, true, true, true, true, true, true, true, true, true, true, true, true, true, true, true, true, true, true, true, true, true, false, false, false, false, false, false, false, false, false, false, false, false, false, false, false, false] ?_
                                      refine pu_ HT_ 23 (some 92) #[true, true, true, true, true, true, true, true, true, true, true, true, true, true, true, true, true, true, true, true, true, true, true, true, false, false, false, false, false, false, false, false, false, false, false, false, false, false, false] ?_
                                      refine pu_ HT_ 24 (some 93) #[true, true, true, true, true, true, true, true, true, true, true, true, true, true, true, true, true, true, true, true, true, true, true, true, true, false, false, false, false, false, false, false, false, false, false, false, false, false, false] ?_
                                      refine pu_ HT_ 25 (some 94) #[true, true, true, true, true, true, true, true, true, true, true, true, true, true, true, true, true, true, true, true, true, true, true, true, true, true, false, false, false, false, false, false, false, false, false, false, false, false, false] ?_
                                      refine pu_ HT_ 26 (some 95) #[true, true, true, true, true, true, true, true, true, true, true, true, true, true, true, true, true, true, true, true, true, true, true, true, true, true, true, false, false, false, false, false, false, false, false, false, false, false, false] ?_
                                      refine pu_ HT_ 27 (some 96) #[true, true, true, true, true, true, true, true, true, true, true, true, true, true, true, true, true, true, true, true, true, true, true, true, true, true, true, true, false, false, false, false, false, false, false, false, false, false, false] ?_
                                      refine pu_ HT_ 28 (some 97) #[true, true, true, true, true, true, true, true, true, true, true, true, true, true, true, true, true, true, true, true, true, true, true, true, true, true, true, true, true, false, false, false, false, false, false, false, false, false, false] ?_
                                      refine pu_ HT_ 29 (some 98) #[true, true, true, true, true, true, true, true, true, true, true, true, true, true, true, true, true, true, true, true, true, true, true, true, true, true, true, true, true, true, false, false, false, false, false, false, false, false, false] ?_
                                      refine pu_ HT_ 30 (some 99) #[true, true, true, true, true, true, true, true, true, true, true, true, true, true, true, true, true, true, true, true, true, true, true, true, true, true, true, true, true, true, true, false, false, false, false, false, false, false, false] ?_
                                      refine pu_ HT_ 31 (some 100) #[true, true, true, true, true, true, true, true, true, true, true, true, true, true, true, true, true, true, true, true, true, true, true, true, true, true, true, true, true, true, true, true, false, false, false, false, false, false, false] ?_
                                      refine pu_ HT_ 32 (some 101) #[true, true, true, true, true, true, true, true, true, true, true, true, true, true, true, true, true, true, true, true, true, true, true, true, true, true, true, true, true, true, true, true, true, false, false, false, false, false, false] ?_
                                      refine pu_ HT_ 33 (some 102) #[true, true, true, true, true, true, true, true, true, true, true, true, true, true, true, true, true, true, true, true, true, true, true, true, true, true, true, true, true, true, true, true, true, true, false, false, false, false, false] ?_
                                      refine pu_ HT_ 34 (some 103) #[true, true, true, true, true, true, true, true, true, true, true, true, true, true, true, true, true, true, true, true, true, true, true, true, true, true, true, true, true, true, true, true, true, true, true, false, false, false, false] ?_
                                      refine pu_ HT_ 35 (some 104) #[true, true, true, true, true, true, true, true, true, true, true, true, true, true, true, true, true, true, true, true, true, true, true, true, true, true, true, true, true, true, true, true, true, true, true, true, false, false, false] ?_
                                      refine pu_ HT_ 36 (some 105) #[true, true, true, true, true, true, true, true, true, true, true, true, true, true, true, true, true, true, true, true, true, true, true, true, true, true, true, true, true, true, true, true, true, true, true, true, true, false, false] ?_
                                      refine pu_ HT_ 37 (some 106) #[true, true, true, true, true, true, true, true, true, true, true, true, true, true, true, true, true, true, true, true, true, true, true, true, true, true, true, true, true, true, true, true, true, true, true, true, true, true, false] ?_
                                      refine pu_ HT_ 38 (some 107) #[true, true, true, true, true, true, true, true, true, true, true, true, true, true, true, true, true, true, true, true, true, true, true, true, true, true, true, true, true, true, true, true, true, true, true, true, true, true, true] ?_
                                      refine dn_ HT_ ?_
                                      try go_wp2
                                      go_ret
                                      exact ⟨ri_, bel_⟩
                                  · rw [if_neg c38] at H
                                    have c38b0 : (((rd_T61 t410 x10_4).f0).toList == t416.toList) = false := beq_eq_false_iff_ne.mpr c38
                                    have c38b1 : (((rd_T61 t410 x10_4).f0).toList != t416.toList) = true := bne_iff_ne.mpr c38
                                    obtain rfl := Option.some.inj H
                                    try go_wp2
                                    replace HO_5 := AM (Kd.R_drew HO_5.out)
                                    replace HO_9 := AM (Kd.R_drew HO_9.out)
                                    replace HB := AM (below_drew1 HB.out)
                                    have p414 : 0 ≤ (x10_4 : Int) := of_decide_eq_true (by first | (with_reducible assumption) | assumption)
                                    have q414 : x10_4 < (t410.length : Int) := of_decide_eq_true (by first | (with_reducible assumption) | assumption)
                                    obtain ⟨ad414, e414, hx414_0, hx414_1, hx414_2, hx414_3⟩ := at_T61 (Kd.R_reads' HO_9.out).2.2 x10_4 p414 q414
                                    cases e414
                                    replace p414 := eq_true p414
                                    replace q414 := eq_true q414
                                    have p415 : 0 ≤ (x10_4 : Int) := of_decide_eq_true (by first | (with_reducible assumption) | assumption)
                                    have q415 : x10_4 < (t398.length : Int) := of_decide_eq_true (by first | (with_reducible assumption) | assumption)
                                    obtain ⟨ad415, e415, hx415_0, hx415_1⟩ := at_T64 (Kd.R_reads' HO_5.out).2.2 x10_4 p415 q415
                                    cases e415
                                    replace p415 := eq_true p415
                                    replace q415 := eq_true q415
                                    refine start_ (n := 39) (S := fun w' => w'.cell? (ad414.add ((x10_4).toNat * 4)) = some (.string ((rd_T61 t410 x10_4).f0)) ∧ w'.cell? ⟨(ad414.add ((x10_4).toNat * 4)).block, (ad414.add ((x10_4).toNat * 4)).off + 1, none⟩ = some (.int .i64 ((rd_T61 t410 x10_4).f1)) ∧ w'.cell? ⟨(ad414.add ((x10_4).toNat * 4)).block, (ad414.add ((x10_4).toNat * 4)).off + 2, none⟩ = some (.int .i64 ((rd_T61 t410 x10_4).f2)) ∧ w'.cell? ⟨(ad414.add ((x10_4).toNat * 4)).block, (ad414.add ((x10_4).toNat * 4)).off + 3, none⟩ = some (.int .i64 ((rd_T61 t410 x10_4).f3)) ∧ w'.cell? (ad415.add ((x10_4).toNat * 2)) = some (.int .i64 ((rd_T64 t398 x10_4).f0)) ∧ w'.cell? ⟨(ad415.add ((x10_4).toNat * 2)).block, (ad415.add ((x10_4).toNat * 2)).off + 1, none⟩ = some (.string ((rd_T64 t398 x10_4).f1))) (ds := []) #[false, false, false, false, false, false, false, false, false, false, false, false, false, false, false, false, false, false, false, false, false, false, false, false, false, false, false, false, false, false, false, false, false, false, false, false, false, false, false] (by kernel_rfl) rfl rfl ⟨hx414_0, hx414_1, hx414_2, hx414_3, hx415_0, hx415_1⟩ (fun hHeld => ?_); refine with_tabW laws_FnScan.tab20 laws_FnScan.bits20 (fun HT_ HW_ => ?_)
                                    generalize wr.drew = w50 at HO_5 HO_9 HB hx414_0 hx414_1 hx414_2 hx414_3 hx415_0 hx415_1 hHeld ⊢
                                    refine pu_ HT_ 0 (some 69) #[true, false, false, false, false, false, false, false, false, false, false, false, false, false, false, false, false, false, false, false, false, false, false, false, false, false, false, false, false, false, false, false, false, false, false, false, false, false, false] ?_
                                    refine pu_ HT_ 1 (some 70) #[true, true, false, false, false, false, false, false, false, false, false, false, false, false, false, false, false, false, false, false, false, false, false, false, false, false, false, false, false, false, false, false, false, false, false, false, false, false, false] ?_
                                    refine pu_ HT_ 2 (some 71) #[true, true, true, false, false, false, false, false, false, false, false, false, false, false, false, false, false, false, false, false, false, false, false, false, false, false, false, false, false, false, false, false, false, false, false, false, false, false, false] ?_
                                    refine pu_ HT_ 3 (some 72) #[true, true, true, true, false, false, false, false, false, false, false, false, false, false, false, false, false, false, false, false, false, false, false, false, false, false, false, false, false, false, false, false, false, false, false, false, false, false, false] ?_
                                    refine pu_ HT_ 5 (some 74) #[true, true, true, true, false, true, false, false, false, false, false, false, false, false, false, false, false, false, false, false, false, false, false, false, false, false, false, false, false, false, false, false, false, false, false, false, false, false, false] ?_
                                    refine pu_ HT_ 6 (some 75) #[true, true, true, true, false, true, true, false, false, false, false, false, false, false, false, false, false, false, false, false, false, false, false, false, false, false, false, false, false, false, false, false, false, false, false, false, false, false, false] ?_
                                    refine pu_ HT_ 7 (some 76) #[true, true, true, true, false, true, true, true, false, false, false, false, false, false, false, false, false, false, false, false, false, false, false, false, false, false, false, false, false, false, false, false, false, false, false, false, false, false, false] ?_
                                    refine ta_ HT_ HW_ 4 (some 73) #[true, true, true, true, true, true, true, true, false, false, false, false, false, false, false, false, false, false, false, false, false, false, false, false, false, false, false, false, false, false, false, false, false, false, false, false, false, false, false] hHeld ?_
                                    refine ta_ HT_ HW_ 8 (some 77) #[true, true, true, true, true, true, true, true, true, false, false, false, false, false, false, false, false, false, false, false, false, false, false, false, false, false, false, false, false, false, false, false, false, false, false, false, false, false, false] hHeld ?_
                                    refine on_ HT_ 9 (some 78) #[true, true, true, true, true, true, true, true, true, true, false, false, false, false, false, false, false, false, false, false, false, false, false, false, false, false, false, false, false, false, false, false, false, false, false, false, false, false, false] (fun K hK => ?_)
                                    refine go1_ Tryd.func42 #[.agg #[.int .i64 ((rd_T64 t398 x10_4).f0), .string ((rd_T64 t398 x10_4).f1)]] ?_
                                    with_reducible refine (impl_BlobKey.calls k4 ((rd_T64 t398 x10_4).f0) ((rd_T64 t398 x10_4).f1) t416 _ A37.out).mono ?_
                                    rintro e w51 ⟨rfl, hb⟩
                                    have HS0_ := (hb.cell (World.block_lt_of_cell? _ _ (hHeld.1))).trans (hHeld.1)
                                    have HS1_ := (hb.cell (World.block_lt_of_cell? _ _ (hHeld.2.1))).trans (hHeld.2.1)
                                    have HS2_ := (hb.cell (World.block_lt_of_cell? _ _ (hHeld.2.2.1))).trans (hHeld.2.2.1)
                                    have HS3_ := (hb.cell (World.block_lt_of_cell? _ _ (hHeld.2.2.2.1))).trans (hHeld.2.2.2.1)
                                    have HS4_ := (hb.cell (World.block_lt_of_cell? _ _ (hHeld.2.2.2.2.1))).trans (hHeld.2.2.2.2.1)
                                    have HS5_ := (hb.cell (World.block_lt_of_cell? _ _ (hHeld.2.2.2.2.2))).trans (hHeld.2.2.2.2.2)
                                    refine ⟨_, rfl, ?_⟩
                                    replace HO_5 := AM (Kd.R_below (ro_ HO_5.out) hb)
                                    replace HO_9 := AM (Kd.R_below (ro_ HO_9.out) hb)
                                    replace HB := AM (below_step bel_ hb)
                                    (try clear hb)
                                    (try clear hb2)
                                    (try clear hk)
                                    (try clear hi)
                                    refine hK.out _ _ ⟨HS0_, HS1_, HS2_, HS3_, HS4_, HS5_⟩ (fun hHeld => ?_)
                                    clear hK K
                                    refine nm_ ?_
                                    refine pu_ HT_ 10 (some 79) #[true, true, true, true, true, true, true, true, true, true, true, false, false, false, false, false, false, false, false, false, false, false, false, false, false, false, false, false, false, false, false, false, false, false, false, false, false, false, false] ?_
                                    refine pu_ HT_ 11 (some 80) #[true, true, true, true, true, true, true, true, true, true, true, true, false, false, false, false, false, false, false, false, false, false, false, false, false, false, false, false, false, false, false, false, false, false, false, false, false, false, false] ?_
                                    refine pu_ HT_ 12 (some 81) #[true, true, true, true, true, true, true, true, true, true, true, true, true, false, false, false, false, false, false, false, false, false, false, false, false, false, false, false, false, false, false, false, false, false, false, false, false, false, false] ?_
                                    refine pu_ HT_ 13 (some 82) #[true, true, true, true, true, true, true, true, true, true, true, true, true, true, false, false, false, false, false, false, false, false, false, false, false, false, false, false, false, false, false, false, false, false, false, false, false, false, false] ?_
                                    refine pu_ HT_ 14 (some 83) #[true, true, true, true, true, true, true, true, true, true, true, true, true, true, true, false, false, false, false, false, false, false, false, false, false, false, false, false, false, false, false, false, false, false, false, false, false, false, false] ?_
                                    refine pu_ HT_ 15 (some 84) #[true, true, true, true, true, true, true, true, true, true, true, true, true, true, true, true, false, false, false, false, false, false, false, false, false, false, false, false, false, false, false, false, false, false, false, false, false, false, false] ?_
                                    refine pu_ HT_ 16 (some 85) #[true, true, true, true, true, true, true, true, true, true, true, true, true, true, true, true, true, false, false, false, false, false, false, false, false, false, false, false, false, false, false, false, false, false, false, false, false, false, false] ?_
                                    refine pu_ HT_ 17 (some 86) #[true, true, true, true, true, true, true, true, true, true, true, true, true, true, true, true, true, true, false, false, false, false, false, false, false, false, false, false, false, false, false, false, false, false, false, false, false, false, false] ?_
                                    refine pu_ HT_ 18 (some 87) #[true, true, true, true, true, true, true, true, true, true, true, true, true, true, true, true, true, true, true, false, false, false, false, false, false, false, false, false, false, false, false, false, false, false, false, false, false, false, false] ?_
                                    refine pu_ HT_ 19 (some 88) #[true, true, true, true, true, true, true, true, true, true, true, true, true, true, true, true, true, true, true, true, false, false, false, false, false, false, false, false, false, false, false, false, false, false, false, false, false, false, false] ?_
                                    refine pu_ HT_ 20 (some 89) #[true, true, true, true, true, true, true, true, true, true, true, true, true, true, true, true, true, true, true, true, true, false, false, false, false, false, false, false, false, false, false, false, false, false, false, false, false, false, false] ?_
                                    refine pu_ HT_ 21 (some 90) #[true, true, true, true, true, true, true, true, true, true, true, true, true, true, true, true, true, true, true, true, true, true, false, false, false, false, false, false, false, false, false, false, false, false, false, false, false, false, false] ?_
                                    refine pu_ HT_ 22 (some 91) #[true, true, true, true, true, true, true, true, true, true, true, true, true, true, true, true, true, true, true, true, true, true, true, false, false, false, false, false, false, false, false, false, false, false, false, false, false, false, false] ?_
                                    refine pu_ HT_ 23 (some 92) #[true, true, true, true, true, true, true, true, true, true, true, true, true, true, true, true, true, true, true, true, true, true, true, true, false, false, false, false, false, false, false, false, false, false, false, false, false, false, false] ?_
                                    refine pu_ HT_ 24 (some 93) #[true, true, true, true, true, true, true, true, true, true, true, true, true, true, true, true, true, true, true, true, true, true, true, true, true, false, false, false, false, false, false, false, false, false, false, false, false, false, false] ?_
                                    refine pu_ HT_ 25 (some 94) #[true, true, true, true, true, true, true, true, true, true, true, true, true, true, true, true, true, true, true, true, true, true, true, true, true, true, false, false, false, false, false, false, false, false, false, false, false, false, false] ?_
                                    refine pu_ HT_ 26 (some 95) #[true, true, true, true, true, true, true, true, true, true, true, true, true, true, true, true, true, true, true, true, true, true, true, true, true, true, true, false, false, false, false, false, false, false, false, false, false, false, false] ?_
                                    refine pu_ HT_ 27 (some 96) #[true, true, true, true, true, true, true, true, true, true, true, true, true, true, true, true, true, true, true, true, true, true, true, true, true, true, true, true, false, false, false, false, false, false, false, false, false, false, false] ?_
                                    refine pu_ HT_ 28 (some 97) #[true, true, true, true, true, true, true, true, true, true, true, true, true, true, true, true, true, true, true, true, true, true, true, true, true, true, true, true, true, false, false, false, false, false, false, false, false, false, false] ?_
                                    refine pu_ HT_ 29 (some 98) #[true, true, true, true, true, true, true, true, true, true, true, true, true, true, true, true, true, true, true, true, true, true, true, true, true, true, true, true, true, true, false, false, false, false, false, false, false, false, false] ?_
                                    refine pu_ HT_ 30 (some 99) #[true, true, true, true, true, true, true, true, true, true, true, true, true, true, true, true, true, true, true, true, true, true, true, true, true, true, true, true, true, true, true, false, false, false, false, false, false, false, false] ?_
                                    refine pu_ HT_ 31 (some 100) #[true, true, true, true, true, true, true, true, true, true, true, true, true, true, true, true, true, true, true, true, true, true, true, true, true, true, true, true, true, true, true, true, false, false, false, false, false, false, false] ?_
                                    refine pu_ HT_ 32 (some 101) #[true, true, true, true, true, true, true, true, true, true, true, true, true, true, true, true, true, true, true, true, true, true, true, true, true, true, true, true, true, true, true, true, true, false, false, false, false, false, false] ?_
                                    refine pu_ HT_ 33 (some 102) #[true, true, true, true, true, true, true, true, true, true, true, true, true, true, true, true, true, true, true, true, true, true, true, true, true, true, true, true, true, true, true, true, true, true, false, false, false, false, false] ?_
                                    refine pu_ HT_ 34 (some 103) #[true, true, true, true, true, true, true, true, true, true, true, true, true, true, true, true, true, true, true, true, true, true, true, true, true, true, true, true, true, true, true, true, true, true, true, false, false, false, false] ?_
                                    refine pu_ HT_ 35 (some 104) #[true, true, true, true, true, true, true, true, true, true, true, true, true, true, true, true, true, true, true, true, true, true, true, true, true, true, true, true, true, true, true, true, true, true, true, true, false, false, false] ?_
                                    refine pu_ HT_ 36 (some 105) #[true, true, true, true, true, true, true, true, true, true, true, true, true, true, true, true, true, true, true, true, true, true, true, true, true, true, true, true, true, true, true, true, true, true, true, true, true, false, false] ?_
                                    refine pu_ HT_ 37 (some 106) #[true, true, true, true, true, true, true, true, true, true, true, true, true, true, true, true, true, true, true, true, true, true, true, true, true, true, true, true, true, true, true, true, true, true, true, true, true, true, false] ?_
                                    refine pu_ HT_ 38 (some 107) #[true, true, true, true, true, true, true, true, true, true, true, true, true, true, true, true, true, true, true, true, true, true, true, true, true, true, true, true, true, true, true, true, true, true, true, true, true, true, true] ?_
                                    refine dn_ HT_ ?_
                                    try go_wp2
                                    go_ret
                                    exact ⟨ri_, bel_⟩
                                · rw [if_neg c36] at H
                                  exact absurd H (by simp)
                              · rw [if_neg c35] at H
                                exact absurd H (by simp)
                            · rw [if_neg c34] at H
                              have c34b0 : decide (x10_4 < (t398.length : Int)) = false := decide_eq_false c34
                              clear c34
                              obtain rfl := Option.some.inj H
                              go_wp2
                              go_ret
                              exact ⟨ri_, bel_⟩
                      · rw [if_neg c29] at H
                        have c29b0 : ((t410.length : Int) == (t398.length : Int)) = false := beq_eq_false_iff_ne.mpr c29
                        have c29b1 : ((t410.length : Int) != (t398.length : Int)) = true := bne_iff_ne.mpr c29
                        have c29b2 : (t410.length == t398.length) = false := by first | simpa using c29 | (simp at c29 ⊢; omega)
                        obtain rfl := Option.some.inj H
                        have hcv52 := own_string (P := Tryd.prog) Tryd.underlying38 Tryd.underlying5 Tryd.underlying9 (Kd.own_of_R HO_7.out)
                        go_wp2_with (first | ((with_reducible refine gate_callee (f := 36) rfl ?_); refine gl_ (some 51) Tryd.func36 #[.string ((strOfNums x7_2) ++ t401)] ?_; (with_reducible refine (impl_PackScan.calls kj12 ((strOfNums x7_2) ++ t401) t410 _ A22.out).mono ?_); rintro e w53 ⟨v411, rfl, ho0, hb⟩; refine ⟨_, rfl, ?_⟩; replace HO_5 := AM (Kd.R_below (ro_ HO_5.out) hb); replace HO_7 := AM (Kd.R_below (ro_ HO_7.out) hb); have HO412 := AM (Kd.R_lower ho0 (below_size bel_)); replace HB := AM (below_step bel_ hb); (try clear hb); (try clear hb2); (try clear hk); (try clear hi); (try clear ho0)) | ((with_reducible refine gate_callee (f := 41) rfl ?_); refine gl_ (some 53) Tryd.func41 #[.slice Ao9 t398.length co9] ?_; (with_reducible refine (spec_PackBytes.calls kj12 _ _ t398 t413 _ ?side1 ?side2 A23.out).mono ?_); (case side1 => repeat (first | exact (Kd.R_reads' HO_5.out).2.2 | (with_reducible refine Kd.C_alloc ?_ _) | (with_reducible refine Kd.C_drewN ?_ _) | (with_reducible refine Kd.C_drew ?_))); (case side2 => exact (Kd.R_reads' HO_5.out).2.1); rintro e w54 ⟨rfl, hb⟩; refine ⟨_, rfl, ?_⟩; replace HO_5 := AM (Kd.R_below (ro_ HO_5.out) hb); replace HO_7 := AM (Kd.R_below (ro_ HO_7.out) hb); replace HO412 := AM (Kd.R_below (ro_ HO412.out) hb); replace HB := AM (below_step bel_ hb); (try clear hb); (try clear hb2); (try clear hk); (try clear hi); obtain ⟨Ao55, co55, eo55⟩ := Kd.R_slice HO412.out; subst eo55))
                        go_ret
                        exact ⟨ri_, bel_⟩
                  · rw [if_neg c21] at H
                    exact absurd H (by simp)

/-- THE ONE PURE STATEMENT of laws_FnScan: yours. -/
def laws_FnScan.Pure : Prop := ∀ (l0 : List Int) (l1 : List Int), l0.length ≤ maxLen → l0.length * 1 ≤ 140737488351232 → (∀ x ∈ l0, (Lit.int .u8 x).wf = true) → l1.length ≤ maxLen → l1.length * 1 ≤ 140737488351232 → (∀ x ∈ l1, (Lit.int .u8 x).wf = true) → ∃ k, laws_FnScan.f k l0 l1 = some true
theorem laws_FnScan.walk (P : laws_FnScan.Pure) (a0 : Option Addr) (len0 cap0 : Nat) (z0 : List Int) (a1 : Option Addr) (len1 cap1 : Nat) (z1 : List Int) (w : World) (w0 : (a0 = none ∧ len0 = 0 ∧ cap0 = 0 ∧ z0 = []) ∨ ∃ x, a0 = some x ∧ len0 ≤ cap0 ∧ cap0 ≤ maxLen ∧ z0.length = cap0 ∧ (∀ i, i < z0.length → w.cell? (x.add i) = some (.int .u8 (z0.getD i 0))) ∧ ∀ n ∈ z0, (Lit.int .u8 n).wf = true) (y0 : len0 * 1 ≤ 140737488351232) (w1 : (a1 = none ∧ len1 = 0 ∧ cap1 = 0 ∧ z1 = []) ∨ ∃ x, a1 = some x ∧ len1 ≤ cap1 ∧ cap1 ≤ maxLen ∧ z1.length = cap1 ∧ (∀ i, i < z1.length → w.cell? (x.add i) = some (.int .u8 (z1.getD i 0))) ∧ ∀ n ∈ z1, (Lit.int .u8 n).wf = true) (y1 : len1 * 1 ≤ 140737488351232) (hL : Hand.LaidG w := by first | exact hL | exact Hand.LaidG.below hL bel_) :
    Calls Tryd.prog 9 #[.slice a0 len0 cap0, .slice a1 len1 cap1] w fun e w' => e = .returned (.bool true) ∧ Below w.heap.size w w' := by
  obtain ⟨l0, rfl, hr0, hm0, hw0, hc0⟩ := ReadsInt.ofRowC w0
  obtain ⟨l1, rfl, hr1, hm1, hw1, hc1⟩ := ReadsInt.ofRowC w1
  obtain ⟨k, h⟩ := P l0 l1 hm0 y0 hw0 hm1 y1 hw1
  refine (laws_FnScan.calls k _ _ l0 _ _ l1 true w (Kd.C_of_reads (d := (0 : Int)) (h1 := fun _ => rfl) hr0) hc0 (Kd.C_of_reads (d := (0 : Int)) (h1 := fun _ => rfl) hr1) hc1 h).mono ?_
  rintro e w' ⟨rfl, hd⟩
  exact ⟨rfl, hd⟩

end Go.Proofs.YtddapeieolfolaaDoor.PFnScan
