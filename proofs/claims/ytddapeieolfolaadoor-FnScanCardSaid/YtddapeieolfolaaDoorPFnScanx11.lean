/- Functions of the law FnScan: the print's, with walks of this session's own. No statement is proved here. -/
import Derived.Test.YtddapeieolfolaaDoorHEFnScan
import Derived.WalkLawsBesides
import Derived.Test.YtddapeieolfolaaDoorVRegFnScan
-- A program of this session wrote this text: a changed copy of the kit print, with given functions.
import Derived.Test.YtddapeieolfolaaDoorPFnScanx0
import Derived.Test.YtddapeieolfolaaDoorPFnScanx8
import Derived.Test.YtddapeieolfolaaDoorPFnScanx9
import Derived.Test.YtddapeieolfolaaDoorPFnScanx10
namespace Go.Proofs.YtddapeieolfolaaDoor.PFnScan
open Go.RowKit Go.Proofs.YtddapeieolfolaaDoorW.PrintWords Go.Proofs.YtddapeieolfolaaDoorW.PrintLast Go.Proofs.YtddapeieolfolaaDoorW.PrintMore Go.Proofs.YtddapeieolfolaaDoor.Reg Go.Proofs.YtddapeieolfolaaDoor.Aut
attribute [local go_sem] max2_int min2_int max_two min_two max_three min_three max_four min_four   -- for this text's walks alone
set_option linter.unusedVariables false
set_option linter.unusedSimpArgs false

/-! ### spec_l01Src_l07Blobs: function 87 -/
mutual
def spec_l01Src_l07Blobs.l0 : Nat → List (S64) → Int → List Int → Int → Int → Int → Option ((List (S64)) × Int × Int × Int)
  | 0, _, _, _, _, _, _ => none
  | k + 1, x3, x4, x1000, x1001, x1002, x1003 => if x4 > 0 then ((spec_l01Src_l07Blob.f k x1000 x1001 x1002 x1003).bind fun bt242 => (if x3.length < 5864062014805 then (spec_l01Src_l07Blobs.l0 k (x3 ++ [(⟨bt242.1, bt242.2.1⟩ : S64)]) (wrap64 (x4 - 1)) x1000 bt242.2.2.1 bt242.2.2.2.1 bt242.2.2.2.2) else (none))) else (if (x3.length : Int) > 0 then ((spec_l01Src_one.f x1000 x1001 x1002 x1003 15).bind fun bt250 => (spec_l01Src_l07Blobs.j1 k x3 bt250.1 x1000 bt250.2.1 bt250.2.2.1 bt250.2.2.2)) else (spec_l01Src_l07Blobs.j1 k x3 false x1000 x1001 x1002 x1003))
def spec_l01Src_l07Blobs.j1 : Nat → List (S64) → Bool → List Int → Int → Int → Int → Option ((List (S64)) × Int × Int × Int)
  | 0, _, _, _, _, _, _ => none
  | k + 1, x3, x24, x1000, x1001, x1002, x1003 => if x24 = true then (if 0 < (x3.length : Int) then (if x3.length < 5864062014805 then (spec_l01Src_l07Blobs.j2 k (x3 ++ [(⟨(rd_T64 x3 0).f0, (rd_T64 x3 0).f1⟩ : S64)]) x1000 x1001 x1002 x1003) else (none)) else (none)) else (spec_l01Src_l07Blobs.j2 k x3 x1000 x1001 x1002 x1003)
def spec_l01Src_l07Blobs.j2 : Nat → List (S64) → List Int → Int → Int → Int → Option ((List (S64)) × Int × Int × Int)
  | 0, _, _, _, _, _ => none
  | k + 1, x3, x1000, x1001, x1002, x1003 => (spec_l01Src_one.f x1000 x1001 x1002 x1003 40).bind fun bt258 => (if bt258.1 = true then (spec_l01Src_l07Blobs.l1 k x3 0 x1000 bt258.2.1 bt258.2.2.1 bt258.2.2.2) else (some (x3, bt258.2.1, bt258.2.2.1, bt258.2.2.2)))
def spec_l01Src_l07Blobs.l1 : Nat → List (S64) → Int → List Int → Int → Int → Int → Option ((List (S64)) × Int × Int × Int)
  | 0, _, _, _, _, _, _ => none
  | k + 1, x3, x5, x1000, x1001, x1002, x1003 => (spec_l01Src_n.f x1000 x1001 x1002 x1003 3).bind fun bt262 => (if (x3.length : Int) < (wrap64 (39 + bt262.1)) then ((spec_l01Dec.f k x5).bind fun t266 => (if t266.size + 1 ≤ 9223372036854775807 then (if x3.length < 5864062014805 then (spec_l01Src_l07Blobs.l1 k (x3 ++ [(⟨1, t266 ++ (⟨#[121]⟩ : ByteArray)⟩ : S64)]) (wrap64 (x5 + 1)) x1000 bt262.2.1 bt262.2.2.1 bt262.2.2.2) else (none)) else (none))) else (some (x3, bt262.2.1, bt262.2.2.1, bt262.2.2.2)))
end
def spec_l01Src_l07Blobs.f (k : Nat) (s0_0 : List Int) (s0_1 : Int) (s0_2 : Int) (s0_3 : Int) : Option ((List (S64)) × Int × Int × Int) := (spec_l01Src_n.f s0_0 s0_1 s0_2 s0_3 5).bind fun bt238 => (spec_l01Src_l07Blobs.l0 k (([] : List (S64))) bt238.1 s0_0 bt238.2.1 bt238.2.2.1 bt238.2.2.2)
theorem spec_l01Src_l07Blobs.mono_l : ∀ k, (∀ y0 y1 y2 y3 y4 y5, LeO (spec_l01Src_l07Blobs.l0 k y0 y1 y2 y3 y4 y5) (spec_l01Src_l07Blobs.l0 (k + 1) y0 y1 y2 y3 y4 y5)) ∧ (∀ y0 y1 y2 y3 y4 y5, LeO (spec_l01Src_l07Blobs.j1 k y0 y1 y2 y3 y4 y5) (spec_l01Src_l07Blobs.j1 (k + 1) y0 y1 y2 y3 y4 y5)) ∧ (∀ y0 y1 y2 y3 y4, LeO (spec_l01Src_l07Blobs.j2 k y0 y1 y2 y3 y4) (spec_l01Src_l07Blobs.j2 (k + 1) y0 y1 y2 y3 y4)) ∧ (∀ y0 y1 y2 y3 y4 y5, LeO (spec_l01Src_l07Blobs.l1 k y0 y1 y2 y3 y4 y5) (spec_l01Src_l07Blobs.l1 (k + 1) y0 y1 y2 y3 y4 y5))
  | 0 => ⟨fun _ _ _ _ _ _ r h => by simp [spec_l01Src_l07Blobs.l0] at h, fun _ _ _ _ _ _ r h => by simp [spec_l01Src_l07Blobs.j1] at h, fun _ _ _ _ _ r h => by simp [spec_l01Src_l07Blobs.j2] at h, fun _ _ _ _ _ _ r h => by simp [spec_l01Src_l07Blobs.l1] at h⟩
  | k + 1 => by
    obtain ⟨ih0, ih1, ih2, ih3⟩ := spec_l01Src_l07Blobs.mono_l k
    refine ⟨?_, ?_, ?_, ?_⟩
    · intro y0 y1 y2 y3 y4 y5
      unfold spec_l01Src_l07Blobs.l0
      repeat' first
      | (with_reducible exact ih0 _ _ _ _ _ _)
      | (with_reducible exact ih1 _ _ _ _ _ _)
      | (with_reducible exact ih2 _ _ _ _ _)
      | (with_reducible exact ih3 _ _ _ _ _ _)
      | (with_reducible exact spec_l01Dec.mono _ _)
      | (with_reducible exact spec_l01Src_l07Blob.mono _ _ _ _ _)
      | (with_reducible exact LeO.refl _)
      | (with_reducible exact LeO.none _)
      | (with_reducible refine LeO.ite ?_ ?_)
      | (with_reducible refine LeO.bind ?_ (fun _ => ?_))
      | exact ih0 _ _ _ _ _ _
      | exact ih1 _ _ _ _ _ _
      | exact ih2 _ _ _ _ _
      | exact ih3 _ _ _ _ _ _
      | exact spec_l01Dec.mono _ _
      | exact spec_l01Src_l07Blob.mono _ _ _ _ _
      | exact LeO.none _
      | refine LeO.ite ?_ ?_
      | refine LeO.bind ?_ (fun _ => ?_)
    · intro y0 y1 y2 y3 y4 y5
      unfold spec_l01Src_l07Blobs.j1
      repeat' first
      | (with_reducible exact ih0 _ _ _ _ _ _)
      | (with_reducible exact ih1 _ _ _ _ _ _)
      | (with_reducible exact ih2 _ _ _ _ _)
      | (with_reducible exact ih3 _ _ _ _ _ _)
      | (with_reducible exact spec_l01Dec.mono _ _)
      | (with_reducible exact spec_l01Src_l07Blob.mono _ _ _ _ _)
      | (with_reducible exact LeO.refl _)
      | (with_reducible exact LeO.none _)
      | (with_reducible refine LeO.ite ?_ ?_)
      | (with_reducible refine LeO.bind ?_ (fun _ => ?_))
      | exact ih0 _ _ _ _ _ _
      | exact ih1 _ _ _ _ _ _
      | exact ih2 _ _ _ _ _
      | exact ih3 _ _ _ _ _ _
      | exact spec_l01Dec.mono _ _
      | exact spec_l01Src_l07Blob.mono _ _ _ _ _
      | exact LeO.none _
      | refine LeO.ite ?_ ?_
      | refine LeO.bind ?_ (fun _ => ?_)
    · intro y0 y1 y2 y3 y4
      unfold spec_l01Src_l07Blobs.j2
      repeat' first
      | (with_reducible exact ih0 _ _ _ _ _ _)
      | (with_reducible exact ih1 _ _ _ _ _ _)
      | (with_reducible exact ih2 _ _ _ _ _)
      | (with_reducible exact ih3 _ _ _ _ _ _)
      | (with_reducible exact spec_l01Dec.mono _ _)
      | (with_reducible exact spec_l01Src_l07Blob.mono _ _ _ _ _)
      | (with_reducible exact LeO.refl _)
      | (with_reducible exact LeO.none _)
      | (with_reducible refine LeO.ite ?_ ?_)
      | (with_reducible refine LeO.bind ?_ (fun _ => ?_))
      | exact ih0 _ _ _ _ _ _
      | exact ih1 _ _ _ _ _ _
      | exact ih2 _ _ _ _ _
      | exact ih3 _ _ _ _ _ _
      | exact spec_l01Dec.mono _ _
      | exact spec_l01Src_l07Blob.mono _ _ _ _ _
      | exact LeO.none _
      | refine LeO.ite ?_ ?_
      | refine LeO.bind ?_ (fun _ => ?_)
    · intro y0 y1 y2 y3 y4 y5
      unfold spec_l01Src_l07Blobs.l1
      repeat' first
      | (with_reducible exact ih0 _ _ _ _ _ _)
      | (with_reducible exact ih1 _ _ _ _ _ _)
      | (with_reducible exact ih2 _ _ _ _ _)
      | (with_reducible exact ih3 _ _ _ _ _ _)
      | (with_reducible exact spec_l01Dec.mono _ _)
      | (with_reducible exact spec_l01Src_l07Blob.mono _ _ _ _ _)
      | (with_reducible exact LeO.refl _)
      | (with_reducible exact LeO.none _)
      | (with_reducible refine LeO.ite ?_ ?_)
      | (with_reducible refine LeO.bind ?_ (fun _ => ?_))
      | exact ih0 _ _ _ _ _ _
      | exact ih1 _ _ _ _ _ _
      | exact ih2 _ _ _ _ _
      | exact ih3 _ _ _ _ _ _
      | exact spec_l01Dec.mono _ _
      | exact spec_l01Src_l07Blob.mono _ _ _ _ _
      | exact LeO.none _
      | refine LeO.ite ?_ ?_
      | refine LeO.bind ?_ (fun _ => ?_)
theorem spec_l01Src_l07Blobs.mono : ∀ a0 a1 a2 a3 k, LeO (spec_l01Src_l07Blobs.f k a0 a1 a2 a3) (spec_l01Src_l07Blobs.f (k + 1) a0 a1 a2 a3) := by
  intro a0 a1 a2 a3 k
  obtain ⟨ih0, ih1, ih2, ih3⟩ := spec_l01Src_l07Blobs.mono_l k
  unfold spec_l01Src_l07Blobs.f
  repeat' first
      | (with_reducible exact ih0 _ _ _ _ _ _)
      | (with_reducible exact ih1 _ _ _ _ _ _)
      | (with_reducible exact ih2 _ _ _ _ _)
      | (with_reducible exact ih3 _ _ _ _ _ _)
      | (with_reducible exact spec_l01Dec.mono _ _)
      | (with_reducible exact spec_l01Src_l07Blob.mono _ _ _ _ _)
      | (with_reducible exact LeO.refl _)
      | (with_reducible exact LeO.none _)
      | (with_reducible refine LeO.ite ?_ ?_)
      | (with_reducible refine LeO.bind ?_ (fun _ => ?_))
      | exact ih0 _ _ _ _ _ _
      | exact ih1 _ _ _ _ _ _
      | exact ih2 _ _ _ _ _
      | exact ih3 _ _ _ _ _ _
      | exact spec_l01Dec.mono _ _
      | exact spec_l01Src_l07Blob.mono _ _ _ _ _
      | exact LeO.none _
      | refine LeO.ite ?_ ?_
      | refine LeO.bind ?_ (fun _ => ?_)
set_option maxHeartbeats 8000000 in
set_option maxRecDepth 100000 in
theorem spec_l01Src_l07Blobs.calls (k : Nat) (g : Nat) (s0_0 : List Int) (s0_1 : Int) (s0_2 : Int) (s0_3 : Int) (r1 : List (S64)) (r2 : Int) (r3 : Int) (r4 : Int) (w0 w : World) (hI : IsS120 w0 w g s0_0 s0_1 s0_2 s0_3) (hB : Below w0.heap.size w0 w) (h : spec_l01Src_l07Blobs.f k s0_0 s0_1 s0_2 s0_3 = some (r1, r2, r3, r4)) :
    Calls Tryd.prog 87 #[.pointer (some ⟨g, 0, none⟩)] w fun e w' => ∃ v0_ : Value, e = .returned (v0_) ∧ Kd.R k64 64 w' w.heap.size (fun _ => True) v0_ r1 ∧ IsS120 w0 w' g s0_0 r2 r3 r4 ∧ Below w0.heap.size w0 w' ∧ KeepBut w w' g none := by
  have hu64 := Tryd.underlying64
  have HI0 := AM hI
  have HK := AM (KeepBut.refl w g none)
  have HL := AM hB.size
  clear hI
  have HW0 := AM hB.size
  have HB := AM hB
  clear hB
  have H : ((spec_l01Src_n.f s0_0 s0_1 s0_2 s0_3 5).bind fun bt238 => (spec_l01Src_l07Blobs.l0 k (([] : List (S64))) bt238.1 s0_0 bt238.2.1 bt238.2.2.1 bt238.2.2.2)) = some (r1, r2, r3, r4) := h
  clear h
  obtain ⟨y235, hy235⟩ : ∃ y_ : List (S64), y_ = (([] : List (S64))) := ⟨_, rfl⟩
  replace H : ((spec_l01Src_n.f s0_0 s0_1 s0_2 s0_3 5).bind fun bt238 => (spec_l01Src_l07Blobs.l0 k y235 bt238.1 s0_0 bt238.2.1 bt238.2.2.1 bt238.2.2.2)) = some (r1, r2, r3, r4) := by first | (rw [hy235]; with_reducible exact H) | (have H2_ := (Option.bind_some _ _).symm.trans H; rw [hy235]; with_reducible exact H2_) | (have H2_ := (Option.bind_some _ _).symm.trans H; with_reducible exact H2_) | with_reducible exact H | (rw [hy235]; exact H) | exact H
  have Ny235 := AM hy235
  clear hy235
  obtain ⟨⟨t238, t239, t240, t241⟩, A2, H⟩ := OB H
  try dsimp only at H
  replace A2 := AM A2
  have H' := AM H
  clear H
  go_enter Tryd.func87, Tryd.ntmps87
  go_wp2_with (first | ((with_reducible refine gate_dst (N := 6) rfl ?_); refine Kd.R_lit k64 _ 64 ?hg (N := 6) ?hd (xs := ([] : List (S64))) (inner := []) (ok := fun _ => True) (okp := fun _ => True) ?hr ?hp (fun _ hk => hk) trivial (Below.refl _ _) (Nat.le_refl _) (by simp) ?_; (case hd => rfl); (case hg => rfl); (case hr => first | (go_simp; done) | (go_simp; rfl)); (case hp => exact (Reps.none _ _)); intro v236 w3 ho4 hb hg_ hnew_; clear hg_ hnew_; (first | rw [← Ny235.out] at ho4 | (simp only [Int.reduceToNat] at ho4; rw [← Ny235.out] at ho4)); have HO237 := AM (Kd.R_lower ho4 (keep_size (w := w) (g := g) (row := none) kp_)); replace HK := AM (KeepBut.trans (kp_ (w := w)) (KeepBut.of_below hb g none) (.inl rfl)); replace HB := AM (below_step (belg_ (IsS120.ge HI0.out)) hb); replace HI0 := AM (IsS120.below is120_ hb); clear hb ho4) | ((with_reducible refine gate_callee (f := 64) rfl ?_); refine gl_ (some 8) Tryd.func64 #[.pointer (some ⟨g, 0, none⟩), .int .i64 5] ?_; (with_reducible refine (spec_l01Src_n.calls g s0_0 s0_1 s0_2 s0_3 5 t238 t239 t240 t241 w0 _ ?side1 ?side2 A2.out).mono ?_); (case side1 => repeat (first | (with_reducible first | exact HI0.out | apply IsS120.alloc | apply IsS120.drewN | apply IsS120.drew | apply IsS120.set_1 | apply IsS120.set_2 | apply IsS120.set_3) | exact HI0.out)); (case side2 => repeat (first | (with_reducible first | exact HB.out | apply below_alloc | apply pw_below_drewN | apply below_drew1 | refine below_set ?_ (IsS120.ge HI0.out)) | exact HB.out)); rintro e w5 ⟨rfl, hi, hb, hk⟩; refine ⟨_, rfl, ?_⟩; replace HO237 := AM (Kd.R_mono (Kd.R_keep (IsS120.apart (show IsS120 w0 _ g s0_0 s0_1 s0_2 s0_3 from is120_) (ro_ HO237.out) (by decide)) hk (fun _ h => h.2)) (fun _ h => h.1)); replace HK := AM (KeepBut.trans (kp_ (w := w)) hk (.inl rfl)); replace HB := AM hb; replace HI0 := AM hi; (try clear hb); (try clear hb2); (try clear hk); (try clear hi)))
  go_loopg [3, 4] k (fun kq v3 v4 w' => ∃ (x3_1 : List (S64)) (x4_1 : Int) (x1001_1 : Int) (x1002_1 : Int) (x1003_1 : Int), v4 = .int .i64 x4_1 ∧ Aside0 (spec_l01Src_l07Blobs.l0 kq x3_1 x4_1 s0_0 x1001_1 x1002_1 x1003_1 = some (r1, r2, r3, r4)) ∧ Aside0 (kq ≤ k) ∧ Aside0 (Kd.R k64 64 w' w.heap.size (fun _ => True) v3 x3_1) ∧ Aside0 (IsS120 w0 w' g s0_0 x1001_1 x1002_1 x1003_1) ∧ Aside0 (KeepBut w w' g none) ∧ Aside0 (Below w0.heap.size w0 w'))
  case atStart => exact ⟨(y235), (t238), (t239), (t240), (t241), (by first | rfl | (simp; done) | (simp [*]; done)), H', ⟨Nat.le_refl _⟩, ⟨ro_ HO237.out⟩, ⟨is120_⟩, ⟨kp_⟩, ⟨belg_ (IsS120.ge HI0.out)⟩⟩
  case round =>
    clear H'
    try clear p2
    obtain ⟨x3_1, x4_1, x1001_1, x1002_1, x1003_1, rfl, HA, HK1, HO_3, HI0, HK, HB⟩ := hrel
    cases gk with
    | zero => exact absurd HA.out (by simp [spec_l01Src_l07Blobs.l0])
    | succ k1 =>
      have H := HA.out
      clear HA
      simp only [spec_l01Src_l07Blobs.l0] at H
      by_cases c6 : x4_1 > 0
      · rw [if_pos c6] at H
        have c6b0 : decide (0 < x4_1) = true := decide_eq_true c6
        clear c6
        obtain ⟨⟨t242, t243, t244, t245, t246⟩, A7, H⟩ := OB H
        try dsimp only at H
        replace A7 := AM A7
        by_cases c8 : x3_1.length < 5864062014805
        · rw [if_pos c8] at H
          have LMc8 := AM c8
          clear c8
          obtain ⟨y247, hy247⟩ : ∃ y_ : List (S64), y_ = (x3_1 ++ [(⟨t242, t243⟩ : S64)]) := ⟨_, rfl⟩
          replace H : (spec_l01Src_l07Blobs.l0 k1 y247 (wrap64 (x4_1 - 1)) s0_0 t244 t245 t246) = some (r1, r2, r3, r4) := by first | (rw [hy247]; with_reducible exact H) | (have H2_ := (Option.bind_some _ _).symm.trans H; rw [hy247]; with_reducible exact H2_) | (have H2_ := (Option.bind_some _ _).symm.trans H; with_reducible exact H2_) | with_reducible exact H | (rw [hy247]; exact H) | exact H
          have Ny247 := AM hy247
          clear hy247
          have H' := AM H
          clear H
          go_wp2_with (first | ((with_reducible refine gate_callee (f := 119) rfl ?_); refine gl_ (some 15) Tryd.func119 #[.pointer (some ⟨g, 0, none⟩)] ?_; (with_reducible refine (spec_l01Src_l07Blob.calls k1 g s0_0 x1001_1 x1002_1 x1003_1 t242 t243 t244 t245 t246 w0 _ ?side1 ?side2 A7.out).mono ?_); (case side1 => repeat (first | (with_reducible first | exact HI0.out | apply IsS120.alloc | apply IsS120.drewN | apply IsS120.drew | apply IsS120.set_1 | apply IsS120.set_2 | apply IsS120.set_3) | exact HI0.out)); (case side2 => repeat (first | (with_reducible first | exact HB.out | apply below_alloc | apply pw_below_drewN | apply below_drew1 | refine below_set ?_ (IsS120.ge HI0.out)) | exact HB.out)); rintro e w9 ⟨rfl, hi, hb, hk⟩; refine ⟨_, rfl, ?_⟩; replace HO_3 := AM (Kd.R_mono (Kd.R_keep (IsS120.apart (show IsS120 w0 _ g s0_0 x1001_1 x1002_1 x1003_1 from is120_) (ro_ HO_3.out) (by decide)) hk (fun _ h => h.2)) (fun _ h => h.1)); replace HK := AM (KeepBut.trans (kp_ (w := w)) hk (.inl rfl)); replace HB := AM hb; replace HI0 := AM hi; (try clear hb); (try clear hb2); (try clear hk); (try clear hi)) | ((with_reducible refine gate_builtin (b := .append) (xs := #[.tmp 13, .tmp 16]) rfl ?_); at_builtin; refine Kd.R_append k64 w.heap.size rfl (.tmp 13) (.tmp 16) 57 64 (.agg #[(.int .i64 0), (.string ⟨#[]⟩)]) 24 rfl Tryd.underlying57 info64 rfl (by decide) (by omega) u3 x3_1 (⟨t242, t243⟩ : S64) [.int .i64 t242, .string t243] (fun _ => True) (fun _ => False) rfl rfl ?aP (fun _ hk => hk.elim) ?aF ?aO (Below.refl _ _) ?aS ?aL ?_; (case aP => exact k64_mkM _ _ _ (⟨t242, t243⟩ : S64)); (case aF => exact (fun _ _ => trivial)); (case aO => exact (ro_ HO_3.out)); (case aS => exact (keep_size (w := w) (g := g) (row := none) kp_)); (case aL => have := LMc8.out; omega); intro v248 w10 ho hb hg hat; rw [← Ny247.out] at ho; have n0_ := AM (IsS120.grown is120_ hg (IsS120.own_ne HI0.out HO_3.out (by decide))); have n1_ := AM (below_weaken (belg_ (IsS120.ge HI0.out)) HL.out hb); have n2_ := AM (KeepBut.trans (kp_ (w := w)) (KeepBut.of_grown hg g) (Kd.R_base2 HO_3.out)); have n3_ := AM ho; clear HI0; clear HB; clear HK; clear HO_3; have HI0 := n0_; have HB := n1_; have HK := n2_; have HO249 := n3_; clear n0_ n1_ n2_ n3_; clear ho hb hg hat))
          go_roundg k1
          case measure => have := HK1.out; omega
          case rel => exact ⟨(y247), (wrap64 (x4_1 - 1)), (t244), (t245), (t246), (by first | rfl | (simp; done) | (simp [*]; done)), H', ⟨by have := HK1.out; omega⟩, ⟨ro_ HO249.out⟩, ⟨is120_⟩, ⟨kp_⟩, ⟨belg_ (IsS120.ge HI0.out)⟩⟩
        · rw [if_neg c8] at H
          exact absurd H (by simp)
      · rw [if_neg c6] at H
        have c6b0 : decide (0 < x4_1) = false := decide_eq_false c6
        clear c6
        have HC11 := AM H
        clear H
        go_upto_region 6 with (fail)
        go_cut [24] (fun v24 wc => ∃ (kq : Nat) (x24_10 : Bool) (x1001_10 : Int) (x1002_10 : Int) (x1003_10 : Int), v24 = .bool x24_10 ∧ Aside0 (spec_l01Src_l07Blobs.j1 kq x3_1 x24_10 s0_0 x1001_10 x1002_10 x1003_10 = some (r1, r2, r3, r4)) ∧ Aside0 (kq ≤ k1) ∧ Aside0 (Kd.R k64 64 wc w.heap.size (fun _ => True) u3 x3_1) ∧ Aside0 (IsS120 w0 wc g s0_0 x1001_10 x1002_10 x1003_10) ∧ Aside0 (KeepBut w wc g none) ∧ Aside0 (Below w0.heap.size w0 wc))
        case first =>
          have H := HC11.out
          clear HC11
          by_cases c12 : (x3_1.length : Int) > 0
          · rw [if_pos c12] at H
            have c12b0 : decide (0 < (x3_1.length : Int)) = true := decide_eq_true c12
            have c12b1 : decide (0 < x3_1.length) = true := decide_eq_true (by omega)
            clear c12
            (first | rw [c12b0] | (simp only [i64_w, i32_w]; rw [c12b0]) | skip)
            obtain ⟨⟨t250, t251, t252, t253⟩, A13, H⟩ := OB H
            try dsimp only at H
            replace A13 := AM A13
            have H' := AM H
            clear H
            obtain ⟨Ao14, co14, eo14⟩ := Kd.R_slice HO_3.out
            subst eo14
            go_wp2_with (first | (go_at_call 120; (with_reducible refine (spec_l01Src_one.calls g s0_0 x1001_1 x1002_1 x1003_1 15 t250 t251 t252 t253 w0 _ ?side1 ?side2 A13.out).mono ?_); (case side1 => repeat (first | (with_reducible first | exact HI0.out | apply IsS120.alloc | apply IsS120.drewN | apply IsS120.drew | apply IsS120.set_1 | apply IsS120.set_2 | apply IsS120.set_3) | exact HI0.out)); (case side2 => repeat (first | (with_reducible first | exact HB.out | apply below_alloc | apply pw_below_drewN | apply below_drew1 | refine below_set ?_ (IsS120.ge HI0.out)) | exact HB.out)); rintro e w15 ⟨rfl, hi, hb, hk⟩; replace HO_3 := AM (Kd.R_mono (Kd.R_keep (IsS120.apart (show IsS120 w0 _ g s0_0 x1001_1 x1002_1 x1003_1 from is120_) (ro_ HO_3.out) (by decide)) hk (fun _ h => h.2)) (fun _ h => h.1)); replace HK := AM (KeepBut.trans (kp_ (w := w)) hk (.inl rfl)); replace HB := AM hb; replace HI0 := AM hi; (try clear hb); (try clear hb2); (try clear hk); (try clear hi)))
            go_meet
            case rel => exact ⟨_, (t250), (t251), (t252), (t253), (by first | rfl | (simp; done) | (simp [*]; done)), H', ⟨by have := HK1.out; first | omega | exact Nat.le_refl _⟩, ⟨ro_ HO_3.out⟩, ⟨is120_⟩, ⟨kp_⟩, ⟨belg_ (IsS120.ge HI0.out)⟩⟩
          · rw [if_neg c12] at H
            have c12b0 : decide (0 < (x3_1.length : Int)) = false := decide_eq_false c12
            have c12b1 : decide (0 < x3_1.length) = false := decide_eq_false (by omega)
            clear c12
            (first | rw [c12b0] | (simp only [i64_w, i32_w]; rw [c12b0]) | skip)
            have H' := AM H
            clear H
            obtain ⟨Ao16, co16, eo16⟩ := Kd.R_slice HO_3.out
            subst eo16
            go_wp2
            go_meet
            case rel => exact ⟨_, (false), (x1001_1), (x1002_1), (x1003_1), (by first | rfl | (simp; done) | (simp [*]; done)), H', ⟨by have := HK1.out; first | omega | exact Nat.le_refl _⟩, ⟨ro_ HO_3.out⟩, ⟨is120_⟩, ⟨kp_⟩, ⟨belg_ (IsS120.ge HI0.out)⟩⟩
        case rest =>
          clear HC11
          try clear c1
          try clear p2
          try clear c6
          try clear c6b0
          try clear p6
          try clear c8
          try clear c11
          try clear c12
          try clear c12b0
          try clear c12b1
          try clear p2
          obtain ⟨kq, x24_10, x1001_10, x1002_10, x1003_10, rfl, HA, HJ10, HO_3, HI0, HK, HB⟩ := hcut
          cases kq with
          | zero => exact absurd HA.out (by simp [spec_l01Src_l07Blobs.j1])
          | succ kj10 =>
            have H := HA.out
            clear HA
            simp only [spec_l01Src_l07Blobs.j1] at H
            have HC17 := AM H
            clear H
            go_upto_if 24 with (fail)
            go_cut [3] (fun v3 wc => ∃ (kq : Nat) (x3_16 : List (S64)), Aside0 (spec_l01Src_l07Blobs.j2 kq x3_16 s0_0 x1001_10 x1002_10 x1003_10 = some (r1, r2, r3, r4)) ∧ Aside0 (kq ≤ kj10) ∧ Aside0 (Kd.R k64 64 wc w.heap.size (fun _ => True) v3 x3_16) ∧ Aside0 (IsS120 w0 wc g s0_0 x1001_10 x1002_10 x1003_10) ∧ Aside0 (KeepBut w wc g none) ∧ Aside0 (Below w0.heap.size w0 wc))
            case first =>
              have H := HC17.out
              clear HC17
              by_cases c18 : x24_10 = true
              · subst c18
                rw [if_pos rfl] at H
                by_cases c19 : 0 < (x3_1.length : Int)
                · rw [if_pos c19] at H
                  have c19b0 : decide (0 < (x3_1.length : Int)) = true := decide_eq_true c19
                  have c19b1 : decide (0 < x3_1.length) = true := decide_eq_true (by omega)
                  clear c19
                  (first | rw [c19b0] | (simp only [i64_w, i32_w]; rw [c19b0]) | skip)
                  by_cases c20 : x3_1.length < 5864062014805
                  · rw [if_pos c20] at H
                    have LMc20 := AM c20
                    clear c20
                    obtain ⟨y255, hy255⟩ : ∃ y_ : List (S64), y_ = (x3_1 ++ [(⟨(rd_T64 x3_1 0).f0, (rd_T64 x3_1 0).f1⟩ : S64)]) := ⟨_, rfl⟩
                    replace H : (spec_l01Src_l07Blobs.j2 kj10 y255 s0_0 x1001_10 x1002_10 x1003_10) = some (r1, r2, r3, r4) := by first | (rw [hy255]; with_reducible exact H) | (have H2_ := (Option.bind_some _ _).symm.trans H; rw [hy255]; with_reducible exact H2_) | (have H2_ := (Option.bind_some _ _).symm.trans H; with_reducible exact H2_) | with_reducible exact H | (rw [hy255]; exact H) | exact H
                    have Ny255 := AM hy255
                    clear hy255
                    have H' := AM H
                    clear H
                    obtain ⟨Ao21, co21, eo21⟩ := Kd.R_slice HO_3.out
                    subst eo21
                    have p254 : 0 ≤ (0 : Int) := (by omega)
                    have q254 : 0 < (x3_1.length : Int) := of_decide_eq_true (by first | (with_reducible assumption) | assumption)
                    obtain ⟨ad254, e254, hx254_0, hx254_1⟩ := at_T64 (Kd.R_reads' HO_3.out).2.2 0 p254 q254
                    cases e254
                    have qi254 : (0 < x3_1.length) = True := eq_true (by omega)
                    (try rw [show ((0 : Int)).toNat = 0 from rfl] at hx254_0)
                    (try rw [show 0 * 2 = 0 from rfl] at hx254_0)
                    (try rw [Addr.add_zero'] at hx254_0)
                    (try rw [show ((0 : Int)).toNat = 0 from rfl] at hx254_1)
                    (try rw [show 0 * 2 = 0 from rfl] at hx254_1)
                    (try rw [Addr.add_zero'] at hx254_1)
                    replace p254 := eq_true p254
                    replace q254 := eq_true q254
                    go_wp2_with (first | ((with_reducible refine gate_builtin (b := .append) (xs := #[.tmp 25, .tmp 29]) rfl ?_); at_builtin; refine Kd.R_append k64 w.heap.size rfl (.tmp 25) (.tmp 29) 57 64 (.agg #[(.int .i64 0), (.string ⟨#[]⟩)]) 24 rfl Tryd.underlying57 info64 rfl (by decide) (by omega) (.slice (some ad254) x3_1.length co21) x3_1 (⟨(rd_T64 x3_1 0).f0, (rd_T64 x3_1 0).f1⟩ : S64) [.int .i64 ((rd_T64 x3_1 0).f0), .string ((rd_T64 x3_1 0).f1)] (fun _ => True) (fun _ => False) rfl rfl ?aP (fun _ hk => hk.elim) ?aF ?aO (Below.refl _ _) ?aS ?aL ?_; (case aP => exact k64_mkM _ _ _ (⟨(rd_T64 x3_1 0).f0, (rd_T64 x3_1 0).f1⟩ : S64)); (case aF => exact (fun _ _ => trivial)); (case aO => exact (ro_ HO_3.out)); (case aS => exact (keep_size (w := w) (g := g) (row := none) kp_)); (case aL => have := LMc20.out; omega); intro v256 w22 ho hb hg hat; rw [← Ny255.out] at ho; have n0_ := AM (IsS120.grown is120_ hg (IsS120.own_ne HI0.out HO_3.out (by decide))); have n1_ := AM (below_weaken (belg_ (IsS120.ge HI0.out)) HL.out hb); have n2_ := AM (KeepBut.trans (kp_ (w := w)) (KeepBut.of_grown hg g) (Kd.R_base2 HO_3.out)); have n3_ := AM ho; clear HI0; clear HB; clear HK; clear HO_3; have HI0 := n0_; have HB := n1_; have HK := n2_; have HO257 := n3_; clear n0_ n1_ n2_ n3_; clear ho hb hg hat))
                    go_meet
                    case rel => exact ⟨_, (y255), H', ⟨by have := HK1.out; have := HJ10.out; first | omega | exact Nat.le_refl _⟩, ⟨ro_ HO257.out⟩, ⟨is120_⟩, ⟨kp_⟩, ⟨belg_ (IsS120.ge HI0.out)⟩⟩
                  · rw [if_neg c20] at H
                    exact absurd H (by simp)
                · rw [if_neg c19] at H
                  exact absurd H (by simp)
              · replace c18 := Bool.eq_false_iff.mpr c18
                subst c18
                rw [if_neg (show ¬ (false = true) by decide)] at H
                have H' := AM H
                clear H
                go_wp2
                go_meet
                case rel => exact ⟨_, (x3_1), H', ⟨by have := HK1.out; have := HJ10.out; first | omega | exact Nat.le_refl _⟩, ⟨ro_ HO_3.out⟩, ⟨is120_⟩, ⟨kp_⟩, ⟨belg_ (IsS120.ge HI0.out)⟩⟩
            case rest =>
              clear HC17
              try clear c1
              try clear c2
              try clear p2
              try clear q2
              try clear hx2
              try clear qi2
              try clear c6
              try clear c6b0
              try clear p6
              try clear c8
              try clear c11
              try clear c12
              try clear c12b0
              try clear c12b1
              try clear c18
              try clear c19
              try clear c19b0
              try clear c19b1
              try clear c20
              try clear hx254_0
              try clear hx254_1
              try clear p2
              try clear p254
              try clear p6
              try clear q254
              obtain ⟨kq, x3_16, HA, HJ16, HO_3, HI0, HK, HB⟩ := hcut
              cases kq with
              | zero => exact absurd HA.out (by simp [spec_l01Src_l07Blobs.j2])
              | succ kj16 =>
                have H := HA.out
                clear HA
                simp only [spec_l01Src_l07Blobs.j2] at H
                obtain ⟨⟨t258, t259, t260, t261⟩, A23, H⟩ := OB H
                try dsimp only at H
                replace A23 := AM A23
                by_cases c24 : t258 = true
                · subst c24
                  rw [if_pos rfl] at H
                  have H' := AM H
                  clear H
                  go_wp2_with (first | ((with_reducible refine gate_callee (f := 120) rfl ?_); refine gl_ (some 32) Tryd.func120 #[.pointer (some ⟨g, 0, none⟩), .int .i64 40] ?_; (with_reducible refine (spec_l01Src_one.calls g s0_0 x1001_10 x1002_10 x1003_10 40 true t259 t260 t261 w0 _ ?side1 ?side2 A23.out).mono ?_); (case side1 => repeat (first | (with_reducible first | exact HI0.out | apply IsS120.alloc | apply IsS120.drewN | apply IsS120.drew | apply IsS120.set_1 | apply IsS120.set_2 | apply IsS120.set_3) | exact HI0.out)); (case side2 => repeat (first | (with_reducible first | exact HB.out | apply below_alloc | apply pw_below_drewN | apply below_drew1 | refine below_set ?_ (IsS120.ge HI0.out)) | exact HB.out)); rintro e w25 ⟨rfl, hi, hb, hk⟩; refine ⟨_, rfl, ?_⟩; replace HO_3 := AM (Kd.R_mono (Kd.R_keep (IsS120.apart (show IsS120 w0 _ g s0_0 x1001_10 x1002_10 x1003_10 from is120_) (ro_ HO_3.out) (by decide)) hk (fun _ h => h.2)) (fun _ h => h.1)); replace HK := AM (KeepBut.trans (kp_ (w := w)) hk (.inl rfl)); replace HB := AM hb; replace HI0 := AM hi; (try clear hb); (try clear hb2); (try clear hk); (try clear hi)))
                  go_loopg [3, 5] kj16 (fun kq v3 v5 w' => ∃ (x3_4 : List (S64)) (x5_4 : Int) (x1001_4 : Int) (x1002_4 : Int) (x1003_4 : Int), v5 = .int .i64 x5_4 ∧ Aside0 (spec_l01Src_l07Blobs.l1 kq x3_4 x5_4 s0_0 x1001_4 x1002_4 x1003_4 = some (r1, r2, r3, r4)) ∧ Aside0 (kq ≤ kj16) ∧ Aside0 (Kd.R k64 64 w' w.heap.size (fun _ => True) v3 x3_4) ∧ Aside0 (IsS120 w0 w' g s0_0 x1001_4 x1002_4 x1003_4) ∧ Aside0 (KeepBut w w' g none) ∧ Aside0 (Below w0.heap.size w0 w'))
                  case atStart => exact ⟨(x3_16), (0), (t259), (t260), (t261), (by first | rfl | (simp; done) | (simp [*]; done)), H', ⟨Nat.le_refl _⟩, ⟨ro_ HO_3.out⟩, ⟨is120_⟩, ⟨kp_⟩, ⟨belg_ (IsS120.ge HI0.out)⟩⟩
                  case round =>
                    clear H'
                    try clear c1
                    try clear c2
                    try clear p2
                    try clear q2
                    try clear hx2
                    try clear qi2
                    try clear c6
                    try clear c6b0
                    try clear p6
                    try clear c8
                    try clear c11
                    try clear c12
                    try clear c12b0
                    try clear c12b1
                    try clear c18
                    try clear c19
                    try clear c19b0
                    try clear c19b1
                    try clear c20
                    try clear c24
                    try clear p25
                    try clear q25
                    try clear hx25
                    try clear qi25
                    try clear hx254_0
                    try clear hx254_1
                    try clear p2
                    try clear p254
                    try clear p6
                    try clear q2
                    try clear q254
                    obtain ⟨x3_4, x5_4, x1001_4, x1002_4, x1003_4, rfl, HA, HK4, HO_3, HI0, HK, HB⟩ := hrel
                    cases gk with
                    | zero => exact absurd HA.out (by simp [spec_l01Src_l07Blobs.l1])
                    | succ k4 =>
                      have H := HA.out
                      clear HA
                      simp only [spec_l01Src_l07Blobs.l1] at H
                      obtain ⟨⟨t262, t263, t264, t265⟩, A26, H⟩ := OB H
                      try dsimp only at H
                      replace A26 := AM A26
                      by_cases c27 : (x3_4.length : Int) < (wrap64 (39 + t262))
                      · rw [if_pos c27] at H
                        have c27b0 : decide ((x3_4.length : Int) < (wrap64 (39 + t262))) = true := decide_eq_true c27
                        try have c27b9 : (decide ((x3_4.length : Int) < ((39 + t262)))) = true := (by have hw0 : wrap64 (39 + t262) = 39 + t262 := (by unfold wrap64; omega); have z_ := c27b0; simp only [hw0] at z_; exact z_)
                        clear c27
                        obtain ⟨t266, A28, H⟩ := OB H
                        try dsimp only at H
                        replace A28 := AM A28
                        by_cases c29 : t266.size + 1 ≤ 9223372036854775807
                        · rw [if_pos c29] at H
                          have c29b0 := eq_true c29
                          have c29b1 : decide (t266.size + 1 ≤ 9223372036854775807) = true := decide_eq_true c29
                          try have c27b8 : (decide ((x3_4.length : Int) < ((39 + t262)))) = true := (by have hw0 : wrap64 (39 + t262) = 39 + t262 := (by unfold wrap64; omega); have z_ := c27b0; simp only [hw0] at z_; exact z_)
                          try have c29b2 : (9223372036854775807 < t266.size + 1) = False := eq_false (Nat.not_lt.2 c29)
                          by_cases c30 : x3_4.length < 5864062014805
                          · rw [if_pos c30] at H
                            have LMc30 := AM c30
                            clear c30
                            obtain ⟨y267, hy267⟩ : ∃ y_ : List (S64), y_ = (x3_4 ++ [(⟨1, t266 ++ (⟨#[121]⟩ : ByteArray)⟩ : S64)]) := ⟨_, rfl⟩
                            replace H : (spec_l01Src_l07Blobs.l1 k4 y267 (wrap64 (x5_4 + 1)) s0_0 t263 t264 t265) = some (r1, r2, r3, r4) := by first | (rw [hy267]; with_reducible exact H) | (have H2_ := (Option.bind_some _ _).symm.trans H; rw [hy267]; with_reducible exact H2_) | (have H2_ := (Option.bind_some _ _).symm.trans H; with_reducible exact H2_) | with_reducible exact H | (rw [hy267]; exact H) | exact H
                            have Ny267 := AM hy267
                            clear hy267
                            have H' := AM H
                            clear H
                            obtain ⟨Ao31, co31, eo31⟩ := Kd.R_slice HO_3.out
                            subst eo31
                            go_wp2_with (first | ((with_reducible refine gate_callee (f := 64) rfl ?_); refine gl_ (some 36) Tryd.func64 #[.pointer (some ⟨g, 0, none⟩), .int .i64 3] ?_; (with_reducible refine (spec_l01Src_n.calls g s0_0 x1001_4 x1002_4 x1003_4 3 t262 t263 t264 t265 w0 _ ?side1 ?side2 A26.out).mono ?_); (case side1 => repeat (first | (with_reducible first | exact HI0.out | apply IsS120.alloc | apply IsS120.drewN | apply IsS120.drew | apply IsS120.set_1 | apply IsS120.set_2 | apply IsS120.set_3) | exact HI0.out)); (case side2 => repeat (first | (with_reducible first | exact HB.out | apply below_alloc | apply pw_below_drewN | apply below_drew1 | refine below_set ?_ (IsS120.ge HI0.out)) | exact HB.out)); rintro e w32 ⟨rfl, hi, hb, hk⟩; refine ⟨_, rfl, ?_⟩; replace HO_3 := AM (Kd.R_mono (Kd.R_keep (IsS120.apart (show IsS120 w0 _ g s0_0 x1001_4 x1002_4 x1003_4 from is120_) (ro_ HO_3.out) (by decide)) hk (fun _ h => h.2)) (fun _ h => h.1)); replace HK := AM (KeepBut.trans (kp_ (w := w)) hk (.inl rfl)); replace HB := AM hb; replace HI0 := AM hi; (try clear hb); (try clear hb2); (try clear hk); (try clear hi)) | ((with_reducible refine gate_callee (f := 121) rfl ?_); refine gl_ (some 43) Tryd.func121 #[.int .i64 x5_4] ?_; (with_reducible refine (spec_l01Dec.calls k4 x5_4 t266 _ A28.out).mono ?_); rintro e w33 ⟨rfl, hb⟩; refine ⟨_, rfl, ?_⟩; replace HO_3 := AM (Kd.R_below (ro_ HO_3.out) hb); replace HK := AM (KeepBut.trans (kp_ (w := w)) (KeepBut.of_below hb g none) (.inl rfl)); replace HB := AM (below_step (belg_ (IsS120.ge HI0.out)) hb); replace HI0 := AM (IsS120.below is120_ hb); (try clear hb); (try clear hb2); (try clear hk); (try clear hi)) | ((with_reducible refine gate_builtin (b := .append) (xs := #[.tmp 41, .tmp 46]) rfl ?_); at_builtin; refine Kd.R_append k64 w.heap.size rfl (.tmp 41) (.tmp 46) 57 64 (.agg #[(.int .i64 0), (.string ⟨#[]⟩)]) 24 rfl Tryd.underlying57 info64 rfl (by decide) (by omega) (.slice Ao31 x3_4.length co31) x3_4 (⟨1, t266 ++ (⟨#[121]⟩ : ByteArray)⟩ : S64) [.int .i64 1, .string (t266 ++ (⟨#[121]⟩ : ByteArray))] (fun _ => True) (fun _ => False) rfl rfl ?aP (fun _ hk => hk.elim) ?aF ?aO (Below.refl _ _) ?aS ?aL ?_; (case aP => exact k64_mkM _ _ _ (⟨1, t266 ++ (⟨#[121]⟩ : ByteArray)⟩ : S64)); (case aF => exact (fun _ _ => trivial)); (case aO => exact (ro_ HO_3.out)); (case aS => exact (keep_size (w := w) (g := g) (row := none) kp_)); (case aL => have := LMc30.out; omega); intro v268 w34 ho hb hg hat; rw [← Ny267.out] at ho; have n0_ := AM (IsS120.grown is120_ hg (IsS120.own_ne HI0.out HO_3.out (by decide))); have n1_ := AM (below_weaken (belg_ (IsS120.ge HI0.out)) HL.out hb); have n2_ := AM (KeepBut.trans (kp_ (w := w)) (KeepBut.of_grown hg g) (Kd.R_base2 HO_3.out)); have n3_ := AM ho; clear HI0; clear HB; clear HK; clear HO_3; have HI0 := n0_; have HB := n1_; have HK := n2_; have HO269 := n3_; clear n0_ n1_ n2_ n3_; clear ho hb hg hat))
                            go_roundg k4
                            case measure => have := HK1.out; have := HJ10.out; have := HJ16.out; have := HK4.out; omega
                            case rel => exact ⟨(y267), (wrap64 (x5_4 + 1)), (t263), (t264), (t265), (by first | rfl | (simp; done) | (simp [*]; done)), H', ⟨by have := HK1.out; have := HJ10.out; have := HJ16.out; have := HK4.out; omega⟩, ⟨ro_ HO269.out⟩, ⟨is120_⟩, ⟨kp_⟩, ⟨belg_ (IsS120.ge HI0.out)⟩⟩
                          · rw [if_neg c30] at H
                            exact absurd H (by simp)
                        · rw [if_neg c29] at H
                          exact absurd H (by simp)
                      · rw [if_neg c27] at H
                        have c27b0 : decide ((x3_4.length : Int) < (wrap64 (39 + t262))) = false := decide_eq_false c27
                        try have c27b9 : (decide ((x3_4.length : Int) < ((39 + t262)))) = false := (by have hw0 : wrap64 (39 + t262) = 39 + t262 := (by unfold wrap64; omega); have z_ := c27b0; simp only [hw0] at z_; exact z_)
                        clear c27
                        simp only [Option.some.injEq, Prod.mk.injEq] at H
                        obtain ⟨rfl, rfl, rfl, rfl⟩ := H
                        obtain ⟨Ao35, co35, eo35⟩ := Kd.R_slice HO_3.out
                        subst eo35
                        go_wp2_with (first | ((with_reducible refine gate_callee (f := 64) rfl ?_); refine gl_ (some 36) Tryd.func64 #[.pointer (some ⟨g, 0, none⟩), .int .i64 3] ?_; (with_reducible refine (spec_l01Src_n.calls g s0_0 x1001_4 x1002_4 x1003_4 3 t262 t263 t264 t265 w0 _ ?side1 ?side2 A26.out).mono ?_); (case side1 => repeat (first | (with_reducible first | exact HI0.out | apply IsS120.alloc | apply IsS120.drewN | apply IsS120.drew | apply IsS120.set_1 | apply IsS120.set_2 | apply IsS120.set_3) | exact HI0.out)); (case side2 => repeat (first | (with_reducible first | exact HB.out | apply below_alloc | apply pw_below_drewN | apply below_drew1 | refine below_set ?_ (IsS120.ge HI0.out)) | exact HB.out)); rintro e w36 ⟨rfl, hi, hb, hk⟩; refine ⟨_, rfl, ?_⟩; replace HO_3 := AM (Kd.R_mono (Kd.R_keep (IsS120.apart (show IsS120 w0 _ g s0_0 x1001_4 x1002_4 x1003_4 from is120_) (ro_ HO_3.out) (by decide)) hk (fun _ h => h.2)) (fun _ h => h.1)); replace HK := AM (KeepBut.trans (kp_ (w := w)) hk (.inl rfl)); replace HB := AM hb; replace HI0 := AM hi; (try clear hb); (try clear hb2); (try clear hk); (try clear hi)))
                        go_ret
                        exact ⟨_, ri_, ro_ HO_3.out, is120_, belg_ (IsS120.ge HI0.out), kp_⟩
                · replace c24 := Bool.eq_false_iff.mpr c24
                  subst c24
                  rw [if_neg (show ¬ (false = true) by decide)] at H
                  simp only [Option.some.injEq, Prod.mk.injEq] at H
                  obtain ⟨rfl, rfl, rfl, rfl⟩ := H
                  go_wp2_with (first | ((with_reducible refine gate_callee (f := 120) rfl ?_); refine gl_ (some 32) Tryd.func120 #[.pointer (some ⟨g, 0, none⟩), .int .i64 40] ?_; (with_reducible refine (spec_l01Src_one.calls g s0_0 x1001_10 x1002_10 x1003_10 40 false t259 t260 t261 w0 _ ?side1 ?side2 A23.out).mono ?_); (case side1 => repeat (first | (with_reducible first | exact HI0.out | apply IsS120.alloc | apply IsS120.drewN | apply IsS120.drew | apply IsS120.set_1 | apply IsS120.set_2 | apply IsS120.set_3) | exact HI0.out)); (case side2 => repeat (first | (with_reducible first | exact HB.out | apply below_alloc | apply pw_below_drewN | apply below_drew1 | refine below_set ?_ (IsS120.ge HI0.out)) | exact HB.out)); rintro e w37 ⟨rfl, hi, hb, hk⟩; refine ⟨_, rfl, ?_⟩; replace HO_3 := AM (Kd.R_mono (Kd.R_keep (IsS120.apart (show IsS120 w0 _ g s0_0 x1001_10 x1002_10 x1003_10 from is120_) (ro_ HO_3.out) (by decide)) hk (fun _ h => h.2)) (fun _ h => h.1)); replace HK := AM (KeepBut.trans (kp_ (w := w)) hk (.inl rfl)); replace HB := AM hb; replace HI0 := AM hi; (try clear hb); (try clear hb2); (try clear hk); (try clear hi)))
                  go_ret
                  exact ⟨_, ri_, ro_ HO_3.out, is120_, belg_ (IsS120.ge HI0.out), kp_⟩

/-! ### spec_DrawPackBytes: function 40 -/
def spec_DrawPackBytes.f (k : Nat) (l0 : List Int) : Option ((List (S64))) := (spec_l01Source.f k l0).bind fun bt270 => ((spec_l01Src_l07Blobs.f k bt270.1 bt270.2.1 bt270.2.2.1 bt270.2.2.2).bind fun bt275 => (some bt275.1))
theorem spec_DrawPackBytes.mono : ∀ a0 k, LeO (spec_DrawPackBytes.f k a0) (spec_DrawPackBytes.f (k + 1) a0) := by
  intro a0 k
  unfold spec_DrawPackBytes.f
  repeat' first
      | (with_reducible exact spec_l01Source.mono _ _)
      | (with_reducible exact spec_l01Src_l07Blobs.mono _ _ _ _ _)
      | (with_reducible exact LeO.refl _)
      | (with_reducible exact LeO.none _)
      | (with_reducible refine LeO.ite ?_ ?_)
      | (with_reducible refine LeO.bind ?_ (fun _ => ?_))
      | exact spec_l01Source.mono _ _
      | exact spec_l01Src_l07Blobs.mono _ _ _ _ _
      | exact LeO.none _
      | refine LeO.ite ?_ ?_
      | refine LeO.bind ?_ (fun _ => ?_)
set_option maxHeartbeats 8000000 in
set_option maxRecDepth 100000 in
theorem spec_DrawPackBytes.calls (k : Nat) (A0 : Option Addr) (c0 : Nat) (l0 : List Int) (r : List (S64)) (w : World) (hr0 : Kd.C (Kd.int .u8) w A0 l0.length l0) (hc0 : l0.length ≤ c0) (h : spec_DrawPackBytes.f k l0 = some r) :
    Calls Tryd.prog 40 #[.slice A0 l0.length c0] w fun e w' => ∃ v0_ : Value, e = .returned (v0_) ∧ Kd.R k64 64 w' w.heap.size (fun _ => True) v0_ r ∧ Below w.heap.size w w' := by
  have HR0 := AM hr0
  have HC0 := AM hc0
  clear hr0 hc0
  have HB := AM (Below.refl w.heap.size w)
  have H : ((spec_l01Source.f k l0).bind fun bt270 => ((spec_l01Src_l07Blobs.f k bt270.1 bt270.2.1 bt270.2.2.1 bt270.2.2.2).bind fun bt275 => (some bt275.1))) = some r := h
  clear h
  obtain ⟨⟨t270, t271, t272, t273⟩, A2, H⟩ := OB H
  try dsimp only at H
  replace A2 := AM A2
  obtain ⟨⟨t275, t278, t279, t280⟩, A3, H⟩ := OB H
  try dsimp only at H
  replace A3 := AM A3
  obtain rfl := Option.some.inj H
  go_enter Tryd.func40, Tryd.ntmps40
  go_wp2_with (first | ((with_reducible refine gate_callee (f := 62) rfl ?_); refine gl_ (some 4) Tryd.func62 #[.slice A0 l0.length c0] ?_; (with_reducible refine (spec_l01Source.calls k _ _ l0 t270 t271 t272 t273 w _ ?side1 ?side2 ?side3 A2.out).mono ?_); (case side1 => repeat (first | (with_reducible first | exact HB.out | apply below_alloc | apply pw_below_drewN | apply below_drew1) | exact HB.out)); (case side2 => exact HR0.out); (case side3 => exact HC0.out); rintro e w4 ⟨g274, rfl, hi, hb, hb2⟩; refine ⟨_, rfl, ?_⟩; replace HB := AM hb; have HI274 := AM hi; (try clear hb); (try clear hb2); (try clear hk); (try clear hi)) | ((with_reducible refine gate_callee (f := 87) rfl ?_); refine gl_ (some 5) Tryd.func87 #[.pointer (some ⟨g274, 0, none⟩)] ?_; (with_reducible refine (spec_l01Src_l07Blobs.calls k g274 t270 t271 t272 t273 t275 t278 t279 t280 w _ ?side1 ?side2 A3.out).mono ?_); (case side1 => repeat (first | (with_reducible first | exact HI274.out | apply IsS120.alloc | apply IsS120.drewN | apply IsS120.drew | apply IsS120.set_1 | apply IsS120.set_2 | apply IsS120.set_3) | exact HI274.out)); (case side2 => repeat (first | (with_reducible first | exact HB.out | apply below_alloc | apply pw_below_drewN | apply below_drew1 | refine below_set ?_ (IsS120.ge HI274.out)) | exact HB.out)); rintro e w5 ⟨v276, rfl, ho0, hi, hb, hk⟩; refine ⟨_, rfl, ?_⟩; have HO277 := AM (Kd.R_lower ho0 (below_size (belg_ (IsS120.ge HI274.out)))); replace HB := AM hb; replace HI274 := AM hi; (try clear hb); (try clear hb2); (try clear hk); (try clear hi); (try clear ho0)))
  go_ret
  exact ⟨_, ri_, ro_ HO277.out, belg_ (IsS120.ge HI274.out)⟩

/-! ### spec_l05Turn: function 133 -/
def spec_l05Turn.f (a0 : Int) (a1 : Int) : Option (Int) := if 0 ≤ a1 then (if 0 ≤ (IntKind.u64.wrap (32 - a1)) then (some (Go.bits .or .u32 (shr .u32 a0 a1) (shl .u32 a0 (IntKind.u64.wrap (32 - a1))))) else (none)) else (none)
set_option maxHeartbeats 8000000 in
set_option maxRecDepth 100000 in
theorem spec_l05Turn.calls (a0 : Int) (a1 : Int) (r : Int) (w : World) (h : spec_l05Turn.f a0 a1 = some r) :
    Calls Tryd.prog 133 #[.int .u32 a0, .int .u64 a1] w fun e w' => e = .returned (.int .u32 r) ∧ Drawn0 w w' := by
  have H : (if 0 ≤ a1 then (if 0 ≤ (IntKind.u64.wrap (32 - a1)) then (some (Go.bits .or .u32 (shr .u32 a0 a1) (shl .u32 a0 (IntKind.u64.wrap (32 - a1))))) else (none)) else (none)) = some r := h
  clear h
  by_cases c3 : 0 ≤ a1
  · rw [if_pos c3] at H
    have c3b0 := eq_true c3
    have c3b1 : decide (0 ≤ a1) = true := decide_eq_true c3
    clear c3
    obtain ⟨ji4, hji4⟩ : ∃ j_ : Int, (shr .u32 a0 a1) = j_ := ⟨_, rfl⟩
    replace H : (if 0 ≤ (IntKind.u64.wrap (32 - a1)) then (some (Go.bits .or .u32 (ji4) (shl .u32 a0 (IntKind.u64.wrap (32 - a1))))) else (none)) = some r := by first | (rw [hji4] at H; exact H) | (simp only [hji4] at H ⊢; exact H)
    have hji4_ : (a0 / 2 ^ min a1.toNat 32) = ji4 := hji4
    have hji4z : a1 ≤ 32 → (a0 / 2 ^ a1.toNat) = ji4 := shr_small hji4
    obtain ⟨ji5, hji5⟩ : ∃ j_ : Int, (IntKind.u64.wrap (32 - a1)) = j_ := ⟨_, rfl⟩
    replace H : (if 0 ≤ (ji5) then (some (Go.bits .or .u32 (ji4) (shl .u32 a0 (ji5)))) else (none)) = some r := by first | (rw [hji5] at H; exact H) | (simp only [hji5] at H ⊢; exact H)
    by_cases c6 : 0 ≤ (ji5)
    · rw [if_pos c6] at H
      have c6b0 := eq_true c6
      have c6b1 : decide (0 ≤ (ji5)) = true := decide_eq_true c6
      clear c6
      obtain ⟨ji7, hji7⟩ : ∃ j_ : Int, (shl .u32 a0 (ji5)) = j_ := ⟨_, rfl⟩
      replace H : (some (Go.bits .or .u32 (ji4) (ji7))) = some r := by first | (rw [hji7] at H; exact H) | (simp only [hji7] at H ⊢; exact H)
      have hji7_ : (IntKind.u32.wrap (a0 * 2 ^ min (ji5).toNat 32)) = ji7 := hji7
      have hji7z : (ji5) ≤ 32 → (IntKind.u32.wrap (a0 * 2 ^ (ji5).toNat)) = ji7 := shl_small hji7
      obtain rfl := Option.some.inj H
      go_enter Tryd.func133, Tryd.ntmps133
      go_wp2
      go_ret
      exact ⟨by first | rfl | (simp; done) | (simp only [← hji4, ← hji5, ← hji7] <;> (first | rfl | simp)) | (simp [*]; done), by repeat (first | exact Drawn0.refl _ | apply Drawn0.step)⟩
    · rw [if_neg c6] at H
      exact absurd H (by simp)
  · rw [if_neg c3] at H
    exact absurd H (by simp)

/-! ### spec_l05Keys: function 134 -/
def spec_l05Keys.f  : Option (List Int) := some (([1116352408, 1899447441, 3049323471, 3921009573, 961987163, 1508970993, 2453635748, 2870763221, 3624381080, 310598401, 607225278, 1426881987, 1925078388, 2162078206, 2614888103, 3248222580, 3835390401, 4022224774, 264347078, 604807628, 770255983, 1249150122, 1555081692, 1996064986, 2554220882, 2821834349, 2952996808, 3210313671, 3336571891, 3584528711, 113926993, 338241895, 666307205, 773529912, 1294757372, 1396182291, 1695183700, 1986661051, 2177026350, 2456956037, 2730485921, 2820302411, 3259730800, 3345764771, 3516065817, 3600352804, 4094571909, 275423344, 430227734, 506948616, 659060556, 883997877, 958139571, 1322822218, 1537002063, 1747873779, 1955562222, 2024104815, 2227730452, 2361852424, 2428436474, 2756734187, 3204031479, 3329325298] : List Int))
set_option maxHeartbeats 8000000 in
set_option maxRecDepth 100000 in
theorem spec_l05Keys.calls  (r : List Int) (w : World) (h : spec_l05Keys.f  = some r) :
    Calls Tryd.prog 134 #[] w fun e w' => ∃ v0_ : Value, e = .returned (v0_) ∧ Kd.R (Kd.int .u32) 89 w' w.heap.size (fun _ => True) v0_ r ∧ Below w.heap.size w w' := by
  have HB := AM (Below.refl w.heap.size w)
  have H : (some (([1116352408, 1899447441, 3049323471, 3921009573, 961987163, 1508970993, 2453635748, 2870763221, 3624381080, 310598401, 607225278, 1426881987, 1925078388, 2162078206, 2614888103, 3248222580, 3835390401, 4022224774, 264347078, 604807628, 770255983, 1249150122, 1555081692, 1996064986, 2554220882, 2821834349, 2952996808, 3210313671, 3336571891, 3584528711, 113926993, 338241895, 666307205, 773529912, 1294757372, 1396182291, 1695183700, 1986661051, 2177026350, 2456956037, 2730485921, 2820302411, 3259730800, 3345764771, 3516065817, 3600352804, 4094571909, 275423344, 430227734, 506948616, 659060556, 883997877, 958139571, 1322822218, 1537002063, 1747873779, 1955562222, 2024104815, 2227730452, 2361852424, 2428436474, 2756734187, 3204031479, 3329325298] : List Int))) = some r := h
  clear h
  obtain ⟨y281, hy281⟩ : ∃ y_ : List Int, y_ = (([1116352408, 1899447441, 3049323471, 3921009573, 961987163, 1508970993, 2453635748, 2870763221, 3624381080, 310598401, 607225278, 1426881987, 1925078388, 2162078206, 2614888103, 3248222580, 3835390401, 4022224774, 264347078, 604807628, 770255983, 1249150122, 1555081692, 1996064986, 2554220882, 2821834349, 2952996808, 3210313671, 3336571891, 3584528711, 113926993, 338241895, 666307205, 773529912, 1294757372, 1396182291, 1695183700, 1986661051, 2177026350, 2456956037, 2730485921, 2820302411, 3259730800, 3345764771, 3516065817, 3600352804, 4094571909, 275423344, 430227734, 506948616, 659060556, 883997877, 958139571, 1322822218, 1537002063, 1747873779, 1955562222, 2024104815, 2227730452, 2361852424, 2428436474, 2756734187, 3204031479, 3329325298] : List Int)) := ⟨_, rfl⟩
  replace H : (some y281) = some r := by first | (rw [hy281]; with_reducible exact H) | (have H2_ := (Option.bind_some _ _).symm.trans H; rw [hy281]; with_reducible exact H2_) | (have H2_ := (Option.bind_some _ _).symm.trans H; with_reducible exact H2_) | with_reducible exact H | (rw [hy281]; exact H) | exact H
  have Ny281 := AM hy281
  clear hy281
  obtain rfl := Option.some.inj H
  go_enter Tryd.func134, Tryd.ntmps134
  go_wp2_with (first | ((with_reducible refine gate_dst (N := 1) rfl ?_); refine Kd.R_lit (Kd.int .u32) _ 89 ?hg (N := 1) ?hd (xs := ([1116352408, 1899447441, 3049323471, 3921009573, 961987163, 1508970993, 2453635748, 2870763221, 3624381080, 310598401, 607225278, 1426881987, 1925078388, 2162078206, 2614888103, 3248222580, 3835390401, 4022224774, 264347078, 604807628, 770255983, 1249150122, 1555081692, 1996064986, 2554220882, 2821834349, 2952996808, 3210313671, 3336571891, 3584528711, 113926993, 338241895, 666307205, 773529912, 1294757372, 1396182291, 1695183700, 1986661051, 2177026350, 2456956037, 2730485921, 2820302411, 3259730800, 3345764771, 3516065817, 3600352804, 4094571909, 275423344, 430227734, 506948616, 659060556, 883997877, 958139571, 1322822218, 1537002063, 1747873779, 1955562222, 2024104815, 2227730452, 2361852424, 2428436474, 2756734187, 3204031479, 3329325298] : List Int)) (inner := [.int .u32 1116352408, .int .u32 1899447441, .int .u32 3049323471, .int .u32 3921009573, .int .u32 961987163, .int .u32 1508970993, .int .u32 2453635748, .int .u32 2870763221, .int .u32 3624381080, .int .u32 310598401, .int .u32 607225278, .int .u32 1426881987, .int .u32 1925078388, .int .u32 2162078206, .int .u32 2614888103, .int .u32 3248222580, .int .u32 3835390401, .int .u32 4022224774, .int .u32 264347078, .int .u32 604807628, .int .u32 770255983, .int .u32 1249150122, .int .u32 1555081692, .int .u32 1996064986, .int .u32 2554220882, .int .u32 2821834349, .int .u32 2952996808, .int .u32 3210313671, .int .u32 3336571891, .int .u32 3584528711, .int .u32 113926993, .int .u32 338241895, .int .u32 666307205, .int .u32 773529912, .int .u32 1294757372, .int .u32 1396182291, .int .u32 1695183700, .int .u32 1986661051, .int .u32 2177026350, .int .u32 2456956037, .int .u32 2730485921, .int .u32 2820302411, .int .u32 3259730800, .int .u32 3345764771, .int .u32 3516065817, .int .u32 3600352804, .int .u32 4094571909, .int .u32 275423344, .int .u32 430227734, .int .u32 506948616, .int .u32 659060556, .int .u32 883997877, .int .u32 958139571, .int .u32 1322822218, .int .u32 1537002063, .int .u32 1747873779, .int .u32 1955562222, .int .u32 2024104815, .int .u32 2227730452, .int .u32 2361852424, .int .u32 2428436474, .int .u32 2756734187, .int .u32 3204031479, .int .u32 3329325298]) (ok := fun _ => True) (okp := fun _ => True) ?hr ?hp (fun _ hk => hk) trivial (Below.refl _ _) (Nat.le_refl _) (by simp) ?_; (case hd => rfl); (case hg => rfl); (case hr => first | (go_simp; done) | (go_simp; rfl)); (case hp => exact (Reps.one (show Kd.M (Kd.int .u32) _ _ _ 1116352408 [.int .u32 1116352408] from rfl) (Reps.one (show Kd.M (Kd.int .u32) _ _ _ 1899447441 [.int .u32 1899447441] from rfl) (Reps.one (show Kd.M (Kd.int .u32) _ _ _ 3049323471 [.int .u32 3049323471] from rfl) (Reps.one (show Kd.M (Kd.int .u32) _ _ _ 3921009573 [.int .u32 3921009573] from rfl) (Reps.one (show Kd.M (Kd.int .u32) _ _ _ 961987163 [.int .u32 961987163] from rfl) (Reps.one (show Kd.M (Kd.int .u32) _ _ _ 1508970993 [.int .u32 1508970993] from rfl) (Reps.one (show Kd.M (Kd.int .u32) _ _ _ 2453635748 [.int .u32 2453635748] from rfl) (Reps.one (show Kd.M (Kd.int .u32) _ _ _ 2870763221 [.int .u32 2870763221] from rfl) (Reps.one (show Kd.M (Kd.int .u32) _ _ _ 3624381080 [.int .u32 3624381080] from rfl) (Reps.one (show Kd.M (Kd.int .u32) _ _ _ 310598401 [.int .u32 310598401] from rfl) (Reps.one (show Kd.M (Kd.int .u32) _ _ _ 607225278 [.int .u32 607225278] from rfl) (Reps.one (show Kd.M (Kd.int .u32) _ _ _ 1426881987 [.int .u32 1426881987] from rfl) (Reps.one (show Kd.M (Kd.int .u32) _ _ _ 1925078388 [.int .u32 1925078388] from rfl) (Reps.one (show Kd.M (Kd.int .u32) _ _ _ 2162078206 [.int .u32 2162078206] from rfl) (Reps.one (show Kd.M (Kd.int .u32) _ _ _ 2614888103 [.int .u32 2614888103] from rfl) (Reps.one (show Kd.M (Kd.int .u32) _ _ _ 3248222580 [.int .u32 3248222580] from rfl) (Reps.one (show Kd.M (Kd.int .u32) _ _ _ 3835390401 [.int .u32 3835390401] from rfl) (Reps.one (show Kd.M (Kd.int .u32) _ _ _ 4022224774 [.int .u32 4022224774] from rfl) (Reps.one (show Kd.M (Kd.int .u32) _ _ _ 264347078 [.int .u32 264347078] from rfl) (Reps.one (show Kd.M (Kd.int .u32) _ _ _ 604807628 [.int .u32 604807628] from rfl) (Reps.one (show Kd.M (Kd.int .u32) _ _ _ 770255983 [.int .u32 770255983] from rfl) (Reps.one (show Kd.M (Kd.int .u32) _ _ _ 1249150122 [.int .u32 1249150122] from rfl) (Reps.one (show Kd.M (Kd.int .u32) _ _ _ 1555081692 [.int .u32 1555081692] from rfl) (Reps.one (show Kd.M (Kd.int .u32) _ _ _ 1996064986 [.int .u32 1996064986] from rfl) (Reps.one (show Kd.M (Kd.int .u32) _ _ _ 2554220882 [.int .u32 2554220882] from rfl) (Reps.one (show Kd.M (Kd.int .u32) _ _ _ 2821834349 [.int .u32 2821834349] from rfl) (Reps.one (show Kd.M (Kd.int .u32) _ _ _ 2952996808 [.int .u32 2952996808] from rfl) (Reps.one (show Kd.M (Kd.int .u32) _ _ _ 3210313671 [.int .u32 3210313671] from rfl) (Reps.one (show Kd.M (Kd.int .u32) _ _ _ 3336571891 [.int .u32 3336571891] from rfl) (Reps.one (show Kd.M (Kd.int .u32) _ _ _ 3584528711 [.int .u32 3584528711] from rfl) (Reps.one (show Kd.M (Kd.int .u32) _ _ _ 113926993 [.int .u32 113926993] from rfl) (Reps.one (show Kd.M (Kd.int .u32) _ _ _ 338241895 [.int .u32 338241895] from rfl) (Reps.one (show Kd.M (Kd.int .u32) _ _ _ 666307205 [.int .u32 666307205] from rfl) (Reps.one (show Kd.M (Kd.int .u32) _ _ _ 773529912 [.int .u32 773529912] from rfl) (Reps.one (show Kd.M (Kd.int .u32) _ _ _ 1294757372 [.int .u32 1294757372] from rfl) (Reps.one (show Kd.M (Kd.int .u32) _ _ _ 1396182291 [.int .u32 1396182291] from rfl) (Reps.one (show Kd.M (Kd.int .u32) _ _ _ 1695183700 [.int .u32 1695183700] from rfl) (Reps.one (show Kd.M (Kd.int .u32) _ _ _ 1986661051 [.int .u32 1986661051] from rfl) (Reps.one (show Kd.M (Kd.int .u32) _ _ _ 2177026350 [.int .u32 2177026350] from rfl) (Reps.one (show Kd.M (Kd.int .u32) _ _ _ 2456956037 [.int .u32 2456956037] from rfl) (Reps.one (show Kd.M (Kd.int .u32) _ _ _ 2730485921 [.int .u32 2730485921] from rfl) (Reps.one (show Kd.M (Kd.int .u32) _ _ _ 2820302411 [.int .u32 2820302411] from rfl) (Reps.one (show Kd.M (Kd.int .u32) _ _ _ 3259730800 [.int .u32 3259730800] from rfl) (Reps.one (show Kd.M (Kd.int .u32) _ _ _ 3345764771 [.int .u32 3345764771] from rfl) (Reps.one (show Kd.M (Kd.int .u32) _ _ _ 3516065817 [.int .u32 3516065817] from rfl) (Reps.one (show Kd.M (Kd.int .u32) _ _ _ 3600352804 [.int .u32 3600352804] from rfl) (Reps.one (show Kd.M (Kd.int .u32) _ _ _ 4094571909 [.int .u32 4094571909] from rfl) (Reps.one (show Kd.M (Kd.int .u32) _ _ _ 275423344 [.int .u32 275423344] from rfl) (Reps.one (show Kd.M (Kd.int .u32) _ _ _ 430227734 [.int .u32 430227734] from rfl) (Reps.one (show Kd.M (Kd.int .u32) _ _ _ 506948616 [.int .u32 506948616] from rfl) (Reps.one (show Kd.M (Kd.int .u32) _ _ _ 659060556 [.int .u32 659060556] from rfl) (Reps.one (show Kd.M (Kd.int .u32) _ _ _ 883997877 [.int .u32 883997877] from rfl) (Reps.one (show Kd.M (Kd.int .u32) _ _ _ 958139571 [.int .u32 958139571] from rfl) (Reps.one (show Kd.M (Kd.int .u32) _ _ _ 1322822218 [.int .u32 1322822218] from rfl) (Reps.one (show Kd.M (Kd.int .u32) _ _ _ 1537002063 [.int .u32 1537002063] from rfl) (Reps.one (show Kd.M (Kd.int .u32) _ _ _ 1747873779 [.int .u32 1747873779] from rfl) (Reps.one (show Kd.M (Kd.int .u32) _ _ _ 1955562222 [.int .u32 1955562222] from rfl) (Reps.one (show Kd.M (Kd.int .u32) _ _ _ 2024104815 [.int .u32 2024104815] from rfl) (Reps.one (show Kd.M (Kd.int .u32) _ _ _ 2227730452 [.int .u32 2227730452] from rfl) (Reps.one (show Kd.M (Kd.int .u32) _ _ _ 2361852424 [.int .u32 2361852424] from rfl) (Reps.one (show Kd.M (Kd.int .u32) _ _ _ 2428436474 [.int .u32 2428436474] from rfl) (Reps.one (show Kd.M (Kd.int .u32) _ _ _ 2756734187 [.int .u32 2756734187] from rfl) (Reps.one (show Kd.M (Kd.int .u32) _ _ _ 3204031479 [.int .u32 3204031479] from rfl) (Reps.one (show Kd.M (Kd.int .u32) _ _ _ 3329325298 [.int .u32 3329325298] from rfl) (Reps.none _ _)))))))))))))))))))))))))))))))))))))))))))))))))))))))))))))))))); intro v282 w1 ho2 hb hg_ hnew_; clear hg_ hnew_; (first | rw [← Ny281.out] at ho2 | (simp only [Int.reduceToNat] at ho2; rw [← Ny281.out] at ho2)); have HO283 := AM (Kd.R_lower ho2 (below_size bel_)); replace HB := AM (below_step bel_ hb); clear hb ho2))
  go_ret
  exact ⟨_, ri_, ro_ HO283.out, bel_⟩

/-! ### spec_l05Block: function 108 -/
def spec_l05Block.f (a0 : List Int) (a1 : ByteArray) : Option (List Int) := if a0.length = 8 ∧ a1.size = 64 then some (Hand.takenL (a0.map (· % 4294967296)) a1) else none
theorem spec_l05Block.calls (A0 : Option Addr) (c0 : Nat) (l0 : List Int) (a1 : ByteArray) (r : List Int) (w : World) (hr0 : Kd.C (Kd.int .i64) w A0 l0.length l0) (hc0 : l0.length ≤ c0) (h : spec_l05Block.f l0 a1 = some r) :
    Calls Tryd.prog 108 #[.slice A0 l0.length c0, .string a1] w fun e w' => ∃ v0_ : Value, e = .returned (v0_) ∧ Kd.R (Kd.int .i64) 2 w' w.heap.size (fun _ => True) v0_ r ∧ Below w.heap.size w w' := by
  unfold spec_l05Block.f at h
  by_cases hc : l0.length = 8 ∧ a1.size = 64
  · rw [if_pos hc] at h
    obtain rfl := Option.some.inj h
    exact Hand.block_x A0 c0 l0 a1 w hr0 hc.1 hc.2
  · rw [if_neg hc] at h
    cases h

end Go.Proofs.YtddapeieolfolaaDoor.PFnScan
