/- Functions of the law FnScan: the print's, with walks of this session's own. No statement is proved here. -/
import Derived.WalkLawsBesides
import Derived.Test.YtddapeieolfolaaDoorVRegFnScan
-- A program of this session wrote this text: a changed copy of the kit print, with given functions.
import Derived.Test.YtddapeieolfolaaDoorPFnScanx0
import Derived.Test.YtddapeieolfolaaDoorPFnScanx8
import Derived.Test.YtddapeieolfolaaDoorPFnScanx9
namespace Go.Proofs.YtddapeieolfolaaDoor.PFnScan
open Go.RowKit Go.Proofs.YtddapeieolfolaaDoorW.PrintWords Go.Proofs.YtddapeieolfolaaDoorW.PrintLast Go.Proofs.YtddapeieolfolaaDoorW.PrintMore Go.Proofs.YtddapeieolfolaaDoor.Reg Go.Proofs.YtddapeieolfolaaDoor.Aut
attribute [local go_sem] max2_int min2_int max_two min_two max_three min_three max_four min_four   -- for this text's walks alone
set_option linter.unusedVariables false
set_option linter.unusedSimpArgs false

/-! ### spec_l01Src_bytes: function 63 -/
def spec_l01Src_bytes.l0 : Nat → Int → List Int → Int → List Int → Int → Int → Int → Option (ByteArray × Int × Int × Int)
  | 0, _, _, _, _, _, _, _ => none
  | k + 1, x1, x5, x6, x1000, x1001, x1002, x1003 => if x6 < x1 then ((spec_l01Src_n.f x1000 x1001 x1002 x1003 256).bind fun bt185 => (if x5.length < 140737488355328 then (spec_l01Src_bytes.l0 k x1 (x5 ++ [(bt185.1) % 256]) (wrap64 (x6 + 1)) x1000 bt185.2.1 bt185.2.2.1 bt185.2.2.2) else (none))) else (some (strOfNums x5, x1001, x1002, x1003))
def spec_l01Src_bytes.f (k : Nat) (s0_0 : List Int) (s0_1 : Int) (s0_2 : Int) (s0_3 : Int) (a1 : Int) : Option (ByteArray × Int × Int × Int) := spec_l01Src_bytes.l0 k a1 (([] : List Int)) 0 s0_0 s0_1 s0_2 s0_3
theorem spec_l01Src_bytes.mono_l : ∀ k, (∀ y0 y1 y2 y3 y4 y5 y6, LeO (spec_l01Src_bytes.l0 k y0 y1 y2 y3 y4 y5 y6) (spec_l01Src_bytes.l0 (k + 1) y0 y1 y2 y3 y4 y5 y6))
  | 0 => fun _ _ _ _ _ _ _ r h => by simp [spec_l01Src_bytes.l0] at h
  | k + 1 => by
    have ih0 := spec_l01Src_bytes.mono_l k
    · intro y0 y1 y2 y3 y4 y5 y6
      unfold spec_l01Src_bytes.l0
      repeat' first
      | (with_reducible exact ih0 _ _ _ _ _ _ _)
      | (with_reducible exact LeO.refl _)
      | (with_reducible exact LeO.none _)
      | (with_reducible refine LeO.ite ?_ ?_)
      | (with_reducible refine LeO.bind ?_ (fun _ => ?_))
      | exact ih0 _ _ _ _ _ _ _
      | exact LeO.none _
      | refine LeO.ite ?_ ?_
      | refine LeO.bind ?_ (fun _ => ?_)
theorem spec_l01Src_bytes.mono : ∀ a0 a1 a2 a3 a4 k, LeO (spec_l01Src_bytes.f k a0 a1 a2 a3 a4) (spec_l01Src_bytes.f (k + 1) a0 a1 a2 a3 a4) := by
  intro a0 a1 a2 a3 a4 k
  have ih0 := spec_l01Src_bytes.mono_l k
  unfold spec_l01Src_bytes.f
  repeat' first
      | (with_reducible exact ih0 _ _ _ _ _ _ _)
      | (with_reducible exact LeO.refl _)
      | (with_reducible exact LeO.none _)
      | (with_reducible refine LeO.ite ?_ ?_)
      | (with_reducible refine LeO.bind ?_ (fun _ => ?_))
      | exact ih0 _ _ _ _ _ _ _
      | exact LeO.none _
      | refine LeO.ite ?_ ?_
      | refine LeO.bind ?_ (fun _ => ?_)
set_option maxHeartbeats 8000000 in
set_option maxRecDepth 100000 in
theorem spec_l01Src_bytes.calls (k : Nat) (g : Nat) (s0_0 : List Int) (s0_1 : Int) (s0_2 : Int) (s0_3 : Int) (a1 : Int) (r1 : ByteArray) (r2 : Int) (r3 : Int) (r4 : Int) (w0 w : World) (hI : IsS120 w0 w g s0_0 s0_1 s0_2 s0_3) (hB : Below w0.heap.size w0 w) (h : spec_l01Src_bytes.f k s0_0 s0_1 s0_2 s0_3 a1 = some (r1, r2, r3, r4)) :
    Calls Tryd.prog 63 #[.pointer (some ⟨g, 0, none⟩), .int .i64 a1] w fun e w' => e = .returned (.string r1) ∧ IsS120 w0 w' g s0_0 r2 r3 r4 ∧ Below w0.heap.size w0 w' ∧ KeepBut w w' g none := by
  have HI0 := AM hI
  have HK := AM (KeepBut.refl w g none)
  have HL := AM hB.size
  clear hI
  have HW0 := AM hB.size
  have HB := AM hB
  clear hB
  have H : (spec_l01Src_bytes.l0 k a1 (([] : List Int)) 0 s0_0 s0_1 s0_2 s0_3) = some (r1, r2, r3, r4) := h
  clear h
  obtain ⟨y182, hy182⟩ : ∃ y_ : List Int, y_ = (([] : List Int)) := ⟨_, rfl⟩
  replace H : (spec_l01Src_bytes.l0 k a1 y182 0 s0_0 s0_1 s0_2 s0_3) = some (r1, r2, r3, r4) := by first | (rw [hy182]; with_reducible exact H) | (have H2_ := (Option.bind_some _ _).symm.trans H; rw [hy182]; with_reducible exact H2_) | (have H2_ := (Option.bind_some _ _).symm.trans H; with_reducible exact H2_) | with_reducible exact H | (rw [hy182]; exact H) | exact H
  have Ny182 := AM hy182
  clear hy182
  have H' := AM H
  clear H
  go_enter Tryd.func63, Tryd.ntmps63
  go_wp2_with (first | ((with_reducible refine gate_dst (N := 7) rfl ?_); refine Kd.R_lit (Kd.int .u8) _ 5 ?hg (N := 7) ?hd (xs := ([] : List Int)) (inner := []) (ok := fun _ => True) (okp := fun _ => True) ?hr ?hp (fun _ hk => hk) trivial (Below.refl _ _) (Nat.le_refl _) (by simp) ?_; (case hd => rfl); (case hg => rfl); (case hr => first | (go_simp; done) | (go_simp; rfl)); (case hp => exact (Reps.none _ _)); intro v183 w3 ho4 hb hg_ hnew_; clear hg_ hnew_; (first | rw [← Ny182.out] at ho4 | (simp only [Int.reduceToNat] at ho4; rw [← Ny182.out] at ho4)); have HO184 := AM (Kd.R_lower ho4 (keep_size (w := w) (g := g) (row := none) kp_)); replace HK := AM (KeepBut.trans (kp_ (w := w)) (KeepBut.of_below hb g none) (.inl rfl)); replace HB := AM (below_step (belg_ (IsS120.ge HI0.out)) hb); replace HI0 := AM (IsS120.below is120_ hb); clear hb ho4))
  go_loopg [5, 6] k (fun kq v5 v6 w' => ∃ (x5_1 : List Int) (x6_1 : Int) (x1001_1 : Int) (x1002_1 : Int) (x1003_1 : Int), v6 = .int .i64 x6_1 ∧ Aside0 (spec_l01Src_bytes.l0 kq a1 x5_1 x6_1 s0_0 x1001_1 x1002_1 x1003_1 = some (r1, r2, r3, r4)) ∧ Aside0 (kq ≤ k) ∧ Aside0 (Kd.R (Kd.int .u8) 5 w' w.heap.size (fun _ => True) v5 x5_1) ∧ Aside0 (IsS120 w0 w' g s0_0 x1001_1 x1002_1 x1003_1) ∧ Aside0 (KeepBut w w' g none) ∧ Aside0 (Below w0.heap.size w0 w'))
  case atStart => exact ⟨(y182), (0), (s0_1), (s0_2), (s0_3), (by first | rfl | (simp; done) | (simp [*]; done)), H', ⟨Nat.le_refl _⟩, ⟨ro_ HO184.out⟩, ⟨is120_⟩, ⟨kp_⟩, ⟨belg_ (IsS120.ge HI0.out)⟩⟩
  case round =>
    clear H'
    try clear p2
    obtain ⟨x5_1, x6_1, x1001_1, x1002_1, x1003_1, rfl, HA, HK1, HO_5, HI0, HK, HB⟩ := hrel
    cases gk with
    | zero => exact absurd HA.out (by simp [spec_l01Src_bytes.l0])
    | succ k1 =>
      have H := HA.out
      clear HA
      simp only [spec_l01Src_bytes.l0] at H
      by_cases c5 : x6_1 < a1
      · rw [if_pos c5] at H
        have c5b0 : decide (x6_1 < a1) = true := decide_eq_true c5
        clear c5
        obtain ⟨⟨t185, t186, t187, t188⟩, A6, H⟩ := OB H
        try dsimp only at H
        replace A6 := AM A6
        by_cases c7 : x5_1.length < 140737488355328
        · rw [if_pos c7] at H
          have LMc7 := AM c7
          clear c7
          obtain ⟨y189, hy189⟩ : ∃ y_ : List Int, y_ = (x5_1 ++ [(t185) % 256]) := ⟨_, rfl⟩
          replace H : (spec_l01Src_bytes.l0 k1 a1 y189 (wrap64 (x6_1 + 1)) s0_0 t186 t187 t188) = some (r1, r2, r3, r4) := by first | (rw [hy189]; with_reducible exact H) | (have H2_ := (Option.bind_some _ _).symm.trans H; rw [hy189]; with_reducible exact H2_) | (have H2_ := (Option.bind_some _ _).symm.trans H; with_reducible exact H2_) | with_reducible exact H | (rw [hy189]; exact H) | exact H
          have Ny189 := AM hy189
          clear hy189
          have H' := AM H
          clear H
          go_wp2_with (first | ((with_reducible refine gate_callee (f := 64) rfl ?_); refine gl_ (some 15) Tryd.func64 #[.pointer (some ⟨g, 0, none⟩), .int .i64 256] ?_; (with_reducible refine (spec_l01Src_n.calls g s0_0 x1001_1 x1002_1 x1003_1 256 t185 t186 t187 t188 w0 _ ?side1 ?side2 A6.out).mono ?_); (case side1 => repeat (first | (with_reducible first | exact HI0.out | apply IsS120.alloc | apply IsS120.drewN | apply IsS120.drew | apply IsS120.set_1 | apply IsS120.set_2 | apply IsS120.set_3) | exact HI0.out)); (case side2 => repeat (first | (with_reducible first | exact HB.out | apply below_alloc | apply pw_below_drewN | apply below_drew1 | refine below_set ?_ (IsS120.ge HI0.out)) | exact HB.out)); rintro e w8 ⟨rfl, hi, hb, hk⟩; refine ⟨_, rfl, ?_⟩; replace HO_5 := AM (Kd.R_mono (Kd.R_keep (IsS120.apart (show IsS120 w0 _ g s0_0 x1001_1 x1002_1 x1003_1 from is120_) (ro_ HO_5.out) (by decide)) hk (fun _ h => h.2)) (fun _ h => h.1)); replace HK := AM (KeepBut.trans (kp_ (w := w)) hk (.inl rfl)); replace HB := AM hb; replace HI0 := AM hi; (try clear hb); (try clear hb2); (try clear hk); (try clear hi)) | ((with_reducible refine gate_builtin (b := .append) (xs := #[.tmp 13, .tmp 17]) rfl ?_); at_builtin; refine Kd.R_append (Kd.int .u8) w.heap.size rfl (.tmp 13) (.tmp 17) 38 5 (.int .u8 0) 1 rfl Tryd.underlying38 info5 rfl (by decide) (by omega) u5 x5_1 ((t185) % 256) [.int .u8 ((t185) % 256)] (fun _ => True) (fun _ => False) rfl rfl ?aP (fun _ hk => hk.elim) ?aF ?aO (Below.refl _ _) ?aS ?aL ?_; (case aP => exact rfl); (case aF => exact (fun _ _ => trivial)); (case aO => exact (ro_ HO_5.out)); (case aS => exact (keep_size (w := w) (g := g) (row := none) kp_)); (case aL => have := LMc7.out; omega); intro v190 w9 ho hb hg hat; rw [← Ny189.out] at ho; have n0_ := AM (IsS120.grown is120_ hg (IsS120.own_ne HI0.out HO_5.out (by decide))); have n1_ := AM (below_weaken (belg_ (IsS120.ge HI0.out)) HL.out hb); have n2_ := AM (KeepBut.trans (kp_ (w := w)) (KeepBut.of_grown hg g) (Kd.R_base2 HO_5.out)); have n3_ := AM ho; clear HI0; clear HB; clear HK; clear HO_5; have HI0 := n0_; have HB := n1_; have HK := n2_; have HO191 := n3_; clear n0_ n1_ n2_ n3_; clear ho hb hg hat))
          go_roundg k1
          case measure => have := HK1.out; omega
          case rel => exact ⟨(y189), (wrap64 (x6_1 + 1)), (t186), (t187), (t188), (by first | rfl | (simp; done) | (simp [*]; done)), H', ⟨by have := HK1.out; omega⟩, ⟨ro_ HO191.out⟩, ⟨is120_⟩, ⟨kp_⟩, ⟨belg_ (IsS120.ge HI0.out)⟩⟩
        · rw [if_neg c7] at H
          exact absurd H (by simp)
      · rw [if_neg c5] at H
        have c5b0 : decide (x6_1 < a1) = false := decide_eq_false c5
        clear c5
        simp only [Option.some.injEq, Prod.mk.injEq] at H
        obtain ⟨rfl, rfl, rfl, rfl⟩ := H
        have hcv10 := own_string (P := Tryd.prog) Tryd.underlying38 Tryd.underlying5 Tryd.underlying9 (Kd.own_of_R HO_5.out)
        go_wp2
        go_ret
        exact ⟨ri_, is120_, belg_ (IsS120.ge HI0.out), kp_⟩

/-! ### spec_l01Src_one: function 120 -/
def spec_l01Src_one.f (s0_0 : List Int) (s0_1 : Int) (s0_2 : Int) (s0_3 : Int) (a1 : Int) : Option (Bool × Int × Int × Int) := (spec_l01Src_n.f s0_0 s0_1 s0_2 s0_3 a1).bind fun bt192 => (some ((bt192.1 == 0), bt192.2.1, bt192.2.2.1, bt192.2.2.2))
set_option maxHeartbeats 8000000 in
set_option maxRecDepth 100000 in
theorem spec_l01Src_one.calls (g : Nat) (s0_0 : List Int) (s0_1 : Int) (s0_2 : Int) (s0_3 : Int) (a1 : Int) (r1 : Bool) (r2 : Int) (r3 : Int) (r4 : Int) (w0 w : World) (hI : IsS120 w0 w g s0_0 s0_1 s0_2 s0_3) (hB : Below w0.heap.size w0 w) (h : spec_l01Src_one.f s0_0 s0_1 s0_2 s0_3 a1 = some (r1, r2, r3, r4)) :
    Calls Tryd.prog 120 #[.pointer (some ⟨g, 0, none⟩), .int .i64 a1] w fun e w' => e = .returned (.bool r1) ∧ IsS120 w0 w' g s0_0 r2 r3 r4 ∧ Below w0.heap.size w0 w' ∧ KeepBut w w' g none := by
  have HI0 := AM hI
  have HK := AM (KeepBut.refl w g none)
  have HL := AM hB.size
  clear hI
  have HW0 := AM hB.size
  have HB := AM hB
  clear hB
  have H : ((spec_l01Src_n.f s0_0 s0_1 s0_2 s0_3 a1).bind fun bt192 => (some ((bt192.1 == 0), bt192.2.1, bt192.2.2.1, bt192.2.2.2))) = some (r1, r2, r3, r4) := h
  clear h
  obtain ⟨⟨t192, t193, t194, t195⟩, A3, H⟩ := OB H
  try dsimp only at H
  replace A3 := AM A3
  simp only [Option.some.injEq, Prod.mk.injEq] at H
  obtain ⟨rfl, rfl, rfl, rfl⟩ := H
  go_enter Tryd.func120, Tryd.ntmps120
  go_wp2_with (first | ((with_reducible refine gate_callee (f := 64) rfl ?_); refine gl_ (some 7) Tryd.func64 #[.pointer (some ⟨g, 0, none⟩), .int .i64 a1] ?_; (with_reducible refine (spec_l01Src_n.calls g s0_0 s0_1 s0_2 s0_3 a1 t192 t193 t194 t195 w0 _ ?side1 ?side2 A3.out).mono ?_); (case side1 => repeat (first | (with_reducible first | exact HI0.out | apply IsS120.alloc | apply IsS120.drewN | apply IsS120.drew | apply IsS120.set_1 | apply IsS120.set_2 | apply IsS120.set_3) | exact HI0.out)); (case side2 => repeat (first | (with_reducible first | exact HB.out | apply below_alloc | apply pw_below_drewN | apply below_drew1 | refine below_set ?_ (IsS120.ge HI0.out)) | exact HB.out)); rintro e w4 ⟨rfl, hi, hb, hk⟩; refine ⟨_, rfl, ?_⟩; replace HK := AM (KeepBut.trans (kp_ (w := w)) hk (.inl rfl)); replace HB := AM hb; replace HI0 := AM hi; (try clear hb); (try clear hb2); (try clear hk); (try clear hi)))
  go_ret
  exact ⟨ri_, is120_, belg_ (IsS120.ge HI0.out), kp_⟩

/-! ### spec_l01Src_l07Blob: function 119 -/
def spec_l01Src_l07Blob.j0 : Nat → List Int → Int → Int → Int → Int → ByteArray → Option (Int × ByteArray × Int × Int × Int)
  | 0, _, _, _, _, _, _ => none
  | k + 1, x1000, x1001, x1002, x1003, x210000, x210001 => (spec_l01Src_one.f x1000 x1001 x1002 x1003 60).bind fun bt218 => (if bt218.1 = true then ((spec_l01Src_n.f x1000 bt218.2.1 bt218.2.2.1 bt218.2.2.2 3).bind fun bt222 => (if 0 ≤ (wrap64 (1999 + bt222.1)) then (if (wrap64 (1999 + bt222.1) : Int).toNat ≤ 281474976710656 then (some (x210000, strOfNums (List.replicate (wrap64 (1999 + bt222.1) : Int).toNat 0), bt222.2.1, bt222.2.2.1, bt222.2.2.2)) else (none)) else (none))) else (some (x210000, x210001, bt218.2.1, bt218.2.2.1, bt218.2.2.2)))
def spec_l01Src_l07Blob.f (k : Nat) (s0_0 : List Int) (s0_1 : Int) (s0_2 : Int) (s0_3 : Int) : Option (Int × ByteArray × Int × Int × Int) := (spec_l01Src_n.f s0_0 s0_1 s0_2 s0_3 2).bind fun bt197 => ((spec_l01Src_n.f s0_0 bt197.2.1 bt197.2.2.1 bt197.2.2.2 30).bind fun bt201 => ((spec_l01Src_bytes.f k s0_0 bt201.2.1 bt201.2.2.1 bt201.2.2.2 bt201.1).bind fun bt205 => ((spec_l01Src_one.f s0_0 bt205.2.1 bt205.2.2.1 bt205.2.2.2 25).bind fun bt210 => (if bt210.1 = true then ((spec_l01Src_n.f s0_0 bt210.2.1 bt210.2.2.1 bt210.2.2.2 5).bind fun bt214 => (spec_l01Src_l07Blob.j0 k s0_0 bt214.2.1 bt214.2.2.1 bt214.2.2.2 (wrap64 (bt214.1 - 1)) bt205.1)) else (spec_l01Src_l07Blob.j0 k s0_0 bt210.2.1 bt210.2.2.1 bt210.2.2.2 (wrap64 (1 + bt197.1)) bt205.1)))))
theorem spec_l01Src_l07Blob.mono_l : ∀ k, (∀ y0 y1 y2 y3 y4 y5, LeO (spec_l01Src_l07Blob.j0 k y0 y1 y2 y3 y4 y5) (spec_l01Src_l07Blob.j0 (k + 1) y0 y1 y2 y3 y4 y5))
  | 0 => fun _ _ _ _ _ _ r h => by simp [spec_l01Src_l07Blob.j0] at h
  | k + 1 => by
    have ih0 := spec_l01Src_l07Blob.mono_l k
    · intro y0 y1 y2 y3 y4 y5
      unfold spec_l01Src_l07Blob.j0
      repeat' first
      | (with_reducible exact ih0 _ _ _ _ _ _)
      | (with_reducible exact spec_l01Src_bytes.mono _ _ _ _ _ _)
      | (with_reducible exact LeO.refl _)
      | (with_reducible exact LeO.none _)
      | (with_reducible refine LeO.ite ?_ ?_)
      | (with_reducible refine LeO.bind ?_ (fun _ => ?_))
      | exact ih0 _ _ _ _ _ _
      | exact spec_l01Src_bytes.mono _ _ _ _ _ _
      | exact LeO.none _
      | refine LeO.ite ?_ ?_
      | refine LeO.bind ?_ (fun _ => ?_)
theorem spec_l01Src_l07Blob.mono : ∀ a0 a1 a2 a3 k, LeO (spec_l01Src_l07Blob.f k a0 a1 a2 a3) (spec_l01Src_l07Blob.f (k + 1) a0 a1 a2 a3) := by
  intro a0 a1 a2 a3 k
  have ih0 := spec_l01Src_l07Blob.mono_l k
  unfold spec_l01Src_l07Blob.f
  repeat' first
      | (with_reducible exact ih0 _ _ _ _ _ _)
      | (with_reducible exact spec_l01Src_bytes.mono _ _ _ _ _ _)
      | (with_reducible exact LeO.refl _)
      | (with_reducible exact LeO.none _)
      | (with_reducible refine LeO.ite ?_ ?_)
      | (with_reducible refine LeO.bind ?_ (fun _ => ?_))
      | exact ih0 _ _ _ _ _ _
      | exact spec_l01Src_bytes.mono _ _ _ _ _ _
      | exact LeO.none _
      | refine LeO.ite ?_ ?_
      | refine LeO.bind ?_ (fun _ => ?_)
set_option maxHeartbeats 8000000 in
set_option maxRecDepth 100000 in
theorem spec_l01Src_l07Blob.calls (k : Nat) (g : Nat) (s0_0 : List Int) (s0_1 : Int) (s0_2 : Int) (s0_3 : Int) (r1 : Int) (r2 : ByteArray) (r3 : Int) (r4 : Int) (r5 : Int) (w0 w : World) (hI : IsS120 w0 w g s0_0 s0_1 s0_2 s0_3) (hB : Below w0.heap.size w0 w) (h : spec_l01Src_l07Blob.f k s0_0 s0_1 s0_2 s0_3 = some (r1, r2, r3, r4, r5)) :
    Calls Tryd.prog 119 #[.pointer (some ⟨g, 0, none⟩)] w fun e w' => e = .returned (.agg #[.int .i64 r1, .string r2]) ∧ IsS120 w0 w' g s0_0 r3 r4 r5 ∧ Below w0.heap.size w0 w' ∧ KeepBut w w' g none := by
  have hu64 := Tryd.underlying64
  have HI0 := AM hI
  have HK := AM (KeepBut.refl w g none)
  have HL := AM hB.size
  clear hI
  have HW0 := AM hB.size
  have HB := AM hB
  clear hB
  have H : ((spec_l01Src_n.f s0_0 s0_1 s0_2 s0_3 2).bind fun bt197 => ((spec_l01Src_n.f s0_0 bt197.2.1 bt197.2.2.1 bt197.2.2.2 30).bind fun bt201 => ((spec_l01Src_bytes.f k s0_0 bt201.2.1 bt201.2.2.1 bt201.2.2.2 bt201.1).bind fun bt205 => ((spec_l01Src_one.f s0_0 bt205.2.1 bt205.2.2.1 bt205.2.2.2 25).bind fun bt210 => (if bt210.1 = true then ((spec_l01Src_n.f s0_0 bt210.2.1 bt210.2.2.1 bt210.2.2.2 5).bind fun bt214 => (spec_l01Src_l07Blob.j0 k s0_0 bt214.2.1 bt214.2.2.1 bt214.2.2.2 (wrap64 (bt214.1 - 1)) bt205.1)) else (spec_l01Src_l07Blob.j0 k s0_0 bt210.2.1 bt210.2.2.1 bt210.2.2.2 (wrap64 (1 + bt197.1)) bt205.1)))))) = some (r1, r2, r3, r4, r5) := h
  clear h
  obtain ⟨⟨t197, t198, t199, t200⟩, A2, H⟩ := OB H
  try dsimp only at H
  replace A2 := AM A2
  obtain ⟨⟨t201, t202, t203, t204⟩, A3, H⟩ := OB H
  try dsimp only at H
  replace A3 := AM A3
  obtain ⟨⟨t205, t206, t207, t208⟩, A4, H⟩ := OB H
  try dsimp only at H
  replace A4 := AM A4
  obtain ⟨⟨t210, t211, t212, t213⟩, A5, H⟩ := OB H
  try dsimp only at H
  replace A5 := AM A5
  have HC6 := AM H
  clear H
  go_enter Tryd.func119, Tryd.ntmps119
  go_upto_if 13 with (first | ((with_reducible refine gate_dst (N := 2) rfl ?_); refine be_ 2 #[.int .i64 0, .string (⟨#[]⟩ : ByteArray)] 64 ?_; intro gb196 hg w7 hbox hb; replace HB := AM (below_step (belg_ (IsS120.ge HI0.out)) hb); have BK196 := AM hbox; have GW196 := AM ((by rw [hg]; exact (keep_size (w := w) (g := g) (row := none) kp_) : w.heap.size ≤ gb196)); have GE196 := AM ((Nat.le_trans HW0.out (by rw [hg]; exact (keep_size (w := w) (g := g) (row := none) kp_) : w.heap.size ≤ gb196) : w0.heap.size ≤ gb196)); replace HK := AM (KeepBut.trans (kp_ (w := w)) (KeepBut.of_below hb g none) (.inl rfl)); have NB0_196 := AM ((by rw [hg]; exact Nat.ne_of_lt (IsS120.lt (show IsS120 w0 _ g s0_0 s0_1 s0_2 s0_3 from is120_)) : g ≠ gb196)); have NB196_0 := AM ((by rw [hg]; exact Nat.ne_of_gt (IsS120.lt (show IsS120 w0 _ g s0_0 s0_1 s0_2 s0_3 from is120_)) : gb196 ≠ g)); replace HI0 := AM (IsS120.below is120_ hb); clear hb hbox hg) | ((with_reducible refine gate_callee (f := 64) rfl ?_); refine gl_ (some 5) Tryd.func64 #[.pointer (some ⟨g, 0, none⟩), .int .i64 2] ?_; (with_reducible refine (spec_l01Src_n.calls g s0_0 s0_1 s0_2 s0_3 2 t197 t198 t199 t200 w0 _ ?side1 ?side2 A2.out).mono ?_); (case side1 => repeat (first | (with_reducible first | exact HI0.out | apply IsS120.alloc | apply IsS120.drewN | apply IsS120.drew | apply IsS120.set_1 | apply IsS120.set_2 | apply IsS120.set_3 | refine IsS120.far ?_ NB0_196.out _) | exact HI0.out)); (case side2 => repeat (first | (with_reducible first | exact HB.out | apply below_alloc | apply pw_below_drewN | apply below_drew1 | refine below_set ?_ (IsS120.ge HI0.out) | refine below_set ?_ GE196.out) | exact HB.out)); rintro e w8 ⟨rfl, hi, hb, hk⟩; refine ⟨_, rfl, ?_⟩; replace BK196 := AM (KeepBut.blk hk (g' := gb196) (o := .cells #[.int .i64 0, .string (⟨#[]⟩ : ByteArray)] 64 (0, 0)) (bk_ BK196.out) NB196_0.out (by simp)); replace HK := AM (KeepBut.trans (kp_ (w := w)) hk (.inl rfl)); replace HB := AM hb; replace HI0 := AM hi; (try clear hb); (try clear hb2); (try clear hk); (try clear hi)) | ((with_reducible refine gate_callee (f := 64) rfl ?_); refine gl_ (some 9) Tryd.func64 #[.pointer (some ⟨g, 0, none⟩), .int .i64 30] ?_; (with_reducible refine (spec_l01Src_n.calls g s0_0 t198 t199 t200 30 t201 t202 t203 t204 w0 _ ?side1 ?side2 A3.out).mono ?_); (case side1 => repeat (first | (with_reducible first | exact HI0.out | apply IsS120.alloc | apply IsS120.drewN | apply IsS120.drew | apply IsS120.set_1 | apply IsS120.set_2 | apply IsS120.set_3 | refine IsS120.far ?_ NB0_196.out _) | exact HI0.out)); (case side2 => repeat (first | (with_reducible first | exact HB.out | apply below_alloc | apply pw_below_drewN | apply below_drew1 | refine below_set ?_ (IsS120.ge HI0.out) | refine below_set ?_ GE196.out) | exact HB.out)); rintro e w9 ⟨rfl, hi, hb, hk⟩; refine ⟨_, rfl, ?_⟩; replace BK196 := AM (KeepBut.blk hk (g' := gb196) (o := .cells #[.int .i64 0, .string (⟨#[]⟩ : ByteArray)] 64 (0, 0)) (bk_ BK196.out) NB196_0.out (by simp)); replace HK := AM (KeepBut.trans (kp_ (w := w)) hk (.inl rfl)); replace HB := AM hb; replace HI0 := AM hi; (try clear hb); (try clear hb2); (try clear hk); (try clear hi)) | ((with_reducible refine gate_callee (f := 63) rfl ?_); refine gl_ (some 10) Tryd.func63 #[.pointer (some ⟨g, 0, none⟩), .int .i64 t201] ?_; (with_reducible refine (spec_l01Src_bytes.calls k g s0_0 t202 t203 t204 t201 t205 t206 t207 t208 w0 _ ?side1 ?side2 A4.out).mono ?_); (case side1 => repeat (first | (with_reducible first | exact HI0.out | apply IsS120.alloc | apply IsS120.drewN | apply IsS120.drew | apply IsS120.set_1 | apply IsS120.set_2 | apply IsS120.set_3 | refine IsS120.far ?_ NB0_196.out _) | exact HI0.out)); (case side2 => repeat (first | (with_reducible first | exact HB.out | apply below_alloc | apply pw_below_drewN | apply below_drew1 | refine below_set ?_ (IsS120.ge HI0.out) | refine below_set ?_ GE196.out) | exact HB.out)); rintro e w10 ⟨rfl, hi, hb, hk⟩; refine ⟨_, rfl, ?_⟩; replace BK196 := AM (KeepBut.blk hk (g' := gb196) (o := .cells #[.int .i64 0, .string (⟨#[]⟩ : ByteArray)] 64 (0, 0)) (bk_ BK196.out) NB196_0.out (by simp)); replace HK := AM (KeepBut.trans (kp_ (w := w)) hk (.inl rfl)); replace HB := AM hb; replace HI0 := AM hi; (try clear hb); (try clear hb2); (try clear hk); (try clear hi)) | ((with_reducible refine gate_dst (N := 3) rfl ?_); refine be_ 3 #[.int .i64 0, .string (⟨#[]⟩ : ByteArray)] 64 ?_; intro gb209 hg w11 hbox hb; replace HB := AM (below_step (belg_ (IsS120.ge HI0.out)) hb); have BK209 := AM hbox; have GW209 := AM ((by rw [hg]; exact (keep_size (w := w) (g := g) (row := none) kp_) : w.heap.size ≤ gb209)); have GE209 := AM ((Nat.le_trans HW0.out (by rw [hg]; exact (keep_size (w := w) (g := g) (row := none) kp_) : w.heap.size ≤ gb209) : w0.heap.size ≤ gb209)); replace HK := AM (KeepBut.trans (kp_ (w := w)) (KeepBut.of_below hb g none) (.inl rfl)); have NB196_209 := AM ((by rw [hg]; exact Nat.ne_of_lt (blk_lt (g := gb196) (o := .cells #[.int .i64 0, .string (⟨#[]⟩ : ByteArray)] 64 (0, 0)) (bk_ BK196.out)) : gb196 ≠ gb209)); have NB209_196 := AM ((by rw [hg]; exact Nat.ne_of_gt (blk_lt (g := gb196) (o := .cells #[.int .i64 0, .string (⟨#[]⟩ : ByteArray)] 64 (0, 0)) (bk_ BK196.out)) : gb209 ≠ gb196)); replace BK196 := AM (blk_below (g := gb196) (o := .cells #[.int .i64 0, .string (⟨#[]⟩ : ByteArray)] 64 (0, 0)) (bk_ BK196.out) hb); have NB0_209 := AM ((by rw [hg]; exact Nat.ne_of_lt (IsS120.lt (show IsS120 w0 _ g s0_0 t206 t207 t208 from is120_)) : g ≠ gb209)); have NB209_0 := AM ((by rw [hg]; exact Nat.ne_of_gt (IsS120.lt (show IsS120 w0 _ g s0_0 t206 t207 t208 from is120_)) : gb209 ≠ g)); replace HI0 := AM (IsS120.below is120_ hb); clear hb hbox hg; have hnb12 := NB209_196.out; have hnc12 := NB196_209.out; have hnb13 := NB209_0.out; have hnc13 := NB0_209.out; have hcz14_0 : w11.cell? ⟨gb209, 0, none⟩ = some (.int .i64 0) := (blk_cell BK209.out 0).trans rfl; have hcz14_1 : w11.cell? ⟨gb209, 1, none⟩ = some (.string (⟨#[]⟩ : ByteArray)) := (blk_cell BK209.out 1).trans rfl; have hfz14_0 := blk_frozen BK209.out 0; have hfz14_1 := blk_frozen BK209.out 1) | ((with_reducible refine gate_callee (f := 120) rfl ?_); refine gl_ (some 13) Tryd.func120 #[.pointer (some ⟨g, 0, none⟩), .int .i64 25] ?_; (with_reducible refine (spec_l01Src_one.calls g s0_0 t206 t207 t208 25 t210 t211 t212 t213 w0 _ ?side1 ?side2 A5.out).mono ?_); (case side1 => repeat (first | (with_reducible first | exact HI0.out | apply IsS120.alloc | apply IsS120.drewN | apply IsS120.drew | apply IsS120.set_1 | apply IsS120.set_2 | apply IsS120.set_3 | refine IsS120.far ?_ NB0_196.out _ | refine IsS120.far ?_ NB0_209.out _) | exact HI0.out)); (case side2 => repeat (first | (with_reducible first | exact HB.out | apply below_alloc | apply pw_below_drewN | apply below_drew1 | refine below_set ?_ (IsS120.ge HI0.out) | refine below_set ?_ GE196.out | refine below_set ?_ GE209.out) | exact HB.out)); rintro e w15 ⟨rfl, hi, hb, hk⟩; refine ⟨_, rfl, ?_⟩; have n0_ := AM (KeepBut.blk hk (g' := gb196) (o := .cells #[.int .i64 0, .string (⟨#[]⟩ : ByteArray)] 64 (0, 0)) bka_ NB196_0.out (by simp)); have n1_ := AM (KeepBut.blk hk (g' := gb209) (o := .cells #[.int .i64 (wrap64 (1 + t197)), .string t205] 64 (0, 0)) bka_ NB209_0.out (by simp)); have n2_ := AM (KeepBut.trans (kp_ (w := w)) hk (.inl rfl)); have n3_ := AM hb; have n4_ := AM hi; clear BK196; clear BK209; clear HK; clear HB; clear HI0; have BK196 := n0_; have BK209 := n1_; have HK := n2_; have HB := n3_; have HI0 := n4_; clear n0_ n1_ n2_ n3_ n4_; (try clear hb); (try clear hb2); (try clear hk); (try clear hi)))
  (try simp only [Act.put, List.setIfInBounds_toArray, List.set_cons_zero, List.set_cons_succ])
  go_cut [] (fun wc => ∃ (kq : Nat) (x1001_5 : Int) (x1002_5 : Int) (x1003_5 : Int) (x210000_5 : Int), Aside0 (spec_l01Src_l07Blob.j0 kq s0_0 x1001_5 x1002_5 x1003_5 x210000_5 t205 = some (r1, r2, r3, r4, r5)) ∧ Aside0 (kq ≤ k) ∧ Aside0 (wc.heap[gb196]? = some (.cells #[.int .i64 0, .string (⟨#[]⟩ : ByteArray)] 64 (0, 0))) ∧ Aside0 (wc.heap[gb209]? = some (.cells #[.int .i64 x210000_5, .string t205] 64 (0, 0))) ∧ Aside0 (IsS120 w0 wc g s0_0 x1001_5 x1002_5 x1003_5) ∧ Aside0 (KeepBut w wc g none) ∧ Aside0 (Below w0.heap.size w0 wc))
  case first =>
    have H := HC6.out
    clear HC6
    by_cases c16 : t210 = true
    · subst c16
      rw [if_pos rfl] at H
      obtain ⟨⟨t214, t215, t216, t217⟩, A17, H⟩ := OB H
      try dsimp only at H
      replace A17 := AM A17
      have H' := AM H
      clear H
      go_wp2_with (first | ((with_reducible refine gate_callee (f := 64) rfl ?_); refine gl_ (some 15) Tryd.func64 #[.pointer (some ⟨g, 0, none⟩), .int .i64 5] ?_; (with_reducible refine (spec_l01Src_n.calls g s0_0 t211 t212 t213 5 t214 t215 t216 t217 w0 _ ?side1 ?side2 A17.out).mono ?_); (case side1 => repeat (first | (with_reducible first | exact HI0.out | apply IsS120.alloc | apply IsS120.drewN | apply IsS120.drew | apply IsS120.set_1 | apply IsS120.set_2 | apply IsS120.set_3 | refine IsS120.far ?_ NB0_196.out _ | refine IsS120.far ?_ NB0_209.out _) | exact HI0.out)); (case side2 => repeat (first | (with_reducible first | exact HB.out | apply below_alloc | apply pw_below_drewN | apply below_drew1 | refine below_set ?_ (IsS120.ge HI0.out) | refine below_set ?_ GE196.out | refine below_set ?_ GE209.out) | exact HB.out)); rintro e w18 ⟨rfl, hi, hb, hk⟩; refine ⟨_, rfl, ?_⟩; replace BK196 := AM (KeepBut.blk hk (g' := gb196) (o := .cells #[.int .i64 0, .string (⟨#[]⟩ : ByteArray)] 64 (0, 0)) (bk_ BK196.out) NB196_0.out (by simp)); replace BK209 := AM (KeepBut.blk hk (g' := gb209) (o := .cells #[.int .i64 (wrap64 (1 + t197)), .string t205] 64 (0, 0)) (bk_ BK209.out) NB209_0.out (by simp)); replace HK := AM (KeepBut.trans (kp_ (w := w)) hk (.inl rfl)); replace HB := AM hb; replace HI0 := AM hi; (try clear hb); (try clear hb2); (try clear hk); (try clear hi); have hnb19 := NB209_196.out; have hnc19 := NB196_209.out; have hnb20 := NB209_0.out; have hnc20 := NB0_209.out; have hcz21_0 : w18.cell? ⟨gb209, 0, none⟩ = some (.int .i64 (wrap64 (1 + t197))) := (blk_cell BK209.out 0).trans rfl; have hcz21_1 : w18.cell? ⟨gb209, 1, none⟩ = some (.string t205) := (blk_cell BK209.out 1).trans rfl; have hfz21_0 := blk_frozen BK209.out 0; have hfz21_1 := blk_frozen BK209.out 1))
      go_meet
      case rel => exact ⟨_, (t215), (t216), (t217), (wrap64 (t214 - 1)), H', ⟨by first | omega | exact Nat.le_refl _⟩, ⟨bka_⟩, ⟨bka_⟩, ⟨is120_⟩, ⟨kp_⟩, ⟨belg_ (IsS120.ge HI0.out)⟩⟩
    · replace c16 := Bool.eq_false_iff.mpr c16
      subst c16
      rw [if_neg (show ¬ (false = true) by decide)] at H
      have H' := AM H
      clear H
      go_wp2
      go_meet
      case rel => exact ⟨_, (t211), (t212), (t213), (wrap64 (1 + t197)), H', ⟨by first | omega | exact Nat.le_refl _⟩, ⟨bk_ BK196.out⟩, ⟨bk_ BK209.out⟩, ⟨is120_⟩, ⟨kp_⟩, ⟨belg_ (IsS120.ge HI0.out)⟩⟩
  case rest =>
    clear HC6
    try clear c1
    try clear c2
    try clear p2
    try clear c6
    try clear p6
    try clear c11
    try clear c12
    try clear c13
    try clear c16
    try clear c19
    try clear c20
    try clear hcz14_0
    try clear hcz14_1
    try clear hcz21_0
    try clear hcz21_1
    try clear hfz14_0
    try clear hfz14_1
    try clear hfz21_0
    try clear hfz21_1
    obtain ⟨kq, x1001_5, x1002_5, x1003_5, x210000_5, HA, HJ5, BK196, BK209, HI0, HK, HB⟩ := hcut
    cases kq with
    | zero => exact absurd HA.out (by simp [spec_l01Src_l07Blob.j0])
    | succ kj5 =>
      have H := HA.out
      clear HA
      simp only [spec_l01Src_l07Blob.j0] at H
      obtain ⟨⟨t218, t219, t220, t221⟩, A22, H⟩ := OB H
      try dsimp only at H
      replace A22 := AM A22
      by_cases c23 : t218 = true
      · subst c23
        rw [if_pos rfl] at H
        obtain ⟨⟨t222, t223, t224, t225⟩, A24, H⟩ := OB H
        try dsimp only at H
        replace A24 := AM A24
        obtain ⟨ji25, hji25⟩ : ∃ j_ : Int, (wrap64 (1999 + t222)) = j_ := ⟨_, rfl⟩
        replace H : (if 0 ≤ (ji25) then (if (ji25 : Int).toNat ≤ 281474976710656 then (some (x210000_5, strOfNums (List.replicate (ji25 : Int).toNat 0), t223, t224, t225)) else (none)) else (none)) = some (r1, r2, r3, r4, r5) := by first | (rw [hji25] at H; exact H) | (simp only [hji25] at H ⊢; exact H)
        (try rw [hji25] at A22)
        (try rw [hji25] at A24)
        have hji25w : (IntKind.i64.wrap (1999 + t222)) = ji25 := (i64_w _).trans hji25
        by_cases c26 : 0 ≤ (ji25)
        · rw [if_pos c26] at H
          have c26b0 := eq_true c26
          have c26b1 : decide (0 ≤ (ji25)) = true := decide_eq_true c26
          clear c26
          by_cases c27 : (ji25 : Int).toNat ≤ 281474976710656
          · rw [if_pos c27] at H
            have c27b0 := eq_true c27
            have c27b1 : decide ((ji25 : Int).toNat ≤ 281474976710656) = true := decide_eq_true c27
            clear c27
            obtain ⟨y226, hy226⟩ : ∃ y_ : List Int, y_ = (List.replicate (ji25 : Int).toNat 0) := ⟨_, rfl⟩
            replace H : (some (x210000_5, strOfNums y226, t223, t224, t225)) = some (r1, r2, r3, r4, r5) := by first | (rw [hy226]; with_reducible exact H) | (have H2_ := (Option.bind_some _ _).symm.trans H; rw [hy226]; with_reducible exact H2_) | (have H2_ := (Option.bind_some _ _).symm.trans H; with_reducible exact H2_) | with_reducible exact H | (rw [hy226]; exact H) | exact H
            have Ny226 := AM hy226
            clear hy226
            simp only [Option.some.injEq, Prod.mk.injEq] at H
            obtain ⟨rfl, rfl, rfl, rfl, rfl⟩ := H
            go_wp2_with (first | ((with_reducible refine gate_callee (f := 120) rfl ?_); refine gl_ (some 19) Tryd.func120 #[.pointer (some ⟨g, 0, none⟩), .int .i64 60] ?_; (with_reducible refine (spec_l01Src_one.calls g s0_0 x1001_5 x1002_5 x1003_5 60 true t219 t220 t221 w0 _ ?side1 ?side2 A22.out).mono ?_); (case side1 => repeat (first | (with_reducible first | exact HI0.out | apply IsS120.alloc | apply IsS120.drewN | apply IsS120.drew | apply IsS120.set_1 | apply IsS120.set_2 | apply IsS120.set_3 | refine IsS120.far ?_ NB0_196.out _ | refine IsS120.far ?_ NB0_209.out _) | exact HI0.out)); (case side2 => repeat (first | (with_reducible first | exact HB.out | apply below_alloc | apply pw_below_drewN | apply below_drew1 | refine below_set ?_ (IsS120.ge HI0.out) | refine below_set ?_ GE196.out | refine below_set ?_ GE209.out) | exact HB.out)); rintro e w28 ⟨rfl, hi, hb, hk⟩; refine ⟨_, rfl, ?_⟩; replace BK196 := AM (KeepBut.blk hk (g' := gb196) (o := .cells #[.int .i64 0, .string (⟨#[]⟩ : ByteArray)] 64 (0, 0)) (bk_ BK196.out) NB196_0.out (by simp)); replace BK209 := AM (KeepBut.blk hk (g' := gb209) (o := .cells #[.int .i64 x210000_5, .string t205] 64 (0, 0)) (bk_ BK209.out) NB209_0.out (by simp)); replace HK := AM (KeepBut.trans (kp_ (w := w)) hk (.inl rfl)); replace HB := AM hb; replace HI0 := AM hi; (try clear hb); (try clear hb2); (try clear hk); (try clear hi)) | ((with_reducible refine gate_callee (f := 64) rfl ?_); refine gl_ (some 21) Tryd.func64 #[.pointer (some ⟨g, 0, none⟩), .int .i64 3] ?_; (with_reducible refine (spec_l01Src_n.calls g s0_0 t219 t220 t221 3 t222 t223 t224 t225 w0 _ ?side1 ?side2 A24.out).mono ?_); (case side1 => repeat (first | (with_reducible first | exact HI0.out | apply IsS120.alloc | apply IsS120.drewN | apply IsS120.drew | apply IsS120.set_1 | apply IsS120.set_2 | apply IsS120.set_3 | refine IsS120.far ?_ NB0_196.out _ | refine IsS120.far ?_ NB0_209.out _) | exact HI0.out)); (case side2 => repeat (first | (with_reducible first | exact HB.out | apply below_alloc | apply pw_below_drewN | apply below_drew1 | refine below_set ?_ (IsS120.ge HI0.out) | refine below_set ?_ GE196.out | refine below_set ?_ GE209.out) | exact HB.out)); rintro e w29 ⟨rfl, hi, hb, hk⟩; refine ⟨_, rfl, ?_⟩; replace BK196 := AM (KeepBut.blk hk (g' := gb196) (o := .cells #[.int .i64 0, .string (⟨#[]⟩ : ByteArray)] 64 (0, 0)) (bk_ BK196.out) NB196_0.out (by simp)); replace BK209 := AM (KeepBut.blk hk (g' := gb209) (o := .cells #[.int .i64 x210000_5, .string t205] 64 (0, 0)) (bk_ BK209.out) NB209_0.out (by simp)); replace HK := AM (KeepBut.trans (kp_ (w := w)) hk (.inl rfl)); replace HB := AM hb; replace HI0 := AM hi; (try clear hb); (try clear hb2); (try clear hk); (try clear hi)) | ((with_reducible refine gate_dst (N := 23) rfl ?_); refine Kd.R_make (Kd.int .u8) _ 5 rfl (N := 23) rfl 38 _ _ rfl ji25 rfl rfl Tryd.underlying38 (.int .u8 0) 1 info5 rfl (by decide) (by omega) 0 (ok := fun _ => True) (okp := fun _ => True) rfl (fun _ hk => hk) trivial (of_decide_eq_true (by first | (with_reducible assumption) | assumption)) (Nat.le_trans (Nat.mul_le_mul_right _ (of_decide_eq_true (by first | (with_reducible assumption) | assumption) : ji25.toNat ≤ 281474976710656)) (by omega)) (Below.refl _ _) (Nat.le_refl _) ?_; intro v227 w30 ho31 hb hg_ hnew_; clear hg_ hnew_; (first | rw [← Ny226.out] at ho31 | (simp only [Int.reduceToNat] at ho31; rw [← Ny226.out] at ho31)); have HO228 := AM (Kd.R_lower ho31 (keep_size (w := w) (g := g) (row := none) kp_)); replace BK196 := AM (blk_below (g := gb196) (o := .cells #[.int .i64 0, .string (⟨#[]⟩ : ByteArray)] 64 (0, 0)) (bk_ BK196.out) hb); replace BK209 := AM (blk_below (g := gb209) (o := .cells #[.int .i64 x210000_5, .string t205] 64 (0, 0)) (bk_ BK209.out) hb); replace HK := AM (KeepBut.trans (kp_ (w := w)) (KeepBut.of_below hb g none) (.inl rfl)); replace HB := AM (below_step (belg_ (IsS120.ge HI0.out)) hb); replace HI0 := AM (IsS120.below is120_ hb); clear hb ho31; have hcv32 := own_string (P := Tryd.prog) Tryd.underlying38 Tryd.underlying5 Tryd.underlying9 (Kd.own_of_R HO228.out); have hnb33 := NB209_196.out; have hnc33 := NB196_209.out; have hnb34 := NB209_0.out; have hnc34 := NB0_209.out; have hcz35_0 : w30.cell? ⟨gb209, 0, none⟩ = some (.int .i64 x210000_5) := (blk_cell BK209.out 0).trans rfl; have hcz35_1 : w30.cell? ⟨gb209, 1, none⟩ = some (.string t205) := (blk_cell BK209.out 1).trans rfl; have hfz35_0 := blk_frozen BK209.out 0; have hfz35_1 := blk_frozen BK209.out 1; have hnb36 := NB196_0.out; have hnc36 := NB0_196.out; have hcz37_0 : w30.cell? ⟨gb196, 0, none⟩ = some (.int .i64 0) := (blk_cell BK196.out 0).trans rfl; have hcz37_1 : w30.cell? ⟨gb196, 1, none⟩ = some (.string (⟨#[]⟩ : ByteArray)) := (blk_cell BK196.out 1).trans rfl; have hfz37_0 := blk_frozen BK196.out 0; have hfz37_1 := blk_frozen BK196.out 1))
            refine bodyPost_ret (results_cell_row rfl _ _ gb196 64 #[.int .i64 x210000_5, .string (strOfNums y226)] (0, 0) _ rfl bka_ Tryd.underlying64 rfl (by kernel_rfl)) rfl ?_
            exact ⟨by first | rfl | (simp [errW_none, errW_some] <;> rfl) | (simp only [← hji25]; first | rfl | (simp [errW_none, errW_some] <;> rfl)) | (simp [*, errW_none, errW_some] <;> rfl), is120_, belg_ (IsS120.ge HI0.out), kp_⟩
          · rw [if_neg c27] at H
            exact absurd H (by simp)
        · rw [if_neg c26] at H
          exact absurd H (by simp)
      · replace c23 := Bool.eq_false_iff.mpr c23
        subst c23
        rw [if_neg (show ¬ (false = true) by decide)] at H
        simp only [Option.some.injEq, Prod.mk.injEq] at H
        obtain ⟨rfl, rfl, rfl, rfl, rfl⟩ := H
        go_wp2_with (first | ((with_reducible refine gate_callee (f := 120) rfl ?_); refine gl_ (some 19) Tryd.func120 #[.pointer (some ⟨g, 0, none⟩), .int .i64 60] ?_; (with_reducible refine (spec_l01Src_one.calls g s0_0 x1001_5 x1002_5 x1003_5 60 false t219 t220 t221 w0 _ ?side1 ?side2 A22.out).mono ?_); (case side1 => repeat (first | (with_reducible first | exact HI0.out | apply IsS120.alloc | apply IsS120.drewN | apply IsS120.drew | apply IsS120.set_1 | apply IsS120.set_2 | apply IsS120.set_3 | refine IsS120.far ?_ NB0_196.out _ | refine IsS120.far ?_ NB0_209.out _) | exact HI0.out)); (case side2 => repeat (first | (with_reducible first | exact HB.out | apply below_alloc | apply pw_below_drewN | apply below_drew1 | refine below_set ?_ (IsS120.ge HI0.out) | refine below_set ?_ GE196.out | refine below_set ?_ GE209.out) | exact HB.out)); rintro e w38 ⟨rfl, hi, hb, hk⟩; refine ⟨_, rfl, ?_⟩; replace BK196 := AM (KeepBut.blk hk (g' := gb196) (o := .cells #[.int .i64 0, .string (⟨#[]⟩ : ByteArray)] 64 (0, 0)) (bk_ BK196.out) NB196_0.out (by simp)); replace BK209 := AM (KeepBut.blk hk (g' := gb209) (o := .cells #[.int .i64 x210000_5, .string t205] 64 (0, 0)) (bk_ BK209.out) NB209_0.out (by simp)); replace HK := AM (KeepBut.trans (kp_ (w := w)) hk (.inl rfl)); replace HB := AM hb; replace HI0 := AM hi; (try clear hb); (try clear hb2); (try clear hk); (try clear hi); have hnb39 := NB209_196.out; have hnc39 := NB196_209.out; have hnb40 := NB209_0.out; have hnc40 := NB0_209.out; have hcz41_0 : w38.cell? ⟨gb209, 0, none⟩ = some (.int .i64 x210000_5) := (blk_cell BK209.out 0).trans rfl; have hcz41_1 : w38.cell? ⟨gb209, 1, none⟩ = some (.string t205) := (blk_cell BK209.out 1).trans rfl; have hfz41_0 := blk_frozen BK209.out 0; have hfz41_1 := blk_frozen BK209.out 1; have hnb42 := NB196_0.out; have hnc42 := NB0_196.out; have hcz43_0 : w38.cell? ⟨gb196, 0, none⟩ = some (.int .i64 0) := (blk_cell BK196.out 0).trans rfl; have hcz43_1 : w38.cell? ⟨gb196, 1, none⟩ = some (.string (⟨#[]⟩ : ByteArray)) := (blk_cell BK196.out 1).trans rfl; have hfz43_0 := blk_frozen BK196.out 0; have hfz43_1 := blk_frozen BK196.out 1))
        refine bodyPost_ret (results_cell_row rfl _ _ gb196 64 #[.int .i64 x210000_5, .string t205] (0, 0) _ rfl bka_ Tryd.underlying64 rfl (by kernel_rfl)) rfl ?_
        exact ⟨ri_, is120_, belg_ (IsS120.ge HI0.out), kp_⟩

/-! ### spec_l01Dec: function 121 -/
def spec_l01Dec.l0 : Nat → Int → Bool → ByteArray → Option (ByteArray)
  | 0, _, _, _ => none
  | k + 1, x0, x3, x4 => if x0 = 0 then (if x3 = true then (if 1 + x4.size ≤ 9223372036854775807 then (some ((⟨#[45]⟩ : ByteArray) ++ x4)) else (none)) else (some x4)) else (if (Int.tmod x0 10) < 0 then ((some (([(wrap64 (48 + (wrap64 (-(Int.tmod x0 10))))) % 256] : List Int) : List Int)).bind fun y229 => (if (strOfNums y229).size + x4.size ≤ 9223372036854775807 then (spec_l01Dec.l0 k (wrap64 (Int.tdiv x0 10)) x3 ((strOfNums y229) ++ x4)) else (none))) else ((some (([(wrap64 (48 + (Int.tmod x0 10))) % 256] : List Int) : List Int)).bind fun y232 => (if (strOfNums y232).size + x4.size ≤ 9223372036854775807 then (spec_l01Dec.l0 k (wrap64 (Int.tdiv x0 10)) x3 ((strOfNums y232) ++ x4)) else (none))))
def spec_l01Dec.f (k : Nat) (a0 : Int) : Option (ByteArray) := if a0 = 0 then (some (⟨#[48]⟩ : ByteArray)) else (spec_l01Dec.l0 k a0 (decide (a0 < 0)) (⟨#[]⟩ : ByteArray))
theorem spec_l01Dec.mono_l : ∀ k, (∀ y0 y1 y2, LeO (spec_l01Dec.l0 k y0 y1 y2) (spec_l01Dec.l0 (k + 1) y0 y1 y2))
  | 0 => fun _ _ _ r h => by simp [spec_l01Dec.l0] at h
  | k + 1 => by
    have ih0 := spec_l01Dec.mono_l k
    · intro y0 y1 y2
      unfold spec_l01Dec.l0
      repeat' first
      | (with_reducible exact ih0 _ _ _)
      | (with_reducible exact LeO.refl _)
      | (with_reducible exact LeO.none _)
      | (with_reducible refine LeO.ite ?_ ?_)
      | (with_reducible refine LeO.bind ?_ (fun _ => ?_))
      | exact ih0 _ _ _
      | exact LeO.none _
      | refine LeO.ite ?_ ?_
      | refine LeO.bind ?_ (fun _ => ?_)
theorem spec_l01Dec.mono : ∀ a0 k, LeO (spec_l01Dec.f k a0) (spec_l01Dec.f (k + 1) a0) := by
  intro a0 k
  have ih0 := spec_l01Dec.mono_l k
  unfold spec_l01Dec.f
  repeat' first
      | (with_reducible exact ih0 _ _ _)
      | (with_reducible exact LeO.refl _)
      | (with_reducible exact LeO.none _)
      | (with_reducible refine LeO.ite ?_ ?_)
      | (with_reducible refine LeO.bind ?_ (fun _ => ?_))
      | exact ih0 _ _ _
      | exact LeO.none _
      | refine LeO.ite ?_ ?_
      | refine LeO.bind ?_ (fun _ => ?_)
set_option maxHeartbeats 8000000 in
set_option maxRecDepth 100000 in
theorem spec_l01Dec.calls (k : Nat) (a0 : Int) (r : ByteArray) (w : World) (h : spec_l01Dec.f k a0 = some r) :
    Calls Tryd.prog 121 #[.int .i64 a0] w fun e w' => e = .returned (.string r) ∧ Below w.heap.size w w' := by
  have HB := AM (Below.refl w.heap.size w)
  have H : (if a0 = 0 then (some (⟨#[48]⟩ : ByteArray)) else (spec_l01Dec.l0 k a0 (decide (a0 < 0)) (⟨#[]⟩ : ByteArray))) = some r := h
  clear h
  by_cases c2 : a0 = 0
  · rw [if_pos c2] at H
    have c2b0 : (a0 == 0) = true := beq_iff_eq.mpr c2
    have c2b1 : (a0 != 0) = false := bne_eq_false_iff_eq.mpr c2
    clear c2
    obtain rfl := Option.some.inj H
    go_enter Tryd.func121, Tryd.ntmps121
    go_wp2
    go_ret
    exact ⟨ri_, bel_⟩
  · rw [if_neg c2] at H
    have c2b0 : (a0 == 0) = false := beq_eq_false_iff_ne.mpr c2
    have c2b1 : (a0 != 0) = true := bne_iff_ne.mpr c2
    have H' := AM H
    clear H
    go_enter Tryd.func121, Tryd.ntmps121
    go_wp2
    go_loopg [0, 4] k (fun kq v0 v4 w' => ∃ (x0_1 : Int) (x4_1 : ByteArray), v0 = .int .i64 x0_1 ∧ v4 = .string x4_1 ∧ Aside0 (spec_l01Dec.l0 kq x0_1 (decide (a0 < 0)) x4_1 = some r) ∧ Aside0 (kq ≤ k) ∧ Aside0 (Below w.heap.size w w'))
    case atStart => exact ⟨(a0), ((⟨#[]⟩ : ByteArray)), (by first | rfl | (simp; done) | (simp [*]; done)), (by first | rfl | (simp; done) | (simp [*]; done)), H', ⟨Nat.le_refl _⟩, ⟨bel_⟩⟩
    case round =>
      clear H'
      try clear c1
      try clear c2
      try clear c2b0
      try clear c2b1
      try clear p2
      obtain ⟨x0_1, x4_1, rfl, rfl, HA, HK1, HB⟩ := hrel
      cases gk with
      | zero => exact absurd HA.out (by simp [spec_l01Dec.l0])
      | succ k1 =>
        have H := HA.out
        clear HA
        simp only [spec_l01Dec.l0] at H
        by_cases c3 : x0_1 = 0
        · rw [if_pos c3] at H
          have c3b0 : (x0_1 == 0) = true := beq_iff_eq.mpr c3
          have c3b1 : (x0_1 != 0) = false := bne_eq_false_iff_eq.mpr c3
          clear c3
          by_cases c4 : (decide (a0 < 0)) = true
          · rw [if_pos c4] at H
            have c4b0 : (decide (a0 < 0)) = true := c4
            clear c4
            by_cases c5 : 1 + x4_1.size ≤ 9223372036854775807
            · rw [if_pos c5] at H
              have c5b0 := eq_true c5
              have c5b1 : decide (1 + x4_1.size ≤ 9223372036854775807) = true := decide_eq_true c5
              try have c5b2 : (9223372036854775807 < 1 + x4_1.size) = False := eq_false (Nat.not_lt.2 c5)
              obtain rfl := Option.some.inj H
              go_wp2
              all_goals first | (exfalso; have z_ := of_decide_eq_true c4b0; omega) | (go_ret; exact ⟨ri_, bel_⟩)
            · rw [if_neg c5] at H
              exact absurd H (by simp)
          · rw [if_neg c4] at H
            have c4b0 : (decide (a0 < 0)) = false := by simpa using c4
            clear c4
            obtain rfl := Option.some.inj H
            go_wp2
            all_goals first | (exfalso; have z_ := of_decide_eq_false c4b0; omega) | (go_ret; exact ⟨ri_, bel_⟩)
        · rw [if_neg c3] at H
          have c3b0 : (x0_1 == 0) = false := beq_eq_false_iff_ne.mpr c3
          have c3b1 : (x0_1 != 0) = true := bne_iff_ne.mpr c3
          by_cases c6 : (Int.tmod x0_1 10) < 0
          · rw [if_pos c6] at H
            have c6b0 : decide ((Int.tmod x0_1 10) < 0) = true := decide_eq_true c6
            clear c6
            obtain ⟨y229, hy229⟩ : ∃ y_ : List Int, y_ = (([(wrap64 (48 + (wrap64 (-(Int.tmod x0_1 10))))) % 256] : List Int)) := ⟨_, rfl⟩
            replace H : (if (strOfNums y229).size + x4_1.size ≤ 9223372036854775807 then (spec_l01Dec.l0 k1 (wrap64 (Int.tdiv x0_1 10)) (decide (a0 < 0)) ((strOfNums y229) ++ x4_1)) else (none)) = some r := by first | (rw [hy229]; with_reducible exact H) | (have H2_ := (Option.bind_some _ _).symm.trans H; rw [hy229]; with_reducible exact H2_) | (have H2_ := (Option.bind_some _ _).symm.trans H; with_reducible exact H2_) | with_reducible exact H | (rw [hy229]; exact H) | exact H
            have Ny229 := AM hy229
            clear hy229
            by_cases c7 : (strOfNums y229).size + x4_1.size ≤ 9223372036854775807
            · rw [if_pos c7] at H
              have c7b0 := eq_true c7
              have c7b1 : decide ((strOfNums y229).size + x4_1.size ≤ 9223372036854775807) = true := decide_eq_true c7
              try have c7b2 : (9223372036854775807 < (strOfNums y229).size + x4_1.size) = False := eq_false (Nat.not_lt.2 c7)
              have H' := AM H
              clear H
              go_wp2_with (first | ((with_reducible refine gate_dst (N := 21) rfl ?_); refine Kd.R_lit (Kd.int .u8) _ 5 ?hg (N := 21) ?hd (xs := ([(wrap64 (48 + (wrap64 (-(Int.tmod x0_1 10))))) % 256] : List Int)) (inner := [.int .u8 ((wrap64 (48 + (wrap64 (-(Int.tmod x0_1 10))))) % 256)]) (ok := fun _ => True) (okp := fun _ => True) ?hr ?hp (fun _ hk => hk) trivial (Below.refl _ _) (Nat.le_refl _) (by simp) ?_; (case hd => rfl); (case hg => rfl); (case hr => first | (go_simp; done) | (go_simp; rfl)); (case hp => exact (Reps.one (show Kd.M (Kd.int .u8) _ _ _ ((wrap64 (48 + (wrap64 (-(Int.tmod x0_1 10))))) % 256) [.int .u8 ((wrap64 (48 + (wrap64 (-(Int.tmod x0_1 10))))) % 256)] from rfl) (Reps.none _ _))); intro v230 w8 ho9 hb hg_ hnew_; clear hg_ hnew_; (first | rw [← Ny229.out] at ho9 | (simp only [Int.reduceToNat] at ho9; rw [← Ny229.out] at ho9)); have HO231 := AM (Kd.R_lower ho9 (below_size bel_)); replace HB := AM (below_step bel_ hb); clear hb ho9; have hcv10 := own_string (P := Tryd.prog) Tryd.underlying38 Tryd.underlying5 Tryd.underlying9 (Kd.own_of_R HO231.out)))
              go_roundg k1
              case measure => have := HK1.out; omega
              case rel => exact ⟨(wrap64 (Int.tdiv x0_1 10)), ((strOfNums y229) ++ x4_1), (by first | rfl | (simp; done) | (simp [*]; done)), (by first | rfl | (simp; done) | (simp [*]; done)), H', ⟨by have := HK1.out; omega⟩, ⟨bel_⟩⟩
            · rw [if_neg c7] at H
              exact absurd H (by simp)
          · rw [if_neg c6] at H
            have c6b0 : decide ((Int.tmod x0_1 10) < 0) = false := decide_eq_false c6
            clear c6
            obtain ⟨y232, hy232⟩ : ∃ y_ : List Int, y_ = (([(wrap64 (48 + (Int.tmod x0_1 10))) % 256] : List Int)) := ⟨_, rfl⟩
            replace H : (if (strOfNums y232).size + x4_1.size ≤ 9223372036854775807 then (spec_l01Dec.l0 k1 (wrap64 (Int.tdiv x0_1 10)) (decide (a0 < 0)) ((strOfNums y232) ++ x4_1)) else (none)) = some r := by first | (rw [hy232]; with_reducible exact H) | (have H2_ := (Option.bind_some _ _).symm.trans H; rw [hy232]; with_reducible exact H2_) | (have H2_ := (Option.bind_some _ _).symm.trans H; with_reducible exact H2_) | with_reducible exact H | (rw [hy232]; exact H) | exact H
            have Ny232 := AM hy232
            clear hy232
            by_cases c11 : (strOfNums y232).size + x4_1.size ≤ 9223372036854775807
            · rw [if_pos c11] at H
              have c11b0 := eq_true c11
              have c11b1 : decide ((strOfNums y232).size + x4_1.size ≤ 9223372036854775807) = true := decide_eq_true c11
              try have c11b2 : (9223372036854775807 < (strOfNums y232).size + x4_1.size) = False := eq_false (Nat.not_lt.2 c11)
              have H' := AM H
              clear H
              go_wp2_with (first | ((with_reducible refine gate_dst (N := 21) rfl ?_); refine Kd.R_lit (Kd.int .u8) _ 5 ?hg (N := 21) ?hd (xs := ([(wrap64 (48 + (Int.tmod x0_1 10))) % 256] : List Int)) (inner := [.int .u8 ((wrap64 (48 + (Int.tmod x0_1 10))) % 256)]) (ok := fun _ => True) (okp := fun _ => True) ?hr ?hp (fun _ hk => hk) trivial (Below.refl _ _) (Nat.le_refl _) (by simp) ?_; (case hd => rfl); (case hg => rfl); (case hr => first | (go_simp; done) | (go_simp; rfl)); (case hp => exact (Reps.one (show Kd.M (Kd.int .u8) _ _ _ ((wrap64 (48 + (Int.tmod x0_1 10))) % 256) [.int .u8 ((wrap64 (48 + (Int.tmod x0_1 10))) % 256)] from rfl) (Reps.none _ _))); intro v233 w12 ho13 hb hg_ hnew_; clear hg_ hnew_; (first | rw [← Ny232.out] at ho13 | (simp only [Int.reduceToNat] at ho13; rw [← Ny232.out] at ho13)); have HO234 := AM (Kd.R_lower ho13 (below_size bel_)); replace HB := AM (below_step bel_ hb); clear hb ho13; have hcv14 := own_string (P := Tryd.prog) Tryd.underlying38 Tryd.underlying5 Tryd.underlying9 (Kd.own_of_R HO234.out)))
              go_roundg k1
              case measure => have := HK1.out; omega
              case rel => exact ⟨(wrap64 (Int.tdiv x0_1 10)), ((strOfNums y232) ++ x4_1), (by first | rfl | (simp; done) | (simp [*]; done)), (by first | rfl | (simp; done) | (simp [*]; done)), H', ⟨by have := HK1.out; omega⟩, ⟨bel_⟩⟩
            · rw [if_neg c11] at H
              exact absurd H (by simp)

end Go.Proofs.YtddapeieolfolaaDoor.PFnScan
