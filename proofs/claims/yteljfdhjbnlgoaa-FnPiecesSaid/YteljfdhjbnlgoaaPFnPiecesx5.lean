/- Functions of the law FnPieces: the print's, with walks of this session's own. No statement is proved here. -/
import Derived.WalkLawsBesides
import Derived.Test.YteljfdhjbnlgoaaReg
-- A program of this session wrote this text: a changed copy of the kit print, with given functions.
import Derived.Test.YteljfdhjbnlgoaaPFnPiecesx0
import Derived.Test.YteljfdhjbnlgoaaPFnPiecesx1
import Derived.Test.YteljfdhjbnlgoaaPFnPiecesx2
import Derived.Test.YteljfdhjbnlgoaaPFnPiecesx4
namespace Go.Proofs.Yteljfdhjbnlgoaa.PFnPieces
open Go.RowKit Go.Proofs.YteljfdhjbnlgoaaW.PrintWords Go.Proofs.YteljfdhjbnlgoaaW.PrintLast Go.Proofs.YteljfdhjbnlgoaaW.PrintMore Go.Proofs.Yteljfdhjbnlgoaa.Reg
attribute [local go_sem] max2_int min2_int max_two min_two max_three min_three max_four min_four   -- for this text's walks alone
set_option linter.unusedVariables false
set_option linter.unusedSimpArgs false

/-! ### spec_l01Src_bytes: function 76 -/
def spec_l01Src_bytes.l0 : Nat → Int → List Int → Int → List Int → Int → Int → Int → Option (ByteArray × Int × Int × Int)
  | 0, _, _, _, _, _, _, _ => none
  | k + 1, x1, x5, x6, x1000, x1001, x1002, x1003 => if x6 < x1 then ((spec_l01Src_n.f x1000 x1001 x1002 x1003 256).bind fun bt157 => (if x5.length < 140737488355328 then (spec_l01Src_bytes.l0 k x1 (x5 ++ [(bt157.1) % 256]) (wrap64 (x6 + 1)) x1000 bt157.2.1 bt157.2.2.1 bt157.2.2.2) else (none))) else (some (strOfNums x5, x1001, x1002, x1003))
def spec_l01Src_bytes.f (k : Nat) (s0_0 : List Int) (s0_1 : Int) (s0_2 : Int) (s0_3 : Int) (a1 : Int) : Option (ByteArray × Int × Int × Int) := spec_l01Src_bytes.l0 k a1 (([] : List Int)) 0 s0_0 s0_1 s0_2 s0_3
theorem spec_l01Src_bytes.mono_l : ∀ k, (∀ y0 y1 y2 y3 y4 y5 y6, LeO (spec_l01Src_bytes.l0 k y0 y1 y2 y3 y4 y5 y6) (spec_l01Src_bytes.l0 (k + 1) y0 y1 y2 y3 y4 y5 y6))
  | 0 => fun _ _ _ _ _ _ _ r h => by simp [spec_l01Src_bytes.l0] at h
  | k + 1 => by
    have ih0 := spec_l01Src_bytes.mono_l k
    · intro y0 y1 y2 y3 y4 y5 y6
      unfold spec_l01Src_bytes.l0
      repeat' first
      | (with_reducible exact ih0 _ _ _ _ _ _ _)
      | (with_reducible exact LeO.refl _)
      | (with_reducible exact LeO.none _)
      | (with_reducible refine LeO.ite ?_ ?_)
      | (with_reducible refine LeO.bind ?_ (fun _ => ?_))
      | exact ih0 _ _ _ _ _ _ _
      | exact LeO.none _
      | refine LeO.ite ?_ ?_
      | refine LeO.bind ?_ (fun _ => ?_)
theorem spec_l01Src_bytes.mono : ∀ a0 a1 a2 a3 a4 k, LeO (spec_l01Src_bytes.f k a0 a1 a2 a3 a4) (spec_l01Src_bytes.f (k + 1) a0 a1 a2 a3 a4) := by
  intro a0 a1 a2 a3 a4 k
  have ih0 := spec_l01Src_bytes.mono_l k
  unfold spec_l01Src_bytes.f
  repeat' first
      | (with_reducible exact ih0 _ _ _ _ _ _ _)
      | (with_reducible exact LeO.refl _)
      | (with_reducible exact LeO.none _)
      | (with_reducible refine LeO.ite ?_ ?_)
      | (with_reducible refine LeO.bind ?_ (fun _ => ?_))
      | exact ih0 _ _ _ _ _ _ _
      | exact LeO.none _
      | refine LeO.ite ?_ ?_
      | refine LeO.bind ?_ (fun _ => ?_)
set_option maxHeartbeats 8000000 in
set_option maxRecDepth 100000 in
theorem spec_l01Src_bytes.calls (k : Nat) (g : Nat) (s0_0 : List Int) (s0_1 : Int) (s0_2 : Int) (s0_3 : Int) (a1 : Int) (r1 : ByteArray) (r2 : Int) (r3 : Int) (r4 : Int) (w0 w : World) (hI : IsS157 w0 w g s0_0 s0_1 s0_2 s0_3) (hB : Below w0.heap.size w0 w) (h : spec_l01Src_bytes.f k s0_0 s0_1 s0_2 s0_3 a1 = some (r1, r2, r3, r4)) :
    Calls Try.prog 76 #[.pointer (some ⟨g, 0, none⟩), .int .i64 a1] w fun e w' => e = .returned (.string r1) ∧ IsS157 w0 w' g s0_0 r2 r3 r4 ∧ Below w0.heap.size w0 w' ∧ KeepBut w w' g none := by
  have HI0 := Aside0.mk hI
  have HK := Aside0.mk (KeepBut.refl w g none)
  have HL := Aside0.mk hB.size
  clear hI
  have HW0 := Aside0.mk hB.size
  have HB := Aside0.mk hB
  clear hB
  have H : (spec_l01Src_bytes.l0 k a1 (([] : List Int)) 0 s0_0 s0_1 s0_2 s0_3) = some (r1, r2, r3, r4) := h
  clear h
  obtain ⟨y154, hy154⟩ : ∃ y_ : List Int, y_ = (([] : List Int)) := ⟨_, rfl⟩
  replace H : (spec_l01Src_bytes.l0 k a1 y154 0 s0_0 s0_1 s0_2 s0_3) = some (r1, r2, r3, r4) := by first | (rw [hy154]; with_reducible exact H) | (have H2_ := (Option.bind_some _ _).symm.trans H; rw [hy154]; with_reducible exact H2_) | (have H2_ := (Option.bind_some _ _).symm.trans H; with_reducible exact H2_) | with_reducible exact H | (rw [hy154]; exact H) | exact H
  have Ny154 := Aside0.mk hy154
  clear hy154
  have H' := Aside0.mk H
  clear H
  go_enter Try.func76, Try.ntmps76
  go_wp2_with (first | ((with_reducible refine gate_dst (N := 7) rfl ?_); refine Kd.R_lit (Kd.int .u8) _ 5 ?hg (N := 7) ?hd (xs := ([] : List Int)) (inner := []) (ok := fun _ => True) (okp := fun _ => True) ?hr ?hp (fun _ hk => hk) trivial (Below.refl _ _) (Nat.le_refl _) (by simp) ?_; (case hd => rfl); (case hg => rfl); (case hr => first | (go_simp; done) | (go_simp; rfl)); (case hp => exact (Reps.none _ _)); intro v155 w3 ho4 hb hg_ hnew_; clear hg_ hnew_; (first | rw [← Ny154.out] at ho4 | (simp only [Int.reduceToNat] at ho4; rw [← Ny154.out] at ho4)); have n0_ := Aside0.mk (Kd.R_lower ho4 (keep_size (w := w) (g := g) (row := none) (by repeat (first | (with_reducible first | exact HK.out | apply KeepBut.set_ | apply keep_drewN | apply keep_drew | apply keep_alloc) | exact HK.out)))); have n1_ := Aside0.mk (IsS157.below (by repeat (first | (with_reducible first | exact HI0.out | apply IsS157.alloc | apply IsS157.drewN | apply IsS157.drew | apply IsS157.set_1 | apply IsS157.set_2 | apply IsS157.set_3) | exact HI0.out)) hb); have n2_ := Aside0.mk (KeepBut.trans (by repeat (first | (with_reducible first | exact HK.out | apply KeepBut.set_ | apply keep_drewN | apply keep_drew | apply keep_alloc) | exact HK.out)) (KeepBut.of_below hb g none) (.inl rfl)); have n3_ := Aside0.mk (below_step (by repeat (first | (with_reducible first | exact HB.out | apply below_alloc | apply pw_below_drewN | apply below_drew1 | refine below_set ?_ (IsS157.ge HI0.out)) | exact HB.out)) hb); clear HI0; clear HK; clear HB; have HO156 := n0_; have HI0 := n1_; have HK := n2_; have HB := n3_; clear n0_ n1_ n2_ n3_; clear hb ho4))
  go_loopg [5, 6] k (fun kq v5 v6 w' => ∃ (x5_1 : List Int) (x6_1 : Int) (x1001_1 : Int) (x1002_1 : Int) (x1003_1 : Int), v6 = .int .i64 x6_1 ∧ Aside0 (spec_l01Src_bytes.l0 kq a1 x5_1 x6_1 s0_0 x1001_1 x1002_1 x1003_1 = some (r1, r2, r3, r4)) ∧ Aside0 (kq ≤ k) ∧ Aside0 (Kd.R (Kd.int .u8) 5 w' w.heap.size (fun _ => True) v5 x5_1) ∧ Aside0 (IsS157 w0 w' g s0_0 x1001_1 x1002_1 x1003_1) ∧ Aside0 (KeepBut w w' g none) ∧ Aside0 (Below w0.heap.size w0 w'))
  case atStart => exact ⟨(y154), (0), (s0_1), (s0_2), (s0_3), (by first | rfl | (simp; done) | (simp [*]; done)), H', ⟨Nat.le_refl _⟩, ⟨by (with_reducible repeat (first | apply Kd.R_alloc | apply Kd.R_drewN | apply Kd.R_drew)); exact HO156.out⟩, ⟨by repeat (first | (with_reducible first | exact HI0.out | apply IsS157.alloc | apply IsS157.drewN | apply IsS157.drew | apply IsS157.set_1 | apply IsS157.set_2 | apply IsS157.set_3) | exact HI0.out)⟩, ⟨by repeat (first | (with_reducible first | exact HK.out | apply KeepBut.set_ | apply keep_drewN | apply keep_drew | apply keep_alloc) | exact HK.out)⟩, ⟨by repeat (first | (with_reducible first | exact HB.out | apply below_alloc | apply pw_below_drewN | apply below_drew1 | refine below_set ?_ (IsS157.ge HI0.out)) | exact HB.out)⟩⟩
  case round =>
    clear H'
    try clear p2
    obtain ⟨x5_1, x6_1, x1001_1, x1002_1, x1003_1, rfl, HA, HK1, HO_5, HI0, HK, HB⟩ := hrel
    cases gk with
    | zero => exact absurd HA.out (by simp [spec_l01Src_bytes.l0])
    | succ k1 =>
      have H := HA.out
      clear HA
      simp only [spec_l01Src_bytes.l0] at H
      by_cases c5 : x6_1 < a1
      · rw [if_pos c5] at H
        have c5b0 : decide (x6_1 < a1) = true := decide_eq_true c5
        clear c5
        replace H := Option.bind_eq_some_iff.mp H
        obtain ⟨⟨t157, t158, t159, t160⟩, A60, H⟩ := H
        replace H : (if x5_1.length < 140737488355328 then (spec_l01Src_bytes.l0 k1 a1 (x5_1 ++ [(t157) % 256]) (wrap64 (x6_1 + 1)) s0_0 t158 t159 t160) else (none)) = some (r1, r2, r3, r4) := H
        have A6 := Aside0.mk A60
        clear A60
        by_cases c7 : x5_1.length < 140737488355328
        · rw [if_pos c7] at H
          have LMc7 := Aside0.mk c7
          clear c7
          obtain ⟨y161, hy161⟩ : ∃ y_ : List Int, y_ = (x5_1 ++ [(t157) % 256]) := ⟨_, rfl⟩
          replace H : (spec_l01Src_bytes.l0 k1 a1 y161 (wrap64 (x6_1 + 1)) s0_0 t158 t159 t160) = some (r1, r2, r3, r4) := by first | (rw [hy161]; with_reducible exact H) | (have H2_ := (Option.bind_some _ _).symm.trans H; rw [hy161]; with_reducible exact H2_) | (have H2_ := (Option.bind_some _ _).symm.trans H; with_reducible exact H2_) | with_reducible exact H | (rw [hy161]; exact H) | exact H
          have Ny161 := Aside0.mk hy161
          clear hy161
          have H' := Aside0.mk H
          clear H
          go_wp2_with (first | ((with_reducible refine gate_callee (f := 77) rfl ?_); refine goesL_ (some 15) rfl rfl Try.func77 (by kernel_rfl) rfl #[.pointer (some ⟨g, 0, none⟩), .int .i64 256] rfl (by (try simp only [List.map_toArray, List.map_cons, List.map_nil]); first | done | rfl | (simp only [List.length_drop, List.length_take]; rfl)) ?_; (with_reducible refine (spec_l01Src_n.calls g s0_0 x1001_1 x1002_1 x1003_1 256 t157 t158 t159 t160 w0 _ ?side1 ?side2 A6.out).mono ?_); (case side1 => repeat (first | (with_reducible first | exact HI0.out | apply IsS157.alloc | apply IsS157.drewN | apply IsS157.drew | apply IsS157.set_1 | apply IsS157.set_2 | apply IsS157.set_3) | exact HI0.out)); (case side2 => repeat (first | (with_reducible first | exact HB.out | apply below_alloc | apply pw_below_drewN | apply below_drew1 | refine below_set ?_ (IsS157.ge HI0.out)) | exact HB.out)); rintro e w8 ⟨rfl, hi, hb, hk⟩; refine ⟨_, rfl, ?_⟩; have n0_ := Aside0.mk (Kd.R_mono (Kd.R_keep (IsS157.apart (show IsS157 w0 _ g s0_0 x1001_1 x1002_1 x1003_1 from by repeat (first | (with_reducible first | exact HI0.out | apply IsS157.alloc | apply IsS157.drewN | apply IsS157.drew | apply IsS157.set_1 | apply IsS157.set_2 | apply IsS157.set_3) | exact HI0.out)) (by (with_reducible repeat (first | apply Kd.R_alloc | apply Kd.R_drewN | apply Kd.R_drew)); exact HO_5.out) (by decide)) hk (fun _ h => h.2)) (fun _ h => h.1)); have n1_ := Aside0.mk (KeepBut.trans (by repeat (first | (with_reducible first | exact HK.out | apply KeepBut.set_ | apply keep_drewN | apply keep_drew | apply keep_alloc) | exact HK.out)) hk (.inl rfl)); have n2_ := Aside0.mk (hb); have n3_ := Aside0.mk (hi); clear HO_5; clear HK; clear HB; clear HI0; have HO_5 := n0_; have HK := n1_; have HB := n2_; have HI0 := n3_; clear n0_ n1_ n2_ n3_; (try clear hb); (try clear hb2); (try clear hk); (try clear hi)) | ((with_reducible refine gate_builtin (b := .append) (xs := #[.tmp 13, .tmp 17]) rfl ?_); at_builtin; refine Kd.R_append (Kd.int .u8) w.heap.size rfl (.tmp 13) (.tmp 17) 22 5 (.int .u8 0) 1 rfl Try.underlying22 info5 rfl (by decide) (by omega) u5 x5_1 ((t157) % 256) [.int .u8 ((t157) % 256)] (fun _ => True) (fun _ => False) rfl rfl ?aP (fun _ hk => hk.elim) ?aF ?aO (Below.refl _ _) ?aS ?aL ?_; (case aP => exact rfl); (case aF => exact (fun _ _ => trivial)); (case aO => exact (by (with_reducible repeat (first | apply Kd.R_alloc | apply Kd.R_drewN | apply Kd.R_drew)); exact HO_5.out)); (case aS => exact (keep_size (w := w) (g := g) (row := none) (by repeat (first | (with_reducible first | exact HK.out | apply KeepBut.set_ | apply keep_drewN | apply keep_drew | apply keep_alloc) | exact HK.out)))); (case aL => have := LMc7.out; omega); intro v162 w9 ho hb hg hat; rw [← Ny161.out] at ho; have n0_ := Aside0.mk (IsS157.grown (by repeat (first | (with_reducible first | exact HI0.out | apply IsS157.alloc | apply IsS157.drewN | apply IsS157.drew | apply IsS157.set_1 | apply IsS157.set_2 | apply IsS157.set_3) | exact HI0.out)) hg (IsS157.own_ne HI0.out HO_5.out (by decide))); have n1_ := Aside0.mk (below_weaken (by repeat (first | (with_reducible first | exact HB.out | apply below_alloc | apply pw_below_drewN | apply below_drew1 | refine below_set ?_ (IsS157.ge HI0.out)) | exact HB.out)) HL.out hb); have n2_ := Aside0.mk (KeepBut.trans (by repeat (first | (with_reducible first | exact HK.out | apply KeepBut.set_ | apply keep_drewN | apply keep_drew | apply keep_alloc) | exact HK.out)) (KeepBut.of_grown hg g) (Kd.R_base2 HO_5.out)); have n3_ := Aside0.mk (ho); clear HI0; clear HB; clear HK; clear HO_5; have HI0 := n0_; have HB := n1_; have HK := n2_; have HO163 := n3_; clear n0_ n1_ n2_ n3_; clear ho hb hg hat))
          go_roundg k1
          case measure => have := HK1.out; omega
          case rel => exact ⟨(y161), (wrap64 (x6_1 + 1)), (t158), (t159), (t160), (by first | rfl | (simp; done) | (simp [*]; done)), H', ⟨by have := HK1.out; omega⟩, ⟨by (with_reducible repeat (first | apply Kd.R_alloc | apply Kd.R_drewN | apply Kd.R_drew)); exact HO163.out⟩, ⟨by repeat (first | (with_reducible first | exact HI0.out | apply IsS157.alloc | apply IsS157.drewN | apply IsS157.drew | apply IsS157.set_1 | apply IsS157.set_2 | apply IsS157.set_3) | exact HI0.out)⟩, ⟨by repeat (first | (with_reducible first | exact HK.out | apply KeepBut.set_ | apply keep_drewN | apply keep_drew | apply keep_alloc) | exact HK.out)⟩, ⟨by repeat (first | (with_reducible first | exact HB.out | apply below_alloc | apply pw_below_drewN | apply below_drew1 | refine below_set ?_ (IsS157.ge HI0.out)) | exact HB.out)⟩⟩
        · rw [if_neg c7] at H
          exact absurd H (by simp)
      · rw [if_neg c5] at H
        have c5b0 : decide (x6_1 < a1) = false := decide_eq_false c5
        clear c5
        simp only [Option.some.injEq, Prod.mk.injEq] at H
        obtain ⟨rfl, rfl, rfl, rfl⟩ := H
        have hcv10 := own_string (P := Try.prog) Try.underlying22 Try.underlying5 Try.underlying9 (Kd.own_of_R HO_5.out)
        go_wp2
        go_ret
        exact ⟨by first | rfl | (simp [errW_none, errW_some] <;> rfl) | (simp [*, errW_none, errW_some] <;> rfl), by repeat (first | (with_reducible first | exact HI0.out | apply IsS157.alloc | apply IsS157.drewN | apply IsS157.drew | apply IsS157.set_1 | apply IsS157.set_2 | apply IsS157.set_3) | exact HI0.out), by repeat (first | (with_reducible first | exact HB.out | apply below_alloc | apply pw_below_drewN | apply below_drew1 | refine below_set ?_ (IsS157.ge HI0.out)) | exact HB.out), by repeat (first | (with_reducible first | exact HK.out | apply KeepBut.set_ | apply keep_drewN | apply keep_drew | apply keep_alloc) | exact HK.out)⟩

/-! ### spec_l01Src_l06Text: function 148 -/
def spec_l01Src_l06Text.l0 : Nat → ByteArray → List ByteArray → Int → List Int → Int → Int → Int → Option (ByteArray × Int × Int × Int)
  | 0, _, _, _, _, _, _, _ => none
  | k + 1, x3, x4, x5, x1000, x1001, x1002, x1003 => if x5 > 0 then ((spec_l01Src_n.f x1000 x1001 x1002 x1003 4).bind fun bt183 => (if 0 ≤ bt183.1 then (if bt183.1 < (x4.length : Int) then (if x3.size + (rdOf ByteArray.empty x4 bt183.1).size ≤ 9223372036854775807 then (spec_l01Src_l06Text.l0 k (x3 ++ (rdOf ByteArray.empty x4 bt183.1)) x4 (wrap64 (x5 - 1)) x1000 bt183.2.1 bt183.2.2.1 bt183.2.2.2) else (none)) else (none)) else (none))) else (some (x3, x1001, x1002, x1003))
def spec_l01Src_l06Text.f (k : Nat) (s0_0 : List Int) (s0_1 : Int) (s0_2 : Int) (s0_3 : Int) : Option (ByteArray × Int × Int × Int) := (spec_l01Src_bytes.f k s0_0 s0_1 s0_2 s0_3 20).bind fun bt164 => ((spec_l01Src_bytes.f k s0_0 bt164.2.1 bt164.2.2.1 bt164.2.2.2 45).bind fun bt168 => ((spec_l01Src_bytes.f k s0_0 bt168.2.1 bt168.2.2.1 bt168.2.2.2 7).bind fun bt172 => ((spec_l01Src_n.f s0_0 bt172.2.1 bt172.2.2.1 bt172.2.2.2 (wrap64 (4 + bt172.2.2.2))).bind fun bt179 => (spec_l01Src_l06Text.l0 k (⟨#[]⟩ : ByteArray) (([bt164.1, bt168.1, (⟨#[116, 104, 101, 32, 115, 97, 109, 101, 32, 119, 111, 114, 100, 115, 32, 97, 103, 97, 105, 110, 44, 32, 97, 110, 100, 32, 97, 103, 97, 105, 110, 59, 32]⟩ : ByteArray), bt172.1] : List ByteArray)) bt179.1 s0_0 bt179.2.1 bt179.2.2.1 bt179.2.2.2))))
theorem spec_l01Src_l06Text.mono_l : ∀ k, (∀ y0 y1 y2 y3 y4 y5 y6, LeO (spec_l01Src_l06Text.l0 k y0 y1 y2 y3 y4 y5 y6) (spec_l01Src_l06Text.l0 (k + 1) y0 y1 y2 y3 y4 y5 y6))
  | 0 => fun _ _ _ _ _ _ _ r h => by simp [spec_l01Src_l06Text.l0] at h
  | k + 1 => by
    have ih0 := spec_l01Src_l06Text.mono_l k
    · intro y0 y1 y2 y3 y4 y5 y6
      unfold spec_l01Src_l06Text.l0
      repeat' first
      | (with_reducible exact ih0 _ _ _ _ _ _ _)
      | (with_reducible exact spec_l01Src_bytes.mono _ _ _ _ _ _)
      | (with_reducible exact LeO.refl _)
      | (with_reducible exact LeO.none _)
      | (with_reducible refine LeO.ite ?_ ?_)
      | (with_reducible refine LeO.bind ?_ (fun _ => ?_))
      | exact ih0 _ _ _ _ _ _ _
      | exact spec_l01Src_bytes.mono _ _ _ _ _ _
      | exact LeO.none _
      | refine LeO.ite ?_ ?_
      | refine LeO.bind ?_ (fun _ => ?_)
theorem spec_l01Src_l06Text.mono : ∀ a0 a1 a2 a3 k, LeO (spec_l01Src_l06Text.f k a0 a1 a2 a3) (spec_l01Src_l06Text.f (k + 1) a0 a1 a2 a3) := by
  intro a0 a1 a2 a3 k
  have ih0 := spec_l01Src_l06Text.mono_l k
  unfold spec_l01Src_l06Text.f
  repeat' first
      | (with_reducible exact ih0 _ _ _ _ _ _ _)
      | (with_reducible exact spec_l01Src_bytes.mono _ _ _ _ _ _)
      | (with_reducible exact LeO.refl _)
      | (with_reducible exact LeO.none _)
      | (with_reducible refine LeO.ite ?_ ?_)
      | (with_reducible refine LeO.bind ?_ (fun _ => ?_))
      | exact ih0 _ _ _ _ _ _ _
      | exact spec_l01Src_bytes.mono _ _ _ _ _ _
      | exact LeO.none _
      | refine LeO.ite ?_ ?_
      | refine LeO.bind ?_ (fun _ => ?_)
set_option maxHeartbeats 8000000 in
set_option maxRecDepth 100000 in
theorem spec_l01Src_l06Text.calls (k : Nat) (g : Nat) (s0_0 : List Int) (s0_1 : Int) (s0_2 : Int) (s0_3 : Int) (r1 : ByteArray) (r2 : Int) (r3 : Int) (r4 : Int) (w0 w : World) (hI : IsS157 w0 w g s0_0 s0_1 s0_2 s0_3) (hB : Below w0.heap.size w0 w) (h : spec_l01Src_l06Text.f k s0_0 s0_1 s0_2 s0_3 = some (r1, r2, r3, r4)) :
    Calls Try.prog 148 #[.pointer (some ⟨g, 0, none⟩)] w fun e w' => e = .returned (.string r1) ∧ IsS157 w0 w' g s0_0 r2 r3 r4 ∧ Below w0.heap.size w0 w' ∧ KeepBut w w' g none := by
  have HI0 := Aside0.mk hI
  have HK := Aside0.mk (KeepBut.refl w g none)
  have HL := Aside0.mk hB.size
  clear hI
  have HW0 := Aside0.mk hB.size
  have HB := Aside0.mk hB
  clear hB
  have H : ((spec_l01Src_bytes.f k s0_0 s0_1 s0_2 s0_3 20).bind fun bt164 => ((spec_l01Src_bytes.f k s0_0 bt164.2.1 bt164.2.2.1 bt164.2.2.2 45).bind fun bt168 => ((spec_l01Src_bytes.f k s0_0 bt168.2.1 bt168.2.2.1 bt168.2.2.2 7).bind fun bt172 => ((spec_l01Src_n.f s0_0 bt172.2.1 bt172.2.2.1 bt172.2.2.2 (wrap64 (4 + bt172.2.2.2))).bind fun bt179 => (spec_l01Src_l06Text.l0 k (⟨#[]⟩ : ByteArray) (([bt164.1, bt168.1, (⟨#[116, 104, 101, 32, 115, 97, 109, 101, 32, 119, 111, 114, 100, 115, 32, 97, 103, 97, 105, 110, 44, 32, 97, 110, 100, 32, 97, 103, 97, 105, 110, 59, 32]⟩ : ByteArray), bt172.1] : List ByteArray)) bt179.1 s0_0 bt179.2.1 bt179.2.2.1 bt179.2.2.2))))) = some (r1, r2, r3, r4) := h
  clear h
  replace H := Option.bind_eq_some_iff.mp H
  obtain ⟨⟨t164, t165, t166, t167⟩, A20, H⟩ := H
  replace H : ((spec_l01Src_bytes.f k s0_0 t165 t166 t167 45).bind fun bt168 => ((spec_l01Src_bytes.f k s0_0 bt168.2.1 bt168.2.2.1 bt168.2.2.2 7).bind fun bt172 => ((spec_l01Src_n.f s0_0 bt172.2.1 bt172.2.2.1 bt172.2.2.2 (wrap64 (4 + bt172.2.2.2))).bind fun bt179 => (spec_l01Src_l06Text.l0 k (⟨#[]⟩ : ByteArray) (([t164, bt168.1, (⟨#[116, 104, 101, 32, 115, 97, 109, 101, 32, 119, 111, 114, 100, 115, 32, 97, 103, 97, 105, 110, 44, 32, 97, 110, 100, 32, 97, 103, 97, 105, 110, 59, 32]⟩ : ByteArray), bt172.1] : List ByteArray)) bt179.1 s0_0 bt179.2.1 bt179.2.2.1 bt179.2.2.2)))) = some (r1, r2, r3, r4) := H
  have A2 := Aside0.mk A20
  clear A20
  replace H := Option.bind_eq_some_iff.mp H
  obtain ⟨⟨t168, t169, t170, t171⟩, A30, H⟩ := H
  replace H : ((spec_l01Src_bytes.f k s0_0 t169 t170 t171 7).bind fun bt172 => ((spec_l01Src_n.f s0_0 bt172.2.1 bt172.2.2.1 bt172.2.2.2 (wrap64 (4 + bt172.2.2.2))).bind fun bt179 => (spec_l01Src_l06Text.l0 k (⟨#[]⟩ : ByteArray) (([t164, t168, (⟨#[116, 104, 101, 32, 115, 97, 109, 101, 32, 119, 111, 114, 100, 115, 32, 97, 103, 97, 105, 110, 44, 32, 97, 110, 100, 32, 97, 103, 97, 105, 110, 59, 32]⟩ : ByteArray), bt172.1] : List ByteArray)) bt179.1 s0_0 bt179.2.1 bt179.2.2.1 bt179.2.2.2))) = some (r1, r2, r3, r4) := H
  have A3 := Aside0.mk A30
  clear A30
  replace H := Option.bind_eq_some_iff.mp H
  obtain ⟨⟨t172, t173, t174, t175⟩, A40, H⟩ := H
  replace H : ((spec_l01Src_n.f s0_0 t173 t174 t175 (wrap64 (4 + t175))).bind fun bt179 => (spec_l01Src_l06Text.l0 k (⟨#[]⟩ : ByteArray) (([t164, t168, (⟨#[116, 104, 101, 32, 115, 97, 109, 101, 32, 119, 111, 114, 100, 115, 32, 97, 103, 97, 105, 110, 44, 32, 97, 110, 100, 32, 97, 103, 97, 105, 110, 59, 32]⟩ : ByteArray), t172] : List ByteArray)) bt179.1 s0_0 bt179.2.1 bt179.2.2.1 bt179.2.2.2)) = some (r1, r2, r3, r4) := H
  have A4 := Aside0.mk A40
  clear A40
  obtain ⟨y176, hy176⟩ : ∃ y_ : List ByteArray, y_ = (([t164, t168, (⟨#[116, 104, 101, 32, 115, 97, 109, 101, 32, 119, 111, 114, 100, 115, 32, 97, 103, 97, 105, 110, 44, 32, 97, 110, 100, 32, 97, 103, 97, 105, 110, 59, 32]⟩ : ByteArray), t172] : List ByteArray)) := ⟨_, rfl⟩
  replace H : ((spec_l01Src_n.f s0_0 t173 t174 t175 (wrap64 (4 + t175))).bind fun bt179 => (spec_l01Src_l06Text.l0 k (⟨#[]⟩ : ByteArray) y176 bt179.1 s0_0 bt179.2.1 bt179.2.2.1 bt179.2.2.2)) = some (r1, r2, r3, r4) := by first | (rw [hy176]; with_reducible exact H) | (have H2_ := (Option.bind_some _ _).symm.trans H; rw [hy176]; with_reducible exact H2_) | (have H2_ := (Option.bind_some _ _).symm.trans H; with_reducible exact H2_) | with_reducible exact H | (rw [hy176]; exact H) | exact H
  have Ny176 := Aside0.mk hy176
  clear hy176
  replace H := Option.bind_eq_some_iff.mp H
  obtain ⟨⟨t179, t180, t181, t182⟩, A50, H⟩ := H
  replace H : (spec_l01Src_l06Text.l0 k (⟨#[]⟩ : ByteArray) y176 t179 s0_0 t180 t181 t182) = some (r1, r2, r3, r4) := H
  have A5 := Aside0.mk A50
  clear A50
  have H' := Aside0.mk H
  clear H
  go_enter Try.func148, Try.ntmps148
  go_wp2_with (first | ((with_reducible refine gate_callee (f := 76) rfl ?_); refine goesL_ (some 7) rfl rfl Try.func76 (by kernel_rfl) rfl #[.pointer (some ⟨g, 0, none⟩), .int .i64 20] rfl (by (try simp only [List.map_toArray, List.map_cons, List.map_nil]); first | done | rfl | (simp only [List.length_drop, List.length_take]; rfl)) ?_; (with_reducible refine (spec_l01Src_bytes.calls k g s0_0 s0_1 s0_2 s0_3 20 t164 t165 t166 t167 w0 _ ?side1 ?side2 A2.out).mono ?_); (case side1 => repeat (first | (with_reducible first | exact HI0.out | apply IsS157.alloc | apply IsS157.drewN | apply IsS157.drew | apply IsS157.set_1 | apply IsS157.set_2 | apply IsS157.set_3) | exact HI0.out)); (case side2 => repeat (first | (with_reducible first | exact HB.out | apply below_alloc | apply pw_below_drewN | apply below_drew1 | refine below_set ?_ (IsS157.ge HI0.out)) | exact HB.out)); rintro e w6 ⟨rfl, hi, hb, hk⟩; refine ⟨_, rfl, ?_⟩; have n0_ := Aside0.mk (KeepBut.trans (by repeat (first | (with_reducible first | exact HK.out | apply KeepBut.set_ | apply keep_drewN | apply keep_drew | apply keep_alloc) | exact HK.out)) hk (.inl rfl)); have n1_ := Aside0.mk (hb); have n2_ := Aside0.mk (hi); clear HK; clear HB; clear HI0; have HK := n0_; have HB := n1_; have HI0 := n2_; clear n0_ n1_ n2_; (try clear hb); (try clear hb2); (try clear hk); (try clear hi)) | ((with_reducible refine gate_callee (f := 76) rfl ?_); refine goesL_ (some 9) rfl rfl Try.func76 (by kernel_rfl) rfl #[.pointer (some ⟨g, 0, none⟩), .int .i64 45] rfl (by (try simp only [List.map_toArray, List.map_cons, List.map_nil]); first | done | rfl | (simp only [List.length_drop, List.length_take]; rfl)) ?_; (with_reducible refine (spec_l01Src_bytes.calls k g s0_0 t165 t166 t167 45 t168 t169 t170 t171 w0 _ ?side1 ?side2 A3.out).mono ?_); (case side1 => repeat (first | (with_reducible first | exact HI0.out | apply IsS157.alloc | apply IsS157.drewN | apply IsS157.drew | apply IsS157.set_1 | apply IsS157.set_2 | apply IsS157.set_3) | exact HI0.out)); (case side2 => repeat (first | (with_reducible first | exact HB.out | apply below_alloc | apply pw_below_drewN | apply below_drew1 | refine below_set ?_ (IsS157.ge HI0.out)) | exact HB.out)); rintro e w7 ⟨rfl, hi, hb, hk⟩; refine ⟨_, rfl, ?_⟩; have n0_ := Aside0.mk (KeepBut.trans (by repeat (first | (with_reducible first | exact HK.out | apply KeepBut.set_ | apply keep_drewN | apply keep_drew | apply keep_alloc) | exact HK.out)) hk (.inl rfl)); have n1_ := Aside0.mk (hb); have n2_ := Aside0.mk (hi); clear HK; clear HB; clear HI0; have HK := n0_; have HB := n1_; have HI0 := n2_; clear n0_ n1_ n2_; (try clear hb); (try clear hb2); (try clear hk); (try clear hi)) | ((with_reducible refine gate_callee (f := 76) rfl ?_); refine goesL_ (some 11) rfl rfl Try.func76 (by kernel_rfl) rfl #[.pointer (some ⟨g, 0, none⟩), .int .i64 7] rfl (by (try simp only [List.map_toArray, List.map_cons, List.map_nil]); first | done | rfl | (simp only [List.length_drop, List.length_take]; rfl)) ?_; (with_reducible refine (spec_l01Src_bytes.calls k g s0_0 t169 t170 t171 7 t172 t173 t174 t175 w0 _ ?side1 ?side2 A4.out).mono ?_); (case side1 => repeat (first | (with_reducible first | exact HI0.out | apply IsS157.alloc | apply IsS157.drewN | apply IsS157.drew | apply IsS157.set_1 | apply IsS157.set_2 | apply IsS157.set_3) | exact HI0.out)); (case side2 => repeat (first | (with_reducible first | exact HB.out | apply below_alloc | apply pw_below_drewN | apply below_drew1 | refine below_set ?_ (IsS157.ge HI0.out)) | exact HB.out)); rintro e w8 ⟨rfl, hi, hb, hk⟩; refine ⟨_, rfl, ?_⟩; have n0_ := Aside0.mk (KeepBut.trans (by repeat (first | (with_reducible first | exact HK.out | apply KeepBut.set_ | apply keep_drewN | apply keep_drew | apply keep_alloc) | exact HK.out)) hk (.inl rfl)); have n1_ := Aside0.mk (hb); have n2_ := Aside0.mk (hi); clear HK; clear HB; clear HI0; have HK := n0_; have HB := n1_; have HI0 := n2_; clear n0_ n1_ n2_; (try clear hb); (try clear hb2); (try clear hk); (try clear hi)) | ((with_reducible refine gate_dst (N := 12) rfl ?_); refine Kd.R_lit Kd.string _ 9 ?hg (N := 12) ?hd (xs := ([t164, t168, (⟨#[116, 104, 101, 32, 115, 97, 109, 101, 32, 119, 111, 114, 100, 115, 32, 97, 103, 97, 105, 110, 44, 32, 97, 110, 100, 32, 97, 103, 97, 105, 110, 59, 32]⟩ : ByteArray), t172] : List ByteArray)) (inner := [.string t164, .string t168, .string (⟨#[116, 104, 101, 32, 115, 97, 109, 101, 32, 119, 111, 114, 100, 115, 32, 97, 103, 97, 105, 110, 44, 32, 97, 110, 100, 32, 97, 103, 97, 105, 110, 59, 32]⟩ : ByteArray), .string t172]) (ok := fun _ => True) (okp := fun _ => True) ?hr ?hp (fun _ hk => hk) trivial (Below.refl _ _) (Nat.le_refl _) (by simp) ?_; (case hd => rfl); (case hg => rfl); (case hr => first | (go_simp; done) | (go_simp; rfl)); (case hp => exact (Reps.one (show Kd.M Kd.string _ _ _ t164 [.string t164] from rfl) (Reps.one (show Kd.M Kd.string _ _ _ t168 [.string t168] from rfl) (Reps.one (show Kd.M Kd.string _ _ _ (⟨#[116, 104, 101, 32, 115, 97, 109, 101, 32, 119, 111, 114, 100, 115, 32, 97, 103, 97, 105, 110, 44, 32, 97, 110, 100, 32, 97, 103, 97, 105, 110, 59, 32]⟩ : ByteArray) [.string (⟨#[116, 104, 101, 32, 115, 97, 109, 101, 32, 119, 111, 114, 100, 115, 32, 97, 103, 97, 105, 110, 44, 32, 97, 110, 100, 32, 97, 103, 97, 105, 110, 59, 32]⟩ : ByteArray)] from rfl) (Reps.one (show Kd.M Kd.string _ _ _ t172 [.string t172] from rfl) (Reps.none _ _)))))); intro v177 w9 ho10 hb hg_ hnew_; clear hg_ hnew_; (first | rw [← Ny176.out] at ho10 | (simp only [Int.reduceToNat] at ho10; rw [← Ny176.out] at ho10)); have n0_ := Aside0.mk (Kd.R_lower ho10 (keep_size (w := w) (g := g) (row := none) (by repeat (first | (with_reducible first | exact HK.out | apply KeepBut.set_ | apply keep_drewN | apply keep_drew | apply keep_alloc) | exact HK.out)))); have n1_ := Aside0.mk (IsS157.below (by repeat (first | (with_reducible first | exact HI0.out | apply IsS157.alloc | apply IsS157.drewN | apply IsS157.drew | apply IsS157.set_1 | apply IsS157.set_2 | apply IsS157.set_3) | exact HI0.out)) hb); have n2_ := Aside0.mk (KeepBut.trans (by repeat (first | (with_reducible first | exact HK.out | apply KeepBut.set_ | apply keep_drewN | apply keep_drew | apply keep_alloc) | exact HK.out)) (KeepBut.of_below hb g none) (.inl rfl)); have n3_ := Aside0.mk (below_step (by repeat (first | (with_reducible first | exact HB.out | apply below_alloc | apply pw_below_drewN | apply below_drew1 | refine below_set ?_ (IsS157.ge HI0.out)) | exact HB.out)) hb); clear HI0; clear HK; clear HB; have HO178 := n0_; have HI0 := n1_; have HK := n2_; have HB := n3_; clear n0_ n1_ n2_ n3_; clear hb ho10; obtain ⟨ASz11_0, cSz11_0, HGz11, hgz11, HSz11_0⟩ := HI0.out; have hcz11_0 := cellS157_0 HGz11; have hcz11_1 := cellS157_1 HGz11; have hcz11_2 := cellS157_2 HGz11; have hcz11_3 := cellS157_3 HGz11; have hfz11_1 := blk_frozen HGz11 1; have hfz11_2 := blk_frozen HGz11 2; have hfz11_3 := blk_frozen HGz11 3; clear HGz11 hgz11) | ((with_reducible refine gate_callee (f := 77) rfl ?_); refine goesL_ (some 19) rfl rfl Try.func77 (by kernel_rfl) rfl #[.pointer (some ⟨g, 0, none⟩), .int .i64 (wrap64 (4 + t175))] rfl (by (try simp only [List.map_toArray, List.map_cons, List.map_nil]); first | done | rfl | (simp only [List.length_drop, List.length_take]; rfl)) ?_; (with_reducible refine (spec_l01Src_n.calls g s0_0 t173 t174 t175 (wrap64 (4 + t175)) t179 t180 t181 t182 w0 _ ?side1 ?side2 A5.out).mono ?_); (case side1 => repeat (first | (with_reducible first | exact HI0.out | apply IsS157.alloc | apply IsS157.drewN | apply IsS157.drew | apply IsS157.set_1 | apply IsS157.set_2 | apply IsS157.set_3) | exact HI0.out)); (case side2 => repeat (first | (with_reducible first | exact HB.out | apply below_alloc | apply pw_below_drewN | apply below_drew1 | refine below_set ?_ (IsS157.ge HI0.out)) | exact HB.out)); rintro e w12 ⟨rfl, hi, hb, hk⟩; refine ⟨_, rfl, ?_⟩; have n0_ := Aside0.mk (Kd.R_mono (Kd.R_keep (IsS157.apart (show IsS157 w0 _ g s0_0 t173 t174 t175 from by repeat (first | (with_reducible first | exact HI0.out | apply IsS157.alloc | apply IsS157.drewN | apply IsS157.drew | apply IsS157.set_1 | apply IsS157.set_2 | apply IsS157.set_3) | exact HI0.out)) (by (with_reducible repeat (first | apply Kd.R_alloc | apply Kd.R_drewN | apply Kd.R_drew)); exact HO178.out) (by decide)) hk (fun _ h => h.2)) (fun _ h => h.1)); have n1_ := Aside0.mk (KeepBut.trans (by repeat (first | (with_reducible first | exact HK.out | apply KeepBut.set_ | apply keep_drewN | apply keep_drew | apply keep_alloc) | exact HK.out)) hk (.inl rfl)); have n2_ := Aside0.mk (hb); have n3_ := Aside0.mk (hi); clear HO178; clear HK; clear HB; clear HI0; have HO178 := n0_; have HK := n1_; have HB := n2_; have HI0 := n3_; clear n0_ n1_ n2_ n3_; (try clear hb); (try clear hb2); (try clear hk); (try clear hi)))
  go_loopg [3, 5] k (fun kq v3 v5 w' => ∃ (x3_1 : ByteArray) (x5_1 : Int) (x1001_1 : Int) (x1002_1 : Int) (x1003_1 : Int), v3 = .string x3_1 ∧ v5 = .int .i64 x5_1 ∧ Aside0 (spec_l01Src_l06Text.l0 kq x3_1 y176 x5_1 s0_0 x1001_1 x1002_1 x1003_1 = some (r1, r2, r3, r4)) ∧ Aside0 (kq ≤ k) ∧ Aside0 (Kd.R Kd.string 9 w' w.heap.size (fun _ => True) v177 y176) ∧ Aside0 (IsS157 w0 w' g s0_0 x1001_1 x1002_1 x1003_1) ∧ Aside0 (KeepBut w w' g none) ∧ Aside0 (Below w0.heap.size w0 w'))
  case atStart => exact ⟨((⟨#[]⟩ : ByteArray)), (t179), (t180), (t181), (t182), (by first | rfl | (simp; done) | (simp [*]; done)), (by first | rfl | (simp; done) | (simp [*]; done)), H', ⟨Nat.le_refl _⟩, ⟨by (with_reducible repeat (first | apply Kd.R_alloc | apply Kd.R_drewN | apply Kd.R_drew)); exact HO178.out⟩, ⟨by repeat (first | (with_reducible first | exact HI0.out | apply IsS157.alloc | apply IsS157.drewN | apply IsS157.drew | apply IsS157.set_1 | apply IsS157.set_2 | apply IsS157.set_3) | exact HI0.out)⟩, ⟨by repeat (first | (with_reducible first | exact HK.out | apply KeepBut.set_ | apply keep_drewN | apply keep_drew | apply keep_alloc) | exact HK.out)⟩, ⟨by repeat (first | (with_reducible first | exact HB.out | apply below_alloc | apply pw_below_drewN | apply below_drew1 | refine below_set ?_ (IsS157.ge HI0.out)) | exact HB.out)⟩⟩
  case round =>
    clear H'
    try clear c1
    try clear p2
    try clear p6
    try clear c7
    try clear hcz11_0
    try clear hcz11_1
    try clear hcz11_2
    try clear hcz11_3
    try clear hfz11_1
    try clear hfz11_2
    try clear hfz11_3
    obtain ⟨x3_1, x5_1, x1001_1, x1002_1, x1003_1, rfl, rfl, HA, HK1, HO_4, HI0, HK, HB⟩ := hrel
    cases gk with
    | zero => exact absurd HA.out (by simp [spec_l01Src_l06Text.l0])
    | succ k1 =>
      have H := HA.out
      clear HA
      simp only [spec_l01Src_l06Text.l0] at H
      by_cases c13 : x5_1 > 0
      · rw [if_pos c13] at H
        have c13b0 : decide (0 < x5_1) = true := decide_eq_true c13
        clear c13
        replace H := Option.bind_eq_some_iff.mp H
        obtain ⟨⟨t183, t184, t185, t186⟩, A140, H⟩ := H
        replace H : (if 0 ≤ t183 then (if t183 < (y176.length : Int) then (if x3_1.size + (rdOf ByteArray.empty y176 t183).size ≤ 9223372036854775807 then (spec_l01Src_l06Text.l0 k1 (x3_1 ++ (rdOf ByteArray.empty y176 t183)) y176 (wrap64 (x5_1 - 1)) s0_0 t184 t185 t186) else (none)) else (none)) else (none)) = some (r1, r2, r3, r4) := H
        have A14 := Aside0.mk A140
        clear A140
        by_cases c15 : 0 ≤ t183
        · rw [if_pos c15] at H
          have c15b0 : decide (0 ≤ t183) = true := decide_eq_true c15
          clear c15
          by_cases c16 : t183 < (y176.length : Int)
          · rw [if_pos c16] at H
            have c16b0 : decide (t183 < (y176.length : Int)) = true := decide_eq_true c16
            clear c16
            by_cases c17 : x3_1.size + (rdOf ByteArray.empty y176 t183).size ≤ 9223372036854775807
            · rw [if_pos c17] at H
              have c17b0 := eq_true c17
              have c17b1 : decide (x3_1.size + (rdOf ByteArray.empty y176 t183).size ≤ 9223372036854775807) = true := decide_eq_true c17
              try have c17b2 : (9223372036854775807 < x3_1.size + (rdOf ByteArray.empty y176 t183).size) = False := eq_false (Nat.not_lt.2 c17)
              have H' := Aside0.mk H
              clear H
              go_wp2_with (first | ((with_reducible refine gate_callee (f := 77) rfl ?_); refine goesL_ (some 27) rfl rfl Try.func77 (by kernel_rfl) rfl #[.pointer (some ⟨g, 0, none⟩), .int .i64 4] rfl (by (try simp only [List.map_toArray, List.map_cons, List.map_nil]); first | done | rfl | (simp only [List.length_drop, List.length_take]; rfl)) ?_; (with_reducible refine (spec_l01Src_n.calls g s0_0 x1001_1 x1002_1 x1003_1 4 t183 t184 t185 t186 w0 _ ?side1 ?side2 A14.out).mono ?_); (case side1 => repeat (first | (with_reducible first | exact HI0.out | apply IsS157.alloc | apply IsS157.drewN | apply IsS157.drew | apply IsS157.set_1 | apply IsS157.set_2 | apply IsS157.set_3) | exact HI0.out)); (case side2 => repeat (first | (with_reducible first | exact HB.out | apply below_alloc | apply pw_below_drewN | apply below_drew1 | refine below_set ?_ (IsS157.ge HI0.out)) | exact HB.out)); rintro e w18 ⟨rfl, hi, hb, hk⟩; refine ⟨_, rfl, ?_⟩; have n0_ := Aside0.mk (Kd.R_mono (Kd.R_keep (IsS157.apart (show IsS157 w0 _ g s0_0 x1001_1 x1002_1 x1003_1 from by repeat (first | (with_reducible first | exact HI0.out | apply IsS157.alloc | apply IsS157.drewN | apply IsS157.drew | apply IsS157.set_1 | apply IsS157.set_2 | apply IsS157.set_3) | exact HI0.out)) (by (with_reducible repeat (first | apply Kd.R_alloc | apply Kd.R_drewN | apply Kd.R_drew)); exact HO_4.out) (by decide)) hk (fun _ h => h.2)) (fun _ h => h.1)); have n1_ := Aside0.mk (KeepBut.trans (by repeat (first | (with_reducible first | exact HK.out | apply KeepBut.set_ | apply keep_drewN | apply keep_drew | apply keep_alloc) | exact HK.out)) hk (.inl rfl)); have n2_ := Aside0.mk (hb); have n3_ := Aside0.mk (hi); clear HO_4; clear HK; clear HB; clear HI0; have HO_4 := n0_; have HK := n1_; have HB := n2_; have HI0 := n3_; clear n0_ n1_ n2_ n3_; (try clear hb); (try clear hb2); (try clear hk); (try clear hi); obtain ⟨Ao19, co19, eo19⟩ := Kd.R_slice HO_4.out; subst eo19; have p187 : 0 ≤ (t183 : Int) := of_decide_eq_true (by first | (with_reducible assumption) | assumption); have q187 : t183 < (y176.length : Int) := of_decide_eq_true (by first | (with_reducible assumption) | assumption); obtain ⟨ad187, e187, hx187_0⟩ := Kd.at_string (Kd.R_reads' HO_4.out).2.2 t183 p187 q187; cases e187; replace p187 := eq_true p187; replace q187 := eq_true q187))
              go_roundg k1
              case measure => have := HK1.out; omega
              case rel => exact ⟨(x3_1 ++ (rdOf ByteArray.empty y176 t183)), (wrap64 (x5_1 - 1)), (t184), (t185), (t186), (by first | rfl | (simp; done) | (simp [*]; done)), (by first | rfl | (simp; done) | (simp [*]; done)), H', ⟨by have := HK1.out; omega⟩, ⟨by (with_reducible repeat (first | apply Kd.R_alloc | apply Kd.R_drewN | apply Kd.R_drew)); exact HO_4.out⟩, ⟨by repeat (first | (with_reducible first | exact HI0.out | apply IsS157.alloc | apply IsS157.drewN | apply IsS157.drew | apply IsS157.set_1 | apply IsS157.set_2 | apply IsS157.set_3) | exact HI0.out)⟩, ⟨by repeat (first | (with_reducible first | exact HK.out | apply KeepBut.set_ | apply keep_drewN | apply keep_drew | apply keep_alloc) | exact HK.out)⟩, ⟨by repeat (first | (with_reducible first | exact HB.out | apply below_alloc | apply pw_below_drewN | apply below_drew1 | refine below_set ?_ (IsS157.ge HI0.out)) | exact HB.out)⟩⟩
            · rw [if_neg c17] at H
              exact absurd H (by simp)
          · rw [if_neg c16] at H
            exact absurd H (by simp)
        · rw [if_neg c15] at H
          exact absurd H (by simp)
      · rw [if_neg c13] at H
        have c13b0 : decide (0 < x5_1) = false := decide_eq_false c13
        clear c13
        simp only [Option.some.injEq, Prod.mk.injEq] at H
        obtain ⟨rfl, rfl, rfl, rfl⟩ := H
        go_wp2
        go_ret
        exact ⟨by first | rfl | (simp [errW_none, errW_some] <;> rfl) | (simp [*, errW_none, errW_some] <;> rfl), by repeat (first | (with_reducible first | exact HI0.out | apply IsS157.alloc | apply IsS157.drewN | apply IsS157.drew | apply IsS157.set_1 | apply IsS157.set_2 | apply IsS157.set_3) | exact HI0.out), by repeat (first | (with_reducible first | exact HB.out | apply below_alloc | apply pw_below_drewN | apply below_drew1 | refine below_set ?_ (IsS157.ge HI0.out)) | exact HB.out), by repeat (first | (with_reducible first | exact HK.out | apply KeepBut.set_ | apply keep_drewN | apply keep_drew | apply keep_alloc) | exact HK.out)⟩

/-! ### spec_DrawCutAt: function 95 -/
def spec_DrawCutAt.f (k : Nat) (l0 : List Int) : Option (Int × Int × Int × ByteArray) := (spec_l01Source.f k l0).bind fun bt189 => ((spec_l01Src_l06Cutting.f bt189.1 bt189.2.1 bt189.2.2.1 bt189.2.2.2).bind fun bt194 => ((spec_l01Src_l06Text.f k bt189.1 bt194.2.2.2.1 bt194.2.2.2.2.1 bt194.2.2.2.2.2).bind fun bt201 => (some (bt194.1, bt194.2.1, bt194.2.2.1, bt201.1))))
theorem spec_DrawCutAt.mono : ∀ a0 k, LeO (spec_DrawCutAt.f k a0) (spec_DrawCutAt.f (k + 1) a0) := by
  intro a0 k
  unfold spec_DrawCutAt.f
  repeat' first
      | (with_reducible exact spec_l01Source.mono _ _)
      | (with_reducible exact spec_l01Src_l06Text.mono _ _ _ _ _)
      | (with_reducible exact LeO.refl _)
      | (with_reducible exact LeO.none _)
      | (with_reducible refine LeO.ite ?_ ?_)
      | (with_reducible refine LeO.bind ?_ (fun _ => ?_))
      | exact spec_l01Source.mono _ _
      | exact spec_l01Src_l06Text.mono _ _ _ _ _
      | exact LeO.none _
      | refine LeO.ite ?_ ?_
      | refine LeO.bind ?_ (fun _ => ?_)
set_option maxHeartbeats 8000000 in
set_option maxRecDepth 100000 in
theorem spec_DrawCutAt.calls (k : Nat) (A0 : Option Addr) (c0 : Nat) (l0 : List Int) (r1 : Int) (r2 : Int) (r3 : Int) (r4 : ByteArray) (w : World) (hr0 : Kd.C (Kd.int .u8) w A0 l0.length l0) (hc0 : l0.length ≤ c0) (h : spec_DrawCutAt.f k l0 = some (r1, r2, r3, r4)) :
    Calls Try.prog 95 #[.slice A0 l0.length c0] w fun e w' => e = .returned (.tuple #[.agg #[.int .i64 r1, .int .i64 r2, .int .i64 r3], .string r4]) ∧ Below w.heap.size w w' := by
  have hu40 := Try.underlying40
  have HR0 := Aside0.mk hr0
  have HC0 := Aside0.mk hc0
  clear hr0 hc0
  have HB := Aside0.mk (Below.refl w.heap.size w)
  have H : ((spec_l01Source.f k l0).bind fun bt189 => ((spec_l01Src_l06Cutting.f bt189.1 bt189.2.1 bt189.2.2.1 bt189.2.2.2).bind fun bt194 => ((spec_l01Src_l06Text.f k bt189.1 bt194.2.2.2.1 bt194.2.2.2.2.1 bt194.2.2.2.2.2).bind fun bt201 => (some (bt194.1, bt194.2.1, bt194.2.2.1, bt201.1))))) = some (r1, r2, r3, r4) := h
  clear h
  replace H := Option.bind_eq_some_iff.mp H
  obtain ⟨⟨t189, t190, t191, t192⟩, A20, H⟩ := H
  replace H : ((spec_l01Src_l06Cutting.f t189 t190 t191 t192).bind fun bt194 => ((spec_l01Src_l06Text.f k t189 bt194.2.2.2.1 bt194.2.2.2.2.1 bt194.2.2.2.2.2).bind fun bt201 => (some (bt194.1, bt194.2.1, bt194.2.2.1, bt201.1)))) = some (r1, r2, r3, r4) := H
  have A2 := Aside0.mk A20
  clear A20
  replace H := Option.bind_eq_some_iff.mp H
  obtain ⟨⟨t194, t195, t196, t197, t198, t199⟩, A30, H⟩ := H
  replace H : ((spec_l01Src_l06Text.f k t189 t197 t198 t199).bind fun bt201 => (some (t194, t195, t196, bt201.1))) = some (r1, r2, r3, r4) := H
  have A3 := Aside0.mk A30
  clear A30
  replace H := Option.bind_eq_some_iff.mp H
  obtain ⟨⟨t201, t202, t203, t204⟩, A40, H⟩ := H
  replace H : (some (t194, t195, t196, t201)) = some (r1, r2, r3, r4) := H
  have A4 := Aside0.mk A40
  clear A40
  simp only [Option.some.injEq, Prod.mk.injEq] at H
  obtain ⟨rfl, rfl, rfl, rfl⟩ := H
  go_enter Try.func95, Try.ntmps95
  try go_wp2_with (first | ((with_reducible refine gate_dst (N := 2) rfl ?_); refine box_event ?hg (N := 2) ?hd (cs := #[.int .i64 0, .int .i64 0, .int .i64 0]) (t := 40) ?hr ?_; (case hd => rfl); (case hg => rfl); (case hr => first | (go_simp; done) | (go_simp; rfl)); intro gb188 hg w5 hbox hb; have n0_ := Aside0.mk (below_step (by repeat (first | (with_reducible first | exact HB.out | apply below_alloc | apply pw_below_drewN | apply below_drew1) | exact HB.out)) hb); have n1_ := Aside0.mk (hbox); have n2_ := Aside0.mk ((by rw [hg]; exact (below_size (by repeat (first | (with_reducible first | exact HB.out | apply below_alloc | apply pw_below_drewN | apply below_drew1) | exact HB.out))) : w.heap.size ≤ gb188)); have n3_ := Aside0.mk ((by rw [hg]; exact (below_size (by repeat (first | (with_reducible first | exact HB.out | apply below_alloc | apply pw_below_drewN | apply below_drew1) | exact HB.out))) : w.heap.size ≤ gb188)); clear HB; have HB := n0_; have BK188 := n1_; have GW188 := n2_; have GE188 := n3_; clear n0_ n1_ n2_ n3_; clear hb hbox hg) | ((with_reducible refine gate_callee (f := 75) rfl ?_); refine goesL_ (some 7) rfl rfl Try.func75 (by kernel_rfl) rfl #[.slice A0 l0.length c0] rfl (by (try simp only [List.map_toArray, List.map_cons, List.map_nil]); first | done | rfl | (simp only [List.length_drop, List.length_take]; rfl)) ?_; (with_reducible refine (spec_l01Source.calls k _ _ l0 t189 t190 t191 t192 w _ ?side1 ?side2 ?side3 A2.out).mono ?_); (case side1 => repeat (first | (with_reducible first | exact HB.out | apply below_alloc | apply pw_below_drewN | apply below_drew1 | refine below_set ?_ GE188.out) | exact HB.out)); (case side2 => exact HR0.out); (case side3 => exact HC0.out); rintro e w6 ⟨g193, rfl, hi, hb, hb2⟩; refine ⟨_, rfl, ?_⟩; have n0_ := Aside0.mk (blk_below (g := gb188) (o := .cells #[.int .i64 0, .int .i64 0, .int .i64 0] 40 (0, 0)) (by (with_reducible repeat (first | refine blk_drewN ?_ _ | refine blk_drew ?_ | refine blk_alloc ?_ _)); exact BK188.out) hb2); have n1_ := Aside0.mk (hb); have n2_ := Aside0.mk (hi); have n3_ := Aside0.mk (IsS157.ne_blk hi (blk_below (g := gb188) (o := .cells #[.int .i64 0, .int .i64 0, .int .i64 0] 40 (0, 0)) (by (with_reducible repeat (first | refine blk_drewN ?_ _ | refine blk_drew ?_ | refine blk_alloc ?_ _)); exact BK188.out) hb2) (by decide)); have n4_ := Aside0.mk (Ne.symm (IsS157.ne_blk hi (blk_below (g := gb188) (o := .cells #[.int .i64 0, .int .i64 0, .int .i64 0] 40 (0, 0)) (by (with_reducible repeat (first | refine blk_drewN ?_ _ | refine blk_drew ?_ | refine blk_alloc ?_ _)); exact BK188.out) hb2) (by decide))); clear BK188; clear HB; have BK188 := n0_; have HB := n1_; have HI193 := n2_; have NB193_188 := n3_; have NB188_193 := n4_; clear n0_ n1_ n2_ n3_ n4_; (try clear hb); (try clear hb2); (try clear hk); (try clear hi)) | ((with_reducible refine gate_callee (f := 147) rfl ?_); refine goesL_ (some 9) rfl rfl Try.func147 (by kernel_rfl) rfl #[.pointer (some ⟨g193, 0, none⟩)] rfl (by (try simp only [List.map_toArray, List.map_cons, List.map_nil]); first | done | rfl | (simp only [List.length_drop, List.length_take]; rfl)) ?_; (with_reducible refine (spec_l01Src_l06Cutting.calls g193 t189 t190 t191 t192 t194 t195 t196 t197 t198 t199 w _ ?side1 ?side2 A3.out).mono ?_); (case side1 => repeat (first | (with_reducible first | exact HI193.out | apply IsS157.alloc | apply IsS157.drewN | apply IsS157.drew | apply IsS157.set_1 | apply IsS157.set_2 | apply IsS157.set_3 | refine IsS157.far ?_ NB193_188.out _) | exact HI193.out)); (case side2 => repeat (first | (with_reducible first | exact HB.out | apply below_alloc | apply pw_below_drewN | apply below_drew1 | refine below_set ?_ (IsS157.ge HI193.out) | refine below_set ?_ GE188.out) | exact HB.out)); rintro e w7 ⟨rfl, hi, hb, hk⟩; refine ⟨_, rfl, ?_⟩; have n0_ := Aside0.mk (KeepBut.blk hk (g' := gb188) (o := .cells #[.int .i64 0, .int .i64 0, .int .i64 0] 40 (0, 0)) (by (with_reducible repeat (first | refine blk_drewN ?_ _ | refine blk_drew ?_ | refine blk_alloc ?_ _)); exact BK188.out) NB188_193.out (by simp)); have n1_ := Aside0.mk (hb); have n2_ := Aside0.mk (hi); clear BK188; clear HB; clear HI193; have BK188 := n0_; have HB := n1_; have HI193 := n2_; clear n0_ n1_ n2_; (try clear hb); (try clear hb2); (try clear hk); (try clear hi)) | ((with_reducible refine gate_dst (N := 5) rfl ?_); refine box_event ?hg (N := 5) ?hd (cs := #[.int .i64 0, .int .i64 0, .int .i64 0]) (t := 40) ?hr ?_; (case hd => rfl); (case hg => rfl); (case hr => first | (go_simp; done) | (go_simp; rfl)); intro gb200 hg w8 hbox hb; have n0_ := Aside0.mk (blk_below (g := gb188) (o := .cells #[.int .i64 0, .int .i64 0, .int .i64 0] 40 (0, 0)) (by (with_reducible repeat (first | refine blk_drewN ?_ _ | refine blk_drew ?_ | refine blk_alloc ?_ _)); exact BK188.out) hb); have n1_ := Aside0.mk (IsS157.below (by repeat (first | (with_reducible first | exact HI193.out | apply IsS157.alloc | apply IsS157.drewN | apply IsS157.drew | apply IsS157.set_1 | apply IsS157.set_2 | apply IsS157.set_3 | refine IsS157.far ?_ NB193_188.out _) | exact HI193.out)) hb); have n2_ := Aside0.mk (below_step (by repeat (first | (with_reducible first | exact HB.out | apply below_alloc | apply pw_below_drewN | apply below_drew1 | refine below_set ?_ (IsS157.ge HI193.out) | refine below_set ?_ GE188.out) | exact HB.out)) hb); have n3_ := Aside0.mk (hbox); have n4_ := Aside0.mk ((by rw [hg]; exact (below_size (by repeat (first | (with_reducible first | exact HB.out | apply below_alloc | apply pw_below_drewN | apply below_drew1 | refine below_set ?_ (IsS157.ge HI193.out) | refine below_set ?_ GE188.out) | exact HB.out))) : w.heap.size ≤ gb200)); have n5_ := Aside0.mk ((by rw [hg]; exact (below_size (by repeat (first | (with_reducible first | exact HB.out | apply below_alloc | apply pw_below_drewN | apply below_drew1 | refine below_set ?_ (IsS157.ge HI193.out) | refine below_set ?_ GE188.out) | exact HB.out))) : w.heap.size ≤ gb200)); have n6_ := Aside0.mk ((by rw [hg]; exact Nat.ne_of_lt (blk_lt (g := gb188) (o := .cells #[.int .i64 0, .int .i64 0, .int .i64 0] 40 (0, 0)) (by (with_reducible repeat (first | refine blk_drewN ?_ _ | refine blk_drew ?_ | refine blk_alloc ?_ _)); exact BK188.out)) : gb188 ≠ gb200)); have n7_ := Aside0.mk ((by rw [hg]; exact Nat.ne_of_gt (blk_lt (g := gb188) (o := .cells #[.int .i64 0, .int .i64 0, .int .i64 0] 40 (0, 0)) (by (with_reducible repeat (first | refine blk_drewN ?_ _ | refine blk_drew ?_ | refine blk_alloc ?_ _)); exact BK188.out)) : gb200 ≠ gb188)); have n8_ := Aside0.mk ((by rw [hg]; exact Nat.ne_of_lt (IsS157.lt (show IsS157 w _ g193 t189 t197 t198 t199 from by repeat (first | (with_reducible first | exact HI193.out | apply IsS157.alloc | apply IsS157.drewN | apply IsS157.drew | apply IsS157.set_1 | apply IsS157.set_2 | apply IsS157.set_3 | refine IsS157.far ?_ NB193_188.out _) | exact HI193.out))) : g193 ≠ gb200)); have n9_ := Aside0.mk ((by rw [hg]; exact Nat.ne_of_gt (IsS157.lt (show IsS157 w _ g193 t189 t197 t198 t199 from by repeat (first | (with_reducible first | exact HI193.out | apply IsS157.alloc | apply IsS157.drewN | apply IsS157.drew | apply IsS157.set_1 | apply IsS157.set_2 | apply IsS157.set_3 | refine IsS157.far ?_ NB193_188.out _) | exact HI193.out))) : gb200 ≠ g193)); clear BK188; clear HI193; clear HB; have BK188 := n0_; have HI193 := n1_; have HB := n2_; have BK200 := n3_; have GW200 := n4_; have GE200 := n5_; have NB188_200 := n6_; have NB200_188 := n7_; have NB193_200 := n8_; have NB200_193 := n9_; clear n0_ n1_ n2_ n3_ n4_ n5_ n6_ n7_ n8_ n9_; clear hb hbox hg; have hnb9 := NB200_188.out; have hnc9 := NB188_200.out; have hnb10 := NB200_193.out; have hnc10 := NB193_200.out; have hcz11_0 : w8.cell? ⟨gb200, 0, none⟩ = some (.int .i64 0) := (blk_cell BK200.out 0).trans rfl; have hcz11_1 : w8.cell? ⟨gb200, 1, none⟩ = some (.int .i64 0) := (blk_cell BK200.out 1).trans rfl; have hcz11_2 : w8.cell? ⟨gb200, 2, none⟩ = some (.int .i64 0) := (blk_cell BK200.out 2).trans rfl; have hfz11_0 := blk_frozen BK200.out 0; have hfz11_1 := blk_frozen BK200.out 1; have hfz11_2 := blk_frozen BK200.out 2))
  have n0_ : Aside0 ((((w8.setCell ⟨gb200, 0, none⟩ (.int .i64 t194)).setCell ⟨gb200, 1, none⟩ (.int .i64 t195)).setCell ⟨gb200, 2, none⟩ (.int .i64 t196)).heap[gb188]? = some (.cells #[.int .i64 0, .int .i64 0, .int .i64 0] 40 (0, 0))) := ⟨by (with_reducible repeat (first | refine blk_drewN ?_ _ | refine blk_drew ?_ | refine blk_alloc ?_ _)); refine blk_far ?_ NB188_200.out _; (with_reducible repeat (first | refine blk_drewN ?_ _ | refine blk_drew ?_ | refine blk_alloc ?_ _)); refine blk_far ?_ NB188_200.out _; (with_reducible repeat (first | refine blk_drewN ?_ _ | refine blk_drew ?_ | refine blk_alloc ?_ _)); refine blk_far ?_ NB188_200.out _; (with_reducible repeat (first | refine blk_drewN ?_ _ | refine blk_drew ?_ | refine blk_alloc ?_ _)); exact BK188.out⟩
  have n1_ : Aside0 ((((w8.setCell ⟨gb200, 0, none⟩ (.int .i64 t194)).setCell ⟨gb200, 1, none⟩ (.int .i64 t195)).setCell ⟨gb200, 2, none⟩ (.int .i64 t196)).heap[gb200]? = some (.cells #[.int .i64 t194, .int .i64 t195, .int .i64 t196] 40 (0, 0))) := ⟨by (with_reducible repeat (first | refine blk_drewN ?_ _ | refine blk_drew ?_ | refine blk_alloc ?_ _)); refine blk_put (cs := #[.int .i64 t194, .int .i64 t195, .int .i64 0]) ?_ 2 _ rfl; (with_reducible repeat (first | refine blk_drewN ?_ _ | refine blk_drew ?_ | refine blk_alloc ?_ _)); refine blk_put (cs := #[.int .i64 t194, .int .i64 0, .int .i64 0]) ?_ 1 _ rfl; (with_reducible repeat (first | refine blk_drewN ?_ _ | refine blk_drew ?_ | refine blk_alloc ?_ _)); refine blk_put (cs := #[.int .i64 0, .int .i64 0, .int .i64 0]) ?_ 0 _ rfl; (with_reducible repeat (first | refine blk_drewN ?_ _ | refine blk_drew ?_ | refine blk_alloc ?_ _)); exact BK200.out⟩
  have n2_ : Aside0 (IsS157 w (((w8.setCell ⟨gb200, 0, none⟩ (.int .i64 t194)).setCell ⟨gb200, 1, none⟩ (.int .i64 t195)).setCell ⟨gb200, 2, none⟩ (.int .i64 t196)) g193 t189 t197 t198 t199) := ⟨by repeat (first | (with_reducible first | exact HI193.out | apply IsS157.alloc | apply IsS157.drewN | apply IsS157.drew | apply IsS157.set_1 | apply IsS157.set_2 | apply IsS157.set_3 | refine IsS157.far ?_ NB193_188.out _ | refine IsS157.far ?_ NB193_200.out _) | exact HI193.out)⟩
  have n3_ : Aside0 (Below w.heap.size w (((w8.setCell ⟨gb200, 0, none⟩ (.int .i64 t194)).setCell ⟨gb200, 1, none⟩ (.int .i64 t195)).setCell ⟨gb200, 2, none⟩ (.int .i64 t196))) := ⟨by repeat (first | (with_reducible first | exact HB.out | apply below_alloc | apply pw_below_drewN | apply below_drew1 | refine below_set ?_ (IsS157.ge HI193.out) | refine below_set ?_ GE188.out | refine below_set ?_ GE200.out) | exact HB.out)⟩
  (try clear BK188)
  (try clear BK200)
  (try clear HI193)
  (try clear HB)
  generalize (((w8.setCell ⟨gb200, 0, none⟩ (.int .i64 t194)).setCell ⟨gb200, 1, none⟩ (.int .i64 t195)).setCell ⟨gb200, 2, none⟩ (.int .i64 t196)) = w12 at n0_ n1_ n2_ n3_ ⊢
  have BK188 := n0_
  have BK200 := n1_
  have HI193 := n2_
  have HB := n3_
  clear n0_ n1_ n2_ n3_
  have n0_ := Aside0.mk (blk_drew BK188.out)
  have n1_ := Aside0.mk (blk_drew BK200.out)
  have n2_ := Aside0.mk (IsS157.drew HI193.out)
  have n3_ := Aside0.mk (below_drew1 HB.out)
  clear BK188
  clear BK200
  clear HI193
  clear HB
  have BK188 := n0_
  have BK200 := n1_
  have HI193 := n2_
  have HB := n3_
  clear n0_ n1_ n2_ n3_
  refine start_ (n := 5) (S := fun w' => w'.cell? ⟨gb200, 0, none⟩ = some (.int .i64 t194) ∧ w'.cell? ⟨gb200, 1, none⟩ = some (.int .i64 t195) ∧ w'.cell? ⟨gb200, 2, none⟩ = some (.int .i64 t196)) (ds := []) #[false, false, false, false, false] (by kernel_rfl) rfl rfl ⟨(blk_cell BK200.out 0).trans rfl, (blk_cell BK200.out 1).trans rfl, (blk_cell BK200.out 2).trans rfl⟩ (fun hHeld => ?_)
  generalize w12.drew = w13 at BK188 BK200 HI193 HB hHeld ⊢
  refine pure_ (i := 1) (N := some 11) (v := ?_) (a' := ?_) #[false, true, false, false, false] rfl rfl (by kernel_rfl) (fun _ _ _ h => h) (Or.inl ⟨by rfl, ?_⟩) ?_ ?_
  rotate_left
  · intro w'
    go_simp
    with_reducible rfl
  rotate_left
  · simp only [Act.put, List.setIfInBounds_toArray, List.set_cons_zero, List.set_cons_succ, i64_w, i32_w]
    rfl
  refine take_ (i := 0) (N := some 10) (v := ?_) (a' := ?_) #[true, true, false, false, false] rfl rfl (by kernel_rfl) (fun _ _ _ h => h) (Or.inl ⟨by rfl, ?_⟩) hHeld ?_ ?_
  rotate_left
  · rintro w' ⟨s0, s1, s2⟩
    go_simp
    with_reducible rfl
  rotate_left
  · simp only [Act.put, List.setIfInBounds_toArray, List.set_cons_zero, List.set_cons_succ, i64_w, i32_w]
    rfl
  refine one_ (i := 2) (N := some 12) #[true, true, true, false, false] rfl rfl (by kernel_rfl) (by decide) (fun K hK => ?_)
  refine goes_ Try.func148 (by kernel_rfl) rfl #[.pointer (some ⟨g193, 0, none⟩)] (by rfl) rfl rfl (by (try simp only [List.map_toArray, List.map_cons, List.map_nil]); first | done | rfl | (simp only [List.length_drop, List.length_take]; rfl)) ?_
  with_reducible refine (spec_l01Src_l06Text.calls k g193 t189 t197 t198 t199 t201 t202 t203 t204 w _ ?side1 ?side2 A4.out).mono ?_
  (case side1 => repeat (first | (with_reducible first | exact HI193.out | apply IsS157.alloc | apply IsS157.drewN | apply IsS157.drew | apply IsS157.set_1 | apply IsS157.set_2 | apply IsS157.set_3 | refine IsS157.far ?_ NB193_188.out _ | refine IsS157.far ?_ NB193_200.out _) | exact HI193.out))
  (case side2 => repeat (first | (with_reducible first | exact HB.out | apply below_alloc | apply pw_below_drewN | apply below_drew1 | refine below_set ?_ (IsS157.ge HI193.out) | refine below_set ?_ GE188.out | refine below_set ?_ GE200.out) | exact HB.out))
  rintro e w14 ⟨rfl, hi, hb, hk⟩
  refine ⟨_, rfl, ?_⟩
  have n0_ := Aside0.mk (KeepBut.blk hk (g' := gb188) (o := .cells #[.int .i64 0, .int .i64 0, .int .i64 0] 40 (0, 0)) (by (with_reducible repeat (first | refine blk_drewN ?_ _ | refine blk_drew ?_ | refine blk_alloc ?_ _)); exact BK188.out) NB188_193.out (by simp))
  have n1_ := Aside0.mk (KeepBut.blk hk (g' := gb200) (o := .cells #[.int .i64 t194, .int .i64 t195, .int .i64 t196] 40 (0, 0)) (by (with_reducible repeat (first | refine blk_drewN ?_ _ | refine blk_drew ?_ | refine blk_alloc ?_ _)); exact BK200.out) NB200_193.out (by simp))
  have n2_ := Aside0.mk (hb)
  have n3_ := Aside0.mk (hi)
  clear BK188
  clear BK200
  clear HB
  clear HI193
  have BK188 := n0_
  have BK200 := n1_
  have HB := n2_
  have HI193 := n3_
  clear n0_ n1_ n2_ n3_
  (try clear hb)
  (try clear hb2)
  (try clear hk)
  (try clear hi)
  refine hK.out _ _ ⟨(blk_cell BK200.out 0).trans rfl, (blk_cell BK200.out 1).trans rfl, (blk_cell BK200.out 2).trans rfl⟩ (fun hHeld => ?_)
  clear hK K
  refine norm_ (a' := ?_) ?_ ?_
  rotate_left
  · show Act.put _ (some 12) _ = _
    simp only [Act.put, List.setIfInBounds_toArray, List.set_cons_zero, List.set_cons_succ, i64_w, i32_w]
    rfl
  refine one_ (i := 3) (N := none) #[true, true, true, true, false] rfl rfl (by kernel_rfl) (by decide) (fun K hK => ?_)
  have hs15 : w14.cell? ⟨gb188, 0, none⟩ = some (.int .i64 0) := (blk_cell BK188.out 0).trans rfl
  have hfs15 := blk_frozen BK188.out 0
  have hns15_1 := NB200_188.out
  have hms15_1 := NB188_200.out
  have hs16 : w14.cell? ⟨gb188, 1, none⟩ = some (.int .i64 0) := (blk_cell BK188.out 1).trans rfl
  have hfs16 := blk_frozen BK188.out 1
  have hns16_1 := NB200_188.out
  have hms16_1 := NB188_200.out
  have hs17 : w14.cell? ⟨gb188, 2, none⟩ = some (.int .i64 0) := (blk_cell BK188.out 2).trans rfl
  have hfs17 := blk_frozen BK188.out 2
  have hns17_1 := NB200_188.out
  have hms17_1 := NB188_200.out
  refine skip_ (w1 := ?_) (by rfl) rfl ?_ ?_
  rotate_left
  · go_simp
    rfl
  refine hK.out _ _ ⟨((cell_far (p := ⟨gb188, _, none⟩) NB200_188.out _).trans (((cell_far (p := ⟨gb188, _, none⟩) NB200_188.out _).trans (((cell_far (p := ⟨gb188, _, none⟩) NB200_188.out _).trans (hHeld.1)))))), ((cell_far (p := ⟨gb188, _, none⟩) NB200_188.out _).trans (((cell_far (p := ⟨gb188, _, none⟩) NB200_188.out _).trans (((cell_far (p := ⟨gb188, _, none⟩) NB200_188.out _).trans (hHeld.2.1)))))), ((cell_far (p := ⟨gb188, _, none⟩) NB200_188.out _).trans (((cell_far (p := ⟨gb188, _, none⟩) NB200_188.out _).trans (((cell_far (p := ⟨gb188, _, none⟩) NB200_188.out _).trans (hHeld.2.2))))))⟩ (fun hHeld => ?_)
  clear hK K
  refine pure_ (i := 4) (N := some 3) (v := ?_) (a' := ?_) #[true, true, true, true, true] rfl rfl (by kernel_rfl) (fun _ _ _ h => h) (Or.inl ⟨by rfl, ?_⟩) ?_ ?_
  rotate_left
  · intro w'
    go_simp
    with_reducible rfl
  rotate_left
  · simp only [Act.put, List.setIfInBounds_toArray, List.set_cons_zero, List.set_cons_succ, i64_w, i32_w]
    rfl
  refine done_ (by kernel_rfl) ?_
  try go_wp2
  refine bodyPost_ret (results_ct rfl _ _ gb188 40 #[.int .i64 t194, .int .i64 t195, .int .i64 t196] (0, 0) _ rfl (by (with_reducible repeat (first | refine blk_drewN ?_ _ | refine blk_drew ?_ | refine blk_alloc ?_ _)); refine blk_put (cs := #[.int .i64 t194, .int .i64 t195, .int .i64 0]) ?_ 2 _ rfl; (with_reducible repeat (first | refine blk_drewN ?_ _ | refine blk_drew ?_ | refine blk_alloc ?_ _)); refine blk_put (cs := #[.int .i64 t194, .int .i64 0, .int .i64 0]) ?_ 1 _ rfl; (with_reducible repeat (first | refine blk_drewN ?_ _ | refine blk_drew ?_ | refine blk_alloc ?_ _)); refine blk_put (cs := #[.int .i64 0, .int .i64 0, .int .i64 0]) ?_ 0 _ rfl; (with_reducible repeat (first | refine blk_drewN ?_ _ | refine blk_drew ?_ | refine blk_alloc ?_ _)); exact BK188.out) Try.underlying40 rfl (by kernel_rfl)) rfl ?_
  exact ⟨by first | rfl | (simp [errW_none, errW_some] <;> rfl) | (simp [*, errW_none, errW_some] <;> rfl), by repeat (first | (with_reducible first | exact HB.out | apply below_alloc | apply pw_below_drewN | apply below_drew1 | refine below_set ?_ (IsS157.ge HI193.out) | refine below_set ?_ GE188.out | refine below_set ?_ GE200.out) | exact HB.out)⟩

/-! ### spec_DrawPieces: function 33 -/
def spec_DrawPieces.f (k : Nat) (l0 : List Int) : Option (Int × Int × Int × ByteArray) := (spec_DrawCutAt.f k l0).bind fun bt206 => (some (bt206.1, bt206.2.1, bt206.2.2.1, bt206.2.2.2))
theorem spec_DrawPieces.mono : ∀ a0 k, LeO (spec_DrawPieces.f k a0) (spec_DrawPieces.f (k + 1) a0) := by
  intro a0 k
  unfold spec_DrawPieces.f
  repeat' first
      | (with_reducible exact spec_DrawCutAt.mono _ _)
      | (with_reducible exact LeO.refl _)
      | (with_reducible exact LeO.none _)
      | (with_reducible refine LeO.ite ?_ ?_)
      | (with_reducible refine LeO.bind ?_ (fun _ => ?_))
      | exact spec_DrawCutAt.mono _ _
      | exact LeO.none _
      | refine LeO.ite ?_ ?_
      | refine LeO.bind ?_ (fun _ => ?_)
set_option maxHeartbeats 8000000 in
set_option maxRecDepth 100000 in
theorem spec_DrawPieces.calls (k : Nat) (A0 : Option Addr) (c0 : Nat) (l0 : List Int) (r1 : Int) (r2 : Int) (r3 : Int) (r4 : ByteArray) (w : World) (hr0 : Kd.C (Kd.int .u8) w A0 l0.length l0) (hc0 : l0.length ≤ c0) (h : spec_DrawPieces.f k l0 = some (r1, r2, r3, r4)) :
    Calls Try.prog 33 #[.slice A0 l0.length c0] w fun e w' => e = .returned (.tuple #[.agg #[.int .i64 r1, .int .i64 r2, .int .i64 r3], .string r4]) ∧ Below w.heap.size w w' := by
  have hu40 := Try.underlying40
  have HR0 := Aside0.mk hr0
  have HC0 := Aside0.mk hc0
  clear hr0 hc0
  have HB := Aside0.mk (Below.refl w.heap.size w)
  have H : ((spec_DrawCutAt.f k l0).bind fun bt206 => (some (bt206.1, bt206.2.1, bt206.2.2.1, bt206.2.2.2))) = some (r1, r2, r3, r4) := h
  clear h
  replace H := Option.bind_eq_some_iff.mp H
  obtain ⟨⟨t206, t207, t208, t209⟩, A20, H⟩ := H
  replace H : (some (t206, t207, t208, t209)) = some (r1, r2, r3, r4) := H
  have A2 := Aside0.mk A20
  clear A20
  simp only [Option.some.injEq, Prod.mk.injEq] at H
  obtain ⟨rfl, rfl, rfl, rfl⟩ := H
  go_enter Try.func33, Try.ntmps33
  go_wp2_with (first | ((with_reducible refine gate_dst (N := 2) rfl ?_); refine box_event ?hg (N := 2) ?hd (cs := #[.int .i64 0, .int .i64 0, .int .i64 0]) (t := 40) ?hr ?_; (case hd => rfl); (case hg => rfl); (case hr => first | (go_simp; done) | (go_simp; rfl)); intro gb205 hg w3 hbox hb; have n0_ := Aside0.mk (below_step (by repeat (first | (with_reducible first | exact HB.out | apply below_alloc | apply pw_below_drewN | apply below_drew1) | exact HB.out)) hb); have n1_ := Aside0.mk (hbox); have n2_ := Aside0.mk ((by rw [hg]; exact (below_size (by repeat (first | (with_reducible first | exact HB.out | apply below_alloc | apply pw_below_drewN | apply below_drew1) | exact HB.out))) : w.heap.size ≤ gb205)); have n3_ := Aside0.mk ((by rw [hg]; exact (below_size (by repeat (first | (with_reducible first | exact HB.out | apply below_alloc | apply pw_below_drewN | apply below_drew1) | exact HB.out))) : w.heap.size ≤ gb205)); clear HB; have HB := n0_; have BK205 := n1_; have GW205 := n2_; have GE205 := n3_; clear n0_ n1_ n2_ n3_; clear hb hbox hg) | ((with_reducible refine gate_callee (f := 95) rfl ?_); refine goesL_ (some 5) rfl rfl Try.func95 (by kernel_rfl) rfl #[.slice A0 l0.length c0] rfl (by (try simp only [List.map_toArray, List.map_cons, List.map_nil]); first | done | rfl | (simp only [List.length_drop, List.length_take]; rfl)) ?_; (with_reducible refine (spec_DrawCutAt.calls k _ _ l0 t206 t207 t208 t209 _ ?side1 ?side2 A2.out).mono ?_); (case side1 => repeat (first | exact (Kd.C_below HR0.out HB.out) | (with_reducible refine Kd.C_alloc ?_ _) | (with_reducible refine Kd.C_drewN ?_ _) | (with_reducible refine Kd.C_drew ?_))); (case side2 => exact HC0.out); rintro e w4 ⟨rfl, hb⟩; refine ⟨_, rfl, ?_⟩; have n0_ := Aside0.mk (blk_below (g := gb205) (o := .cells #[.int .i64 0, .int .i64 0, .int .i64 0] 40 (0, 0)) (by (with_reducible repeat (first | refine blk_drewN ?_ _ | refine blk_drew ?_ | refine blk_alloc ?_ _)); exact BK205.out) hb); have n1_ := Aside0.mk (below_step (by repeat (first | (with_reducible first | exact HB.out | apply below_alloc | apply pw_below_drewN | apply below_drew1 | refine below_set ?_ GE205.out) | exact HB.out)) hb); clear BK205; clear HB; have BK205 := n0_; have HB := n1_; clear n0_ n1_; (try clear hb); (try clear hb2); (try clear hk); (try clear hi); have hcz5_0 : w4.cell? ⟨gb205, 0, none⟩ = some (.int .i64 0) := (blk_cell BK205.out 0).trans rfl; have hcz5_1 : w4.cell? ⟨gb205, 1, none⟩ = some (.int .i64 0) := (blk_cell BK205.out 1).trans rfl; have hcz5_2 : w4.cell? ⟨gb205, 2, none⟩ = some (.int .i64 0) := (blk_cell BK205.out 2).trans rfl; have hfz5_0 := blk_frozen BK205.out 0; have hfz5_1 := blk_frozen BK205.out 1; have hfz5_2 := blk_frozen BK205.out 2))
  refine bodyPost_ret (results_ct rfl _ _ gb205 40 #[.int .i64 t206, .int .i64 t207, .int .i64 t208] (0, 0) _ rfl (by (with_reducible repeat (first | refine blk_drewN ?_ _ | refine blk_drew ?_ | refine blk_alloc ?_ _)); refine blk_put (cs := #[.int .i64 t206, .int .i64 t207, .int .i64 0]) ?_ 2 _ rfl; (with_reducible repeat (first | refine blk_drewN ?_ _ | refine blk_drew ?_ | refine blk_alloc ?_ _)); refine blk_put (cs := #[.int .i64 t206, .int .i64 0, .int .i64 0]) ?_ 1 _ rfl; (with_reducible repeat (first | refine blk_drewN ?_ _ | refine blk_drew ?_ | refine blk_alloc ?_ _)); refine blk_put (cs := #[.int .i64 0, .int .i64 0, .int .i64 0]) ?_ 0 _ rfl; (with_reducible repeat (first | refine blk_drewN ?_ _ | refine blk_drew ?_ | refine blk_alloc ?_ _)); exact BK205.out) Try.underlying40 rfl (by kernel_rfl)) rfl ?_
  exact ⟨by first | rfl | (simp [errW_none, errW_some] <;> rfl) | (simp [*, errW_none, errW_some] <;> rfl), by repeat (first | (with_reducible first | exact HB.out | apply below_alloc | apply pw_below_drewN | apply below_drew1 | refine below_set ?_ GE205.out) | exact HB.out)⟩

/-! ### impl_isLong: function 78 -/
def impl_isLong.f (a0 : ByteArray) : Option (Bool) := some (decide ((a0.size : Int) > 20000))
set_option maxHeartbeats 8000000 in
set_option maxRecDepth 100000 in
theorem impl_isLong.calls (a0 : ByteArray) (r : Bool) (w : World) (h : impl_isLong.f a0 = some r) :
    Calls Try.prog 78 #[.string a0] w fun e w' => e = .returned (.bool r) ∧ Drawn0 w w' := by
  have H : (some (decide ((a0.size : Int) > 20000))) = some r := h
  clear h
  obtain rfl := Option.some.inj H
  go_enter Try.func78, Try.ntmps78
  go_wp2
  go_ret
  exact ⟨by first | rfl | (simp; done) | (simp [*]; done), by repeat (first | exact Drawn0.refl _ | apply Drawn0.step)⟩

/-! ### impl_within: function 143 -/
def impl_within.f (a0 : Int) (a1 : Int) (a2 : Int) : Option (Bool) := if a0 ≥ a1 then (some (decide (a0 ≤ a2))) else (some false)
set_option maxHeartbeats 8000000 in
set_option maxRecDepth 100000 in
theorem impl_within.calls (a0 : Int) (a1 : Int) (a2 : Int) (r : Bool) (w : World) (h : impl_within.f a0 a1 a2 = some r) :
    Calls Try.prog 143 #[.int .i64 a0, .int .i64 a1, .int .i64 a2] w fun e w' => e = .returned (.bool r) ∧ Drawn0 w w' := by
  have H : (if a0 ≥ a1 then (some (decide (a0 ≤ a2))) else (some false)) = some r := h
  clear h
  by_cases c4 : a0 ≥ a1
  · rw [if_pos c4] at H
    have c4b0 : decide (a1 ≤ a0) = true := decide_eq_true c4
    clear c4
    obtain rfl := Option.some.inj H
    go_enter Try.func143, Try.ntmps143
    go_wp2
    go_ret
    exact ⟨by first | rfl | (simp; done) | (simp [*]; done), by repeat (first | exact Drawn0.refl _ | apply Drawn0.step)⟩
  · rw [if_neg c4] at H
    have c4b0 : decide (a1 ≤ a0) = false := decide_eq_false c4
    clear c4
    obtain rfl := Option.some.inj H
    go_enter Try.func143, Try.ntmps143
    go_wp2
    go_ret
    exact ⟨by first | rfl | (simp; done) | (simp [*]; done), by repeat (first | exact Drawn0.refl _ | apply Drawn0.step)⟩

/-! ### impl_CuttingRight: function 96 -/
def impl_CuttingRight.f (a0_0 : Int) (a0_1 : Int) (a0_2 : Int) : Option (Bool) := (impl_within.f a0_0 16 1000).bind fun t211 => (if t211 = true then ((impl_within.f a0_1 0 12).bind fun t212 => (if t212 = true then ((impl_within.f a0_2 a0_0 2000).bind fun t213 => (some t213)) else (some false))) else (some false))
set_option maxHeartbeats 8000000 in
set_option maxRecDepth 100000 in
theorem impl_CuttingRight.calls (a0_0 : Int) (a0_1 : Int) (a0_2 : Int) (r : Bool) (w : World) (h : impl_CuttingRight.f a0_0 a0_1 a0_2 = some r) :
    Calls Try.prog 96 #[.agg #[.int .i64 a0_0, .int .i64 a0_1, .int .i64 a0_2]] w fun e w' => e = .returned (.bool r) ∧ Below w.heap.size w w' := by
  have hu40 := Try.underlying40
  have HB := Aside0.mk (Below.refl w.heap.size w)
  have H : ((impl_within.f a0_0 16 1000).bind fun t211 => (if t211 = true then ((impl_within.f a0_1 0 12).bind fun t212 => (if t212 = true then ((impl_within.f a0_2 a0_0 2000).bind fun t213 => (some t213)) else (some false))) else (some false))) = some r := h
  clear h
  replace H := Option.bind_eq_some_iff.mp H
  obtain ⟨t211, A20, H⟩ := H
  replace H : (if t211 = true then ((impl_within.f a0_1 0 12).bind fun t212 => (if t212 = true then ((impl_within.f a0_2 a0_0 2000).bind fun t213 => (some t213)) else (some false))) else (some false)) = some r := H
  have A2 := Aside0.mk A20
  clear A20
  by_cases c3 : t211 = true
  · subst c3
    have H1 : ((impl_within.f a0_1 0 12).bind fun t212 => (if t212 = true then ((impl_within.f a0_2 a0_0 2000).bind fun t213 => (some t213)) else (some false))) = some r := by rw [if_pos rfl] at H; exact H
    clear H
    have H := H1
    clear H1
    replace H := Option.bind_eq_some_iff.mp H
    obtain ⟨t212, A40, H⟩ := H
    replace H : (if t212 = true then ((impl_within.f a0_2 a0_0 2000).bind fun t213 => (some t213)) else (some false)) = some r := H
    have A4 := Aside0.mk A40
    clear A40
    by_cases c5 : t212 = true
    · subst c5
      have H1 : ((impl_within.f a0_2 a0_0 2000).bind fun t213 => (some t213)) = some r := by rw [if_pos rfl] at H; exact H
      clear H
      have H := H1
      clear H1
      replace H := Option.bind_eq_some_iff.mp H
      obtain ⟨t213, A60, H⟩ := H
      replace H : (some t213) = some r := H
      have A6 := Aside0.mk A60
      clear A60
      obtain rfl := Option.some.inj H
      go_enter Try.func96, Try.ntmps96
      go_wp2_with (first | ((with_reducible refine gate_dst (N := 1) rfl ?_); refine box_event ?hg (N := 1) ?hd (cs := #[.int .i64 a0_0, .int .i64 a0_1, .int .i64 a0_2]) (t := 40) ?hr ?_; (case hd => rfl); (case hg => rfl); (case hr => first | (go_simp; done) | (go_simp; rfl)); intro gb210 hg w7 hbox hb; have n0_ := Aside0.mk (below_step (by repeat (first | (with_reducible first | exact HB.out | apply below_alloc | apply pw_below_drewN | apply below_drew1) | exact HB.out)) hb); have n1_ := Aside0.mk (hbox); have n2_ := Aside0.mk ((by rw [hg]; exact (below_size (by repeat (first | (with_reducible first | exact HB.out | apply below_alloc | apply pw_below_drewN | apply below_drew1) | exact HB.out))) : w.heap.size ≤ gb210)); have n3_ := Aside0.mk ((by rw [hg]; exact (below_size (by repeat (first | (with_reducible first | exact HB.out | apply below_alloc | apply pw_below_drewN | apply below_drew1) | exact HB.out))) : w.heap.size ≤ gb210)); clear HB; have HB := n0_; have BK210 := n1_; have GW210 := n2_; have GE210 := n3_; clear n0_ n1_ n2_ n3_; clear hb hbox hg; have hcz8_0 : w7.cell? ⟨gb210, 0, none⟩ = some (.int .i64 a0_0) := (blk_cell BK210.out 0).trans rfl; have hcz8_1 : w7.cell? ⟨gb210, 1, none⟩ = some (.int .i64 a0_1) := (blk_cell BK210.out 1).trans rfl; have hcz8_2 : w7.cell? ⟨gb210, 2, none⟩ = some (.int .i64 a0_2) := (blk_cell BK210.out 2).trans rfl; have hfz8_0 := blk_frozen BK210.out 0; have hfz8_1 := blk_frozen BK210.out 1; have hfz8_2 := blk_frozen BK210.out 2) | ((with_reducible refine gate_callee (f := 143) rfl ?_); refine goesL_ (some 5) rfl rfl Try.func143 (by kernel_rfl) rfl #[.int .i64 a0_0, .int .i64 16, .int .i64 1000] rfl (by (try simp only [List.map_toArray, List.map_cons, List.map_nil]); first | done | rfl | (simp only [List.length_drop, List.length_take]; rfl)) ?_; (with_reducible refine (impl_within.calls a0_0 16 1000 true _ A2.out).mono ?_); rintro e w' ⟨rfl, ⟨nd, rfl⟩⟩; refine ⟨_, rfl, ?_⟩) | (go_at_call 143; (with_reducible refine (impl_within.calls a0_1 0 12 true _ A4.out).mono ?_); rintro e w' ⟨rfl, ⟨nd, rfl⟩⟩) | (go_at_call 143; (with_reducible refine (impl_within.calls a0_2 a0_0 2000 t213 _ A6.out).mono ?_); rintro e w' ⟨rfl, ⟨nd, rfl⟩⟩))
      go_ret
      exact ⟨by first | rfl | (simp [errW_none, errW_some] <;> rfl) | (simp [*, errW_none, errW_some] <;> rfl), by repeat (first | (with_reducible first | exact HB.out | apply below_alloc | apply pw_below_drewN | apply below_drew1 | refine below_set ?_ GE210.out) | exact HB.out)⟩
    · replace c5 := Bool.eq_false_iff.mpr c5
      subst c5
      have H1 : (some false) = some r := by rw [if_neg (show ¬ (false = true) by decide)] at H; exact H
      clear H
      have H := H1
      clear H1
      obtain rfl := Option.some.inj H
      go_enter Try.func96, Try.ntmps96
      go_wp2_with (first | ((with_reducible refine gate_dst (N := 1) rfl ?_); refine box_event ?hg (N := 1) ?hd (cs := #[.int .i64 a0_0, .int .i64 a0_1, .int .i64 a0_2]) (t := 40) ?hr ?_; (case hd => rfl); (case hg => rfl); (case hr => first | (go_simp; done) | (go_simp; rfl)); intro gb210 hg w9 hbox hb; have n0_ := Aside0.mk (below_step (by repeat (first | (with_reducible first | exact HB.out | apply below_alloc | apply pw_below_drewN | apply below_drew1) | exact HB.out)) hb); have n1_ := Aside0.mk (hbox); have n2_ := Aside0.mk ((by rw [hg]; exact (below_size (by repeat (first | (with_reducible first | exact HB.out | apply below_alloc | apply pw_below_drewN | apply below_drew1) | exact HB.out))) : w.heap.size ≤ gb210)); have n3_ := Aside0.mk ((by rw [hg]; exact (below_size (by repeat (first | (with_reducible first | exact HB.out | apply below_alloc | apply pw_below_drewN | apply below_drew1) | exact HB.out))) : w.heap.size ≤ gb210)); clear HB; have HB := n0_; have BK210 := n1_; have GW210 := n2_; have GE210 := n3_; clear n0_ n1_ n2_ n3_; clear hb hbox hg; have hcz10_0 : w9.cell? ⟨gb210, 0, none⟩ = some (.int .i64 a0_0) := (blk_cell BK210.out 0).trans rfl; have hcz10_1 : w9.cell? ⟨gb210, 1, none⟩ = some (.int .i64 a0_1) := (blk_cell BK210.out 1).trans rfl; have hcz10_2 : w9.cell? ⟨gb210, 2, none⟩ = some (.int .i64 a0_2) := (blk_cell BK210.out 2).trans rfl; have hfz10_0 := blk_frozen BK210.out 0; have hfz10_1 := blk_frozen BK210.out 1; have hfz10_2 := blk_frozen BK210.out 2) | ((with_reducible refine gate_callee (f := 143) rfl ?_); refine goesL_ (some 5) rfl rfl Try.func143 (by kernel_rfl) rfl #[.int .i64 a0_0, .int .i64 16, .int .i64 1000] rfl (by (try simp only [List.map_toArray, List.map_cons, List.map_nil]); first | done | rfl | (simp only [List.length_drop, List.length_take]; rfl)) ?_; (with_reducible refine (impl_within.calls a0_0 16 1000 true _ A2.out).mono ?_); rintro e w' ⟨rfl, ⟨nd, rfl⟩⟩; refine ⟨_, rfl, ?_⟩) | (go_at_call 143; (with_reducible refine (impl_within.calls a0_1 0 12 false _ A4.out).mono ?_); rintro e w' ⟨rfl, ⟨nd, rfl⟩⟩))
      go_ret
      exact ⟨by first | rfl | (simp [errW_none, errW_some] <;> rfl) | (simp [*, errW_none, errW_some] <;> rfl), by repeat (first | (with_reducible first | exact HB.out | apply below_alloc | apply pw_below_drewN | apply below_drew1 | refine below_set ?_ GE210.out) | exact HB.out)⟩
  · replace c3 := Bool.eq_false_iff.mpr c3
    subst c3
    have H1 : (some false) = some r := by rw [if_neg (show ¬ (false = true) by decide)] at H; exact H
    clear H
    have H := H1
    clear H1
    obtain rfl := Option.some.inj H
    go_enter Try.func96, Try.ntmps96
    go_wp2_with (first | ((with_reducible refine gate_dst (N := 1) rfl ?_); refine box_event ?hg (N := 1) ?hd (cs := #[.int .i64 a0_0, .int .i64 a0_1, .int .i64 a0_2]) (t := 40) ?hr ?_; (case hd => rfl); (case hg => rfl); (case hr => first | (go_simp; done) | (go_simp; rfl)); intro gb210 hg w11 hbox hb; have n0_ := Aside0.mk (below_step (by repeat (first | (with_reducible first | exact HB.out | apply below_alloc | apply pw_below_drewN | apply below_drew1) | exact HB.out)) hb); have n1_ := Aside0.mk (hbox); have n2_ := Aside0.mk ((by rw [hg]; exact (below_size (by repeat (first | (with_reducible first | exact HB.out | apply below_alloc | apply pw_below_drewN | apply below_drew1) | exact HB.out))) : w.heap.size ≤ gb210)); have n3_ := Aside0.mk ((by rw [hg]; exact (below_size (by repeat (first | (with_reducible first | exact HB.out | apply below_alloc | apply pw_below_drewN | apply below_drew1) | exact HB.out))) : w.heap.size ≤ gb210)); clear HB; have HB := n0_; have BK210 := n1_; have GW210 := n2_; have GE210 := n3_; clear n0_ n1_ n2_ n3_; clear hb hbox hg; have hcz12_0 : w11.cell? ⟨gb210, 0, none⟩ = some (.int .i64 a0_0) := (blk_cell BK210.out 0).trans rfl; have hcz12_1 : w11.cell? ⟨gb210, 1, none⟩ = some (.int .i64 a0_1) := (blk_cell BK210.out 1).trans rfl; have hcz12_2 : w11.cell? ⟨gb210, 2, none⟩ = some (.int .i64 a0_2) := (blk_cell BK210.out 2).trans rfl; have hfz12_0 := blk_frozen BK210.out 0; have hfz12_1 := blk_frozen BK210.out 1; have hfz12_2 := blk_frozen BK210.out 2) | ((with_reducible refine gate_callee (f := 143) rfl ?_); refine goesL_ (some 5) rfl rfl Try.func143 (by kernel_rfl) rfl #[.int .i64 a0_0, .int .i64 16, .int .i64 1000] rfl (by (try simp only [List.map_toArray, List.map_cons, List.map_nil]); first | done | rfl | (simp only [List.length_drop, List.length_take]; rfl)) ?_; (with_reducible refine (impl_within.calls a0_0 16 1000 false _ A2.out).mono ?_); rintro e w' ⟨rfl, ⟨nd, rfl⟩⟩; refine ⟨_, rfl, ?_⟩))
    go_ret
    exact ⟨by first | rfl | (simp [errW_none, errW_some] <;> rfl) | (simp [*, errW_none, errW_some] <;> rfl), by repeat (first | (with_reducible first | exact HB.out | apply below_alloc | apply pw_below_drewN | apply below_drew1 | refine below_set ?_ GE210.out) | exact HB.out)⟩

/-! ### impl_more: function 83 -/
def impl_more.l0 : Nat → Int → Int → Int → Option (Int)
  | 0, _, _, _ => none
  | k + 1, x0, x1, x5 => if x5 ≥ 0 then (if 0 ≤ x5 then (if ((Go.bits .or .i64 (wrap64 (x0 * 2)) (Go.bits .and .i64 (shr .i64 x1 x5) 1)) / 2147483648) = 1 then (impl_more.l0 k (Go.bits .xor .i64 (Go.bits .or .i64 (wrap64 (x0 * 2)) (Go.bits .and .i64 (shr .i64 x1 x5) 1)) 2147483657) x1 (wrap64 (x5 - 1))) else (impl_more.l0 k (Go.bits .or .i64 (wrap64 (x0 * 2)) (Go.bits .and .i64 (shr .i64 x1 x5) 1)) x1 (wrap64 (x5 - 1)))) else (none)) else (some x0)
def impl_more.f (k : Nat) (a0 : Int) (a1 : Int) : Option (Int) := impl_more.l0 k a0 a1 7
theorem impl_more.mono_l : ∀ k, (∀ y0 y1 y2, LeO (impl_more.l0 k y0 y1 y2) (impl_more.l0 (k + 1) y0 y1 y2))
  | 0 => fun _ _ _ r h => by simp [impl_more.l0] at h
  | k + 1 => by
    have ih0 := impl_more.mono_l k
    · intro y0 y1 y2
      unfold impl_more.l0
      repeat' first
      | (with_reducible exact ih0 _ _ _)
      | (with_reducible exact LeO.refl _)
      | (with_reducible exact LeO.none _)
      | (with_reducible refine LeO.ite ?_ ?_)
      | (with_reducible refine LeO.bind ?_ (fun _ => ?_))
      | exact ih0 _ _ _
      | exact LeO.none _
      | refine LeO.ite ?_ ?_
      | refine LeO.bind ?_ (fun _ => ?_)
theorem impl_more.mono : ∀ a0 a1 k, LeO (impl_more.f k a0 a1) (impl_more.f (k + 1) a0 a1) := by
  intro a0 a1 k
  have ih0 := impl_more.mono_l k
  unfold impl_more.f
  repeat' first
      | (with_reducible exact ih0 _ _ _)
      | (with_reducible exact LeO.refl _)
      | (with_reducible exact LeO.none _)
      | (with_reducible refine LeO.ite ?_ ?_)
      | (with_reducible refine LeO.bind ?_ (fun _ => ?_))
      | exact ih0 _ _ _
      | exact LeO.none _
      | refine LeO.ite ?_ ?_
      | refine LeO.bind ?_ (fun _ => ?_)
set_option maxHeartbeats 8000000 in
set_option maxRecDepth 100000 in
theorem impl_more.calls (k : Nat) (a0 : Int) (a1 : Int) (r : Int) (w : World) (h : impl_more.f k a0 a1 = some r) :
    Calls Try.prog 83 #[.int .i64 a0, .int .i64 a1] w fun e w' => e = .returned (.int .i64 r) ∧ Drawn0 w w' := by
  have H : (impl_more.l0 k a0 a1 7) = some r := h
  clear h
  have H' := Aside0.mk H
  clear H
  go_enter Try.func83, Try.ntmps83
  go_wp2
  go_loopg [0, 5] k (fun kq v0 v5 w' => ∃ (x0_1 : Int) (x5_1 : Int), v0 = .int .i64 x0_1 ∧ v5 = .int .i64 x5_1 ∧ Aside0 (impl_more.l0 kq x0_1 a1 x5_1 = some r) ∧ Aside0 (kq ≤ k) ∧ Drawn0 w w')
  case atStart => exact ⟨(a0), (7), (by first | rfl | (simp; done) | (simp [*]; done)), (by first | rfl | (simp; done) | (simp [*]; done)), H', ⟨Nat.le_refl _⟩, by repeat (first | exact Drawn0.refl _ | apply Drawn0.step)⟩
  case round =>
    clear H'
    try clear p2
    obtain ⟨x0_1, x5_1, rfl, rfl, HA, HK1, ⟨m1, rfl⟩⟩ := hrel
    cases gk with
    | zero => exact absurd HA.out (by simp [impl_more.l0])
    | succ k1 =>
      have H := HA.out
      clear HA
      simp only [impl_more.l0] at H
      by_cases c3 : x5_1 ≥ 0
      · rw [if_pos c3] at H
        have c3b0 : decide (0 ≤ x5_1) = true := decide_eq_true c3
        clear c3
        by_cases c4 : 0 ≤ x5_1
        · rw [if_pos c4] at H
          have c4b0 := eq_true c4
          have c4b1 : decide (0 ≤ x5_1) = true := decide_eq_true c4
          clear c4
          obtain ⟨ji5, hji5⟩ : ∃ j_ : Int, (shr .i64 a1 x5_1) = j_ := ⟨_, rfl⟩
          replace H : (if ((Go.bits .or .i64 (wrap64 (x0_1 * 2)) (Go.bits .and .i64 (ji5) 1)) / 2147483648) = 1 then (impl_more.l0 k1 (Go.bits .xor .i64 (Go.bits .or .i64 (wrap64 (x0_1 * 2)) (Go.bits .and .i64 (ji5) 1)) 2147483657) a1 (wrap64 (x5_1 - 1))) else (impl_more.l0 k1 (Go.bits .or .i64 (wrap64 (x0_1 * 2)) (Go.bits .and .i64 (ji5) 1)) a1 (wrap64 (x5_1 - 1)))) = some r := by first | (rw [hji5] at H; exact H) | (simp only [hji5] at H ⊢; exact H)
          have hji5_ : (a1 / 2 ^ min x5_1.toNat 64) = ji5 := hji5
          have hji5z : x5_1 ≤ 64 → (a1 / 2 ^ x5_1.toNat) = ji5 := shr_small hji5
          by_cases c6 : ((Go.bits .or .i64 (wrap64 (x0_1 * 2)) (Go.bits .and .i64 (ji5) 1)) / 2147483648) = 1
          · rw [if_pos c6] at H
            have c6b0 : (((Go.bits .or .i64 (wrap64 (x0_1 * 2)) (Go.bits .and .i64 (ji5) 1)) / 2147483648) == 1) = true := beq_iff_eq.mpr c6
            try have c6b9 : ((((Go.bits .or .i64 ((x0_1 * 2)) (Go.bits .and .i64 (ji5) 1)) / 2147483648) == 1)) = true := (by have hw0 : wrap64 (x0_1 * 2) = x0_1 * 2 := (by unfold wrap64; omega); have z_ := c6b0; simp only [hw0] at z_; exact z_)
            have c6b1 : (((Go.bits .or .i64 (wrap64 (x0_1 * 2)) (Go.bits .and .i64 (ji5) 1)) / 2147483648) != 1) = false := bne_eq_false_iff_eq.mpr c6
            clear c6
            have H' := Aside0.mk H
            clear H
            go_wp2
            go_roundg k1
            case measure => have := HK1.out; omega
            case rel => exact ⟨(Go.bits .xor .i64 (Go.bits .or .i64 (wrap64 (x0_1 * 2)) (Go.bits .and .i64 (ji5) 1)) 2147483657), (wrap64 (x5_1 - 1)), (by first | rfl | (simp; done) | (simp only [← hji5] <;> (first | rfl | simp)) | (simp [*]; done)), (by first | rfl | (simp; done) | (simp [*]; done)), H', ⟨by have := HK1.out; omega⟩, by repeat (first | exact Drawn0.refl _ | apply Drawn0.step)⟩
          · rw [if_neg c6] at H
            have c6b0 : (((Go.bits .or .i64 (wrap64 (x0_1 * 2)) (Go.bits .and .i64 (ji5) 1)) / 2147483648) == 1) = false := beq_eq_false_iff_ne.mpr c6
            try have c6b9 : ((((Go.bits .or .i64 ((x0_1 * 2)) (Go.bits .and .i64 (ji5) 1)) / 2147483648) == 1)) = false := (by have hw0 : wrap64 (x0_1 * 2) = x0_1 * 2 := (by unfold wrap64; omega); have z_ := c6b0; simp only [hw0] at z_; exact z_)
            have c6b1 : (((Go.bits .or .i64 (wrap64 (x0_1 * 2)) (Go.bits .and .i64 (ji5) 1)) / 2147483648) != 1) = true := bne_iff_ne.mpr c6
            have H' := Aside0.mk H
            clear H
            go_wp2
            go_roundg k1
            case measure => have := HK1.out; omega
            case rel => exact ⟨(Go.bits .or .i64 (wrap64 (x0_1 * 2)) (Go.bits .and .i64 (ji5) 1)), (wrap64 (x5_1 - 1)), (by first | rfl | (simp; done) | (simp only [← hji5] <;> (first | rfl | simp)) | (simp [*]; done)), (by first | rfl | (simp; done) | (simp [*]; done)), H', ⟨by have := HK1.out; omega⟩, by repeat (first | exact Drawn0.refl _ | apply Drawn0.step)⟩
        · rw [if_neg c4] at H
          exact absurd H (by simp)
      · rw [if_neg c3] at H
        have c3b0 : decide (0 ≤ x5_1) = false := decide_eq_false c3
        clear c3
        obtain rfl := Option.some.inj H
        go_wp2
        go_ret
        exact ⟨by first | rfl | (simp; done) | (simp [*]; done), by repeat (first | exact Drawn0.refl _ | apply Drawn0.step)⟩

/-! ### impl_finger: function 79 -/
def impl_finger.l0 : Nat → ByteArray → Int → Int → Int → Option (Int)
  | 0, _, _, _, _ => none
  | k + 1, x0, x3, x6, x7 => if x7 < x6 then (if 0 ≤ x7 then (if x7 < (x0.size : Int) then ((impl_more.f k x3 (wrap64 (bt x0 x7))).bind fun t214 => (impl_finger.l0 k x0 t214 x6 (wrap64 (x7 + 1)))) else (none)) else (none)) else (some x3)
def impl_finger.f (k : Nat) (a0 : ByteArray) : Option (Int) := impl_finger.l0 k a0 0 (a0.size : Int) 0
theorem impl_finger.mono_l : ∀ k, (∀ y0 y1 y2 y3, LeO (impl_finger.l0 k y0 y1 y2 y3) (impl_finger.l0 (k + 1) y0 y1 y2 y3))
  | 0 => fun _ _ _ _ r h => by simp [impl_finger.l0] at h
  | k + 1 => by
    have ih0 := impl_finger.mono_l k
    · intro y0 y1 y2 y3
      unfold impl_finger.l0
      repeat' first
      | (with_reducible exact ih0 _ _ _ _)
      | (with_reducible exact impl_more.mono _ _ _)
      | (with_reducible exact LeO.refl _)
      | (with_reducible exact LeO.none _)
      | (with_reducible refine LeO.ite ?_ ?_)
      | (with_reducible refine LeO.bind ?_ (fun _ => ?_))
      | exact ih0 _ _ _ _
      | exact impl_more.mono _ _ _
      | exact LeO.none _
      | refine LeO.ite ?_ ?_
      | refine LeO.bind ?_ (fun _ => ?_)
theorem impl_finger.mono : ∀ a0 k, LeO (impl_finger.f k a0) (impl_finger.f (k + 1) a0) := by
  intro a0 k
  have ih0 := impl_finger.mono_l k
  unfold impl_finger.f
  repeat' first
      | (with_reducible exact ih0 _ _ _ _)
      | (with_reducible exact impl_more.mono _ _ _)
      | (with_reducible exact LeO.refl _)
      | (with_reducible exact LeO.none _)
      | (with_reducible refine LeO.ite ?_ ?_)
      | (with_reducible refine LeO.bind ?_ (fun _ => ?_))
      | exact ih0 _ _ _ _
      | exact impl_more.mono _ _ _
      | exact LeO.none _
      | refine LeO.ite ?_ ?_
      | refine LeO.bind ?_ (fun _ => ?_)
set_option maxHeartbeats 8000000 in
set_option maxRecDepth 100000 in
theorem impl_finger.calls (k : Nat) (a0 : ByteArray) (r : Int) (w : World) (h : impl_finger.f k a0 = some r) :
    Calls Try.prog 79 #[.string a0] w fun e w' => e = .returned (.int .i64 r) ∧ Drawn0 w w' := by
  have H : (impl_finger.l0 k a0 0 (a0.size : Int) 0) = some r := h
  clear h
  have H' := Aside0.mk H
  clear H
  go_enter Try.func79, Try.ntmps79
  go_wp2
  go_loopg [3, 7] k (fun kq v3 v7 w' => ∃ (x3_1 : Int) (x7_1 : Int), v3 = .int .i64 x3_1 ∧ v7 = .int .i64 x7_1 ∧ Aside0 (impl_finger.l0 kq a0 x3_1 (a0.size : Int) x7_1 = some r) ∧ Aside0 (kq ≤ k) ∧ Drawn0 w w')
  case atStart => exact ⟨(0), (0), (by first | rfl | (simp; done) | (simp [*]; done)), (by first | rfl | (simp; done) | (simp [*]; done)), H', ⟨Nat.le_refl _⟩, by repeat (first | exact Drawn0.refl _ | apply Drawn0.step)⟩
  case round =>
    clear H'
    obtain ⟨x3_1, x7_1, rfl, rfl, HA, HK1, ⟨m1, rfl⟩⟩ := hrel
    cases gk with
    | zero => exact absurd HA.out (by simp [impl_finger.l0])
    | succ k1 =>
      have H := HA.out
      clear HA
      simp only [impl_finger.l0] at H
      by_cases c2 : x7_1 < (a0.size : Int)
      · rw [if_pos c2] at H
        have c2b0 : decide (x7_1 < (a0.size : Int)) = true := decide_eq_true c2
        clear c2
        by_cases c3 : 0 ≤ x7_1
        · rw [if_pos c3] at H
          have c3b0 : decide (0 ≤ x7_1) = true := decide_eq_true c3
          clear c3
          by_cases c4 : x7_1 < (a0.size : Int)
          · rw [if_pos c4] at H
            have c4b0 : decide (x7_1 < (a0.size : Int)) = true := decide_eq_true c4
            clear c4
            replace H := Option.bind_eq_some_iff.mp H
            obtain ⟨t214, A60, H⟩ := H
            replace H : (impl_finger.l0 k1 a0 t214 (a0.size : Int) (wrap64 (x7_1 + 1))) = some r := H
            have A6 := Aside0.mk A60
            clear A60
            have H' := Aside0.mk H
            clear H
            have p5 : 0 ≤ (x7_1 : Int) := of_decide_eq_true (by first | (with_reducible assumption) | assumption)
            have q5 : x7_1 < (a0.size : Int) := of_decide_eq_true (by first | (with_reducible assumption) | assumption)
            have hx5 := bt_at a0 x7_1
            replace p5 := eq_true p5
            replace q5 := eq_true q5
            go_wp2_with (first | ((with_reducible refine gate_callee (f := 83) rfl ?_); refine goesL_ (some 15) rfl rfl Try.func83 (by kernel_rfl) rfl #[.int .i64 x3_1, .int .i64 (wrap64 (bt a0 x7_1))] rfl (by (try simp only [List.map_toArray, List.map_cons, List.map_nil]); first | done | rfl | (simp only [List.length_drop, List.length_take]; rfl)) ?_; (with_reducible refine (impl_more.calls k1 x3_1 (wrap64 (bt a0 x7_1)) t214 _ A6.out).mono ?_); rintro e w' ⟨rfl, ⟨nd, rfl⟩⟩; refine ⟨_, rfl, ?_⟩))
            go_roundg k1
            case measure => have := HK1.out; omega
            case rel => exact ⟨(t214), (wrap64 (x7_1 + 1)), (by first | rfl | (simp; done) | (simp [*]; done)), (by first | rfl | (simp; done) | (simp [*]; done)), H', ⟨by have := HK1.out; omega⟩, by repeat (first | exact Drawn0.refl _ | apply Drawn0.step)⟩
          · rw [if_neg c4] at H
            exact absurd H (by simp)
        · rw [if_neg c3] at H
          exact absurd H (by simp)
      · rw [if_neg c2] at H
        have c2b0 : decide (x7_1 < (a0.size : Int)) = false := decide_eq_false c2
        clear c2
        obtain rfl := Option.some.inj H
        go_wp2
        go_ret
        exact ⟨by first | rfl | (simp; done) | (simp [*]; done), by repeat (first | exact Drawn0.refl _ | apply Drawn0.step)⟩

/-! ### impl_long: function 146 -/
def impl_long.f (a0 : ByteArray) : Option (Int) := some (a0.size : Int)
set_option maxHeartbeats 8000000 in
set_option maxRecDepth 100000 in
theorem impl_long.calls (a0 : ByteArray) (r : Int) (w : World) (h : impl_long.f a0 = some r) :
    Calls Try.prog 146 #[.string a0] w fun e w' => e = .returned (.int .i64 r) ∧ Drawn0 w w' := by
  have H : (some (a0.size : Int)) = some r := h
  clear h
  obtain rfl := Option.some.inj H
  go_enter Try.func146, Try.ntmps146
  go_wp2
  go_ret
  exact ⟨by first | rfl | (simp; done) | (simp [*]; done), by repeat (first | exact Drawn0.refl _ | apply Drawn0.step)⟩

end Go.Proofs.Yteljfdhjbnlgoaa.PFnPieces
