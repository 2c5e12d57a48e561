-- A program of this session wrote this text: a changed copy of the kit print, with given functions.
import Derived.Test.YtddapeieolfolaaDoorPFnScanx0
import Derived.Test.YtddapeieolfolaaDoorPFnScanx2
import Derived.Test.YtddapeieolfolaaDoorPFnScanx4
import Derived.Test.YtddapeieolfolaaDoorPFnScanx6
namespace Go.Proofs.YtddapeieolfolaaDoor.PFnScan
open Go.RowKit Go.Proofs.YtddapeieolfolaaDoorW.PrintWords Go.Proofs.YtddapeieolfolaaDoorW.PrintLast Go.Proofs.YtddapeieolfolaaDoorW.PrintMore Go.Proofs.YtddapeieolfolaaDoor.Aut
attribute [local go_sem] max2_int min2_int max_two min_two max_three min_three max_four min_four   -- for this text's walks alone
set_option linter.unusedVariables false
set_option linter.unusedSimpArgs false

/-! ### impl_readRecord: function 118 -/
def impl_readRecord.j0 : Nat → ByteArray → Bool → ByteArray → Int → Bool → Int → ByteArray → Option (Int × ByteArray × ByteArray × Int × Int × Int × Int × Bool)
  | 0, _, _, _, _, _, _, _ => none
  | k + 1, x10, x43, x140000, x140001, x140002, x157000, x157001 => if x43 = true then (some (0, (⟨#[]⟩ : ByteArray), (⟨#[]⟩ : ByteArray), 0, 0, 0, 0, false)) else ((impl_long.f x157001).bind fun t159 => ((impl_long.f x157001).bind fun t160 => (some (x157000, x157001, x10, x157000, wrap64 (x140001 - t159), t160, x140001, true))))
def impl_readRecord.f (k : Nat) (a0 : ByteArray) (a1 : Int) : Option (Int × ByteArray × ByteArray × Int × Int × Int × Int × Bool) := (impl_reader_take.f a0 a1 false 1).bind fun bt140 => ((impl_reader_take.f bt140.2.1 bt140.2.2.1 bt140.2.2.2 32).bind fun bt144 => ((impl_reader_num.f k bt144.2.1 bt144.2.2.1 bt144.2.2.2).bind fun bt148 => ((impl_reader_string.f k bt148.2.1 bt148.2.2.1 bt148.2.2.2).bind fun bt152 => (if bt152.2.2.2 = true then (impl_readRecord.j0 k bt144.1 true bt152.2.1 bt152.2.2.1 bt152.2.2.2 bt148.1 bt152.1) else (if bt140.1.toList = ([66] : List UInt8) then ((impl_BlobRight.f bt148.1 bt152.1).bind fun t157 => (if t157 = true then ((impl_Blob_key.f k bt148.1 bt152.1).bind fun t158 => (impl_readRecord.j0 k bt144.1 (t158.toList != bt144.1.toList) bt152.2.1 bt152.2.2.1 bt152.2.2.2 bt148.1 bt152.1)) else (impl_readRecord.j0 k bt144.1 true bt152.2.1 bt152.2.2.1 bt152.2.2.2 bt148.1 bt152.1))) else (impl_readRecord.j0 k bt144.1 true bt152.2.1 bt152.2.2.1 bt152.2.2.2 bt148.1 bt152.1))))))
theorem impl_readRecord.mono_l : ∀ k, (∀ y0 y1 y2 y3 y4 y5 y6, LeO (impl_readRecord.j0 k y0 y1 y2 y3 y4 y5 y6) (impl_readRecord.j0 (k + 1) y0 y1 y2 y3 y4 y5 y6))
  | 0 => fun _ _ _ _ _ _ _ r h => by simp [impl_readRecord.j0] at h
  | k + 1 => by
    have ih0 := impl_readRecord.mono_l k
    · intro y0 y1 y2 y3 y4 y5 y6
      unfold impl_readRecord.j0
      repeat' first
      | (with_reducible exact ih0 _ _ _ _ _ _ _)
      | (with_reducible exact impl_Blob_key.mono _ _ _)
      | (with_reducible exact impl_reader_num.mono _ _ _ _)
      | (with_reducible exact impl_reader_string.mono _ _ _ _)
      | (with_reducible exact LeO.refl _)
      | (with_reducible exact LeO.none _)
      | (with_reducible refine LeO.ite ?_ ?_)
      | (with_reducible refine LeO.bind ?_ (fun _ => ?_))
      | exact ih0 _ _ _ _ _ _ _
      | exact impl_Blob_key.mono _ _ _
      | exact impl_reader_num.mono _ _ _ _
      | exact impl_reader_string.mono _ _ _ _
      | exact LeO.none _
      | refine LeO.ite ?_ ?_
      | refine LeO.bind ?_ (fun _ => ?_)
theorem impl_readRecord.mono : ∀ a0 a1 k, LeO (impl_readRecord.f k a0 a1) (impl_readRecord.f (k + 1) a0 a1) := by
  intro a0 a1 k
  have ih0 := impl_readRecord.mono_l k
  unfold impl_readRecord.f
  repeat' first
      | (with_reducible exact ih0 _ _ _ _ _ _ _)
      | (with_reducible exact impl_Blob_key.mono _ _ _)
      | (with_reducible exact impl_reader_num.mono _ _ _ _)
      | (with_reducible exact impl_reader_string.mono _ _ _ _)
      | (with_reducible exact LeO.refl _)
      | (with_reducible exact LeO.none _)
      | (with_reducible refine LeO.ite ?_ ?_)
      | (with_reducible refine LeO.bind ?_ (fun _ => ?_))
      | exact ih0 _ _ _ _ _ _ _
      | exact impl_Blob_key.mono _ _ _
      | exact impl_reader_num.mono _ _ _ _
      | exact impl_reader_string.mono _ _ _ _
      | exact LeO.none _
      | refine LeO.ite ?_ ?_
      | refine LeO.bind ?_ (fun _ => ?_)
def impl_readRecord.T6 : Bool × List (List Nat × List Nat) := (true, [([], []), ([], []), ([], []), ([2], [2]), ([], []), ([4], [4]), ([5], [5]), ([6], [6]), ([], []), ([8], [8]), ([9], [9]), ([7, 10], [7, 10]), ([], []), ([12], [12]), ([13, 10], [13]), ([1, 3, 11, 14], [1, 3, 11, 14]), ([], []), ([16], [16]), ([17], [17]), ([18], [18]), ([0, 14, 0], [0]), ([15, 20, 0, 1, 2, 3, 4, 5, 6, 7, 8, 9, 10, 11, 12, 13, 14, 15, 20], [15]), ([19, 21, 0, 1, 2, 3, 4, 5, 6, 7, 8, 9, 10, 11, 12, 13, 14, 15, 16, 17, 18, 19, 20, 21], [19]), ([22, 0, 1, 2, 3, 4, 5, 6, 7, 8, 9, 10, 11, 12, 13, 14, 15, 16, 17, 18, 19, 20, 21, 22], [])])
def impl_readRecord.B6 : List Nat := [0, 0, 0, 4, 0, 16, 48, 112, 0, 256, 768, 2032, 0, 4096, 14080, 32766, 0, 65536, 196608, 458752, 30465, 1114111, 4194303, 8388607]
theorem impl_readRecord.tab6 : rtab .any (opsOf Tryd.f118 6) = impl_readRecord.T6 := by kernel_rfl
theorem impl_readRecord.bits6 : waitsOk impl_readRecord.T6.2 impl_readRecord.B6 = true := by kernel_rfl
set_option maxHeartbeats 8000000 in
set_option maxRecDepth 100000 in
theorem impl_readRecord.calls (k : Nat) (a0 : ByteArray) (a1 : Int) (r1 : Int) (r2 : ByteArray) (r3 : ByteArray) (r4 : Int) (r5 : Int) (r6 : Int) (r7 : Int) (r8 : Bool) (w : World) (h : impl_readRecord.f k a0 a1 = some (r1, r2, r3, r4, r5, r6, r7, r8)) (hL : Hand.LaidG w := by first | exact hL | exact Hand.LaidG.below hL bel_) :
    Calls Tryd.prog 118 #[.string a0, .int .i64 a1] w fun e w' => e = .returned (.tuple #[.agg #[.int .i64 r1, .string r2], .agg #[.string r3, .int .i64 r4, .int .i64 r5, .int .i64 r6], .int .i64 r7, .bool r8]) ∧ Below w.heap.size w w' := by
  have hu64 := Tryd.underlying64
  have hu61 := Tryd.underlying61
  have hu134 := Tryd.underlying134
  have HB := AM (Below.refl w.heap.size w)
  have H : ((impl_reader_take.f a0 a1 false 1).bind fun bt140 => ((impl_reader_take.f bt140.2.1 bt140.2.2.1 bt140.2.2.2 32).bind fun bt144 => ((impl_reader_num.f k bt144.2.1 bt144.2.2.1 bt144.2.2.2).bind fun bt148 => ((impl_reader_string.f k bt148.2.1 bt148.2.2.1 bt148.2.2.2).bind fun bt152 => (if bt152.2.2.2 = true then (impl_readRecord.j0 k bt144.1 true bt152.2.1 bt152.2.2.1 bt152.2.2.2 bt148.1 bt152.1) else (if bt140.1.toList = ([66] : List UInt8) then ((impl_BlobRight.f bt148.1 bt152.1).bind fun t157 => (if t157 = true then ((impl_Blob_key.f k bt148.1 bt152.1).bind fun t158 => (impl_readRecord.j0 k bt144.1 (t158.toList != bt144.1.toList) bt152.2.1 bt152.2.2.1 bt152.2.2.2 bt148.1 bt152.1)) else (impl_readRecord.j0 k bt144.1 true bt152.2.1 bt152.2.2.1 bt152.2.2.2 bt148.1 bt152.1))) else (impl_readRecord.j0 k bt144.1 true bt152.2.1 bt152.2.2.1 bt152.2.2.2 bt148.1 bt152.1))))))) = some (r1, r2, r3, r4, r5, r6, r7, r8) := h
  clear h
  obtain ⟨⟨t140, t141, t142, t143⟩, A3, H⟩ := OB H
  try dsimp only at H
  replace A3 := AM A3
  obtain ⟨⟨t144, t145, t146, t147⟩, A4, H⟩ := OB H
  try dsimp only at H
  replace A4 := AM A4
  obtain ⟨⟨t148, t149, t150, t151⟩, A5, H⟩ := OB H
  try dsimp only at H
  replace A5 := AM A5
  obtain ⟨⟨t152, t153, t154, t155⟩, A6, H⟩ := OB H
  try dsimp only at H
  replace A6 := AM A6
  have HC7 := AM H
  clear H
  go_enter Tryd.func118, Tryd.ntmps118
  go_upto_region 4 with (first | ((with_reducible refine gate_dst (N := 4) rfl ?_); refine be_ 4 #[.int .i64 0, .string (⟨#[]⟩ : ByteArray)] 64 ?_; intro gb137 hg w8 hbox hb; have BK137 := AM hbox; have GW137 := AM ((by rw [hg]; exact (below_size bel_) : w.heap.size ≤ gb137)); have GE137 := AM ((by rw [hg]; exact (below_size bel_) : w.heap.size ≤ gb137)); replace HB := AM (below_step bel_ hb); clear hb hbox hg) | ((with_reducible refine gate_dst (N := 5) rfl ?_); refine be_ 5 #[.string (⟨#[]⟩ : ByteArray), .int .i64 0, .int .i64 0, .int .i64 0] 61 ?_; intro gb138 hg w9 hbox hb; have BK138 := AM hbox; have GW138 := AM ((by rw [hg]; exact (below_size bel_) : w.heap.size ≤ gb138)); have GE138 := AM ((by rw [hg]; exact (below_size bel_) : w.heap.size ≤ gb138)); replace HB := AM (below_step bel_ hb); have NB137_138 := AM ((by rw [hg]; exact Nat.ne_of_lt (blk_lt (g := gb137) (o := .cells #[.int .i64 0, .string (⟨#[]⟩ : ByteArray)] 64 (0, 0)) (bk_ BK137.out)) : gb137 ≠ gb138)); have NB138_137 := AM ((by rw [hg]; exact Nat.ne_of_gt (blk_lt (g := gb137) (o := .cells #[.int .i64 0, .string (⟨#[]⟩ : ByteArray)] 64 (0, 0)) (bk_ BK137.out)) : gb138 ≠ gb137)); replace BK137 := AM (blk_below (g := gb137) (o := .cells #[.int .i64 0, .string (⟨#[]⟩ : ByteArray)] 64 (0, 0)) (bk_ BK137.out) hb); clear hb hbox hg) | ((with_reducible refine gate_dst (N := 15) rfl ?_); refine be_ 15 #[.string a0, .int .i64 a1, .bool false] 134 ?_; intro gb139 hg w10 hbox hb; have NB137_139 := AM ((by rw [hg]; exact Nat.ne_of_lt (blk_lt (g := gb137) (o := .cells #[.int .i64 0, .string (⟨#[]⟩ : ByteArray)] 64 (0, 0)) (bk_ BK137.out)) : gb137 ≠ gb139)); have NB139_137 := AM ((by rw [hg]; exact Nat.ne_of_gt (blk_lt (g := gb137) (o := .cells #[.int .i64 0, .string (⟨#[]⟩ : ByteArray)] 64 (0, 0)) (bk_ BK137.out)) : gb139 ≠ gb137)); replace BK137 := AM (blk_below (g := gb137) (o := .cells #[.int .i64 0, .string (⟨#[]⟩ : ByteArray)] 64 (0, 0)) (bk_ BK137.out) hb); have NB138_139 := AM ((by rw [hg]; exact Nat.ne_of_lt (blk_lt (g := gb138) (o := .cells #[.string (⟨#[]⟩ : ByteArray), .int .i64 0, .int .i64 0, .int .i64 0] 61 (0, 0)) (bk_ BK138.out)) : gb138 ≠ gb139)); have NB139_138 := AM ((by rw [hg]; exact Nat.ne_of_gt (blk_lt (g := gb138) (o := .cells #[.string (⟨#[]⟩ : ByteArray), .int .i64 0, .int .i64 0, .int .i64 0] 61 (0, 0)) (bk_ BK138.out)) : gb139 ≠ gb138)); replace BK138 := AM (blk_below (g := gb138) (o := .cells #[.string (⟨#[]⟩ : ByteArray), .int .i64 0, .int .i64 0, .int .i64 0] 61 (0, 0)) (bk_ BK138.out) hb); have HI139 := AM ((⟨hbox, (by rw [hg]; exact (below_size bel_) : w.heap.size ≤ gb139)⟩ : IsS134 w w10 gb139 a0 a1 false)); replace HB := AM (below_step bel_ hb); clear hb hbox hg) | ((with_reducible refine gate_callee (f := 115) rfl ?_); refine gl_ (some 17) Tryd.func115 #[.pointer (some ⟨gb139, 0, none⟩), .int .i64 1] ?_; (with_reducible refine (impl_reader_take.calls gb139 a0 a1 false 1 t140 t141 t142 t143 w _ ?side1 ?side2 A3.out).mono ?_); (case side1 => repeat (first | (with_reducible first | exact HI139.out | apply IsS134.alloc | apply IsS134.drewN | apply IsS134.drew | apply IsS134.set_0 | apply IsS134.set_1 | apply IsS134.set_2 | refine IsS134.far ?_ NB139_137.out _ | refine IsS134.far ?_ NB139_138.out _) | exact HI139.out)); (case side2 => repeat (first | (with_reducible first | exact HB.out | apply below_alloc | apply pw_below_drewN | apply below_drew1 | refine below_set ?_ (IsS134.ge HI139.out) | refine below_set ?_ GE137.out | refine below_set ?_ GE138.out) | exact HB.out)); rintro e w11 ⟨rfl, hi, hb, hk⟩; refine ⟨_, rfl, ?_⟩; replace BK137 := AM (KeepBut.blk hk (g' := gb137) (o := .cells #[.int .i64 0, .string (⟨#[]⟩ : ByteArray)] 64 (0, 0)) (bk_ BK137.out) NB137_139.out (by simp)); replace BK138 := AM (KeepBut.blk hk (g' := gb138) (o := .cells #[.string (⟨#[]⟩ : ByteArray), .int .i64 0, .int .i64 0, .int .i64 0] 61 (0, 0)) (bk_ BK138.out) NB138_139.out (by simp)); replace HB := AM hb; replace HI139 := AM hi; (try clear hb); (try clear hb2); (try clear hk); (try clear hi)) | ((with_reducible refine gate_callee (f := 115) rfl ?_); refine gl_ (some 19) Tryd.func115 #[.pointer (some ⟨gb139, 0, none⟩), .int .i64 32] ?_; (with_reducible refine (impl_reader_take.calls gb139 t141 t142 t143 32 t144 t145 t146 t147 w _ ?side1 ?side2 A4.out).mono ?_); (case side1 => repeat (first | (with_reducible first | exact HI139.out | apply IsS134.alloc | apply IsS134.drewN | apply IsS134.drew | apply IsS134.set_0 | apply IsS134.set_1 | apply IsS134.set_2 | refine IsS134.far ?_ NB139_137.out _ | refine IsS134.far ?_ NB139_138.out _) | exact HI139.out)); (case side2 => repeat (first | (with_reducible first | exact HB.out | apply below_alloc | apply pw_below_drewN | apply below_drew1 | refine below_set ?_ (IsS134.ge HI139.out) | refine below_set ?_ GE137.out | refine below_set ?_ GE138.out) | exact HB.out)); rintro e w12 ⟨rfl, hi, hb, hk⟩; refine ⟨_, rfl, ?_⟩; replace BK137 := AM (KeepBut.blk hk (g' := gb137) (o := .cells #[.int .i64 0, .string (⟨#[]⟩ : ByteArray)] 64 (0, 0)) (bk_ BK137.out) NB137_139.out (by simp)); replace BK138 := AM (KeepBut.blk hk (g' := gb138) (o := .cells #[.string (⟨#[]⟩ : ByteArray), .int .i64 0, .int .i64 0, .int .i64 0] 61 (0, 0)) (bk_ BK138.out) NB138_139.out (by simp)); replace HB := AM hb; replace HI139 := AM hi; (try clear hb); (try clear hb2); (try clear hk); (try clear hi)) | ((with_reducible refine gate_callee (f := 116) rfl ?_); refine gl_ (some 21) Tryd.func116 #[.pointer (some ⟨gb139, 0, none⟩)] ?_; (with_reducible refine (impl_reader_num.calls k gb139 t145 t146 t147 t148 t149 t150 t151 w _ ?side1 ?side2 A5.out).mono ?_); (case side1 => repeat (first | (with_reducible first | exact HI139.out | apply IsS134.alloc | apply IsS134.drewN | apply IsS134.drew | apply IsS134.set_0 | apply IsS134.set_1 | apply IsS134.set_2 | refine IsS134.far ?_ NB139_137.out _ | refine IsS134.far ?_ NB139_138.out _) | exact HI139.out)); (case side2 => repeat (first | (with_reducible first | exact HB.out | apply below_alloc | apply pw_below_drewN | apply below_drew1 | refine below_set ?_ (IsS134.ge HI139.out) | refine below_set ?_ GE137.out | refine below_set ?_ GE138.out) | exact HB.out)); rintro e w13 ⟨rfl, hi, hb, hk⟩; refine ⟨_, rfl, ?_⟩; replace BK137 := AM (KeepBut.blk hk (g' := gb137) (o := .cells #[.int .i64 0, .string (⟨#[]⟩ : ByteArray)] 64 (0, 0)) (bk_ BK137.out) NB137_139.out (by simp)); replace BK138 := AM (KeepBut.blk hk (g' := gb138) (o := .cells #[.string (⟨#[]⟩ : ByteArray), .int .i64 0, .int .i64 0, .int .i64 0] 61 (0, 0)) (bk_ BK138.out) NB138_139.out (by simp)); replace HB := AM hb; replace HI139 := AM hi; (try clear hb); (try clear hb2); (try clear hk); (try clear hi)) | ((with_reducible refine gate_callee (f := 142) rfl ?_); refine gl_ (some 23) Tryd.func142 #[.pointer (some ⟨gb139, 0, none⟩)] ?_; (with_reducible refine (impl_reader_string.calls k gb139 t149 t150 t151 t152 t153 t154 t155 w _ ?side1 ?side2 A6.out).mono ?_); (case side1 => repeat (first | (with_reducible first | exact HI139.out | apply IsS134.alloc | apply IsS134.drewN | apply IsS134.drew | apply IsS134.set_0 | apply IsS134.set_1 | apply IsS134.set_2 | refine IsS134.far ?_ NB139_137.out _ | refine IsS134.far ?_ NB139_138.out _) | exact HI139.out)); (case side2 => repeat (first | (with_reducible first | exact HB.out | apply below_alloc | apply pw_below_drewN | apply below_drew1 | refine below_set ?_ (IsS134.ge HI139.out) | refine below_set ?_ GE137.out | refine below_set ?_ GE138.out) | exact HB.out)); rintro e w14 ⟨rfl, hi, hb, hk⟩; refine ⟨_, rfl, ?_⟩; replace BK137 := AM (KeepBut.blk hk (g' := gb137) (o := .cells #[.int .i64 0, .string (⟨#[]⟩ : ByteArray)] 64 (0, 0)) (bk_ BK137.out) NB137_139.out (by simp)); replace BK138 := AM (KeepBut.blk hk (g' := gb138) (o := .cells #[.string (⟨#[]⟩ : ByteArray), .int .i64 0, .int .i64 0, .int .i64 0] 61 (0, 0)) (bk_ BK138.out) NB138_139.out (by simp)); replace HB := AM hb; replace HI139 := AM hi; (try clear hb); (try clear hb2); (try clear hk); (try clear hi)) | ((with_reducible refine gate_dst (N := 11) rfl ?_); refine be_ 11 #[.int .i64 0, .string (⟨#[]⟩ : ByteArray)] 64 ?_; intro gb156 hg w15 hbox hb; have BK156 := AM hbox; have GW156 := AM ((by rw [hg]; exact (below_size (belg_ (IsS134.ge HI139.out))) : w.heap.size ≤ gb156)); have GE156 := AM ((by rw [hg]; exact (below_size (belg_ (IsS134.ge HI139.out))) : w.heap.size ≤ gb156)); replace HB := AM (below_step (belg_ (IsS134.ge HI139.out)) hb); have NB137_156 := AM ((by rw [hg]; exact Nat.ne_of_lt (blk_lt (g := gb137) (o := .cells #[.int .i64 0, .string (⟨#[]⟩ : ByteArray)] 64 (0, 0)) (bk_ BK137.out)) : gb137 ≠ gb156)); have NB156_137 := AM ((by rw [hg]; exact Nat.ne_of_gt (blk_lt (g := gb137) (o := .cells #[.int .i64 0, .string (⟨#[]⟩ : ByteArray)] 64 (0, 0)) (bk_ BK137.out)) : gb156 ≠ gb137)); replace BK137 := AM (blk_below (g := gb137) (o := .cells #[.int .i64 0, .string (⟨#[]⟩ : ByteArray)] 64 (0, 0)) (bk_ BK137.out) hb); have NB138_156 := AM ((by rw [hg]; exact Nat.ne_of_lt (blk_lt (g := gb138) (o := .cells #[.string (⟨#[]⟩ : ByteArray), .int .i64 0, .int .i64 0, .int .i64 0] 61 (0, 0)) (bk_ BK138.out)) : gb138 ≠ gb156)); have NB156_138 := AM ((by rw [hg]; exact Nat.ne_of_gt (blk_lt (g := gb138) (o := .cells #[.string (⟨#[]⟩ : ByteArray), .int .i64 0, .int .i64 0, .int .i64 0] 61 (0, 0)) (bk_ BK138.out)) : gb156 ≠ gb138)); replace BK138 := AM (blk_below (g := gb138) (o := .cells #[.string (⟨#[]⟩ : ByteArray), .int .i64 0, .int .i64 0, .int .i64 0] 61 (0, 0)) (bk_ BK138.out) hb); have NB139_156 := AM ((by rw [hg]; exact Nat.ne_of_lt (IsS134.lt (show IsS134 w _ gb139 t153 t154 t155 from is134_)) : gb139 ≠ gb156)); have NB156_139 := AM ((by rw [hg]; exact Nat.ne_of_gt (IsS134.lt (show IsS134 w _ gb139 t153 t154 t155 from is134_)) : gb156 ≠ gb139)); replace HI139 := AM (IsS134.below is134_ hb); clear hb hbox hg; have hnb16 := NB156_137.out; have hnc16 := NB137_156.out; have hnb17 := NB156_138.out; have hnc17 := NB138_156.out; have hnb18 := NB156_139.out; have hnc18 := NB139_156.out; have hcz19_0 : w15.cell? ⟨gb156, 0, none⟩ = some (.int .i64 0) := (blk_cell BK156.out 0).trans rfl; have hcz19_1 : w15.cell? ⟨gb156, 1, none⟩ = some (.string (⟨#[]⟩ : ByteArray)) := (blk_cell BK156.out 1).trans rfl; have hfz19_0 := blk_frozen BK156.out 0; have hfz19_1 := blk_frozen BK156.out 1))
  (try simp only [Act.put, List.setIfInBounds_toArray, List.set_cons_zero, List.set_cons_succ])
  go_cut [43] (fun v43 wc => ∃ (kq : Nat) (x43_6 : Bool), v43 = .bool x43_6 ∧ Aside0 (impl_readRecord.j0 kq t144 x43_6 t153 t154 t155 t148 t152 = some (r1, r2, r3, r4, r5, r6, r7, r8)) ∧ Aside0 (kq ≤ k) ∧ Aside0 (wc.heap[gb137]? = some (.cells #[.int .i64 0, .string (⟨#[]⟩ : ByteArray)] 64 (0, 0))) ∧ Aside0 (wc.heap[gb138]? = some (.cells #[.string (⟨#[]⟩ : ByteArray), .int .i64 0, .int .i64 0, .int .i64 0] 61 (0, 0))) ∧ Aside0 (wc.heap[gb156]? = some (.cells #[.int .i64 t148, .string t152] 64 (0, 0))) ∧ Aside0 (IsS134 w wc gb139 t153 t154 t155) ∧ Aside0 (Below w.heap.size w wc))
  case first =>
    have H := HC7.out
    clear HC7
    by_cases c20 : t155 = true
    · subst c20
      rw [if_pos rfl] at H
      have H' := AM H
      clear H
      obtain ⟨HGz21, hgz21⟩ := HI139.out
      have hcz21_0 := cellS134_0 HGz21
      have hcz21_1 := cellS134_1 HGz21
      have hcz21_2 := cellS134_2 HGz21
      have hfz21_0 := blk_frozen HGz21 0
      have hfz21_1 := blk_frozen HGz21 1
      have hfz21_2 := blk_frozen HGz21 2
      clear HGz21 hgz21
      go_wp2
      go_meet
      case rel => exact ⟨_, (true), (by first | rfl | (simp; done) | (simp [*]; done)), H', ⟨by first | omega | exact Nat.le_refl _⟩, ⟨bka_⟩, ⟨bka_⟩, ⟨bka_⟩, ⟨is134_⟩, ⟨belg_ (IsS134.ge HI139.out)⟩⟩
    · replace c20 := Bool.eq_false_iff.mpr c20
      subst c20
      rw [if_neg (show ¬ (false = true) by decide)] at H
      by_cases c22 : t140.toList = ([66] : List UInt8)
      · rw [if_pos c22] at H
        have c22b0 : (t140.toList == ([66] : List UInt8)) = true := beq_iff_eq.mpr c22
        have c22b1 : (t140.toList != ([66] : List UInt8)) = false := bne_eq_false_iff_eq.mpr c22
        clear c22
        (first | rw [c22b0] | (simp only [i64_w, i32_w]; rw [c22b0]) | skip)
        obtain ⟨t157, A23, H⟩ := OB H
        try dsimp only at H
        replace A23 := AM A23
        by_cases c24 : t157 = true
        · subst c24
          rw [if_pos rfl] at H
          obtain ⟨t158, A25, H⟩ := OB H
          try dsimp only at H
          replace A25 := AM A25
          have H' := AM H
          clear H
          obtain ⟨HGz26, hgz26⟩ := HI139.out
          have hcz26_0 := cellS134_0 HGz26
          have hcz26_1 := cellS134_1 HGz26
          have hcz26_2 := cellS134_2 HGz26
          have hfz26_0 := blk_frozen HGz26 0
          have hfz26_1 := blk_frozen HGz26 1
          have hfz26_2 := blk_frozen HGz26 2
          clear HGz26 hgz26
          have hnb27 := NB156_137.out
          have hnc27 := NB137_156.out
          have hnb28 := NB156_138.out
          have hnc28 := NB138_156.out
          have hnb29 := NB156_139.out
          have hnc29 := NB139_156.out
          have hcz30_0 : w15.cell? ⟨gb156, 0, none⟩ = some (.int .i64 0) := (blk_cell BK156.out 0).trans rfl
          have hcz30_1 : w15.cell? ⟨gb156, 1, none⟩ = some (.string (⟨#[]⟩ : ByteArray)) := (blk_cell BK156.out 1).trans rfl
          have hfz30_0 := blk_frozen BK156.out 0
          have hfz30_1 := blk_frozen BK156.out 1
          go_wp2_with (first | (go_at_call 89; (with_reducible refine (impl_BlobRight.calls t148 t152 true _ A23.out).mono ?_); rintro e w31 ⟨rfl, hb⟩; have n0_ := AM (blk_below (g := gb137) (o := .cells #[.int .i64 0, .string (⟨#[]⟩ : ByteArray)] 64 (0, 0)) bka_ hb); have n1_ := AM (blk_below (g := gb138) (o := .cells #[.string (⟨#[]⟩ : ByteArray), .int .i64 0, .int .i64 0, .int .i64 0] 61 (0, 0)) bka_ hb); have n2_ := AM (IsS134.below (show IsS134 w ((w15.setCell ⟨gb156, 0, none⟩ (.int .i64 t148)).setCell ⟨gb156, 1, none⟩ (.string t152)) gb139 t153 t154 false from is134_) hb); have n3_ := AM (blk_below (g := gb156) (o := .cells #[.int .i64 t148, .string t152] 64 (0, 0)) bka_ hb); have n4_ := AM (below_step (belg_ (IsS134.ge HI139.out)) hb); clear BK137; clear BK138; clear HI139; clear BK156; clear HB; have BK137 := n0_; have BK138 := n1_; have HI139 := n2_; have BK156 := n3_; have HB := n4_; clear n0_ n1_ n2_ n3_ n4_; (try clear hb); (try clear hb2); (try clear hk); (try clear hi); have hcz32_0 : w31.cell? ⟨gb156, 0, none⟩ = some (.int .i64 t148) := (blk_cell BK156.out 0).trans rfl; have hcz32_1 : w31.cell? ⟨gb156, 1, none⟩ = some (.string t152) := (blk_cell BK156.out 1).trans rfl; have hfz32_0 := blk_frozen BK156.out 0; have hfz32_1 := blk_frozen BK156.out 1) | (go_at_call 90; (with_reducible refine (impl_Blob_key.calls k t148 t152 t158 _ A25.out).mono ?_); rintro e w33 ⟨rfl, hb⟩; replace BK137 := AM (blk_below (g := gb137) (o := .cells #[.int .i64 0, .string (⟨#[]⟩ : ByteArray)] 64 (0, 0)) (bk_ BK137.out) hb); replace BK138 := AM (blk_below (g := gb138) (o := .cells #[.string (⟨#[]⟩ : ByteArray), .int .i64 0, .int .i64 0, .int .i64 0] 61 (0, 0)) (bk_ BK138.out) hb); replace BK156 := AM (blk_below (g := gb156) (o := .cells #[.int .i64 t148, .string t152] 64 (0, 0)) (bk_ BK156.out) hb); replace HB := AM (below_step (belg_ (IsS134.ge HI139.out)) hb); replace HI139 := AM (IsS134.below is134_ hb); (try clear hb); (try clear hb2); (try clear hk); (try clear hi)))
          go_meet
          case rel => exact ⟨_, ((t158.toList != t144.toList)), (by first | rfl | (simp; done) | (simp [*]; done)), H', ⟨by first | omega | exact Nat.le_refl _⟩, ⟨bk_ BK137.out⟩, ⟨bk_ BK138.out⟩, ⟨bk_ BK156.out⟩, ⟨is134_⟩, ⟨belg_ (IsS134.ge HI139.out)⟩⟩
        · replace c24 := Bool.eq_false_iff.mpr c24
          subst c24
          rw [if_neg (show ¬ (false = true) by decide)] at H
          have H' := AM H
          clear H
          obtain ⟨HGz34, hgz34⟩ := HI139.out
          have hcz34_0 := cellS134_0 HGz34
          have hcz34_1 := cellS134_1 HGz34
          have hcz34_2 := cellS134_2 HGz34
          have hfz34_0 := blk_frozen HGz34 0
          have hfz34_1 := blk_frozen HGz34 1
          have hfz34_2 := blk_frozen HGz34 2
          clear HGz34 hgz34
          have hnb35 := NB156_137.out
          have hnc35 := NB137_156.out
          have hnb36 := NB156_138.out
          have hnc36 := NB138_156.out
          have hnb37 := NB156_139.out
          have hnc37 := NB139_156.out
          have hcz38_0 : w15.cell? ⟨gb156, 0, none⟩ = some (.int .i64 0) := (blk_cell BK156.out 0).trans rfl
          have hcz38_1 : w15.cell? ⟨gb156, 1, none⟩ = some (.string (⟨#[]⟩ : ByteArray)) := (blk_cell BK156.out 1).trans rfl
          have hfz38_0 := blk_frozen BK156.out 0
          have hfz38_1 := blk_frozen BK156.out 1
          go_wp2_with (first | (go_at_call 89; (with_reducible refine (impl_BlobRight.calls t148 t152 false _ A23.out).mono ?_); rintro e w39 ⟨rfl, hb⟩; have n0_ := AM (blk_below (g := gb137) (o := .cells #[.int .i64 0, .string (⟨#[]⟩ : ByteArray)] 64 (0, 0)) bka_ hb); have n1_ := AM (blk_below (g := gb138) (o := .cells #[.string (⟨#[]⟩ : ByteArray), .int .i64 0, .int .i64 0, .int .i64 0] 61 (0, 0)) bka_ hb); have n2_ := AM (IsS134.below (show IsS134 w ((w15.setCell ⟨gb156, 0, none⟩ (.int .i64 t148)).setCell ⟨gb156, 1, none⟩ (.string t152)) gb139 t153 t154 false from is134_) hb); have n3_ := AM (blk_below (g := gb156) (o := .cells #[.int .i64 t148, .string t152] 64 (0, 0)) bka_ hb); have n4_ := AM (below_step (belg_ (IsS134.ge HI139.out)) hb); clear BK137; clear BK138; clear HI139; clear BK156; clear HB; have BK137 := n0_; have BK138 := n1_; have HI139 := n2_; have BK156 := n3_; have HB := n4_; clear n0_ n1_ n2_ n3_ n4_; (try clear hb); (try clear hb2); (try clear hk); (try clear hi)))
          go_meet
          case rel => exact ⟨_, (true), (by first | rfl | (simp; done) | (simp [*]; done)), H', ⟨by first | omega | exact Nat.le_refl _⟩, ⟨bk_ BK137.out⟩, ⟨bk_ BK138.out⟩, ⟨bk_ BK156.out⟩, ⟨is134_⟩, ⟨belg_ (IsS134.ge HI139.out)⟩⟩
      · rw [if_neg c22] at H
        have c22b0 : (t140.toList == ([66] : List UInt8)) = false := beq_eq_false_iff_ne.mpr c22
        have c22b1 : (t140.toList != ([66] : List UInt8)) = true := bne_iff_ne.mpr c22
        (first | rw [c22b0] | (simp only [i64_w, i32_w]; rw [c22b0]) | skip)
        have H' := AM H
        clear H
        obtain ⟨HGz40, hgz40⟩ := HI139.out
        have hcz40_0 := cellS134_0 HGz40
        have hcz40_1 := cellS134_1 HGz40
        have hcz40_2 := cellS134_2 HGz40
        have hfz40_0 := blk_frozen HGz40 0
        have hfz40_1 := blk_frozen HGz40 1
        have hfz40_2 := blk_frozen HGz40 2
        clear HGz40 hgz40
        go_wp2
        go_meet
        case rel => exact ⟨_, (true), (by first | rfl | (simp; done) | (simp [*]; done)), H', ⟨by first | omega | exact Nat.le_refl _⟩, ⟨bka_⟩, ⟨bka_⟩, ⟨bka_⟩, ⟨is134_⟩, ⟨belg_ (IsS134.ge HI139.out)⟩⟩
  case rest =>
    clear HC7
    try clear c1
    try clear c2
    try clear p2
    try clear c3
    try clear c11
    try clear c14
    try clear c16
    try clear c17
    try clear c18
    try clear c20
    try clear c22
    try clear c22b0
    try clear c22b1
    try clear c24
    try clear c27
    try clear c28
    try clear c29
    try clear c35
    try clear c36
    try clear c37
    try clear hcz19_0
    try clear hcz19_1
    try clear hcz21_0
    try clear hcz21_1
    try clear hcz21_2
    try clear hcz26_0
    try clear hcz26_1
    try clear hcz26_2
    try clear hcz30_0
    try clear hcz30_1
    try clear hcz32_0
    try clear hcz32_1
    try clear hcz34_0
    try clear hcz34_1
    try clear hcz34_2
    try clear hcz38_0
    try clear hcz38_1
    try clear hcz40_0
    try clear hcz40_1
    try clear hcz40_2
    try clear hfz19_0
    try clear hfz19_1
    try clear hfz21_0
    try clear hfz21_1
    try clear hfz21_2
    try clear hfz26_0
    try clear hfz26_1
    try clear hfz26_2
    try clear hfz30_0
    try clear hfz30_1
    try clear hfz32_0
    try clear hfz32_1
    try clear hfz34_0
    try clear hfz34_1
    try clear hfz34_2
    try clear hfz38_0
    try clear hfz38_1
    try clear hfz40_0
    try clear hfz40_1
    try clear hfz40_2
    obtain ⟨kq, x43_6, rfl, HA, HJ6, BK137, BK138, BK156, HI139, HB⟩ := hcut
    cases kq with
    | zero => exact absurd HA.out (by simp [impl_readRecord.j0])
    | succ kj6 =>
      have H := HA.out
      clear HA
      simp only [impl_readRecord.j0] at H
      by_cases c41 : x43_6 = true
      · subst c41
        rw [if_pos rfl] at H
        simp only [Option.some.injEq, Prod.mk.injEq] at H
        obtain ⟨rfl, rfl, rfl, rfl, rfl, rfl, rfl, rfl⟩ := H
        have hnb42 := NB137_138.out
        have hnc42 := NB138_137.out
        have hnb43 := NB137_156.out
        have hnc43 := NB156_137.out
        have hnb44 := NB137_139.out
        have hnc44 := NB139_137.out
        have hcz45_0 : wc.cell? ⟨gb137, 0, none⟩ = some (.int .i64 0) := (blk_cell BK137.out 0).trans rfl
        have hcz45_1 : wc.cell? ⟨gb137, 1, none⟩ = some (.string (⟨#[]⟩ : ByteArray)) := (blk_cell BK137.out 1).trans rfl
        have hfz45_0 := blk_frozen BK137.out 0
        have hfz45_1 := blk_frozen BK137.out 1
        have hnb46 := NB138_156.out
        have hnc46 := NB156_138.out
        have hnb47 := NB138_139.out
        have hnc47 := NB139_138.out
        have hcz48_0 : wc.cell? ⟨gb138, 0, none⟩ = some (.string (⟨#[]⟩ : ByteArray)) := (blk_cell BK138.out 0).trans rfl
        have hcz48_1 : wc.cell? ⟨gb138, 1, none⟩ = some (.int .i64 0) := (blk_cell BK138.out 1).trans rfl
        have hcz48_2 : wc.cell? ⟨gb138, 2, none⟩ = some (.int .i64 0) := (blk_cell BK138.out 2).trans rfl
        have hcz48_3 : wc.cell? ⟨gb138, 3, none⟩ = some (.int .i64 0) := (blk_cell BK138.out 3).trans rfl
        have hfz48_0 := blk_frozen BK138.out 0
        have hfz48_1 := blk_frozen BK138.out 1
        have hfz48_2 := blk_frozen BK138.out 2
        have hfz48_3 := blk_frozen BK138.out 3
        go_wp2
        refine bodyPost_ret (results_list (rs := [.cell 4 64, .cell 5 61, .tmp 6, .tmp 7]) rfl (by simp) (.cell gb137 64 #[.int .i64 0, .string (⟨#[]⟩ : ByteArray)] (0, 0) _ rfl bka_ Tryd.underlying64 rfl (by kernel_rfl) (.cell gb138 61 #[.string (⟨#[]⟩ : ByteArray), .int .i64 0, .int .i64 0, .int .i64 0] (0, 0) _ rfl bka_ Tryd.underlying61 rfl (by kernel_rfl) (.tmp (.tmp .nil))))) rfl ?_
        exact ⟨ri_, belg_ (IsS134.ge HI139.out)⟩
      · replace c41 := Bool.eq_false_iff.mpr c41
        subst c41
        rw [if_neg (show ¬ (false = true) by decide)] at H
        obtain ⟨t159, A49, H⟩ := OB H
        try dsimp only at H
        replace A49 := AM A49
        obtain ⟨t160, A50, H⟩ := OB H
        try dsimp only at H
        replace A50 := AM A50
        simp only [Option.some.injEq, Prod.mk.injEq] at H
        obtain ⟨rfl, rfl, rfl, rfl, rfl, rfl, rfl, rfl⟩ := H
        try go_wp2
        replace BK137 := AM (blk_drew BK137.out)
        replace BK138 := AM (blk_drew BK138.out)
        replace BK156 := AM (blk_drew BK156.out)
        replace HI139 := AM (IsS134.drew HI139.out)
        replace HB := AM (below_drew1 HB.out)
        refine start_ (n := 24) (S := fun w' => w'.cell? ⟨gb156, 0, none⟩ = some (.int .i64 t148) ∧ w'.cell? ⟨gb156, 1, none⟩ = some (.string t152) ∧ w'.cell? ⟨gb139, 0, none⟩ = some (.string t153) ∧ w'.cell? ⟨gb139, 1, none⟩ = some (.int .i64 t154) ∧ w'.cell? ⟨gb139, 2, none⟩ = some (.bool t155)) (ds := []) #[false, false, false, false, false, false, false, false, false, false, false, false, false, false, false, false, false, false, false, false, false, false, false, false] (by kernel_rfl) rfl rfl ⟨(blk_cell BK156.out 0).trans rfl, (blk_cell BK156.out 1).trans rfl, (cellS134_0 HI139.out.1), (cellS134_1 HI139.out.1), (cellS134_2 HI139.out.1)⟩ (fun hHeld => ?_); refine with_tabW impl_readRecord.tab6 impl_readRecord.bits6 (fun HT_ HW_ => ?_)
        generalize wc.drew = w51 at BK137 BK138 BK156 HI139 HB hHeld ⊢
        refine pu_ HT_ 1 (some 47) #[false, true, false, false, false, false, false, false, false, false, false, false, false, false, false, false, false, false, false, false, false, false, false, false] ?_
        refine pu_ HT_ 2 (some 48) #[false, true, true, false, false, false, false, false, false, false, false, false, false, false, false, false, false, false, false, false, false, false, false, false] ?_
        refine pu_ HT_ 4 (some 50) #[false, true, true, false, true, false, false, false, false, false, false, false, false, false, false, false, false, false, false, false, false, false, false, false] ?_
        refine pu_ HT_ 5 (some 51) #[false, true, true, false, true, true, false, false, false, false, false, false, false, false, false, false, false, false, false, false, false, false, false, false] ?_
        refine pu_ HT_ 6 (some 52) #[false, true, true, false, true, true, true, false, false, false, false, false, false, false, false, false, false, false, false, false, false, false, false, false] ?_
        refine pu_ HT_ 8 (some 54) #[false, true, true, false, true, true, true, false, true, false, false, false, false, false, false, false, false, false, false, false, false, false, false, false] ?_
        refine pu_ HT_ 12 (some 58) #[false, true, true, false, true, true, true, false, true, false, false, false, true, false, false, false, false, false, false, false, false, false, false, false] ?_
        refine pu_ HT_ 16 (some 62) #[false, true, true, false, true, true, true, false, true, false, false, false, true, false, false, false, true, false, false, false, false, false, false, false] ?_
        refine pu_ HT_ 17 (some 63) #[false, true, true, false, true, true, true, false, true, false, false, false, true, false, false, false, true, true, false, false, false, false, false, false] ?_
        refine pu_ HT_ 18 (some 64) #[false, true, true, false, true, true, true, false, true, false, false, false, true, false, false, false, true, true, true, false, false, false, false, false] ?_
        refine ta_ HT_ HW_ 0 (some 46) #[true, true, true, false, true, true, true, false, true, false, false, false, true, false, false, false, true, true, true, false, false, false, false, false] hHeld ?_
        refine ta_ HT_ HW_ 3 (some 49) #[true, true, true, true, true, true, true, false, true, false, false, false, true, false, false, false, true, true, true, false, false, false, false, false] hHeld ?_
        refine ta_ HT_ HW_ 7 (some 53) #[true, true, true, true, true, true, true, true, true, false, false, false, true, false, false, false, true, true, true, false, false, false, false, false] hHeld ?_
        refine ta_ HT_ HW_ 9 (some 55) #[true, true, true, true, true, true, true, true, true, true, false, false, true, false, false, false, true, true, true, false, false, false, false, false] hHeld ?_
        refine ta_ HT_ HW_ 13 (some 59) #[true, true, true, true, true, true, true, true, true, true, false, false, true, true, false, false, true, true, true, false, false, false, false, false] hHeld ?_
        refine ta_ HT_ HW_ 19 (some 65) #[true, true, true, true, true, true, true, true, true, true, false, false, true, true, false, false, true, true, true, true, false, false, false, false] hHeld ?_
        refine on_ HT_ 10 (some 56) #[true, true, true, true, true, true, true, true, true, true, true, false, true, true, false, false, true, true, true, true, false, false, false, false] (fun K hK => ?_)
        refine go1_ Tryd.func70 #[.string t152] ?_
        with_reducible refine (impl_long.calls t152 t159 _ A49.out).mono ?_
        rintro e w' ⟨rfl, ⟨nd, rfl⟩⟩
        refine ⟨_, rfl, ?_⟩
        refine hK.out _ _ ⟨(blk_cell BK156.out 0).trans rfl, (blk_cell BK156.out 1).trans rfl, (cellS134_0 HI139.out.1), (cellS134_1 HI139.out.1), (cellS134_2 HI139.out.1)⟩ (fun hHeld => ?_)
        clear hK K
        refine nm_ ?_
        refine pu_ HT_ 11 (some 57) #[true, true, true, true, true, true, true, true, true, true, true, true, true, true, false, false, true, true, true, true, false, false, false, false] ?_
        refine on_ HT_ 14 (some 60) #[true, true, true, true, true, true, true, true, true, true, true, true, true, true, true, false, true, true, true, true, false, false, false, false] (fun K hK => ?_)
        refine go1_ Tryd.func70 #[.string t152] ?_
        with_reducible refine (impl_long.calls t152 t160 _ A50.out).mono ?_
        rintro e w' ⟨rfl, ⟨nd, rfl⟩⟩
        refine ⟨_, rfl, ?_⟩
        refine hK.out _ _ ⟨(blk_cell BK156.out 0).trans rfl, (blk_cell BK156.out 1).trans rfl, (cellS134_0 HI139.out.1), (cellS134_1 HI139.out.1), (cellS134_2 HI139.out.1)⟩ (fun hHeld => ?_)
        clear hK K
        refine nm_ ?_
        refine pu_ HT_ 15 (some 61) #[true, true, true, true, true, true, true, true, true, true, true, true, true, true, true, true, true, true, true, true, false, false, false, false] ?_
        refine on_ HT_ 20 none #[true, true, true, true, true, true, true, true, true, true, true, true, true, true, true, true, true, true, true, true, true, false, false, false] (fun K hK => ?_)
        have hs52 : w51.cell? ⟨gb137, 0, none⟩ = some (.int .i64 0) := (blk_cell BK137.out 0).trans rfl
        have hfs52 := blk_frozen BK137.out 0
        have hns52_1 := NB138_137.out
        have hns52_2 := NB156_137.out
        have hms52_1 := NB137_138.out
        have hms52_2 := NB137_156.out
        have hs53 : w51.cell? ⟨gb137, 1, none⟩ = some (.string (⟨#[]⟩ : ByteArray)) := (blk_cell BK137.out 1).trans rfl
        have hfs53 := blk_frozen BK137.out 1
        have hns53_1 := NB138_137.out
        have hns53_2 := NB156_137.out
        have hms53_1 := NB137_138.out
        have hms53_2 := NB137_156.out
        refine sk_ ?_
        refine hK.out _ _ ⟨(by (rw [cell_far, cell_far]) <;> first | exact hHeld.1 | exact NB156_137.out), (by (rw [cell_far, cell_far]) <;> first | exact hHeld.2.1 | exact NB156_137.out), (by (rw [cell_far, cell_far]) <;> first | exact hHeld.2.2.1 | exact NB139_137.out), (by (rw [cell_far, cell_far]) <;> first | exact hHeld.2.2.2.1 | exact NB139_137.out), (by (rw [cell_far, cell_far]) <;> first | exact hHeld.2.2.2.2 | exact NB139_137.out)⟩ (fun hHeld => ?_)
        clear hK K
        refine on_ HT_ 21 none #[true, true, true, true, true, true, true, true, true, true, true, true, true, true, true, true, true, true, true, true, true, true, false, false] (fun K hK => ?_)
        have hs54 : w51.cell? ⟨gb138, 0, none⟩ = some (.string (⟨#[]⟩ : ByteArray)) := (blk_cell BK138.out 0).trans rfl
        have hfs54 := blk_frozen BK138.out 0
        have hns54_0 := NB137_138.out
        have hns54_2 := NB156_138.out
        have hms54_0 := NB138_137.out
        have hms54_2 := NB138_156.out
        have hs55 : w51.cell? ⟨gb138, 1, none⟩ = some (.int .i64 0) := (blk_cell BK138.out 1).trans rfl
        have hfs55 := blk_frozen BK138.out 1
        have hns55_0 := NB137_138.out
        have hns55_2 := NB156_138.out
        have hms55_0 := NB138_137.out
        have hms55_2 := NB138_156.out
        have hs56 : w51.cell? ⟨gb138, 2, none⟩ = some (.int .i64 0) := (blk_cell BK138.out 2).trans rfl
        have hfs56 := blk_frozen BK138.out 2
        have hns56_0 := NB137_138.out
        have hns56_2 := NB156_138.out
        have hms56_0 := NB138_137.out
        have hms56_2 := NB138_156.out
        have hs57 : w51.cell? ⟨gb138, 3, none⟩ = some (.int .i64 0) := (blk_cell BK138.out 3).trans rfl
        have hfs57 := blk_frozen BK138.out 3
        have hns57_0 := NB137_138.out
        have hns57_2 := NB156_138.out
        have hms57_0 := NB138_137.out
        have hms57_2 := NB138_156.out
        refine sk_ ?_
        refine hK.out _ _ ⟨(by (rw [cell_far, cell_far, cell_far, cell_far]) <;> first | exact hHeld.1 | exact NB156_138.out), (by (rw [cell_far, cell_far, cell_far, cell_far]) <;> first | exact hHeld.2.1 | exact NB156_138.out), (by (rw [cell_far, cell_far, cell_far, cell_far]) <;> first | exact hHeld.2.2.1 | exact NB139_138.out), (by (rw [cell_far, cell_far, cell_far, cell_far]) <;> first | exact hHeld.2.2.2.1 | exact NB139_138.out), (by (rw [cell_far, cell_far, cell_far, cell_far]) <;> first | exact hHeld.2.2.2.2 | exact NB139_138.out)⟩ (fun hHeld => ?_)
        clear hK K
        refine pu_ HT_ 22 (some 6) #[true, true, true, true, true, true, true, true, true, true, true, true, true, true, true, true, true, true, true, true, true, true, true, false] ?_
        refine pu_ HT_ 23 (some 7) #[true, true, true, true, true, true, true, true, true, true, true, true, true, true, true, true, true, true, true, true, true, true, true, true] ?_
        refine dn_ HT_ ?_
        try go_wp2
        refine bodyPost_ret (results_list (rs := [.cell 4 64, .cell 5 61, .tmp 6, .tmp 7]) rfl (by simp) (.cell gb137 64 #[.int .i64 t148, .string t152] (0, 0) _ rfl bka_ Tryd.underlying64 rfl (by kernel_rfl) (.cell gb138 61 #[.string t144, .int .i64 t148, .int .i64 (wrap64 (t154 - t159)), .int .i64 t160] (0, 0) _ rfl bka_ Tryd.underlying61 rfl (by kernel_rfl) (.tmp (.tmp .nil))))) rfl ?_
        exact ⟨ri_, belg_ (IsS134.ge HI139.out)⟩

/-! ### impl_scan: function 84 -/
def impl_scan.l0 : Nat → ByteArray → List (S61) → Int → Option ((List (S61)))
  | 0, _, _, _ => none
  | k + 1, x0, x3, x4 => (impl_long.f x0).bind fun t161 => (if x4 < t161 then ((impl_readRecord.f k x0 x4).bind fun bt162 => (if bt162.2.2.2.2.2.2.2 = true then (if x3.length < 3518437208883 then (impl_scan.l0 k x0 (x3 ++ [(⟨bt162.2.2.1, bt162.2.2.2.1, bt162.2.2.2.2.1, bt162.2.2.2.2.2.1⟩ : S61)]) bt162.2.2.2.2.2.2.1) else (none)) else (impl_scan.l0 k x0 x3 (wrap64 (x4 + 1))))) else (some x3))
def impl_scan.f (k : Nat) (a0 : ByteArray) : Option ((List (S61))) := impl_scan.l0 k a0 ([] : List (S61)) 0
theorem impl_scan.mono_l : ∀ k, (∀ y0 y1 y2, LeO (impl_scan.l0 k y0 y1 y2) (impl_scan.l0 (k + 1) y0 y1 y2))
  | 0 => fun _ _ _ r h => by simp [impl_scan.l0] at h
  | k + 1 => by
    have ih0 := impl_scan.mono_l k
    · intro y0 y1 y2
      unfold impl_scan.l0
      repeat' first
      | (with_reducible exact ih0 _ _ _)
      | (with_reducible exact impl_readRecord.mono _ _ _)
      | (with_reducible exact LeO.refl _)
      | (with_reducible exact LeO.none _)
      | (with_reducible refine LeO.ite ?_ ?_)
      | (with_reducible refine LeO.bind ?_ (fun _ => ?_))
      | exact ih0 _ _ _
      | exact impl_readRecord.mono _ _ _
      | exact LeO.none _
      | refine LeO.ite ?_ ?_
      | refine LeO.bind ?_ (fun _ => ?_)
theorem impl_scan.mono : ∀ a0 k, LeO (impl_scan.f k a0) (impl_scan.f (k + 1) a0) := by
  intro a0 k
  have ih0 := impl_scan.mono_l k
  unfold impl_scan.f
  repeat' first
      | (with_reducible exact ih0 _ _ _)
      | (with_reducible exact impl_readRecord.mono _ _ _)
      | (with_reducible exact LeO.refl _)
      | (with_reducible exact LeO.none _)
      | (with_reducible refine LeO.ite ?_ ?_)
      | (with_reducible refine LeO.bind ?_ (fun _ => ?_))
      | exact ih0 _ _ _
      | exact impl_readRecord.mono _ _ _
      | exact LeO.none _
      | refine LeO.ite ?_ ?_
      | refine LeO.bind ?_ (fun _ => ?_)
set_option maxHeartbeats 8000000 in
set_option maxRecDepth 100000 in
theorem impl_scan.calls (k : Nat) (a0 : ByteArray) (r : List (S61)) (w : World) (h : impl_scan.f k a0 = some r) (hL : Hand.LaidG w := by first | exact hL | exact Hand.LaidG.below hL bel_) :
    Calls Tryd.prog 84 #[.string a0] w fun e w' => ∃ v0_ : Value, e = .returned (v0_) ∧ Kd.R k61 61 w' w.heap.size (fun _ => True) v0_ r ∧ Below w.heap.size w w' := by
  have hu64 := Tryd.underlying64
  have hu61 := Tryd.underlying61
  have HB := AM (Below.refl w.heap.size w)
  have H : (impl_scan.l0 k a0 ([] : List (S61)) 0) = some r := h
  clear h
  have H' := AM H
  clear H
  go_enter Tryd.func84, Tryd.ntmps84
  go_wp2
  go_loopg [3, 4] k (fun kq v3 v4 w' => ∃ (x3_1 : List (S61)) (x4_1 : Int), v4 = .int .i64 x4_1 ∧ Aside0 (impl_scan.l0 kq a0 x3_1 x4_1 = some r) ∧ Aside0 (kq ≤ k) ∧ Aside0 (Kd.R k61 61 w' w.heap.size (fun _ => True) v3 x3_1) ∧ Aside0 (Below w.heap.size w w'))
  case atStart => exact ⟨(([] : List (S61))), (0), (by first | rfl | (simp; done) | (simp [*]; done)), H', ⟨Nat.le_refl _⟩, ⟨by first | exact Kd.R_nil _ _ _ _ _ | exact Kd.N_nil _ _ _ _ _ | exact Kd.V_nil _ _ _ _ _ | exact Kd.Q_nil _ _ _ _ _ | exact Kd.S_nil _ _ _ _ _⟩, ⟨bel_⟩⟩
  case round =>
    clear H'
    obtain ⟨x3_1, x4_1, rfl, HA, HK1, HO_3, HB⟩ := hrel
    cases gk with
    | zero => exact absurd HA.out (by simp [impl_scan.l0])
    | succ k1 =>
      have H := HA.out
      clear HA
      simp only [impl_scan.l0] at H
      obtain ⟨t161, A2, H⟩ := OB H
      try dsimp only at H
      replace A2 := AM A2
      by_cases c3 : x4_1 < t161
      · rw [if_pos c3] at H
        have c3b0 : decide (x4_1 < t161) = true := decide_eq_true c3
        clear c3
        obtain ⟨⟨t162, t163, t164, t165, t166, t167, t168, t169⟩, A4, H⟩ := OB H
        try dsimp only at H
        replace A4 := AM A4
        by_cases c5 : t169 = true
        · subst c5
          rw [if_pos rfl] at H
          by_cases c6 : x3_1.length < 3518437208883
          · rw [if_pos c6] at H
            have LMc6 := AM c6
            clear c6
            obtain ⟨y172, hy172⟩ : ∃ y_ : List (S61), y_ = (x3_1 ++ [(⟨t164, t165, t166, t167⟩ : S61)]) := ⟨_, rfl⟩
            replace H : (impl_scan.l0 k1 a0 y172 t168) = some r := by first | (rw [hy172]; with_reducible exact H) | (have H2_ := (Option.bind_some _ _).symm.trans H; rw [hy172]; with_reducible exact H2_) | (have H2_ := (Option.bind_some _ _).symm.trans H; with_reducible exact H2_) | with_reducible exact H | (rw [hy172]; exact H) | exact H
            have Ny172 := AM hy172
            clear hy172
            have H' := AM H
            clear H
            go_wp2_with (first | ((with_reducible refine gate_callee (f := 70) rfl ?_); refine gl_ (some 11) Tryd.func70 #[.string a0] ?_; (with_reducible refine (impl_long.calls a0 t161 _ A2.out).mono ?_); rintro e w' ⟨rfl, ⟨nd, rfl⟩⟩; refine ⟨_, rfl, ?_⟩; (try (rw [drewN_self wr]; generalize hq_ : World.drewN wr _ = wr; replace HO_3 : Aside0 (Kd.R k61 61 wr w.heap.size (fun _ => True) u3 x3_1) := ⟨by rw [← hq_]; exact (ro_ HO_3.out)⟩; replace HB : Aside0 (Below w.heap.size w wr) := ⟨by rw [← hq_]; exact bel_⟩; clear hq_))) | ((with_reducible refine gate_callee (f := 118) rfl ?_); refine gl_ (some 16) Tryd.func118 #[.string a0, .int .i64 x4_1] ?_; (with_reducible refine (impl_readRecord.calls k1 a0 x4_1 t162 t163 t164 t165 t166 t167 t168 true _ A4.out).mono ?_); rintro e w7 ⟨rfl, hb⟩; refine ⟨_, rfl, ?_⟩; replace HO_3 := AM (Kd.R_below (ro_ HO_3.out) hb); replace HB := AM (below_step bel_ hb); (try clear hb); (try clear hb2); (try clear hk); (try clear hi)) | ((with_reducible refine gate_dst (N := 5) rfl ?_); refine be_ 5 #[.int .i64 0, .string (⟨#[]⟩ : ByteArray)] 64 ?_; intro gb170 hg w8 hbox hb; replace HO_3 := AM (Kd.R_below (ro_ HO_3.out) hb); have BK170 := AM hbox; have GW170 := AM ((by rw [hg]; exact (below_size bel_) : w.heap.size ≤ gb170)); have GE170 := AM ((by rw [hg]; exact (below_size bel_) : w.heap.size ≤ gb170)); replace HB := AM (below_step bel_ hb); clear hb hbox hg) | ((with_reducible refine gate_dst (N := 6) rfl ?_); refine be_ 6 #[.string (⟨#[]⟩ : ByteArray), .int .i64 0, .int .i64 0, .int .i64 0] 61 ?_; intro gb171 hg w9 hbox hb; replace HO_3 := AM (Kd.R_below (Kd.R_elderB (ro_ HO_3.out) gb171 (Nat.le_of_eq hg.symm)) hb); have BK171 := AM hbox; have GW171 := AM ((by rw [hg]; exact (below_size bel_) : w.heap.size ≤ gb171)); have GE171 := AM ((by rw [hg]; exact (below_size bel_) : w.heap.size ≤ gb171)); replace HB := AM (below_step bel_ hb); have NB170_171 := AM ((by rw [hg]; exact Nat.ne_of_lt (blk_lt (g := gb170) (o := .cells #[.int .i64 0, .string (⟨#[]⟩ : ByteArray)] 64 (0, 0)) (bk_ BK170.out)) : gb170 ≠ gb171)); have NB171_170 := AM ((by rw [hg]; exact Nat.ne_of_gt (blk_lt (g := gb170) (o := .cells #[.int .i64 0, .string (⟨#[]⟩ : ByteArray)] 64 (0, 0)) (bk_ BK170.out)) : gb171 ≠ gb170)); replace BK170 := AM (blk_below (g := gb170) (o := .cells #[.int .i64 0, .string (⟨#[]⟩ : ByteArray)] 64 (0, 0)) (bk_ BK170.out) hb); clear hb hbox hg; have hnb10 := NB170_171.out; have hnc10 := NB171_170.out; have hcz11_0 : w9.cell? ⟨gb170, 0, none⟩ = some (.int .i64 0) := (blk_cell BK170.out 0).trans rfl; have hcz11_1 : w9.cell? ⟨gb170, 1, none⟩ = some (.string (⟨#[]⟩ : ByteArray)) := (blk_cell BK170.out 1).trans rfl; have hfz11_0 := blk_frozen BK170.out 0; have hfz11_1 := blk_frozen BK170.out 1; have hcz12_0 : w9.cell? ⟨gb171, 0, none⟩ = some (.string (⟨#[]⟩ : ByteArray)) := (blk_cell BK171.out 0).trans rfl; have hcz12_1 : w9.cell? ⟨gb171, 1, none⟩ = some (.int .i64 0) := (blk_cell BK171.out 1).trans rfl; have hcz12_2 : w9.cell? ⟨gb171, 2, none⟩ = some (.int .i64 0) := (blk_cell BK171.out 2).trans rfl; have hcz12_3 : w9.cell? ⟨gb171, 3, none⟩ = some (.int .i64 0) := (blk_cell BK171.out 3).trans rfl; have hfz12_0 := blk_frozen BK171.out 0; have hfz12_1 := blk_frozen BK171.out 1; have hfz12_2 := blk_frozen BK171.out 2; have hfz12_3 := blk_frozen BK171.out 3) | ((with_reducible refine gate_builtin (b := .append) (xs := #[.tmp 25, .tmp 27]) rfl ?_); at_builtin; refine Kd.R_append k61 (w0 := w) w.heap.size rfl (.tmp 25) (.tmp 27) 53 61 (.agg #[(.string ⟨#[]⟩), (.int .i64 0), (.int .i64 0), (.int .i64 0)]) 40 rfl Tryd.underlying53 info61 rfl (by decide) (by omega) u3 x3_1 (⟨t164, t165, t166, t167⟩ : S61) [.string t164, .int .i64 t165, .int .i64 t166, .int .i64 t167] (fun k_ => k_ ≠ gb171) (fun _ => False) rfl (by first | (go_simp; done) | (go_simp; rfl)) ?aP (fun _ hk => hk.elim) ?aF ?aO ?aB ?aS ?aL ?_; (case aP => exact k61_mkM _ _ _ (⟨t164, t165, t166, t167⟩ : S61)); (case aB => exact bel_); (case aF => exact (fun k_ hk => Kd.freshB (g := gb171) (o := .cells #[.string t164, .int .i64 t165, .int .i64 t166, .int .i64 t167] 61 (0, 0)) bka_ k_ hk)); (case aO => exact (by (with_reducible repeat (first | apply Kd.R_alloc | apply Kd.R_drewN | apply Kd.R_drew)); exact Kd.R_mono (Kd.R_far (p := ⟨gb171, 3, none⟩) (Kd.R_far (p := ⟨gb171, 2, none⟩) (Kd.R_far (p := ⟨gb171, 1, none⟩) (Kd.R_far (p := ⟨gb171, 0, none⟩) (Kd.R_far (p := ⟨gb170, 1, none⟩) (Kd.R_far (p := ⟨gb170, 0, none⟩) (Kd.R_mono (Kd.R_types HO_3.out BK170.out (by decide)) (fun k_ hk => (⟨hk, hk.1.2⟩ : _ ∧ k_ ≠ gb171))) (fun _ hk => hk.1.2) (.int .i64 t162)) (fun _ hk => hk.1.2) (.string t163)) (fun _ hk => hk.2) (.string t164)) (fun _ hk => hk.2) (.int .i64 t165)) (fun _ hk => hk.2) (.int .i64 t166)) (fun _ hk => hk.2) (.int .i64 t167)) (fun _ hk => hk.1.1.2))); (case aS => exact (below_size bel_)); (case aL => have := LMc6.out; omega); intro v173 w13 ho hb hg hat; rw [← Ny172.out] at ho; have n0_ := AM (blk_grown (g := gb170) (o := .cells #[.int .i64 t162, .string t163] 64 (0, 0)) bka_ hg (Kd.R_ne HO_3.out BK170.out (by decide))); have n1_ := AM (blk_grown (g := gb171) (o := .cells #[.string t164, .int .i64 t165, .int .i64 t166, .int .i64 t167] 61 (0, 0)) bka_ hg (Kd.R_away HO_3.out (fun _ hk => hk.2))); have n2_ := AM hb; have n3_ := AM ho; clear BK170; clear BK171; clear HB; clear HO_3; have BK170 := n0_; have BK171 := n1_; have HB := n2_; have HO174 := n3_; clear n0_ n1_ n2_ n3_; clear ho hb hg hat))
            go_roundg k1
            case measure => have := HK1.out; omega
            case rel => exact ⟨(y172), (t168), (by first | rfl | (simp; done) | (simp [*]; done)), H', ⟨by have := HK1.out; omega⟩, ⟨by (with_reducible repeat (first | apply Kd.R_alloc | apply Kd.R_drewN | apply Kd.R_drew)); exact Kd.R_mono HO174.out (fun _ hk => trivial)⟩, ⟨bel_⟩⟩
          · rw [if_neg c6] at H
            exact absurd H (by simp)
        · replace c5 := Bool.eq_false_iff.mpr c5
          subst c5
          rw [if_neg (show ¬ (false = true) by decide)] at H
          have H' := AM H
          clear H
          go_wp2_with (first | ((with_reducible refine gate_callee (f := 70) rfl ?_); refine gl_ (some 11) Tryd.func70 #[.string a0] ?_; (with_reducible refine (impl_long.calls a0 t161 _ A2.out).mono ?_); rintro e w' ⟨rfl, ⟨nd, rfl⟩⟩; refine ⟨_, rfl, ?_⟩; (try (rw [drewN_self wr]; generalize hq_ : World.drewN wr _ = wr; replace HO_3 : Aside0 (Kd.R k61 61 wr w.heap.size (fun _ => True) u3 x3_1) := ⟨by rw [← hq_]; exact (ro_ HO_3.out)⟩; replace HB : Aside0 (Below w.heap.size w wr) := ⟨by rw [← hq_]; exact bel_⟩; clear hq_))) | ((with_reducible refine gate_callee (f := 118) rfl ?_); refine gl_ (some 16) Tryd.func118 #[.string a0, .int .i64 x4_1] ?_; (with_reducible refine (impl_readRecord.calls k1 a0 x4_1 t162 t163 t164 t165 t166 t167 t168 false _ A4.out).mono ?_); rintro e w14 ⟨rfl, hb⟩; refine ⟨_, rfl, ?_⟩; replace HO_3 := AM (Kd.R_below (ro_ HO_3.out) hb); replace HB := AM (below_step bel_ hb); (try clear hb); (try clear hb2); (try clear hk); (try clear hi)) | ((with_reducible refine gate_dst (N := 5) rfl ?_); refine be_ 5 #[.int .i64 0, .string (⟨#[]⟩ : ByteArray)] 64 ?_; intro gb170 hg w15 hbox hb; replace HO_3 := AM (Kd.R_below (ro_ HO_3.out) hb); have BK170 := AM hbox; have GW170 := AM ((by rw [hg]; exact (below_size bel_) : w.heap.size ≤ gb170)); have GE170 := AM ((by rw [hg]; exact (below_size bel_) : w.heap.size ≤ gb170)); replace HB := AM (below_step bel_ hb); clear hb hbox hg) | ((with_reducible refine gate_dst (N := 6) rfl ?_); refine be_ 6 #[.string (⟨#[]⟩ : ByteArray), .int .i64 0, .int .i64 0, .int .i64 0] 61 ?_; intro gb171 hg w16 hbox hb; replace HO_3 := AM (Kd.R_below (Kd.R_elderB (ro_ HO_3.out) gb171 (Nat.le_of_eq hg.symm)) hb); have BK171 := AM hbox; have GW171 := AM ((by rw [hg]; exact (below_size bel_) : w.heap.size ≤ gb171)); have GE171 := AM ((by rw [hg]; exact (below_size bel_) : w.heap.size ≤ gb171)); replace HB := AM (below_step bel_ hb); have NB170_171 := AM ((by rw [hg]; exact Nat.ne_of_lt (blk_lt (g := gb170) (o := .cells #[.int .i64 0, .string (⟨#[]⟩ : ByteArray)] 64 (0, 0)) (bk_ BK170.out)) : gb170 ≠ gb171)); have NB171_170 := AM ((by rw [hg]; exact Nat.ne_of_gt (blk_lt (g := gb170) (o := .cells #[.int .i64 0, .string (⟨#[]⟩ : ByteArray)] 64 (0, 0)) (bk_ BK170.out)) : gb171 ≠ gb170)); replace BK170 := AM (blk_below (g := gb170) (o := .cells #[.int .i64 0, .string (⟨#[]⟩ : ByteArray)] 64 (0, 0)) (bk_ BK170.out) hb); clear hb hbox hg; have hnb17 := NB170_171.out; have hnc17 := NB171_170.out; have hcz18_0 : w16.cell? ⟨gb170, 0, none⟩ = some (.int .i64 0) := (blk_cell BK170.out 0).trans rfl; have hcz18_1 : w16.cell? ⟨gb170, 1, none⟩ = some (.string (⟨#[]⟩ : ByteArray)) := (blk_cell BK170.out 1).trans rfl; have hfz18_0 := blk_frozen BK170.out 0; have hfz18_1 := blk_frozen BK170.out 1; have hcz19_0 : w16.cell? ⟨gb171, 0, none⟩ = some (.string (⟨#[]⟩ : ByteArray)) := (blk_cell BK171.out 0).trans rfl; have hcz19_1 : w16.cell? ⟨gb171, 1, none⟩ = some (.int .i64 0) := (blk_cell BK171.out 1).trans rfl; have hcz19_2 : w16.cell? ⟨gb171, 2, none⟩ = some (.int .i64 0) := (blk_cell BK171.out 2).trans rfl; have hcz19_3 : w16.cell? ⟨gb171, 3, none⟩ = some (.int .i64 0) := (blk_cell BK171.out 3).trans rfl; have hfz19_0 := blk_frozen BK171.out 0; have hfz19_1 := blk_frozen BK171.out 1; have hfz19_2 := blk_frozen BK171.out 2; have hfz19_3 := blk_frozen BK171.out 3))
          go_roundg k1
          case measure => have := HK1.out; omega
          case rel => exact ⟨(x3_1), (wrap64 (x4_1 + 1)), (by first | rfl | (simp; done) | (simp [*]; done)), H', ⟨by have := HK1.out; omega⟩, ⟨by (with_reducible repeat (first | apply Kd.R_alloc | apply Kd.R_drewN | apply Kd.R_drew)); exact Kd.R_mono (Kd.R_far (p := ⟨gb171, 3, none⟩) (Kd.R_far (p := ⟨gb171, 2, none⟩) (Kd.R_far (p := ⟨gb171, 1, none⟩) (Kd.R_far (p := ⟨gb171, 0, none⟩) (Kd.R_far (p := ⟨gb170, 1, none⟩) (Kd.R_far (p := ⟨gb170, 0, none⟩) (Kd.R_mono (Kd.R_types HO_3.out BK170.out (by decide)) (fun k_ hk => (⟨hk, hk.1.2⟩ : _ ∧ k_ ≠ gb171))) (fun _ hk => hk.1.2) (.int .i64 t162)) (fun _ hk => hk.1.2) (.string t163)) (fun _ hk => hk.2) (.string t164)) (fun _ hk => hk.2) (.int .i64 t165)) (fun _ hk => hk.2) (.int .i64 t166)) (fun _ hk => hk.2) (.int .i64 t167)) (fun _ hk => trivial)⟩, ⟨bel_⟩⟩
      · rw [if_neg c3] at H
        have c3b0 : decide (x4_1 < t161) = false := decide_eq_false c3
        clear c3
        obtain rfl := Option.some.inj H
        go_wp2_with (first | ((with_reducible refine gate_callee (f := 70) rfl ?_); refine gl_ (some 11) Tryd.func70 #[.string a0] ?_; (with_reducible refine (impl_long.calls a0 t161 _ A2.out).mono ?_); rintro e w' ⟨rfl, ⟨nd, rfl⟩⟩; refine ⟨_, rfl, ?_⟩))
        go_ret
        exact ⟨_, ri_, ro_ HO_3.out, bel_⟩

/-! ### impl_PackScan: function 36 -/
def impl_PackScan.f (k : Nat) (a0 : ByteArray) : Option ((List (S61))) := (impl_isLong.f a0).bind fun t175 => (if t175 = true then (some ([] : List (S61))) else ((impl_scan.f k a0).bind fun t176 => (some t176)))
theorem impl_PackScan.mono : ∀ a0 k, LeO (impl_PackScan.f k a0) (impl_PackScan.f (k + 1) a0) := by
  intro a0 k
  unfold impl_PackScan.f
  repeat' first
      | (with_reducible exact impl_scan.mono _ _)
      | (with_reducible exact LeO.refl _)
      | (with_reducible exact LeO.none _)
      | (with_reducible refine LeO.ite ?_ ?_)
      | (with_reducible refine LeO.bind ?_ (fun _ => ?_))
      | exact impl_scan.mono _ _
      | exact LeO.none _
      | refine LeO.ite ?_ ?_
      | refine LeO.bind ?_ (fun _ => ?_)
set_option maxHeartbeats 8000000 in
set_option maxRecDepth 100000 in
theorem impl_PackScan.calls (k : Nat) (a0 : ByteArray) (r : List (S61)) (w : World) (h : impl_PackScan.f k a0 = some r) (hL : Hand.LaidG w := by first | exact hL | exact Hand.LaidG.below hL bel_) :
    Calls Tryd.prog 36 #[.string a0] w fun e w' => ∃ v0_ : Value, e = .returned (v0_) ∧ Kd.R k61 61 w' w.heap.size (fun _ => True) v0_ r ∧ Below w.heap.size w w' := by
  have HB := AM (Below.refl w.heap.size w)
  have H : ((impl_isLong.f a0).bind fun t175 => (if t175 = true then (some ([] : List (S61))) else ((impl_scan.f k a0).bind fun t176 => (some t176)))) = some r := h
  clear h
  obtain ⟨t175, A2, H⟩ := OB H
  try dsimp only at H
  replace A2 := AM A2
  by_cases c3 : t175 = true
  · subst c3
    rw [if_pos rfl] at H
    obtain rfl := Option.some.inj H
    go_enter Tryd.func36, Tryd.ntmps36
    go_wp2_with (first | ((with_reducible refine gate_callee (f := 48) rfl ?_); refine gl_ (some 4) Tryd.func48 #[.string a0] ?_; (with_reducible refine (impl_isLong.calls a0 true _ A2.out).mono ?_); rintro e w' ⟨rfl, ⟨nd, rfl⟩⟩; refine ⟨_, rfl, ?_⟩))
    go_ret
    exact ⟨_, ri_, by first | exact Kd.R_nil _ _ _ _ _ | exact Kd.N_nil _ _ _ _ _ | exact Kd.V_nil _ _ _ _ _ | exact Kd.Q_nil _ _ _ _ _ | exact Kd.S_nil _ _ _ _ _, bel_⟩
  · replace c3 := Bool.eq_false_iff.mpr c3
    subst c3
    rw [if_neg (show ¬ (false = true) by decide)] at H
    obtain ⟨t176, A4, H⟩ := OB H
    try dsimp only at H
    replace A4 := AM A4
    obtain rfl := Option.some.inj H
    go_enter Tryd.func36, Tryd.ntmps36
    go_wp2_with (first | ((with_reducible refine gate_callee (f := 48) rfl ?_); refine gl_ (some 4) Tryd.func48 #[.string a0] ?_; (with_reducible refine (impl_isLong.calls a0 false _ A2.out).mono ?_); rintro e w' ⟨rfl, ⟨nd, rfl⟩⟩; refine ⟨_, rfl, ?_⟩) | ((with_reducible refine gate_callee (f := 84) rfl ?_); refine gl_ (some 6) Tryd.func84 #[.string a0] ?_; (with_reducible refine (impl_scan.calls k a0 t176 _ A4.out).mono ?_); rintro e w5 ⟨v177, rfl, ho0, hb⟩; refine ⟨_, rfl, ?_⟩; have HO178 := AM (Kd.R_lower ho0 (below_size bel_)); replace HB := AM (below_step bel_ hb); (try clear hb); (try clear hb2); (try clear hk); (try clear hi); (try clear ho0)))
    go_ret
    exact ⟨_, ri_, ro_ HO178.out, bel_⟩

end Go.Proofs.YtddapeieolfolaaDoor.PFnScan
