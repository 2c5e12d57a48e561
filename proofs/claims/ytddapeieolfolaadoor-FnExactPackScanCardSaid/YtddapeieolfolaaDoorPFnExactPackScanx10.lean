-- A program of this session wrote this text: a changed copy of the kit print, with given functions.
import Derived.Test.YtddapeieolfolaaDoorPFnExactPackScanx0
import Derived.Test.YtddapeieolfolaaDoorPFnExactPackScanx5
import Derived.Test.YtddapeieolfolaaDoorPFnExactPackScanx7
import Derived.Test.YtddapeieolfolaaDoorPFnExactPackScanx9
namespace Go.Proofs.YtddapeieolfolaaDoor.PFnExactPackScan
open Go.RowKit Go.Proofs.YtddapeieolfolaaDoorW.PrintWords Go.Proofs.YtddapeieolfolaaDoorW.PrintLast Go.Proofs.YtddapeieolfolaaDoorW.PrintMore Go.Proofs.YtddapeieolfolaaDoor.Aut
attribute [local go_sem] max2_int min2_int max_two min_two max_three min_three max_four min_four   -- for this text's walks alone
set_option linter.unusedVariables false
set_option linter.unusedSimpArgs false

/-! ### impl_readRecord: function 118 -/
def impl_readRecord.j0 : Nat → ByteArray → Bool → ByteArray → Int → Bool → Int → ByteArray → Option (Int × ByteArray × ByteArray × Int × Int × Int × Int × Bool)
  | 0, _, _, _, _, _, _, _ => none
  | k + 1, x10, x43, x245000, x245001, x245002, x262000, x262001 => if x43 = true then (some (0, (⟨#[]⟩ : ByteArray), (⟨#[]⟩ : ByteArray), 0, 0, 0, 0, false)) else ((impl_long.f x262001).bind fun t264 => ((impl_long.f x262001).bind fun t265 => (some (x262000, x262001, x10, x262000, wrap64 (x245001 - t264), t265, x245001, true))))
def impl_readRecord.f (k : Nat) (a0 : ByteArray) (a1 : Int) : Option (Int × ByteArray × ByteArray × Int × Int × Int × Int × Bool) := (impl_reader_take.f a0 a1 false 1).bind fun bt245 => ((impl_reader_take.f bt245.2.1 bt245.2.2.1 bt245.2.2.2 32).bind fun bt249 => ((impl_reader_num.f k bt249.2.1 bt249.2.2.1 bt249.2.2.2).bind fun bt253 => ((impl_reader_string.f k bt253.2.1 bt253.2.2.1 bt253.2.2.2).bind fun bt257 => (if bt257.2.2.2 = true then (impl_readRecord.j0 k bt249.1 true bt257.2.1 bt257.2.2.1 bt257.2.2.2 bt253.1 bt257.1) else (if bt245.1.toList = ([66] : List UInt8) then ((impl_BlobRight.f bt253.1 bt257.1).bind fun t262 => (if t262 = true then ((impl_Blob_key.f k bt253.1 bt257.1).bind fun t263 => (impl_readRecord.j0 k bt249.1 (t263.toList != bt249.1.toList) bt257.2.1 bt257.2.2.1 bt257.2.2.2 bt253.1 bt257.1)) else (impl_readRecord.j0 k bt249.1 true bt257.2.1 bt257.2.2.1 bt257.2.2.2 bt253.1 bt257.1))) else (impl_readRecord.j0 k bt249.1 true bt257.2.1 bt257.2.2.1 bt257.2.2.2 bt253.1 bt257.1))))))
theorem impl_readRecord.mono_l : ∀ k, (∀ y0 y1 y2 y3 y4 y5 y6, LeO (impl_readRecord.j0 k y0 y1 y2 y3 y4 y5 y6) (impl_readRecord.j0 (k + 1) y0 y1 y2 y3 y4 y5 y6))
  | 0 => fun _ _ _ _ _ _ _ r h => by simp [impl_readRecord.j0] at h
  | k + 1 => by
    have ih0 := impl_readRecord.mono_l k
    · intro y0 y1 y2 y3 y4 y5 y6
      unfold impl_readRecord.j0
      repeat' first
      | (with_reducible exact ih0 _ _ _ _ _ _ _)
      | (with_reducible exact impl_Blob_key.mono _ _ _)
      | (with_reducible exact impl_reader_num.mono _ _ _ _)
      | (with_reducible exact impl_reader_string.mono _ _ _ _)
      | (with_reducible exact LeO.refl _)
      | (with_reducible exact LeO.none _)
      | (with_reducible refine LeO.ite ?_ ?_)
      | (with_reducible refine LeO.bind ?_ (fun _ => ?_))
      | exact ih0 _ _ _ _ _ _ _
      | exact impl_Blob_key.mono _ _ _
      | exact impl_reader_num.mono _ _ _ _
      | exact impl_reader_string.mono _ _ _ _
      | exact LeO.none _
      | refine LeO.ite ?_ ?_
      | refine LeO.bind ?_ (fun _ => ?_)
theorem impl_readRecord.mono : ∀ a0 a1 k, LeO (impl_readRecord.f k a0 a1) (impl_readRecord.f (k + 1) a0 a1) := by
  intro a0 a1 k
  have ih0 := impl_readRecord.mono_l k
  unfold impl_readRecord.f
  repeat' first
      | (with_reducible exact ih0 _ _ _ _ _ _ _)
      | (with_reducible exact impl_Blob_key.mono _ _ _)
      | (with_reducible exact impl_reader_num.mono _ _ _ _)
      | (with_reducible exact impl_reader_string.mono _ _ _ _)
      | (with_reducible exact LeO.refl _)
      | (with_reducible exact LeO.none _)
      | (with_reducible refine LeO.ite ?_ ?_)
      | (with_reducible refine LeO.bind ?_ (fun _ => ?_))
      | exact ih0 _ _ _ _ _ _ _
      | exact impl_Blob_key.mono _ _ _
      | exact impl_reader_num.mono _ _ _ _
      | exact impl_reader_string.mono _ _ _ _
      | exact LeO.none _
      | refine LeO.ite ?_ ?_
      | refine LeO.bind ?_ (fun _ => ?_)
def impl_readRecord.T6 : Bool × List (List Nat × List Nat) := (true, [([], []), ([], []), ([], []), ([2], [2]), ([], []), ([4], [4]), ([5], [5]), ([6], [6]), ([], []), ([8], [8]), ([9], [9]), ([7, 10], [7, 10]), ([], []), ([12], [12]), ([13, 10], [13]), ([1, 3, 11, 14], [1, 3, 11, 14]), ([], []), ([16], [16]), ([17], [17]), ([18], [18]), ([0, 14, 0], [0]), ([15, 20, 0, 1, 2, 3, 4, 5, 6, 7, 8, 9, 10, 11, 12, 13, 14, 15, 20], [15]), ([19, 21, 0, 1, 2, 3, 4, 5, 6, 7, 8, 9, 10, 11, 12, 13, 14, 15, 16, 17, 18, 19, 20, 21], [19]), ([22, 0, 1, 2, 3, 4, 5, 6, 7, 8, 9, 10, 11, 12, 13, 14, 15, 16, 17, 18, 19, 20, 21, 22], [])])
def impl_readRecord.B6 : List Nat := [0, 0, 0, 4, 0, 16, 48, 112, 0, 256, 768, 2032, 0, 4096, 14080, 32766, 0, 65536, 196608, 458752, 30465, 1114111, 4194303, 8388607]
theorem impl_readRecord.tab6 : rtab .any (opsOf Tryd.f118 6) = impl_readRecord.T6 := by kernel_rfl
theorem impl_readRecord.bits6 : waitsOk impl_readRecord.T6.2 impl_readRecord.B6 = true := by kernel_rfl
set_option maxHeartbeats 8000000 in
set_option maxRecDepth 100000 in
theorem impl_readRecord.calls (k : Nat) (a0 : ByteArray) (a1 : Int) (r1 : Int) (r2 : ByteArray) (r3 : ByteArray) (r4 : Int) (r5 : Int) (r6 : Int) (r7 : Int) (r8 : Bool) (w : World) (h : impl_readRecord.f k a0 a1 = some (r1, r2, r3, r4, r5, r6, r7, r8)) (hL : Hand.LaidG w := by first | exact hL | exact Hand.LaidG.below hL bel_) :
    Calls Tryd.prog 118 #[.string a0, .int .i64 a1] w fun e w' => e = .returned (.tuple #[.agg #[.int .i64 r1, .string r2], .agg #[.string r3, .int .i64 r4, .int .i64 r5, .int .i64 r6], .int .i64 r7, .bool r8]) ∧ Below w.heap.size w w' := by
  have hu64 := Tryd.underlying64
  have hu61 := Tryd.underlying61
  have hu134 := Tryd.underlying134
  have HB := AM (Below.refl w.heap.size w)
  have H : ((impl_reader_take.f a0 a1 false 1).bind fun bt245 => ((impl_reader_take.f bt245.2.1 bt245.2.2.1 bt245.2.2.2 32).bind fun bt249 => ((impl_reader_num.f k bt249.2.1 bt249.2.2.1 bt249.2.2.2).bind fun bt253 => ((impl_reader_string.f k bt253.2.1 bt253.2.2.1 bt253.2.2.2).bind fun bt257 => (if bt257.2.2.2 = true then (impl_readRecord.j0 k bt249.1 true bt257.2.1 bt257.2.2.1 bt257.2.2.2 bt253.1 bt257.1) else (if bt245.1.toList = ([66] : List UInt8) then ((impl_BlobRight.f bt253.1 bt257.1).bind fun t262 => (if t262 = true then ((impl_Blob_key.f k bt253.1 bt257.1).bind fun t263 => (impl_readRecord.j0 k bt249.1 (t263.toList != bt249.1.toList) bt257.2.1 bt257.2.2.1 bt257.2.2.2 bt253.1 bt257.1)) else (impl_readRecord.j0 k bt249.1 true bt257.2.1 bt257.2.2.1 bt257.2.2.2 bt253.1 bt257.1))) else (impl_readRecord.j0 k bt249.1 true bt257.2.1 bt257.2.2.1 bt257.2.2.2 bt253.1 bt257.1))))))) = some (r1, r2, r3, r4, r5, r6, r7, r8) := h
  clear h
  obtain ⟨⟨t245, t246, t247, t248⟩, A3, H⟩ := OB H
  try dsimp only at H
  replace A3 := AM A3
  obtain ⟨⟨t249, t250, t251, t252⟩, A4, H⟩ := OB H
  try dsimp only at H
  replace A4 := AM A4
  obtain ⟨⟨t253, t254, t255, t256⟩, A5, H⟩ := OB H
  try dsimp only at H
  replace A5 := AM A5
  obtain ⟨⟨t257, t258, t259, t260⟩, A6, H⟩ := OB H
  try dsimp only at H
  replace A6 := AM A6
  have HC7 := AM H
  clear H
  go_enter Tryd.func118, Tryd.ntmps118
  go_upto_region 4 with (first | ((with_reducible refine gate_dst (N := 4) rfl ?_); refine be_ 4 #[.int .i64 0, .string (⟨#[]⟩ : ByteArray)] 64 ?_; intro gb242 hg w8 hbox hb; have BK242 := AM hbox; have GW242 := AM ((by rw [hg]; exact (below_size bel_) : w.heap.size ≤ gb242)); have GE242 := AM ((by rw [hg]; exact (below_size bel_) : w.heap.size ≤ gb242)); replace HB := AM (below_step bel_ hb); clear hb hbox hg) | ((with_reducible refine gate_dst (N := 5) rfl ?_); refine be_ 5 #[.string (⟨#[]⟩ : ByteArray), .int .i64 0, .int .i64 0, .int .i64 0] 61 ?_; intro gb243 hg w9 hbox hb; have BK243 := AM hbox; have GW243 := AM ((by rw [hg]; exact (below_size bel_) : w.heap.size ≤ gb243)); have GE243 := AM ((by rw [hg]; exact (below_size bel_) : w.heap.size ≤ gb243)); replace HB := AM (below_step bel_ hb); have NB242_243 := AM ((by rw [hg]; exact Nat.ne_of_lt (blk_lt (g := gb242) (o := .cells #[.int .i64 0, .string (⟨#[]⟩ : ByteArray)] 64 (0, 0)) (bk_ BK242.out)) : gb242 ≠ gb243)); have NB243_242 := AM ((by rw [hg]; exact Nat.ne_of_gt (blk_lt (g := gb242) (o := .cells #[.int .i64 0, .string (⟨#[]⟩ : ByteArray)] 64 (0, 0)) (bk_ BK242.out)) : gb243 ≠ gb242)); replace BK242 := AM (blk_below (g := gb242) (o := .cells #[.int .i64 0, .string (⟨#[]⟩ : ByteArray)] 64 (0, 0)) (bk_ BK242.out) hb); clear hb hbox hg) | ((with_reducible refine gate_dst (N := 15) rfl ?_); refine be_ 15 #[.string a0, .int .i64 a1, .bool false] 134 ?_; intro gb244 hg w10 hbox hb; have NB242_244 := AM ((by rw [hg]; exact Nat.ne_of_lt (blk_lt (g := gb242) (o := .cells #[.int .i64 0, .string (⟨#[]⟩ : ByteArray)] 64 (0, 0)) (bk_ BK242.out)) : gb242 ≠ gb244)); have NB244_242 := AM ((by rw [hg]; exact Nat.ne_of_gt (blk_lt (g := gb242) (o := .cells #[.int .i64 0, .string (⟨#[]⟩ : ByteArray)] 64 (0, 0)) (bk_ BK242.out)) : gb244 ≠ gb242)); replace BK242 := AM (blk_below (g := gb242) (o := .cells #[.int .i64 0, .string (⟨#[]⟩ : ByteArray)] 64 (0, 0)) (bk_ BK242.out) hb); have NB243_244 := AM ((by rw [hg]; exact Nat.ne_of_lt (blk_lt (g := gb243) (o := .cells #[.string (⟨#[]⟩ : ByteArray), .int .i64 0, .int .i64 0, .int .i64 0] 61 (0, 0)) (bk_ BK243.out)) : gb243 ≠ gb244)); have NB244_243 := AM ((by rw [hg]; exact Nat.ne_of_gt (blk_lt (g := gb243) (o := .cells #[.string (⟨#[]⟩ : ByteArray), .int .i64 0, .int .i64 0, .int .i64 0] 61 (0, 0)) (bk_ BK243.out)) : gb244 ≠ gb243)); replace BK243 := AM (blk_below (g := gb243) (o := .cells #[.string (⟨#[]⟩ : ByteArray), .int .i64 0, .int .i64 0, .int .i64 0] 61 (0, 0)) (bk_ BK243.out) hb); have HI244 := AM ((⟨hbox, (by rw [hg]; exact (below_size bel_) : w.heap.size ≤ gb244)⟩ : IsS134 w w10 gb244 a0 a1 false)); replace HB := AM (below_step bel_ hb); clear hb hbox hg) | ((with_reducible refine gate_callee (f := 115) rfl ?_); refine gl_ (some 17) Tryd.func115 #[.pointer (some ⟨gb244, 0, none⟩), .int .i64 1] ?_; (with_reducible refine (impl_reader_take.calls gb244 a0 a1 false 1 t245 t246 t247 t248 w _ ?side1 ?side2 A3.out).mono ?_); (case side1 => repeat (first | (with_reducible first | exact HI244.out | apply IsS134.alloc | apply IsS134.drewN | apply IsS134.drew | apply IsS134.set_0 | apply IsS134.set_1 | apply IsS134.set_2 | refine IsS134.far ?_ NB244_242.out _ | refine IsS134.far ?_ NB244_243.out _) | exact HI244.out)); (case side2 => repeat (first | (with_reducible first | exact HB.out | apply below_alloc | apply pw_below_drewN | apply below_drew1 | refine below_set ?_ (IsS134.ge HI244.out) | refine below_set ?_ GE242.out | refine below_set ?_ GE243.out) | exact HB.out)); rintro e w11 ⟨rfl, hi, hb, hk⟩; refine ⟨_, rfl, ?_⟩; replace BK242 := AM (KeepBut.blk hk (g' := gb242) (o := .cells #[.int .i64 0, .string (⟨#[]⟩ : ByteArray)] 64 (0, 0)) (bk_ BK242.out) NB242_244.out (by simp)); replace BK243 := AM (KeepBut.blk hk (g' := gb243) (o := .cells #[.string (⟨#[]⟩ : ByteArray), .int .i64 0, .int .i64 0, .int .i64 0] 61 (0, 0)) (bk_ BK243.out) NB243_244.out (by simp)); replace HB := AM hb; replace HI244 := AM hi; (try clear hb); (try clear hb2); (try clear hk); (try clear hi)) | ((with_reducible refine gate_callee (f := 115) rfl ?_); refine gl_ (some 19) Tryd.func115 #[.pointer (some ⟨gb244, 0, none⟩), .int .i64 32] ?_; (with_reducible refine (impl_reader_take.calls gb244 t246 t247 t248 32 t249 t250 t251 t252 w _ ?side1 ?side2 A4.out).mono ?_); (case side1 => repeat (first | (with_reducible first | exact HI244.out | apply IsS134.alloc | apply IsS134.drewN | apply IsS134.drew | apply IsS134.set_0 | apply IsS134.set_1 | apply IsS134.set_2 | refine IsS134.far ?_ NB244_242.out _ | refine IsS134.far ?_ NB244_243.out _) | exact HI244.out)); (case side2 => repeat (first | (with_reducible first | exact HB.out | apply below_alloc | apply pw_below_drewN | apply below_drew1 | refine below_set ?_ (IsS134.ge HI244.out) | refine below_set ?_ GE242.out | refine below_set ?_ GE243.out) | exact HB.out)); rintro e w12 ⟨rfl, hi, hb, hk⟩; refine ⟨_, rfl, ?_⟩; replace BK242 := AM (KeepBut.blk hk (g' := gb242) (o := .cells #[.int .i64 0, .string (⟨#[]⟩ : ByteArray)] 64 (0, 0)) (bk_ BK242.out) NB242_244.out (by simp)); replace BK243 := AM (KeepBut.blk hk (g' := gb243) (o := .cells #[.string (⟨#[]⟩ : ByteArray), .int .i64 0, .int .i64 0, .int .i64 0] 61 (0, 0)) (bk_ BK243.out) NB243_244.out (by simp)); replace HB := AM hb; replace HI244 := AM hi; (try clear hb); (try clear hb2); (try clear hk); (try clear hi)) | ((with_reducible refine gate_callee (f := 116) rfl ?_); refine gl_ (some 21) Tryd.func116 #[.pointer (some ⟨gb244, 0, none⟩)] ?_; (with_reducible refine (impl_reader_num.calls k gb244 t250 t251 t252 t253 t254 t255 t256 w _ ?side1 ?side2 A5.out).mono ?_); (case side1 => repeat (first | (with_reducible first | exact HI244.out | apply IsS134.alloc | apply IsS134.drewN | apply IsS134.drew | apply IsS134.set_0 | apply IsS134.set_1 | apply IsS134.set_2 | refine IsS134.far ?_ NB244_242.out _ | refine IsS134.far ?_ NB244_243.out _) | exact HI244.out)); (case side2 => repeat (first | (with_reducible first | exact HB.out | apply below_alloc | apply pw_below_drewN | apply below_drew1 | refine below_set ?_ (IsS134.ge HI244.out) | refine below_set ?_ GE242.out | refine below_set ?_ GE243.out) | exact HB.out)); rintro e w13 ⟨rfl, hi, hb, hk⟩; refine ⟨_, rfl, ?_⟩; replace BK242 := AM (KeepBut.blk hk (g' := gb242) (o := .cells #[.int .i64 0, .string (⟨#[]⟩ : ByteArray)] 64 (0, 0)) (bk_ BK242.out) NB242_244.out (by simp)); replace BK243 := AM (KeepBut.blk hk (g' := gb243) (o := .cells #[.string (⟨#[]⟩ : ByteArray), .int .i64 0, .int .i64 0, .int .i64 0] 61 (0, 0)) (bk_ BK243.out) NB243_244.out (by simp)); replace HB := AM hb; replace HI244 := AM hi; (try clear hb); (try clear hb2); (try clear hk); (try clear hi)) | ((with_reducible refine gate_callee (f := 142) rfl ?_); refine gl_ (some 23) Tryd.func142 #[.pointer (some ⟨gb244, 0, none⟩)] ?_; (with_reducible refine (impl_reader_string.calls k gb244 t254 t255 t256 t257 t258 t259 t260 w _ ?side1 ?side2 A6.out).mono ?_); (case side1 => repeat (first | (with_reducible first | exact HI244.out | apply IsS134.alloc | apply IsS134.drewN | apply IsS134.drew | apply IsS134.set_0 | apply IsS134.set_1 | apply IsS134.set_2 | refine IsS134.far ?_ NB244_242.out _ | refine IsS134.far ?_ NB244_243.out _) | exact HI244.out)); (case side2 => repeat (first | (with_reducible first | exact HB.out | apply below_alloc | apply pw_below_drewN | apply below_drew1 | refine below_set ?_ (IsS134.ge HI244.out) | refine below_set ?_ GE242.out | refine below_set ?_ GE243.out) | exact HB.out)); rintro e w14 ⟨rfl, hi, hb, hk⟩; refine ⟨_, rfl, ?_⟩; replace BK242 := AM (KeepBut.blk hk (g' := gb242) (o := .cells #[.int .i64 0, .string (⟨#[]⟩ : ByteArray)] 64 (0, 0)) (bk_ BK242.out) NB242_244.out (by simp)); replace BK243 := AM (KeepBut.blk hk (g' := gb243) (o := .cells #[.string (⟨#[]⟩ : ByteArray), .int .i64 0, .int .i64 0, .int .i64 0] 61 (0, 0)) (bk_ BK243.out) NB243_244.out (by simp)); replace HB := AM hb; replace HI244 := AM hi; (try clear hb); (try clear hb2); (try clear hk); (try clear hi)) | ((with_reducible refine gate_dst (N := 11) rfl ?_); refine be_ 11 #[.int .i64 0, .string (⟨#[]⟩ : ByteArray)] 64 ?_; intro gb261 hg w15 hbox hb; have BK261 := AM hbox; have GW261 := AM ((by rw [hg]; exact (below_size (belg_ (IsS134.ge HI244.out))) : w.heap.size ≤ gb261)); have GE261 := AM ((by rw [hg]; exact (below_size (belg_ (IsS134.ge HI244.out))) : w.heap.size ≤ gb261)); replace HB := AM (below_step (belg_ (IsS134.ge HI244.out)) hb); have NB242_261 := AM ((by rw [hg]; exact Nat.ne_of_lt (blk_lt (g := gb242) (o := .cells #[.int .i64 0, .string (⟨#[]⟩ : ByteArray)] 64 (0, 0)) (bk_ BK242.out)) : gb242 ≠ gb261)); have NB261_242 := AM ((by rw [hg]; exact Nat.ne_of_gt (blk_lt (g := gb242) (o := .cells #[.int .i64 0, .string (⟨#[]⟩ : ByteArray)] 64 (0, 0)) (bk_ BK242.out)) : gb261 ≠ gb242)); replace BK242 := AM (blk_below (g := gb242) (o := .cells #[.int .i64 0, .string (⟨#[]⟩ : ByteArray)] 64 (0, 0)) (bk_ BK242.out) hb); have NB243_261 := AM ((by rw [hg]; exact Nat.ne_of_lt (blk_lt (g := gb243) (o := .cells #[.string (⟨#[]⟩ : ByteArray), .int .i64 0, .int .i64 0, .int .i64 0] 61 (0, 0)) (bk_ BK243.out)) : gb243 ≠ gb261)); have NB261_243 := AM ((by rw [hg]; exact Nat.ne_of_gt (blk_lt (g := gb243) (o := .cells #[.string (⟨#[]⟩ : ByteArray), .int .i64 0, .int .i64 0, .int .i64 0] 61 (0, 0)) (bk_ BK243.out)) : gb261 ≠ gb243)); replace BK243 := AM (blk_below (g := gb243) (o := .cells #[.string (⟨#[]⟩ : ByteArray), .int .i64 0, .int .i64 0, .int .i64 0] 61 (0, 0)) (bk_ BK243.out) hb); have NB244_261 := AM ((by rw [hg]; exact Nat.ne_of_lt (IsS134.lt (show IsS134 w _ gb244 t258 t259 t260 from is134_)) : gb244 ≠ gb261)); have NB261_244 := AM ((by rw [hg]; exact Nat.ne_of_gt (IsS134.lt (show IsS134 w _ gb244 t258 t259 t260 from is134_)) : gb261 ≠ gb244)); replace HI244 := AM (IsS134.below is134_ hb); clear hb hbox hg; have hnb16 := NB261_242.out; have hnc16 := NB242_261.out; have hnb17 := NB261_243.out; have hnc17 := NB243_261.out; have hnb18 := NB261_244.out; have hnc18 := NB244_261.out; have hcz19_0 : w15.cell? ⟨gb261, 0, none⟩ = some (.int .i64 0) := (blk_cell BK261.out 0).trans rfl; have hcz19_1 : w15.cell? ⟨gb261, 1, none⟩ = some (.string (⟨#[]⟩ : ByteArray)) := (blk_cell BK261.out 1).trans rfl; have hfz19_0 := blk_frozen BK261.out 0; have hfz19_1 := blk_frozen BK261.out 1))
  (try simp only [Act.put, List.setIfInBounds_toArray, List.set_cons_zero, List.set_cons_succ])
  go_cut [43] (fun v43 wc => ∃ (kq : Nat) (x43_6 : Bool), v43 = .bool x43_6 ∧ Aside0 (impl_readRecord.j0 kq t249 x43_6 t258 t259 t260 t253 t257 = some (r1, r2, r3, r4, r5, r6, r7, r8)) ∧ Aside0 (kq ≤ k) ∧ Aside0 (wc.heap[gb242]? = some (.cells #[.int .i64 0, .string (⟨#[]⟩ : ByteArray)] 64 (0, 0))) ∧ Aside0 (wc.heap[gb243]? = some (.cells #[.string (⟨#[]⟩ : ByteArray), .int .i64 0, .int .i64 0, .int .i64 0] 61 (0, 0))) ∧ Aside0 (wc.heap[gb261]? = some (.cells #[.int .i64 t253, .string t257] 64 (0, 0))) ∧ Aside0 (IsS134 w wc gb244 t258 t259 t260) ∧ Aside0 (Below w.heap.size w wc))
  case first =>
    have H := HC7.out
    clear HC7
    by_cases c20 : t260 = true
    · subst c20
      rw [if_pos rfl] at H
      have H' := AM H
      clear H
      obtain ⟨HGz21, hgz21⟩ := HI244.out
      have hcz21_0 := cellS134_0 HGz21
      have hcz21_1 := cellS134_1 HGz21
      have hcz21_2 := cellS134_2 HGz21
      have hfz21_0 := blk_frozen HGz21 0
      have hfz21_1 := blk_frozen HGz21 1
      have hfz21_2 := blk_frozen HGz21 2
      clear HGz21 hgz21
      go_wp2
      go_meet
      case rel => exact ⟨_, (true), (by first | rfl | (simp; done) | (simp [*]; done)), H', ⟨by first | omega | exact Nat.le_refl _⟩, ⟨bka_⟩, ⟨bka_⟩, ⟨bka_⟩, ⟨is134_⟩, ⟨belg_ (IsS134.ge HI244.out)⟩⟩
    · replace c20 := Bool.eq_false_iff.mpr c20
      subst c20
      rw [if_neg (show ¬ (false = true) by decide)] at H
      by_cases c22 : t245.toList = ([66] : List UInt8)
      · rw [if_pos c22] at H
        have c22b0 : (t245.toList == ([66] : List UInt8)) = true := beq_iff_eq.mpr c22
        have c22b1 : (t245.toList != ([66] : List UInt8)) = false := bne_eq_false_iff_eq.mpr c22
        clear c22
        (first | rw [c22b0] | (simp only [i64_w, i32_w]; rw [c22b0]) | skip)
        obtain ⟨t262, A23, H⟩ := OB H
        try dsimp only at H
        replace A23 := AM A23
        by_cases c24 : t262 = true
        · subst c24
          rw [if_pos rfl] at H
          obtain ⟨t263, A25, H⟩ := OB H
          try dsimp only at H
          replace A25 := AM A25
          have H' := AM H
          clear H
          obtain ⟨HGz26, hgz26⟩ := HI244.out
          have hcz26_0 := cellS134_0 HGz26
          have hcz26_1 := cellS134_1 HGz26
          have hcz26_2 := cellS134_2 HGz26
          have hfz26_0 := blk_frozen HGz26 0
          have hfz26_1 := blk_frozen HGz26 1
          have hfz26_2 := blk_frozen HGz26 2
          clear HGz26 hgz26
          have hnb27 := NB261_242.out
          have hnc27 := NB242_261.out
          have hnb28 := NB261_243.out
          have hnc28 := NB243_261.out
          have hnb29 := NB261_244.out
          have hnc29 := NB244_261.out
          have hcz30_0 : w15.cell? ⟨gb261, 0, none⟩ = some (.int .i64 0) := (blk_cell BK261.out 0).trans rfl
          have hcz30_1 : w15.cell? ⟨gb261, 1, none⟩ = some (.string (⟨#[]⟩ : ByteArray)) := (blk_cell BK261.out 1).trans rfl
          have hfz30_0 := blk_frozen BK261.out 0
          have hfz30_1 := blk_frozen BK261.out 1
          go_wp2_with (first | (go_at_call 89; (with_reducible refine (impl_BlobRight.calls t253 t257 true _ A23.out).mono ?_); rintro e w31 ⟨rfl, hb⟩; have n0_ := AM (blk_below (g := gb242) (o := .cells #[.int .i64 0, .string (⟨#[]⟩ : ByteArray)] 64 (0, 0)) bka_ hb); have n1_ := AM (blk_below (g := gb243) (o := .cells #[.string (⟨#[]⟩ : ByteArray), .int .i64 0, .int .i64 0, .int .i64 0] 61 (0, 0)) bka_ hb); have n2_ := AM (IsS134.below (show IsS134 w ((w15.setCell ⟨gb261, 0, none⟩ (.int .i64 t253)).setCell ⟨gb261, 1, none⟩ (.string t257)) gb244 t258 t259 false from is134_) hb); have n3_ := AM (blk_below (g := gb261) (o := .cells #[.int .i64 t253, .string t257] 64 (0, 0)) bka_ hb); have n4_ := AM (below_step (belg_ (IsS134.ge HI244.out)) hb); clear BK242; clear BK243; clear HI244; clear BK261; clear HB; have BK242 := n0_; have BK243 := n1_; have HI244 := n2_; have BK261 := n3_; have HB := n4_; clear n0_ n1_ n2_ n3_ n4_; (try clear hb); (try clear hb2); (try clear hk); (try clear hi); have hcz32_0 : w31.cell? ⟨gb261, 0, none⟩ = some (.int .i64 t253) := (blk_cell BK261.out 0).trans rfl; have hcz32_1 : w31.cell? ⟨gb261, 1, none⟩ = some (.string t257) := (blk_cell BK261.out 1).trans rfl; have hfz32_0 := blk_frozen BK261.out 0; have hfz32_1 := blk_frozen BK261.out 1) | (go_at_call 90; (with_reducible refine (impl_Blob_key.calls k t253 t257 t263 _ A25.out).mono ?_); rintro e w33 ⟨rfl, hb⟩; replace BK242 := AM (blk_below (g := gb242) (o := .cells #[.int .i64 0, .string (⟨#[]⟩ : ByteArray)] 64 (0, 0)) (bk_ BK242.out) hb); replace BK243 := AM (blk_below (g := gb243) (o := .cells #[.string (⟨#[]⟩ : ByteArray), .int .i64 0, .int .i64 0, .int .i64 0] 61 (0, 0)) (bk_ BK243.out) hb); replace BK261 := AM (blk_below (g := gb261) (o := .cells #[.int .i64 t253, .string t257] 64 (0, 0)) (bk_ BK261.out) hb); replace HB := AM (below_step (belg_ (IsS134.ge HI244.out)) hb); replace HI244 := AM (IsS134.below is134_ hb); (try clear hb); (try clear hb2); (try clear hk); (try clear hi)))
          go_meet
          case rel => exact ⟨_, ((t263.toList != t249.toList)), (by first | rfl | (simp; done) | (simp [*]; done)), H', ⟨by first | omega | exact Nat.le_refl _⟩, ⟨bk_ BK242.out⟩, ⟨bk_ BK243.out⟩, ⟨bk_ BK261.out⟩, ⟨is134_⟩, ⟨belg_ (IsS134.ge HI244.out)⟩⟩
        · replace c24 := Bool.eq_false_iff.mpr c24
          subst c24
          rw [if_neg (show ¬ (false = true) by decide)] at H
          have H' := AM H
          clear H
          obtain ⟨HGz34, hgz34⟩ := HI244.out
          have hcz34_0 := cellS134_0 HGz34
          have hcz34_1 := cellS134_1 HGz34
          have hcz34_2 := cellS134_2 HGz34
          have hfz34_0 := blk_frozen HGz34 0
          have hfz34_1 := blk_frozen HGz34 1
          have hfz34_2 := blk_frozen HGz34 2
          clear HGz34 hgz34
          have hnb35 := NB261_242.out
          have hnc35 := NB242_261.out
          have hnb36 := NB261_243.out
          have hnc36 := NB243_261.out
          have hnb37 := NB261_244.out
          have hnc37 := NB244_261.out
          have hcz38_0 : w15.cell? ⟨gb261, 0, none⟩ = some (.int .i64 0) := (blk_cell BK261.out 0).trans rfl
          have hcz38_1 : w15.cell? ⟨gb261, 1, none⟩ = some (.string (⟨#[]⟩ : ByteArray)) := (blk_cell BK261.out 1).trans rfl
          have hfz38_0 := blk_frozen BK261.out 0
          have hfz38_1 := blk_frozen BK261.out 1
          go_wp2_with (first | (go_at_call 89; (with_reducible refine (impl_BlobRight.calls t253 t257 false _ A23.out).mono ?_); rintro e w39 ⟨rfl, hb⟩; have n0_ := AM (blk_below (g := gb242) (o := .cells #[.int .i64 0, .string (⟨#[]⟩ : ByteArray)] 64 (0, 0)) bka_ hb); have n1_ := AM (blk_below (g := gb243) (o := .cells #[.string (⟨#[]⟩ : ByteArray), .int .i64 0, .int .i64 0, .int .i64 0] 61 (0, 0)) bka_ hb); have n2_ := AM (IsS134.below (show IsS134 w ((w15.setCell ⟨gb261, 0, none⟩ (.int .i64 t253)).setCell ⟨gb261, 1, none⟩ (.string t257)) gb244 t258 t259 false from is134_) hb); have n3_ := AM (blk_below (g := gb261) (o := .cells #[.int .i64 t253, .string t257] 64 (0, 0)) bka_ hb); have n4_ := AM (below_step (belg_ (IsS134.ge HI244.out)) hb); clear BK242; clear BK243; clear HI244; clear BK261; clear HB; have BK242 := n0_; have BK243 := n1_; have HI244 := n2_; have BK261 := n3_; have HB := n4_; clear n0_ n1_ n2_ n3_ n4_; (try clear hb); (try clear hb2); (try clear hk); (try clear hi)))
          go_meet
          case rel => exact ⟨_, (true), (by first | rfl | (simp; done) | (simp [*]; done)), H', ⟨by first | omega | exact Nat.le_refl _⟩, ⟨bk_ BK242.out⟩, ⟨bk_ BK243.out⟩, ⟨bk_ BK261.out⟩, ⟨is134_⟩, ⟨belg_ (IsS134.ge HI244.out)⟩⟩
      · rw [if_neg c22] at H
        have c22b0 : (t245.toList == ([66] : List UInt8)) = false := beq_eq_false_iff_ne.mpr c22
        have c22b1 : (t245.toList != ([66] : List UInt8)) = true := bne_iff_ne.mpr c22
        (first | rw [c22b0] | (simp only [i64_w, i32_w]; rw [c22b0]) | skip)
        have H' := AM H
        clear H
        obtain ⟨HGz40, hgz40⟩ := HI244.out
        have hcz40_0 := cellS134_0 HGz40
        have hcz40_1 := cellS134_1 HGz40
        have hcz40_2 := cellS134_2 HGz40
        have hfz40_0 := blk_frozen HGz40 0
        have hfz40_1 := blk_frozen HGz40 1
        have hfz40_2 := blk_frozen HGz40 2
        clear HGz40 hgz40
        go_wp2
        go_meet
        case rel => exact ⟨_, (true), (by first | rfl | (simp; done) | (simp [*]; done)), H', ⟨by first | omega | exact Nat.le_refl _⟩, ⟨bka_⟩, ⟨bka_⟩, ⟨bka_⟩, ⟨is134_⟩, ⟨belg_ (IsS134.ge HI244.out)⟩⟩
  case rest =>
    clear HC7
    try clear c1
    try clear c2
    try clear p2
    try clear c3
    try clear c11
    try clear c14
    try clear c16
    try clear c17
    try clear c18
    try clear c20
    try clear c22
    try clear c22b0
    try clear c22b1
    try clear c24
    try clear c27
    try clear c28
    try clear c29
    try clear c35
    try clear c36
    try clear c37
    try clear hcz19_0
    try clear hcz19_1
    try clear hcz21_0
    try clear hcz21_1
    try clear hcz21_2
    try clear hcz26_0
    try clear hcz26_1
    try clear hcz26_2
    try clear hcz30_0
    try clear hcz30_1
    try clear hcz32_0
    try clear hcz32_1
    try clear hcz34_0
    try clear hcz34_1
    try clear hcz34_2
    try clear hcz38_0
    try clear hcz38_1
    try clear hcz40_0
    try clear hcz40_1
    try clear hcz40_2
    try clear hfz19_0
    try clear hfz19_1
    try clear hfz21_0
    try clear hfz21_1
    try clear hfz21_2
    try clear hfz26_0
    try clear hfz26_1
    try clear hfz26_2
    try clear hfz30_0
    try clear hfz30_1
    try clear hfz32_0
    try clear hfz32_1
    try clear hfz34_0
    try clear hfz34_1
    try clear hfz34_2
    try clear hfz38_0
    try clear hfz38_1
    try clear hfz40_0
    try clear hfz40_1
    try clear hfz40_2
    obtain ⟨kq, x43_6, rfl, HA, HJ6, BK242, BK243, BK261, HI244, HB⟩ := hcut
    cases kq with
    | zero => exact absurd HA.out (by simp [impl_readRecord.j0])
    | succ kj6 =>
      have H := HA.out
      clear HA
      simp only [impl_readRecord.j0] at H
      by_cases c41 : x43_6 = true
      · subst c41
        rw [if_pos rfl] at H
        simp only [Option.some.injEq, Prod.mk.injEq] at H
        obtain ⟨rfl, rfl, rfl, rfl, rfl, rfl, rfl, rfl⟩ := H
        have hnb42 := NB242_243.out
        have hnc42 := NB243_242.out
        have hnb43 := NB242_261.out
        have hnc43 := NB261_242.out
        have hnb44 := NB242_244.out
        have hnc44 := NB244_242.out
        have hcz45_0 : wc.cell? ⟨gb242, 0, none⟩ = some (.int .i64 0) := (blk_cell BK242.out 0).trans rfl
        have hcz45_1 : wc.cell? ⟨gb242, 1, none⟩ = some (.string (⟨#[]⟩ : ByteArray)) := (blk_cell BK242.out 1).trans rfl
        have hfz45_0 := blk_frozen BK242.out 0
        have hfz45_1 := blk_frozen BK242.out 1
        have hnb46 := NB243_261.out
        have hnc46 := NB261_243.out
        have hnb47 := NB243_244.out
        have hnc47 := NB244_243.out
        have hcz48_0 : wc.cell? ⟨gb243, 0, none⟩ = some (.string (⟨#[]⟩ : ByteArray)) := (blk_cell BK243.out 0).trans rfl
        have hcz48_1 : wc.cell? ⟨gb243, 1, none⟩ = some (.int .i64 0) := (blk_cell BK243.out 1).trans rfl
        have hcz48_2 : wc.cell? ⟨gb243, 2, none⟩ = some (.int .i64 0) := (blk_cell BK243.out 2).trans rfl
        have hcz48_3 : wc.cell? ⟨gb243, 3, none⟩ = some (.int .i64 0) := (blk_cell BK243.out 3).trans rfl
        have hfz48_0 := blk_frozen BK243.out 0
        have hfz48_1 := blk_frozen BK243.out 1
        have hfz48_2 := blk_frozen BK243.out 2
        have hfz48_3 := blk_frozen BK243.out 3
        go_wp2
        refine bodyPost_ret (results_list (rs := [.cell 4 64, .cell 5 61, .tmp 6, .tmp 7]) rfl (by simp) (.cell gb242 64 #[.int .i64 0, .string (⟨#[]⟩ : ByteArray)] (0, 0) _ rfl bka_ Tryd.underlying64 rfl (by kernel_rfl) (.cell gb243 61 #[.string (⟨#[]⟩ : ByteArray), .int .i64 0, .int .i64 0, .int .i64 0] (0, 0) _ rfl bka_ Tryd.underlying61 rfl (by kernel_rfl) (.tmp (.tmp .nil))))) rfl ?_
        exact ⟨ri_, belg_ (IsS134.ge HI244.out)⟩
      · replace c41 := Bool.eq_false_iff.mpr c41
        subst c41
        rw [if_neg (show ¬ (false = true) by decide)] at H
        obtain ⟨t264, A49, H⟩ := OB H
        try dsimp only at H
        replace A49 := AM A49
        obtain ⟨t265, A50, H⟩ := OB H
        try dsimp only at H
        replace A50 := AM A50
        simp only [Option.some.injEq, Prod.mk.injEq] at H
        obtain ⟨rfl, rfl, rfl, rfl, rfl, rfl, rfl, rfl⟩ := H
        try go_wp2
        replace BK242 := AM (blk_drew BK242.out)
        replace BK243 := AM (blk_drew BK243.out)
        replace BK261 := AM (blk_drew BK261.out)
        replace HI244 := AM (IsS134.drew HI244.out)
        replace HB := AM (below_drew1 HB.out)
        refine start_ (n := 24) (S := fun w' => w'.cell? ⟨gb261, 0, none⟩ = some (.int .i64 t253) ∧ w'.cell? ⟨gb261, 1, none⟩ = some (.string t257) ∧ w'.cell? ⟨gb244, 0, none⟩ = some (.string t258) ∧ w'.cell? ⟨gb244, 1, none⟩ = some (.int .i64 t259) ∧ w'.cell? ⟨gb244, 2, none⟩ = some (.bool t260)) (ds := []) #[false, false, false, false, false, false, false, false, false, false, false, false, false, false, false, false, false, false, false, false, false, false, false, false] (by kernel_rfl) rfl rfl ⟨(blk_cell BK261.out 0).trans rfl, (blk_cell BK261.out 1).trans rfl, (cellS134_0 HI244.out.1), (cellS134_1 HI244.out.1), (cellS134_2 HI244.out.1)⟩ (fun hHeld => ?_); refine with_tabW impl_readRecord.tab6 impl_readRecord.bits6 (fun HT_ HW_ => ?_)
        generalize wc.drew = w51 at BK242 BK243 BK261 HI244 HB hHeld ⊢
        refine pu_ HT_ 1 (some 47) #[false, true, false, false, false, false, false, false, false, false, false, false, false, false, false, false, false, false, false, false, false, false, false, false] ?_
        refine pu_ HT_ 2 (some 48) #[false, true, true, false, false, false, false, false, false, false, false, false, false, false, false, false, false, false, false, false, false, false, false, false] ?_
        refine pu_ HT_ 4 (some 50) #[false, true, true, false, true, false, false, false, false, false, false, false, false, false, false, false, false, false, false, false, false, false, false, false] ?_
        refine pu_ HT_ 5 (some 51) #[false, true, true, false, true, true, false, false, false, false, false, false, false, false, false, false, false, false, false, false, false, false, false, false] ?_
        refine pu_ HT_ 6 (some 52) #[false, true, true, false, true, true, true, false, false, false, false, false, false, false, false, false, false, false, false, false, false, false, false, false] ?_
        refine pu_ HT_ 8 (some 54) #[false, true, true, false, true, true, true, false, true, false, false, false, false, false, false, false, false, false, false, false, false, false, false, false] ?_
        refine pu_ HT_ 12 (some 58) #[false, true, true, false, true, true, true, false, true, false, false, false, true, false, false, false, false, false, false, false, false, false, false, false] ?_
        refine pu_ HT_ 16 (some 62) #[false, true, true, false, true, true, true, false, true, false, false, false, true, false, false, false, true, false, false, false, false, false, false, false] ?_
        refine pu_ HT_ 17 (some 63) #[false, true, true, false, true, true, true, false, true, false, false, false, true, false, false, false, true, true, false, false, false, false, false, false] ?_
        refine pu_ HT_ 18 (some 64) #[false, true, true, false, true, true, true, false, true, false, false, false, true, false, false, false, true, true, true, false, false, false, false, false] ?_
        refine ta_ HT_ HW_ 0 (some 46) #[true, true, true, false, true, true, true, false, true, false, false, false, true, false, false, false, true, true, true, false, false, false, false, false] hHeld ?_
        refine ta_ HT_ HW_ 3 (some 49) #[true, true, true, true, true, true, true, false, true, false, false, false, true, false, false, false, true, true, true, false, false, false, false, false] hHeld ?_
        refine ta_ HT_ HW_ 7 (some 53) #[true, true, true, true, true, true, true, true, true, false, false, false, true, false, false, false, true, true, true, false, false, false, false, false] hHeld ?_
        refine ta_ HT_ HW_ 9 (some 55) #[true, true, true, true, true, true, true, true, true, true, false, false, true, false, false, false, true, true, true, false, false, false, false, false] hHeld ?_
        refine ta_ HT_ HW_ 13 (some 59) #[true, true, true, true, true, true, true, true, true, true, false, false, true, true, false, false, true, true, true, false, false, false, false, false] hHeld ?_
        refine ta_ HT_ HW_ 19 (some 65) #[true, true, true, true, true, true, true, true, true, true, false, false, true, true, false, false, true, true, true, true, false, false, false, false] hHeld ?_
        refine on_ HT_ 10 (some 56) #[true, true, true, true, true, true, true, true, true, true, true, false, true, true, false, false, true, true, true, true, false, false, false, false] (fun K hK => ?_)
        refine go1_ Tryd.func70 #[.string t257] ?_
        with_reducible refine (impl_long.calls t257 t264 _ A49.out).mono ?_
        rintro e w' ⟨rfl, ⟨nd, rfl⟩⟩
        refine ⟨_, rfl, ?_⟩
        refine hK.out _ _ ⟨(blk_cell BK261.out 0).trans rfl, (blk_cell BK261.out 1).trans rfl, (cellS134_0 HI244.out.1), (cellS134_1 HI244.out.1), (cellS134_2 HI244.out.1)⟩ (fun hHeld => ?_)
        clear hK K
        refine nm_ ?_
        refine pu_ HT_ 11 (some 57) #[true, true, true, true, true, true, true, true, true, true, true, true, true, true, false, false, true, true, true, true, false, false, false, false] ?_
        refine on_ HT_ 14 (some 60) #[true, true, true, true, true, true, true, true, true, true, true, true, true, true, true, false, true, true, true, true, false, false, false, false] (fun K hK => ?_)
        refine go1_ Tryd.func70 #[.string t257] ?_
        with_reducible refine (impl_long.calls t257 t265 _ A50.out).mono ?_
        rintro e w' ⟨rfl, ⟨nd, rfl⟩⟩
        refine ⟨_, rfl, ?_⟩
        refine hK.out _ _ ⟨(blk_cell BK261.out 0).trans rfl, (blk_cell BK261.out 1).trans rfl, (cellS134_0 HI244.out.1), (cellS134_1 HI244.out.1), (cellS134_2 HI244.out.1)⟩ (fun hHeld => ?_)
        clear hK K
        refine nm_ ?_
        refine pu_ HT_ 15 (some 61) #[true, true, true, true, true, true, true, true, true, true, true, true, true, true, true, true, true, true, true, true, false, false, false, false] ?_
        refine on_ HT_ 20 none #[true, true, true, true, true, true, true, true, true, true, true, true, true, true, true, true, true, true, true, true, true, false, false, false] (fun K hK => ?_)
        have hs52 : w51.cell? ⟨gb242, 0, none⟩ = some (.int .i64 0) := (blk_cell BK242.out 0).trans rfl
        have hfs52 := blk_frozen BK242.out 0
        have hns52_1 := NB243_242.out
        have hns52_2 := NB261_242.out
        have hms52_1 := NB242_243.out
        have hms52_2 := NB242_261.out
        have hs53 : w51.cell? ⟨gb242, 1, none⟩ = some (.string (⟨#[]⟩ : ByteArray)) := (blk_cell BK242.out 1).trans rfl
        have hfs53 := blk_frozen BK242.out 1
        have hns53_1 := NB243_242.out
        have hns53_2 := NB261_242.out
        have hms53_1 := NB242_243.out
        have hms53_2 := NB242_261.out
        refine sk_ ?_
        refine hK.out _ _ ⟨(by (rw [cell_far, cell_far]) <;> first | exact hHeld.1 | exact NB261_242.out), (by (rw [cell_far, cell_far]) <;> first | exact hHeld.2.1 | exact NB261_242.out), (by (rw [cell_far, cell_far]) <;> first | exact hHeld.2.2.1 | exact NB244_242.out), (by (rw [cell_far, cell_far]) <;> first | exact hHeld.2.2.2.1 | exact NB244_242.out), (by (rw [cell_far, cell_far]) <;> first | exact hHeld.2.2.2.2 | exact NB244_242.out)⟩ (fun hHeld => ?_)
        clear hK K
        refine on_ HT_ 21 none #[true, true, true, true, true, true, true, true, true, true, true, true, true, true, true, true, true, true, true, true, true, true, false, false] (fun K hK => ?_)
        have hs54 : w51.cell? ⟨gb243, 0, none⟩ = some (.string (⟨#[]⟩ : ByteArray)) := (blk_cell BK243.out 0).trans rfl
        have hfs54 := blk_frozen BK243.out 0
        have hns54_0 := NB242_243.out
        have hns54_2 := NB261_243.out
        have hms54_0 := NB243_242.out
        have hms54_2 := NB243_261.out
        have hs55 : w51.cell? ⟨gb243, 1, none⟩ = some (.int .i64 0) := (blk_cell BK243.out 1).trans rfl
        have hfs55 := blk_frozen BK243.out 1
        have hns55_0 := NB242_243.out
        have hns55_2 := NB261_243.out
        have hms55_0 := NB243_242.out
        have hms55_2 := NB243_261.out
        have hs56 : w51.cell? ⟨gb243, 2, none⟩ = some (.int .i64 0) := (blk_cell BK243.out 2).trans rfl
        have hfs56 := blk_frozen BK243.out 2
        have hns56_0 := NB242_243.out
        have hns56_2 := NB261_243.out
        have hms56_0 := NB243_242.out
        have hms56_2 := NB243_261.out
        have hs57 : w51.cell? ⟨gb243, 3, none⟩ = some (.int .i64 0) := (blk_cell BK243.out 3).trans rfl
        have hfs57 := blk_frozen BK243.out 3
        have hns57_0 := NB242_243.out
        have hns57_2 := NB261_243.out
        have hms57_0 := NB243_242.out
        have hms57_2 := NB243_261.out
        refine sk_ ?_
        refine hK.out _ _ ⟨(by (rw [cell_far, cell_far, cell_far, cell_far]) <;> first | exact hHeld.1 | exact NB261_243.out), (by (rw [cell_far, cell_far, cell_far, cell_far]) <;> first | exact hHeld.2.1 | exact NB261_243.out), (by (rw [cell_far, cell_far, cell_far, cell_far]) <;> first | exact hHeld.2.2.1 | exact NB244_243.out), (by (rw [cell_far, cell_far, cell_far, cell_far]) <;> first | exact hHeld.2.2.2.1 | exact NB244_243.out), (by (rw [cell_far, cell_far, cell_far, cell_far]) <;> first | exact hHeld.2.2.2.2 | exact NB244_243.out)⟩ (fun hHeld => ?_)
        clear hK K
        refine pu_ HT_ 22 (some 6) #[true, true, true, true, true, true, true, true, true, true, true, true, true, true, true, true, true, true, true, true, true, true, true, false] ?_
        refine pu_ HT_ 23 (some 7) #[true, true, true, true, true, true, true, true, true, true, true, true, true, true, true, true, true, true, true, true, true, true, true, true] ?_
        refine dn_ HT_ ?_
        try go_wp2
        refine bodyPost_ret (results_list (rs := [.cell 4 64, .cell 5 61, .tmp 6, .tmp 7]) rfl (by simp) (.cell gb242 64 #[.int .i64 t253, .string t257] (0, 0) _ rfl bka_ Tryd.underlying64 rfl (by kernel_rfl) (.cell gb243 61 #[.string t249, .int .i64 t253, .int .i64 (wrap64 (t259 - t264)), .int .i64 t265] (0, 0) _ rfl bka_ Tryd.underlying61 rfl (by kernel_rfl) (.tmp (.tmp .nil))))) rfl ?_
        exact ⟨ri_, belg_ (IsS134.ge HI244.out)⟩

/-! ### impl_scan: function 84 -/
def impl_scan.l0 : Nat → ByteArray → List (S61) → Int → Option ((List (S61)))
  | 0, _, _, _ => none
  | k + 1, x0, x3, x4 => (impl_long.f x0).bind fun t266 => (if x4 < t266 then ((impl_readRecord.f k x0 x4).bind fun bt267 => (if bt267.2.2.2.2.2.2.2 = true then (if x3.length < 3518437208883 then (impl_scan.l0 k x0 (x3 ++ [(⟨bt267.2.2.1, bt267.2.2.2.1, bt267.2.2.2.2.1, bt267.2.2.2.2.2.1⟩ : S61)]) bt267.2.2.2.2.2.2.1) else (none)) else (impl_scan.l0 k x0 x3 (wrap64 (x4 + 1))))) else (some x3))
def impl_scan.f (k : Nat) (a0 : ByteArray) : Option ((List (S61))) := impl_scan.l0 k a0 ([] : List (S61)) 0
theorem impl_scan.mono_l : ∀ k, (∀ y0 y1 y2, LeO (impl_scan.l0 k y0 y1 y2) (impl_scan.l0 (k + 1) y0 y1 y2))
  | 0 => fun _ _ _ r h => by simp [impl_scan.l0] at h
  | k + 1 => by
    have ih0 := impl_scan.mono_l k
    · intro y0 y1 y2
      unfold impl_scan.l0
      repeat' first
      | (with_reducible exact ih0 _ _ _)
      | (with_reducible exact impl_readRecord.mono _ _ _)
      | (with_reducible exact LeO.refl _)
      | (with_reducible exact LeO.none _)
      | (with_reducible refine LeO.ite ?_ ?_)
      | (with_reducible refine LeO.bind ?_ (fun _ => ?_))
      | exact ih0 _ _ _
      | exact impl_readRecord.mono _ _ _
      | exact LeO.none _
      | refine LeO.ite ?_ ?_
      | refine LeO.bind ?_ (fun _ => ?_)
theorem impl_scan.mono : ∀ a0 k, LeO (impl_scan.f k a0) (impl_scan.f (k + 1) a0) := by
  intro a0 k
  have ih0 := impl_scan.mono_l k
  unfold impl_scan.f
  repeat' first
      | (with_reducible exact ih0 _ _ _)
      | (with_reducible exact impl_readRecord.mono _ _ _)
      | (with_reducible exact LeO.refl _)
      | (with_reducible exact LeO.none _)
      | (with_reducible refine LeO.ite ?_ ?_)
      | (with_reducible refine LeO.bind ?_ (fun _ => ?_))
      | exact ih0 _ _ _
      | exact impl_readRecord.mono _ _ _
      | exact LeO.none _
      | refine LeO.ite ?_ ?_
      | refine LeO.bind ?_ (fun _ => ?_)
set_option maxHeartbeats 8000000 in
set_option maxRecDepth 100000 in
theorem impl_scan.calls (k : Nat) (a0 : ByteArray) (r : List (S61)) (w : World) (h : impl_scan.f k a0 = some r) (hL : Hand.LaidG w := by first | exact hL | exact Hand.LaidG.below hL bel_) :
    Calls Tryd.prog 84 #[.string a0] w fun e w' => ∃ v0_ : Value, e = .returned (v0_) ∧ Kd.R k61 61 w' w.heap.size (fun _ => True) v0_ r ∧ Below w.heap.size w w' := by
  have hu64 := Tryd.underlying64
  have hu61 := Tryd.underlying61
  have HB := AM (Below.refl w.heap.size w)
  have H : (impl_scan.l0 k a0 ([] : List (S61)) 0) = some r := h
  clear h
  have H' := AM H
  clear H
  go_enter Tryd.func84, Tryd.ntmps84
  go_wp2
  go_loopg [3, 4] k (fun kq v3 v4 w' => ∃ (x3_1 : List (S61)) (x4_1 : Int), v4 = .int .i64 x4_1 ∧ Aside0 (impl_scan.l0 kq a0 x3_1 x4_1 = some r) ∧ Aside0 (kq ≤ k) ∧ Aside0 (Kd.R k61 61 w' w.heap.size (fun _ => True) v3 x3_1) ∧ Aside0 (Below w.heap.size w w'))
  case atStart => exact ⟨(([] : List (S61))), (0), (by first | rfl | (simp; done) | (simp [*]; done)), H', ⟨Nat.le_refl _⟩, ⟨by first | exact Kd.R_nil _ _ _ _ _ | exact Kd.N_nil _ _ _ _ _ | exact Kd.V_nil _ _ _ _ _ | exact Kd.Q_nil _ _ _ _ _ | exact Kd.S_nil _ _ _ _ _⟩, ⟨bel_⟩⟩
  case round =>
    clear H'
    obtain ⟨x3_1, x4_1, rfl, HA, HK1, HO_3, HB⟩ := hrel
    cases gk with
    | zero => exact absurd HA.out (by simp [impl_scan.l0])
    | succ k1 =>
      have H := HA.out
      clear HA
      simp only [impl_scan.l0] at H
      obtain ⟨t266, A2, H⟩ := OB H
      try dsimp only at H
      replace A2 := AM A2
      by_cases c3 : x4_1 < t266
      · rw [if_pos c3] at H
        have c3b0 : decide (x4_1 < t266) = true := decide_eq_true c3
        clear c3
        obtain ⟨⟨t267, t268, t269, t270, t271, t272, t273, t274⟩, A4, H⟩ := OB H
        try dsimp only at H
        replace A4 := AM A4
        by_cases c5 : t274 = true
        · subst c5
          rw [if_pos rfl] at H
          by_cases c6 : x3_1.length < 3518437208883
          · rw [if_pos c6] at H
            have LMc6 := AM c6
            clear c6
            obtain ⟨y277, hy277⟩ : ∃ y_ : List (S61), y_ = (x3_1 ++ [(⟨t269, t270, t271, t272⟩ : S61)]) := ⟨_, rfl⟩
            replace H : (impl_scan.l0 k1 a0 y277 t273) = some r := by first | (rw [hy277]; with_reducible exact H) | (have H2_ := (Option.bind_some _ _).symm.trans H; rw [hy277]; with_reducible exact H2_) | (have H2_ := (Option.bind_some _ _).symm.trans H; with_reducible exact H2_) | with_reducible exact H | (rw [hy277]; exact H) | exact H
            have Ny277 := AM hy277
            clear hy277
            have H' := AM H
            clear H
            go_wp2_with (first | ((with_reducible refine gate_callee (f := 70) rfl ?_); refine gl_ (some 11) Tryd.func70 #[.string a0] ?_; (with_reducible refine (impl_long.calls a0 t266 _ A2.out).mono ?_); rintro e w' ⟨rfl, ⟨nd, rfl⟩⟩; refine ⟨_, rfl, ?_⟩; (try (rw [drewN_self wr]; generalize hq_ : World.drewN wr _ = wr; replace HO_3 : Aside0 (Kd.R k61 61 wr w.heap.size (fun _ => True) u3 x3_1) := ⟨by rw [← hq_]; exact (ro_ HO_3.out)⟩; replace HB : Aside0 (Below w.heap.size w wr) := ⟨by rw [← hq_]; exact bel_⟩; clear hq_))) | ((with_reducible refine gate_callee (f := 118) rfl ?_); refine gl_ (some 16) Tryd.func118 #[.string a0, .int .i64 x4_1] ?_; (with_reducible refine (impl_readRecord.calls k1 a0 x4_1 t267 t268 t269 t270 t271 t272 t273 true _ A4.out).mono ?_); rintro e w7 ⟨rfl, hb⟩; refine ⟨_, rfl, ?_⟩; replace HO_3 := AM (Kd.R_below (ro_ HO_3.out) hb); replace HB := AM (below_step bel_ hb); (try clear hb); (try clear hb2); (try clear hk); (try clear hi)) | ((with_reducible refine gate_dst (N := 5) rfl ?_); refine be_ 5 #[.int .i64 0, .string (⟨#[]⟩ : ByteArray)] 64 ?_; intro gb275 hg w8 hbox hb; replace HO_3 := AM (Kd.R_below (ro_ HO_3.out) hb); have BK275 := AM hbox; have GW275 := AM ((by rw [hg]; exact (below_size bel_) : w.heap.size ≤ gb275)); have GE275 := AM ((by rw [hg]; exact (below_size bel_) : w.heap.size ≤ gb275)); replace HB := AM (below_step bel_ hb); clear hb hbox hg) | ((with_reducible refine gate_dst (N := 6) rfl ?_); refine be_ 6 #[.string (⟨#[]⟩ : ByteArray), .int .i64 0, .int .i64 0, .int .i64 0] 61 ?_; intro gb276 hg w9 hbox hb; replace HO_3 := AM (Kd.R_below (Kd.R_elderB (ro_ HO_3.out) gb276 (Nat.le_of_eq hg.symm)) hb); have BK276 := AM hbox; have GW276 := AM ((by rw [hg]; exact (below_size bel_) : w.heap.size ≤ gb276)); have GE276 := AM ((by rw [hg]; exact (below_size bel_) : w.heap.size ≤ gb276)); replace HB := AM (below_step bel_ hb); have NB275_276 := AM ((by rw [hg]; exact Nat.ne_of_lt (blk_lt (g := gb275) (o := .cells #[.int .i64 0, .string (⟨#[]⟩ : ByteArray)] 64 (0, 0)) (bk_ BK275.out)) : gb275 ≠ gb276)); have NB276_275 := AM ((by rw [hg]; exact Nat.ne_of_gt (blk_lt (g := gb275) (o := .cells #[.int .i64 0, .string (⟨#[]⟩ : ByteArray)] 64 (0, 0)) (bk_ BK275.out)) : gb276 ≠ gb275)); replace BK275 := AM (blk_below (g := gb275) (o := .cells #[.int .i64 0, .string (⟨#[]⟩ : ByteArray)] 64 (0, 0)) (bk_ BK275.out) hb); clear hb hbox hg; have hnb10 := NB275_276.out; have hnc10 := NB276_275.out; have hcz11_0 : w9.cell? ⟨gb275, 0, none⟩ = some (.int .i64 0) := (blk_cell BK275.out 0).trans rfl; have hcz11_1 : w9.cell? ⟨gb275, 1, none⟩ = some (.string (⟨#[]⟩ : ByteArray)) := (blk_cell BK275.out 1).trans rfl; have hfz11_0 := blk_frozen BK275.out 0; have hfz11_1 := blk_frozen BK275.out 1; have hcz12_0 : w9.cell? ⟨gb276, 0, none⟩ = some (.string (⟨#[]⟩ : ByteArray)) := (blk_cell BK276.out 0).trans rfl; have hcz12_1 : w9.cell? ⟨gb276, 1, none⟩ = some (.int .i64 0) := (blk_cell BK276.out 1).trans rfl; have hcz12_2 : w9.cell? ⟨gb276, 2, none⟩ = some (.int .i64 0) := (blk_cell BK276.out 2).trans rfl; have hcz12_3 : w9.cell? ⟨gb276, 3, none⟩ = some (.int .i64 0) := (blk_cell BK276.out 3).trans rfl; have hfz12_0 := blk_frozen BK276.out 0; have hfz12_1 := blk_frozen BK276.out 1; have hfz12_2 := blk_frozen BK276.out 2; have hfz12_3 := blk_frozen BK276.out 3) | ((with_reducible refine gate_builtin (b := .append) (xs := #[.tmp 25, .tmp 27]) rfl ?_); at_builtin; refine Kd.R_append k61 (w0 := w) w.heap.size rfl (.tmp 25) (.tmp 27) 53 61 (.agg #[(.string ⟨#[]⟩), (.int .i64 0), (.int .i64 0), (.int .i64 0)]) 40 rfl Tryd.underlying53 info61 rfl (by decide) (by omega) u3 x3_1 (⟨t269, t270, t271, t272⟩ : S61) [.string t269, .int .i64 t270, .int .i64 t271, .int .i64 t272] (fun k_ => k_ ≠ gb276) (fun _ => False) rfl (by first | (go_simp; done) | (go_simp; rfl)) ?aP (fun _ hk => hk.elim) ?aF ?aO ?aB ?aS ?aL ?_; (case aP => exact k61_mkM _ _ _ (⟨t269, t270, t271, t272⟩ : S61)); (case aB => exact bel_); (case aF => exact (fun k_ hk => Kd.freshB (g := gb276) (o := .cells #[.string t269, .int .i64 t270, .int .i64 t271, .int .i64 t272] 61 (0, 0)) bka_ k_ hk)); (case aO => exact (by (with_reducible repeat (first | apply Kd.R_alloc | apply Kd.R_drewN | apply Kd.R_drew)); exact Kd.R_mono (Kd.R_far (p := ⟨gb276, 3, none⟩) (Kd.R_far (p := ⟨gb276, 2, none⟩) (Kd.R_far (p := ⟨gb276, 1, none⟩) (Kd.R_far (p := ⟨gb276, 0, none⟩) (Kd.R_far (p := ⟨gb275, 1, none⟩) (Kd.R_far (p := ⟨gb275, 0, none⟩) (Kd.R_mono (Kd.R_types HO_3.out BK275.out (by decide)) (fun k_ hk => (⟨hk, hk.1.2⟩ : _ ∧ k_ ≠ gb276))) (fun _ hk => hk.1.2) (.int .i64 t267)) (fun _ hk => hk.1.2) (.string t268)) (fun _ hk => hk.2) (.string t269)) (fun _ hk => hk.2) (.int .i64 t270)) (fun _ hk => hk.2) (.int .i64 t271)) (fun _ hk => hk.2) (.int .i64 t272)) (fun _ hk => hk.1.1.2))); (case aS => exact (below_size bel_)); (case aL => have := LMc6.out; omega); intro v278 w13 ho hb hg hat; rw [← Ny277.out] at ho; have n0_ := AM (blk_grown (g := gb275) (o := .cells #[.int .i64 t267, .string t268] 64 (0, 0)) bka_ hg (Kd.R_ne HO_3.out BK275.out (by decide))); have n1_ := AM (blk_grown (g := gb276) (o := .cells #[.string t269, .int .i64 t270, .int .i64 t271, .int .i64 t272] 61 (0, 0)) bka_ hg (Kd.R_away HO_3.out (fun _ hk => hk.2))); have n2_ := AM hb; have n3_ := AM ho; clear BK275; clear BK276; clear HB; clear HO_3; have BK275 := n0_; have BK276 := n1_; have HB := n2_; have HO279 := n3_; clear n0_ n1_ n2_ n3_; clear ho hb hg hat))
            go_roundg k1
            case measure => have := HK1.out; omega
            case rel => exact ⟨(y277), (t273), (by first | rfl | (simp; done) | (simp [*]; done)), H', ⟨by have := HK1.out; omega⟩, ⟨by (with_reducible repeat (first | apply Kd.R_alloc | apply Kd.R_drewN | apply Kd.R_drew)); exact Kd.R_mono HO279.out (fun _ hk => trivial)⟩, ⟨bel_⟩⟩
          · rw [if_neg c6] at H
            exact absurd H (by simp)
        · replace c5 := Bool.eq_false_iff.mpr c5
          subst c5
          rw [if_neg (show ¬ (false = true) by decide)] at H
          have H' := AM H
          clear H
          go_wp2_with (first | ((with_reducible refine gate_callee (f := 70) rfl ?_); refine gl_ (some 11) Tryd.func70 #[.string a0] ?_; (with_reducible refine (impl_long.calls a0 t266 _ A2.out).mono ?_); rintro e w' ⟨rfl, ⟨nd, rfl⟩⟩; refine ⟨_, rfl, ?_⟩; (try (rw [drewN_self wr]; generalize hq_ : World.drewN wr _ = wr; replace HO_3 : Aside0 (Kd.R k61 61 wr w.heap.size (fun _ => True) u3 x3_1) := ⟨by rw [← hq_]; exact (ro_ HO_3.out)⟩; replace HB : Aside0 (Below w.heap.size w wr) := ⟨by rw [← hq_]; exact bel_⟩; clear hq_))) | ((with_reducible refine gate_callee (f := 118) rfl ?_); refine gl_ (some 16) Tryd.func118 #[.string a0, .int .i64 x4_1] ?_; (with_reducible refine (impl_readRecord.calls k1 a0 x4_1 t267 t268 t269 t270 t271 t272 t273 false _ A4.out).mono ?_); rintro e w14 ⟨rfl, hb⟩; refine ⟨_, rfl, ?_⟩; replace HO_3 := AM (Kd.R_below (ro_ HO_3.out) hb); replace HB := AM (below_step bel_ hb); (try clear hb); (try clear hb2); (try clear hk); (try clear hi)) | ((with_reducible refine gate_dst (N := 5) rfl ?_); refine be_ 5 #[.int .i64 0, .string (⟨#[]⟩ : ByteArray)] 64 ?_; intro gb275 hg w15 hbox hb; replace HO_3 := AM (Kd.R_below (ro_ HO_3.out) hb); have BK275 := AM hbox; have GW275 := AM ((by rw [hg]; exact (below_size bel_) : w.heap.size ≤ gb275)); have GE275 := AM ((by rw [hg]; exact (below_size bel_) : w.heap.size ≤ gb275)); replace HB := AM (below_step bel_ hb); clear hb hbox hg) | ((with_reducible refine gate_dst (N := 6) rfl ?_); refine be_ 6 #[.string (⟨#[]⟩ : ByteArray), .int .i64 0, .int .i64 0, .int .i64 0] 61 ?_; intro gb276 hg w16 hbox hb; replace HO_3 := AM (Kd.R_below (Kd.R_elderB (ro_ HO_3.out) gb276 (Nat.le_of_eq hg.symm)) hb); have BK276 := AM hbox; have GW276 := AM ((by rw [hg]; exact (below_size bel_) : w.heap.size ≤ gb276)); have GE276 := AM ((by rw [hg]; exact (below_size bel_) : w.heap.size ≤ gb276)); replace HB := AM (below_step bel_ hb); have NB275_276 := AM ((by rw [hg]; exact Nat.ne_of_lt (blk_lt (g := gb275) (o := .cells #[.int .i64 0, .string (⟨#[]⟩ : ByteArray)] 64 (0, 0)) (bk_ BK275.out)) : gb275 ≠ gb276)); have NB276_275 := AM ((by rw [hg]; exact Nat.ne_of_gt (blk_lt (g := gb275) (o := .cells #[.int .i64 0, .string (⟨#[]⟩ : ByteArray)] 64 (0, 0)) (bk_ BK275.out)) : gb276 ≠ gb275)); replace BK275 := AM (blk_below (g := gb275) (o := .cells #[.int .i64 0, .string (⟨#[]⟩ : ByteArray)] 64 (0, 0)) (bk_ BK275.out) hb); clear hb hbox hg; have hnb17 := NB275_276.out; have hnc17 := NB276_275.out; have hcz18_0 : w16.cell? ⟨gb275, 0, none⟩ = some (.int .i64 0) := (blk_cell BK275.out 0).trans rfl; have hcz18_1 : w16.cell? ⟨gb275, 1, none⟩ = some (.string (⟨#[]⟩ : ByteArray)) := (blk_cell BK275.out 1).trans rfl; have hfz18_0 := blk_frozen BK275.out 0; have hfz18_1 := blk_frozen BK275.out 1; have hcz19_0 : w16.cell? ⟨gb276, 0, none⟩ = some (.string (⟨#[]⟩ : ByteArray)) := (blk_cell BK276.out 0).trans rfl; have hcz19_1 : w16.cell? ⟨gb276, 1, none⟩ = some (.int .i64 0) := (blk_cell BK276.out 1).trans rfl; have hcz19_2 : w16.cell? ⟨gb276, 2, none⟩ = some (.int .i64 0) := (blk_cell BK276.out 2).trans rfl; have hcz19_3 : w16.cell? ⟨gb276, 3, none⟩ = some (.int .i64 0) := (blk_cell BK276.out 3).trans rfl; have hfz19_0 := blk_frozen BK276.out 0; have hfz19_1 := blk_frozen BK276.out 1; have hfz19_2 := blk_frozen BK276.out 2; have hfz19_3 := blk_frozen BK276.out 3))
          go_roundg k1
          case measure => have := HK1.out; omega
          case rel => exact ⟨(x3_1), (wrap64 (x4_1 + 1)), (by first | rfl | (simp; done) | (simp [*]; done)), H', ⟨by have := HK1.out; omega⟩, ⟨by (with_reducible repeat (first | apply Kd.R_alloc | apply Kd.R_drewN | apply Kd.R_drew)); exact Kd.R_mono (Kd.R_far (p := ⟨gb276, 3, none⟩) (Kd.R_far (p := ⟨gb276, 2, none⟩) (Kd.R_far (p := ⟨gb276, 1, none⟩) (Kd.R_far (p := ⟨gb276, 0, none⟩) (Kd.R_far (p := ⟨gb275, 1, none⟩) (Kd.R_far (p := ⟨gb275, 0, none⟩) (Kd.R_mono (Kd.R_types HO_3.out BK275.out (by decide)) (fun k_ hk => (⟨hk, hk.1.2⟩ : _ ∧ k_ ≠ gb276))) (fun _ hk => hk.1.2) (.int .i64 t267)) (fun _ hk => hk.1.2) (.string t268)) (fun _ hk => hk.2) (.string t269)) (fun _ hk => hk.2) (.int .i64 t270)) (fun _ hk => hk.2) (.int .i64 t271)) (fun _ hk => hk.2) (.int .i64 t272)) (fun _ hk => trivial)⟩, ⟨bel_⟩⟩
      · rw [if_neg c3] at H
        have c3b0 : decide (x4_1 < t266) = false := decide_eq_false c3
        clear c3
        obtain rfl := Option.some.inj H
        go_wp2_with (first | ((with_reducible refine gate_callee (f := 70) rfl ?_); refine gl_ (some 11) Tryd.func70 #[.string a0] ?_; (with_reducible refine (impl_long.calls a0 t266 _ A2.out).mono ?_); rintro e w' ⟨rfl, ⟨nd, rfl⟩⟩; refine ⟨_, rfl, ?_⟩))
        go_ret
        exact ⟨_, ri_, ro_ HO_3.out, bel_⟩

/-! ### impl_PackScan: function 36 -/
def impl_PackScan.f (k : Nat) (a0 : ByteArray) : Option ((List (S61))) := (impl_isLong.f a0).bind fun t280 => (if t280 = true then (some ([] : List (S61))) else ((impl_scan.f k a0).bind fun t281 => (some t281)))
theorem impl_PackScan.mono : ∀ a0 k, LeO (impl_PackScan.f k a0) (impl_PackScan.f (k + 1) a0) := by
  intro a0 k
  unfold impl_PackScan.f
  repeat' first
      | (with_reducible exact impl_scan.mono _ _)
      | (with_reducible exact LeO.refl _)
      | (with_reducible exact LeO.none _)
      | (with_reducible refine LeO.ite ?_ ?_)
      | (with_reducible refine LeO.bind ?_ (fun _ => ?_))
      | exact impl_scan.mono _ _
      | exact LeO.none _
      | refine LeO.ite ?_ ?_
      | refine LeO.bind ?_ (fun _ => ?_)
set_option maxHeartbeats 8000000 in
set_option maxRecDepth 100000 in
theorem impl_PackScan.calls (k : Nat) (a0 : ByteArray) (r : List (S61)) (w : World) (h : impl_PackScan.f k a0 = some r) (hL : Hand.LaidG w := by first | exact hL | exact Hand.LaidG.below hL bel_) :
    Calls Tryd.prog 36 #[.string a0] w fun e w' => ∃ v0_ : Value, e = .returned (v0_) ∧ Kd.R k61 61 w' w.heap.size (fun _ => True) v0_ r ∧ Below w.heap.size w w' := by
  have HB := AM (Below.refl w.heap.size w)
  have H : ((impl_isLong.f a0).bind fun t280 => (if t280 = true then (some ([] : List (S61))) else ((impl_scan.f k a0).bind fun t281 => (some t281)))) = some r := h
  clear h
  obtain ⟨t280, A2, H⟩ := OB H
  try dsimp only at H
  replace A2 := AM A2
  by_cases c3 : t280 = true
  · subst c3
    rw [if_pos rfl] at H
    obtain rfl := Option.some.inj H
    go_enter Tryd.func36, Tryd.ntmps36
    go_wp2_with (first | ((with_reducible refine gate_callee (f := 48) rfl ?_); refine gl_ (some 4) Tryd.func48 #[.string a0] ?_; (with_reducible refine (impl_isLong.calls a0 true _ A2.out).mono ?_); rintro e w' ⟨rfl, ⟨nd, rfl⟩⟩; refine ⟨_, rfl, ?_⟩))
    go_ret
    exact ⟨_, ri_, by first | exact Kd.R_nil _ _ _ _ _ | exact Kd.N_nil _ _ _ _ _ | exact Kd.V_nil _ _ _ _ _ | exact Kd.Q_nil _ _ _ _ _ | exact Kd.S_nil _ _ _ _ _, bel_⟩
  · replace c3 := Bool.eq_false_iff.mpr c3
    subst c3
    rw [if_neg (show ¬ (false = true) by decide)] at H
    obtain ⟨t281, A4, H⟩ := OB H
    try dsimp only at H
    replace A4 := AM A4
    obtain rfl := Option.some.inj H
    go_enter Tryd.func36, Tryd.ntmps36
    go_wp2_with (first | ((with_reducible refine gate_callee (f := 48) rfl ?_); refine gl_ (some 4) Tryd.func48 #[.string a0] ?_; (with_reducible refine (impl_isLong.calls a0 false _ A2.out).mono ?_); rintro e w' ⟨rfl, ⟨nd, rfl⟩⟩; refine ⟨_, rfl, ?_⟩) | ((with_reducible refine gate_callee (f := 84) rfl ?_); refine gl_ (some 6) Tryd.func84 #[.string a0] ?_; (with_reducible refine (impl_scan.calls k a0 t281 _ A4.out).mono ?_); rintro e w5 ⟨v282, rfl, ho0, hb⟩; refine ⟨_, rfl, ?_⟩; have HO283 := AM (Kd.R_lower ho0 (below_size bel_)); replace HB := AM (below_step bel_ hb); (try clear hb); (try clear hb2); (try clear hk); (try clear hi); (try clear ho0)))
    go_ret
    exact ⟨_, ri_, ro_ HO283.out, bel_⟩

/-! ### laws_eqEntry: function 85 -/
def laws_eqEntry.f (a0_0 : ByteArray) (a0_1 : Int) (a0_2 : Int) (a0_3 : Int) (a1_0 : ByteArray) (a1_1 : Int) (a1_2 : Int) (a1_3 : Int) : Option (Bool) := if a0_0.toList = a1_0.toList then (if a0_1 = a1_1 then (if a0_2 = a1_2 then (if a0_3 = a1_3 then (some true) else (some false)) else (some false)) else (some false)) else (some false)
set_option maxHeartbeats 8000000 in
set_option maxRecDepth 100000 in
theorem laws_eqEntry.calls (a0_0 : ByteArray) (a0_1 : Int) (a0_2 : Int) (a0_3 : Int) (a1_0 : ByteArray) (a1_1 : Int) (a1_2 : Int) (a1_3 : Int) (r : Bool) (w : World) (h : laws_eqEntry.f a0_0 a0_1 a0_2 a0_3 a1_0 a1_1 a1_2 a1_3 = some r) :
    Calls Tryd.prog 85 #[.agg #[.string a0_0, .int .i64 a0_1, .int .i64 a0_2, .int .i64 a0_3], .agg #[.string a1_0, .int .i64 a1_1, .int .i64 a1_2, .int .i64 a1_3]] w fun e w' => e = .returned (.bool r) ∧ Below w.heap.size w w' := by
  have hu61 := Tryd.underlying61
  have HB := AM (Below.refl w.heap.size w)
  have H : (if a0_0.toList = a1_0.toList then (if a0_1 = a1_1 then (if a0_2 = a1_2 then (if a0_3 = a1_3 then (some true) else (some false)) else (some false)) else (some false)) else (some false)) = some r := h
  clear h
  by_cases c3 : a0_0.toList = a1_0.toList
  · rw [if_pos c3] at H
    have c3b0 : (a0_0.toList == a1_0.toList) = true := beq_iff_eq.mpr c3
    have c3b1 : (a0_0.toList != a1_0.toList) = false := bne_eq_false_iff_eq.mpr c3
    clear c3
    by_cases c4 : a0_1 = a1_1
    · rw [if_pos c4] at H
      have c4b0 : (a0_1 == a1_1) = true := beq_iff_eq.mpr c4
      have c4b1 : (a0_1 != a1_1) = false := bne_eq_false_iff_eq.mpr c4
      clear c4
      by_cases c5 : a0_2 = a1_2
      · rw [if_pos c5] at H
        have c5b0 : (a0_2 == a1_2) = true := beq_iff_eq.mpr c5
        have c5b1 : (a0_2 != a1_2) = false := bne_eq_false_iff_eq.mpr c5
        clear c5
        by_cases c6 : a0_3 = a1_3
        · rw [if_pos c6] at H
          have c6b0 : (a0_3 == a1_3) = true := beq_iff_eq.mpr c6
          have c6b1 : (a0_3 != a1_3) = false := bne_eq_false_iff_eq.mpr c6
          clear c6
          obtain rfl := Option.some.inj H
          go_enter Tryd.func85, Tryd.ntmps85
          go_wp2_with (first | ((with_reducible refine gate_dst (N := 2) rfl ?_); refine be_ 2 #[.string a0_0, .int .i64 a0_1, .int .i64 a0_2, .int .i64 a0_3] 61 ?_; intro gb284 hg w7 hbox hb; have BK284 := AM hbox; have GW284 := AM ((by rw [hg]; exact (below_size bel_) : w.heap.size ≤ gb284)); have GE284 := AM ((by rw [hg]; exact (below_size bel_) : w.heap.size ≤ gb284)); replace HB := AM (below_step bel_ hb); clear hb hbox hg) | ((with_reducible refine gate_dst (N := 3) rfl ?_); refine be_ 3 #[.string a1_0, .int .i64 a1_1, .int .i64 a1_2, .int .i64 a1_3] 61 ?_; intro gb285 hg w8 hbox hb; have BK285 := AM hbox; have GW285 := AM ((by rw [hg]; exact (below_size bel_) : w.heap.size ≤ gb285)); have GE285 := AM ((by rw [hg]; exact (below_size bel_) : w.heap.size ≤ gb285)); replace HB := AM (below_step bel_ hb); have NB284_285 := AM ((by rw [hg]; exact Nat.ne_of_lt (blk_lt (g := gb284) (o := .cells #[.string a0_0, .int .i64 a0_1, .int .i64 a0_2, .int .i64 a0_3] 61 (0, 0)) (bk_ BK284.out)) : gb284 ≠ gb285)); have NB285_284 := AM ((by rw [hg]; exact Nat.ne_of_gt (blk_lt (g := gb284) (o := .cells #[.string a0_0, .int .i64 a0_1, .int .i64 a0_2, .int .i64 a0_3] 61 (0, 0)) (bk_ BK284.out)) : gb285 ≠ gb284)); replace BK284 := AM (blk_below (g := gb284) (o := .cells #[.string a0_0, .int .i64 a0_1, .int .i64 a0_2, .int .i64 a0_3] 61 (0, 0)) (bk_ BK284.out) hb); clear hb hbox hg; have hnb9 := NB284_285.out; have hnc9 := NB285_284.out; have hcz10_0 : w8.cell? ⟨gb284, 0, none⟩ = some (.string a0_0) := (blk_cell BK284.out 0).trans rfl; have hcz10_1 : w8.cell? ⟨gb284, 1, none⟩ = some (.int .i64 a0_1) := (blk_cell BK284.out 1).trans rfl; have hcz10_2 : w8.cell? ⟨gb284, 2, none⟩ = some (.int .i64 a0_2) := (blk_cell BK284.out 2).trans rfl; have hcz10_3 : w8.cell? ⟨gb284, 3, none⟩ = some (.int .i64 a0_3) := (blk_cell BK284.out 3).trans rfl; have hfz10_0 := blk_frozen BK284.out 0; have hfz10_1 := blk_frozen BK284.out 1; have hfz10_2 := blk_frozen BK284.out 2; have hfz10_3 := blk_frozen BK284.out 3; have hcz11_0 : w8.cell? ⟨gb285, 0, none⟩ = some (.string a1_0) := (blk_cell BK285.out 0).trans rfl; have hcz11_1 : w8.cell? ⟨gb285, 1, none⟩ = some (.int .i64 a1_1) := (blk_cell BK285.out 1).trans rfl; have hcz11_2 : w8.cell? ⟨gb285, 2, none⟩ = some (.int .i64 a1_2) := (blk_cell BK285.out 2).trans rfl; have hcz11_3 : w8.cell? ⟨gb285, 3, none⟩ = some (.int .i64 a1_3) := (blk_cell BK285.out 3).trans rfl; have hfz11_0 := blk_frozen BK285.out 0; have hfz11_1 := blk_frozen BK285.out 1; have hfz11_2 := blk_frozen BK285.out 2; have hfz11_3 := blk_frozen BK285.out 3))
          go_ret
          exact ⟨ri_, bel_⟩
        · rw [if_neg c6] at H
          have c6b0 : (a0_3 == a1_3) = false := beq_eq_false_iff_ne.mpr c6
          have c6b1 : (a0_3 != a1_3) = true := bne_iff_ne.mpr c6
          obtain rfl := Option.some.inj H
          go_enter Tryd.func85, Tryd.ntmps85
          go_wp2_with (first | ((with_reducible refine gate_dst (N := 2) rfl ?_); refine be_ 2 #[.string a0_0, .int .i64 a0_1, .int .i64 a0_2, .int .i64 a0_3] 61 ?_; intro gb284 hg w12 hbox hb; have BK284 := AM hbox; have GW284 := AM ((by rw [hg]; exact (below_size bel_) : w.heap.size ≤ gb284)); have GE284 := AM ((by rw [hg]; exact (below_size bel_) : w.heap.size ≤ gb284)); replace HB := AM (below_step bel_ hb); clear hb hbox hg) | ((with_reducible refine gate_dst (N := 3) rfl ?_); refine be_ 3 #[.string a1_0, .int .i64 a1_1, .int .i64 a1_2, .int .i64 a1_3] 61 ?_; intro gb285 hg w13 hbox hb; have BK285 := AM hbox; have GW285 := AM ((by rw [hg]; exact (below_size bel_) : w.heap.size ≤ gb285)); have GE285 := AM ((by rw [hg]; exact (below_size bel_) : w.heap.size ≤ gb285)); replace HB := AM (below_step bel_ hb); have NB284_285 := AM ((by rw [hg]; exact Nat.ne_of_lt (blk_lt (g := gb284) (o := .cells #[.string a0_0, .int .i64 a0_1, .int .i64 a0_2, .int .i64 a0_3] 61 (0, 0)) (bk_ BK284.out)) : gb284 ≠ gb285)); have NB285_284 := AM ((by rw [hg]; exact Nat.ne_of_gt (blk_lt (g := gb284) (o := .cells #[.string a0_0, .int .i64 a0_1, .int .i64 a0_2, .int .i64 a0_3] 61 (0, 0)) (bk_ BK284.out)) : gb285 ≠ gb284)); replace BK284 := AM (blk_below (g := gb284) (o := .cells #[.string a0_0, .int .i64 a0_1, .int .i64 a0_2, .int .i64 a0_3] 61 (0, 0)) (bk_ BK284.out) hb); clear hb hbox hg; have hnb14 := NB284_285.out; have hnc14 := NB285_284.out; have hcz15_0 : w13.cell? ⟨gb284, 0, none⟩ = some (.string a0_0) := (blk_cell BK284.out 0).trans rfl; have hcz15_1 : w13.cell? ⟨gb284, 1, none⟩ = some (.int .i64 a0_1) := (blk_cell BK284.out 1).trans rfl; have hcz15_2 : w13.cell? ⟨gb284, 2, none⟩ = some (.int .i64 a0_2) := (blk_cell BK284.out 2).trans rfl; have hcz15_3 : w13.cell? ⟨gb284, 3, none⟩ = some (.int .i64 a0_3) := (blk_cell BK284.out 3).trans rfl; have hfz15_0 := blk_frozen BK284.out 0; have hfz15_1 := blk_frozen BK284.out 1; have hfz15_2 := blk_frozen BK284.out 2; have hfz15_3 := blk_frozen BK284.out 3; have hcz16_0 : w13.cell? ⟨gb285, 0, none⟩ = some (.string a1_0) := (blk_cell BK285.out 0).trans rfl; have hcz16_1 : w13.cell? ⟨gb285, 1, none⟩ = some (.int .i64 a1_1) := (blk_cell BK285.out 1).trans rfl; have hcz16_2 : w13.cell? ⟨gb285, 2, none⟩ = some (.int .i64 a1_2) := (blk_cell BK285.out 2).trans rfl; have hcz16_3 : w13.cell? ⟨gb285, 3, none⟩ = some (.int .i64 a1_3) := (blk_cell BK285.out 3).trans rfl; have hfz16_0 := blk_frozen BK285.out 0; have hfz16_1 := blk_frozen BK285.out 1; have hfz16_2 := blk_frozen BK285.out 2; have hfz16_3 := blk_frozen BK285.out 3))
          go_ret
          exact ⟨ri_, bel_⟩
      · rw [if_neg c5] at H
        have c5b0 : (a0_2 == a1_2) = false := beq_eq_false_iff_ne.mpr c5
        have c5b1 : (a0_2 != a1_2) = true := bne_iff_ne.mpr c5
        obtain rfl := Option.some.inj H
        go_enter Tryd.func85, Tryd.ntmps85
        go_wp2_with (first | ((with_reducible refine gate_dst (N := 2) rfl ?_); refine be_ 2 #[.string a0_0, .int .i64 a0_1, .int .i64 a0_2, .int .i64 a0_3] 61 ?_; intro gb284 hg w17 hbox hb; have BK284 := AM hbox; have GW284 := AM ((by rw [hg]; exact (below_size bel_) : w.heap.size ≤ gb284)); have GE284 := AM ((by rw [hg]; exact (below_size bel_) : w.heap.size ≤ gb284)); replace HB := AM (below_step bel_ hb); clear hb hbox hg) | ((with_reducible refine gate_dst (N := 3) rfl ?_); refine be_ 3 #[.string a1_0, .int .i64 a1_1, .int .i64 a1_2, .int .i64 a1_3] 61 ?_; intro gb285 hg w18 hbox hb; have BK285 := AM hbox; have GW285 := AM ((by rw [hg]; exact (below_size bel_) : w.heap.size ≤ gb285)); have GE285 := AM ((by rw [hg]; exact (below_size bel_) : w.heap.size ≤ gb285)); replace HB := AM (below_step bel_ hb); have NB284_285 := AM ((by rw [hg]; exact Nat.ne_of_lt (blk_lt (g := gb284) (o := .cells #[.string a0_0, .int .i64 a0_1, .int .i64 a0_2, .int .i64 a0_3] 61 (0, 0)) (bk_ BK284.out)) : gb284 ≠ gb285)); have NB285_284 := AM ((by rw [hg]; exact Nat.ne_of_gt (blk_lt (g := gb284) (o := .cells #[.string a0_0, .int .i64 a0_1, .int .i64 a0_2, .int .i64 a0_3] 61 (0, 0)) (bk_ BK284.out)) : gb285 ≠ gb284)); replace BK284 := AM (blk_below (g := gb284) (o := .cells #[.string a0_0, .int .i64 a0_1, .int .i64 a0_2, .int .i64 a0_3] 61 (0, 0)) (bk_ BK284.out) hb); clear hb hbox hg; have hnb19 := NB284_285.out; have hnc19 := NB285_284.out; have hcz20_0 : w18.cell? ⟨gb284, 0, none⟩ = some (.string a0_0) := (blk_cell BK284.out 0).trans rfl; have hcz20_1 : w18.cell? ⟨gb284, 1, none⟩ = some (.int .i64 a0_1) := (blk_cell BK284.out 1).trans rfl; have hcz20_2 : w18.cell? ⟨gb284, 2, none⟩ = some (.int .i64 a0_2) := (blk_cell BK284.out 2).trans rfl; have hcz20_3 : w18.cell? ⟨gb284, 3, none⟩ = some (.int .i64 a0_3) := (blk_cell BK284.out 3).trans rfl; have hfz20_0 := blk_frozen BK284.out 0; have hfz20_1 := blk_frozen BK284.out 1; have hfz20_2 := blk_frozen BK284.out 2; have hfz20_3 := blk_frozen BK284.out 3; have hcz21_0 : w18.cell? ⟨gb285, 0, none⟩ = some (.string a1_0) := (blk_cell BK285.out 0).trans rfl; have hcz21_1 : w18.cell? ⟨gb285, 1, none⟩ = some (.int .i64 a1_1) := (blk_cell BK285.out 1).trans rfl; have hcz21_2 : w18.cell? ⟨gb285, 2, none⟩ = some (.int .i64 a1_2) := (blk_cell BK285.out 2).trans rfl; have hcz21_3 : w18.cell? ⟨gb285, 3, none⟩ = some (.int .i64 a1_3) := (blk_cell BK285.out 3).trans rfl; have hfz21_0 := blk_frozen BK285.out 0; have hfz21_1 := blk_frozen BK285.out 1; have hfz21_2 := blk_frozen BK285.out 2; have hfz21_3 := blk_frozen BK285.out 3))
        go_ret
        exact ⟨ri_, bel_⟩
    · rw [if_neg c4] at H
      have c4b0 : (a0_1 == a1_1) = false := beq_eq_false_iff_ne.mpr c4
      have c4b1 : (a0_1 != a1_1) = true := bne_iff_ne.mpr c4
      obtain rfl := Option.some.inj H
      go_enter Tryd.func85, Tryd.ntmps85
      go_wp2_with (first | ((with_reducible refine gate_dst (N := 2) rfl ?_); refine be_ 2 #[.string a0_0, .int .i64 a0_1, .int .i64 a0_2, .int .i64 a0_3] 61 ?_; intro gb284 hg w22 hbox hb; have BK284 := AM hbox; have GW284 := AM ((by rw [hg]; exact (below_size bel_) : w.heap.size ≤ gb284)); have GE284 := AM ((by rw [hg]; exact (below_size bel_) : w.heap.size ≤ gb284)); replace HB := AM (below_step bel_ hb); clear hb hbox hg) | ((with_reducible refine gate_dst (N := 3) rfl ?_); refine be_ 3 #[.string a1_0, .int .i64 a1_1, .int .i64 a1_2, .int .i64 a1_3] 61 ?_; intro gb285 hg w23 hbox hb; have BK285 := AM hbox; have GW285 := AM ((by rw [hg]; exact (below_size bel_) : w.heap.size ≤ gb285)); have GE285 := AM ((by rw [hg]; exact (below_size bel_) : w.heap.size ≤ gb285)); replace HB := AM (below_step bel_ hb); have NB284_285 := AM ((by rw [hg]; exact Nat.ne_of_lt (blk_lt (g := gb284) (o := .cells #[.string a0_0, .int .i64 a0_1, .int .i64 a0_2, .int .i64 a0_3] 61 (0, 0)) (bk_ BK284.out)) : gb284 ≠ gb285)); have NB285_284 := AM ((by rw [hg]; exact Nat.ne_of_gt (blk_lt (g := gb284) (o := .cells #[.string a0_0, .int .i64 a0_1, .int .i64 a0_2, .int .i64 a0_3] 61 (0, 0)) (bk_ BK284.out)) : gb285 ≠ gb284)); replace BK284 := AM (blk_below (g := gb284) (o := .cells #[.string a0_0, .int .i64 a0_1, .int .i64 a0_2, .int .i64 a0_3] 61 (0, 0)) (bk_ BK284.out) hb); clear hb hbox hg; have hnb24 := NB284_285.out; have hnc24 := NB285_284.out; have hcz25_0 : w23.cell? ⟨gb284, 0, none⟩ = some (.string a0_0) := (blk_cell BK284.out 0).trans rfl; have hcz25_1 : w23.cell? ⟨gb284, 1, none⟩ = some (.int .i64 a0_1) := (blk_cell BK284.out 1).trans rfl; have hcz25_2 : w23.cell? ⟨gb284, 2, none⟩ = some (.int .i64 a0_2) := (blk_cell BK284.out 2).trans rfl; have hcz25_3 : w23.cell? ⟨gb284, 3, none⟩ = some (.int .i64 a0_3) := (blk_cell BK284.out 3).trans rfl; have hfz25_0 := blk_frozen BK284.out 0; have hfz25_1 := blk_frozen BK284.out 1; have hfz25_2 := blk_frozen BK284.out 2; have hfz25_3 := blk_frozen BK284.out 3; have hcz26_0 : w23.cell? ⟨gb285, 0, none⟩ = some (.string a1_0) := (blk_cell BK285.out 0).trans rfl; have hcz26_1 : w23.cell? ⟨gb285, 1, none⟩ = some (.int .i64 a1_1) := (blk_cell BK285.out 1).trans rfl; have hcz26_2 : w23.cell? ⟨gb285, 2, none⟩ = some (.int .i64 a1_2) := (blk_cell BK285.out 2).trans rfl; have hcz26_3 : w23.cell? ⟨gb285, 3, none⟩ = some (.int .i64 a1_3) := (blk_cell BK285.out 3).trans rfl; have hfz26_0 := blk_frozen BK285.out 0; have hfz26_1 := blk_frozen BK285.out 1; have hfz26_2 := blk_frozen BK285.out 2; have hfz26_3 := blk_frozen BK285.out 3))
      go_ret
      exact ⟨ri_, bel_⟩
  · rw [if_neg c3] at H
    have c3b0 : (a0_0.toList == a1_0.toList) = false := beq_eq_false_iff_ne.mpr c3
    have c3b1 : (a0_0.toList != a1_0.toList) = true := bne_iff_ne.mpr c3
    obtain rfl := Option.some.inj H
    go_enter Tryd.func85, Tryd.ntmps85
    go_wp2_with (first | ((with_reducible refine gate_dst (N := 2) rfl ?_); refine be_ 2 #[.string a0_0, .int .i64 a0_1, .int .i64 a0_2, .int .i64 a0_3] 61 ?_; intro gb284 hg w27 hbox hb; have BK284 := AM hbox; have GW284 := AM ((by rw [hg]; exact (below_size bel_) : w.heap.size ≤ gb284)); have GE284 := AM ((by rw [hg]; exact (below_size bel_) : w.heap.size ≤ gb284)); replace HB := AM (below_step bel_ hb); clear hb hbox hg) | ((with_reducible refine gate_dst (N := 3) rfl ?_); refine be_ 3 #[.string a1_0, .int .i64 a1_1, .int .i64 a1_2, .int .i64 a1_3] 61 ?_; intro gb285 hg w28 hbox hb; have BK285 := AM hbox; have GW285 := AM ((by rw [hg]; exact (below_size bel_) : w.heap.size ≤ gb285)); have GE285 := AM ((by rw [hg]; exact (below_size bel_) : w.heap.size ≤ gb285)); replace HB := AM (below_step bel_ hb); have NB284_285 := AM ((by rw [hg]; exact Nat.ne_of_lt (blk_lt (g := gb284) (o := .cells #[.string a0_0, .int .i64 a0_1, .int .i64 a0_2, .int .i64 a0_3] 61 (0, 0)) (bk_ BK284.out)) : gb284 ≠ gb285)); have NB285_284 := AM ((by rw [hg]; exact Nat.ne_of_gt (blk_lt (g := gb284) (o := .cells #[.string a0_0, .int .i64 a0_1, .int .i64 a0_2, .int .i64 a0_3] 61 (0, 0)) (bk_ BK284.out)) : gb285 ≠ gb284)); replace BK284 := AM (blk_below (g := gb284) (o := .cells #[.string a0_0, .int .i64 a0_1, .int .i64 a0_2, .int .i64 a0_3] 61 (0, 0)) (bk_ BK284.out) hb); clear hb hbox hg; have hnb29 := NB284_285.out; have hnc29 := NB285_284.out; have hcz30_0 : w28.cell? ⟨gb284, 0, none⟩ = some (.string a0_0) := (blk_cell BK284.out 0).trans rfl; have hcz30_1 : w28.cell? ⟨gb284, 1, none⟩ = some (.int .i64 a0_1) := (blk_cell BK284.out 1).trans rfl; have hcz30_2 : w28.cell? ⟨gb284, 2, none⟩ = some (.int .i64 a0_2) := (blk_cell BK284.out 2).trans rfl; have hcz30_3 : w28.cell? ⟨gb284, 3, none⟩ = some (.int .i64 a0_3) := (blk_cell BK284.out 3).trans rfl; have hfz30_0 := blk_frozen BK284.out 0; have hfz30_1 := blk_frozen BK284.out 1; have hfz30_2 := blk_frozen BK284.out 2; have hfz30_3 := blk_frozen BK284.out 3; have hcz31_0 : w28.cell? ⟨gb285, 0, none⟩ = some (.string a1_0) := (blk_cell BK285.out 0).trans rfl; have hcz31_1 : w28.cell? ⟨gb285, 1, none⟩ = some (.int .i64 a1_1) := (blk_cell BK285.out 1).trans rfl; have hcz31_2 : w28.cell? ⟨gb285, 2, none⟩ = some (.int .i64 a1_2) := (blk_cell BK285.out 2).trans rfl; have hcz31_3 : w28.cell? ⟨gb285, 3, none⟩ = some (.int .i64 a1_3) := (blk_cell BK285.out 3).trans rfl; have hfz31_0 := blk_frozen BK285.out 0; have hfz31_1 := blk_frozen BK285.out 1; have hfz31_2 := blk_frozen BK285.out 2; have hfz31_3 := blk_frozen BK285.out 3))
    go_ret
    exact ⟨ri_, bel_⟩

end Go.Proofs.YtddapeieolfolaaDoor.PFnExactPackScan
