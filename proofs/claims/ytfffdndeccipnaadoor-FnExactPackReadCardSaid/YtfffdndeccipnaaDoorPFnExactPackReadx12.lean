-- A program of this session wrote this text: a changed copy of the kit print, with given functions.
import Derived.Test.YtfffdndeccipnaaDoorPFnExactPackReadx0
import Derived.Test.YtfffdndeccipnaaDoorPFnExactPackReadx6
import Derived.Test.YtfffdndeccipnaaDoorPFnExactPackReadx7
import Derived.Test.YtfffdndeccipnaaDoorPFnExactPackReadx9
import Derived.Test.YtfffdndeccipnaaDoorPFnExactPackReadx11
namespace Go.Proofs.YtfffdndeccipnaaDoor.PFnExactPackRead
open Go.RowKit Go.Proofs.YtfffdndeccipnaaDoorW.PrintWords Go.Proofs.YtfffdndeccipnaaDoorW.PrintLast Go.Proofs.YtfffdndeccipnaaDoorW.PrintMore Go.Proofs.YtfffdndeccipnaaDoor.Aut
attribute [local go_sem] max2_int min2_int max_two min_two max_three min_three max_four min_four   -- for this text's walks alone
set_option linter.unusedVariables false
set_option linter.unusedSimpArgs false

/-! ### impl_readRecord: function 43 -/
def impl_readRecord.j0 : Nat → ByteArray → Bool → ByteArray → Int → Bool → Int → ByteArray → Option (Int × ByteArray × ByteArray × Int × Int × Int × Int × Bool)
  | 0, _, _, _, _, _, _, _ => none
  | k + 1, x10, x43, x282000, x282001, x282002, x299000, x299001 => if x43 = true then (some (0, (⟨#[]⟩ : ByteArray), (⟨#[]⟩ : ByteArray), 0, 0, 0, 0, false)) else ((impl_long.f x299001).bind fun t301 => ((impl_long.f x299001).bind fun t302 => (some (x299000, x299001, x10, x299000, wrap64 (x282001 - t301), t302, x282001, true))))
def impl_readRecord.f (k : Nat) (a0 : ByteArray) (a1 : Int) : Option (Int × ByteArray × ByteArray × Int × Int × Int × Int × Bool) := (impl_reader_take.f a0 a1 false 1).bind fun bt282 => ((impl_reader_take.f bt282.2.1 bt282.2.2.1 bt282.2.2.2 32).bind fun bt286 => ((impl_reader_num.f k bt286.2.1 bt286.2.2.1 bt286.2.2.2).bind fun bt290 => ((impl_reader_string.f k bt290.2.1 bt290.2.2.1 bt290.2.2.2).bind fun bt294 => (if bt294.2.2.2 = true then (impl_readRecord.j0 k bt286.1 true bt294.2.1 bt294.2.2.1 bt294.2.2.2 bt290.1 bt294.1) else (if bt282.1.toList = ([66] : List UInt8) then ((impl_BlobRight.f bt290.1 bt294.1).bind fun t299 => (if t299 = true then ((impl_Blob_key.f k bt290.1 bt294.1).bind fun t300 => (impl_readRecord.j0 k bt286.1 (t300.toList != bt286.1.toList) bt294.2.1 bt294.2.2.1 bt294.2.2.2 bt290.1 bt294.1)) else (impl_readRecord.j0 k bt286.1 true bt294.2.1 bt294.2.2.1 bt294.2.2.2 bt290.1 bt294.1))) else (impl_readRecord.j0 k bt286.1 true bt294.2.1 bt294.2.2.1 bt294.2.2.2 bt290.1 bt294.1))))))
theorem impl_readRecord.mono_l : ∀ k, (∀ y0 y1 y2 y3 y4 y5 y6, LeO (impl_readRecord.j0 k y0 y1 y2 y3 y4 y5 y6) (impl_readRecord.j0 (k + 1) y0 y1 y2 y3 y4 y5 y6))
  | 0 => fun _ _ _ _ _ _ _ r h => by simp [impl_readRecord.j0] at h
  | k + 1 => by
    have ih0 := impl_readRecord.mono_l k
    · intro y0 y1 y2 y3 y4 y5 y6
      unfold impl_readRecord.j0
      repeat' first
      | (with_reducible exact ih0 _ _ _ _ _ _ _)
      | (with_reducible exact impl_Blob_key.mono _ _ _)
      | (with_reducible exact impl_reader_num.mono _ _ _ _)
      | (with_reducible exact impl_reader_string.mono _ _ _ _)
      | (with_reducible exact LeO.refl _)
      | (with_reducible exact LeO.none _)
      | (with_reducible refine LeO.ite ?_ ?_)
      | (with_reducible refine LeO.bind ?_ (fun _ => ?_))
      | exact ih0 _ _ _ _ _ _ _
      | exact impl_Blob_key.mono _ _ _
      | exact impl_reader_num.mono _ _ _ _
      | exact impl_reader_string.mono _ _ _ _
      | exact LeO.none _
      | refine LeO.ite ?_ ?_
      | refine LeO.bind ?_ (fun _ => ?_)
theorem impl_readRecord.mono : ∀ a0 a1 k, LeO (impl_readRecord.f k a0 a1) (impl_readRecord.f (k + 1) a0 a1) := by
  intro a0 a1 k
  have ih0 := impl_readRecord.mono_l k
  unfold impl_readRecord.f
  repeat' first
      | (with_reducible exact ih0 _ _ _ _ _ _ _)
      | (with_reducible exact impl_Blob_key.mono _ _ _)
      | (with_reducible exact impl_reader_num.mono _ _ _ _)
      | (with_reducible exact impl_reader_string.mono _ _ _ _)
      | (with_reducible exact LeO.refl _)
      | (with_reducible exact LeO.none _)
      | (with_reducible refine LeO.ite ?_ ?_)
      | (with_reducible refine LeO.bind ?_ (fun _ => ?_))
      | exact ih0 _ _ _ _ _ _ _
      | exact impl_Blob_key.mono _ _ _
      | exact impl_reader_num.mono _ _ _ _
      | exact impl_reader_string.mono _ _ _ _
      | exact LeO.none _
      | refine LeO.ite ?_ ?_
      | refine LeO.bind ?_ (fun _ => ?_)
def impl_readRecord.T6 : Bool × List (List Nat × List Nat) := (true, [([], []), ([], []), ([], []), ([2], [2]), ([], []), ([4], [4]), ([5], [5]), ([6], [6]), ([], []), ([8], [8]), ([9], [9]), ([7, 10], [7, 10]), ([], []), ([12], [12]), ([13, 10], [13]), ([1, 3, 11, 14], [1, 3, 11, 14]), ([], []), ([16], [16]), ([17], [17]), ([18], [18]), ([0, 14, 0], [0]), ([15, 20, 0, 1, 2, 3, 4, 5, 6, 7, 8, 9, 10, 11, 12, 13, 14, 15, 20], [15]), ([19, 21, 0, 1, 2, 3, 4, 5, 6, 7, 8, 9, 10, 11, 12, 13, 14, 15, 16, 17, 18, 19, 20, 21], [19]), ([22, 0, 1, 2, 3, 4, 5, 6, 7, 8, 9, 10, 11, 12, 13, 14, 15, 16, 17, 18, 19, 20, 21, 22], [])])
def impl_readRecord.B6 : List Nat := [0, 0, 0, 4, 0, 16, 48, 112, 0, 256, 768, 2032, 0, 4096, 14080, 32766, 0, 65536, 196608, 458752, 30465, 1114111, 4194303, 8388607]
theorem impl_readRecord.tab6 : rtab .any (opsOf Tryd.f43 6) = impl_readRecord.T6 := by kernel_rfl
theorem impl_readRecord.bits6 : waitsOk impl_readRecord.T6.2 impl_readRecord.B6 = true := by kernel_rfl
set_option maxHeartbeats 8000000 in
set_option maxRecDepth 100000 in
theorem impl_readRecord.calls (k : Nat) (a0 : ByteArray) (a1 : Int) (r1 : Int) (r2 : ByteArray) (r3 : ByteArray) (r4 : Int) (r5 : Int) (r6 : Int) (r7 : Int) (r8 : Bool) (w : World) (h : impl_readRecord.f k a0 a1 = some (r1, r2, r3, r4, r5, r6, r7, r8)) (hL : Hand.LaidG w := by first | exact hL | exact Hand.LaidG.below hL bel_) :
    Calls Tryd.prog 43 #[.string a0, .int .i64 a1] w fun e w' => e = .returned (.tuple #[.agg #[.int .i64 r1, .string r2], .agg #[.string r3, .int .i64 r4, .int .i64 r5, .int .i64 r6], .int .i64 r7, .bool r8]) ∧ Below w.heap.size w w' := by
  have hu60 := Tryd.underlying60
  have hu58 := Tryd.underlying58
  have hu107 := Tryd.underlying107
  have HB := AM (Below.refl w.heap.size w)
  have H : ((impl_reader_take.f a0 a1 false 1).bind fun bt282 => ((impl_reader_take.f bt282.2.1 bt282.2.2.1 bt282.2.2.2 32).bind fun bt286 => ((impl_reader_num.f k bt286.2.1 bt286.2.2.1 bt286.2.2.2).bind fun bt290 => ((impl_reader_string.f k bt290.2.1 bt290.2.2.1 bt290.2.2.2).bind fun bt294 => (if bt294.2.2.2 = true then (impl_readRecord.j0 k bt286.1 true bt294.2.1 bt294.2.2.1 bt294.2.2.2 bt290.1 bt294.1) else (if bt282.1.toList = ([66] : List UInt8) then ((impl_BlobRight.f bt290.1 bt294.1).bind fun t299 => (if t299 = true then ((impl_Blob_key.f k bt290.1 bt294.1).bind fun t300 => (impl_readRecord.j0 k bt286.1 (t300.toList != bt286.1.toList) bt294.2.1 bt294.2.2.1 bt294.2.2.2 bt290.1 bt294.1)) else (impl_readRecord.j0 k bt286.1 true bt294.2.1 bt294.2.2.1 bt294.2.2.2 bt290.1 bt294.1))) else (impl_readRecord.j0 k bt286.1 true bt294.2.1 bt294.2.2.1 bt294.2.2.2 bt290.1 bt294.1))))))) = some (r1, r2, r3, r4, r5, r6, r7, r8) := h
  clear h
  obtain ⟨⟨t282, t283, t284, t285⟩, A3, H⟩ := OB H
  try dsimp only at H
  replace A3 := AM A3
  obtain ⟨⟨t286, t287, t288, t289⟩, A4, H⟩ := OB H
  try dsimp only at H
  replace A4 := AM A4
  obtain ⟨⟨t290, t291, t292, t293⟩, A5, H⟩ := OB H
  try dsimp only at H
  replace A5 := AM A5
  obtain ⟨⟨t294, t295, t296, t297⟩, A6, H⟩ := OB H
  try dsimp only at H
  replace A6 := AM A6
  have HC7 := AM H
  clear H
  go_enter Tryd.func43, Tryd.ntmps43
  go_upto_region 4 with (first | ((with_reducible refine gate_dst (N := 4) rfl ?_); refine be_ 4 #[.int .i64 0, .string (⟨#[]⟩ : ByteArray)] 60 ?_; intro gb279 hg w8 hbox hb; have BK279 := AM hbox; have GW279 := AM ((by rw [hg]; exact (below_size bel_) : w.heap.size ≤ gb279)); have GE279 := AM ((by rw [hg]; exact (below_size bel_) : w.heap.size ≤ gb279)); replace HB := AM (below_step bel_ hb); clear hb hbox hg) | ((with_reducible refine gate_dst (N := 5) rfl ?_); refine be_ 5 #[.string (⟨#[]⟩ : ByteArray), .int .i64 0, .int .i64 0, .int .i64 0] 58 ?_; intro gb280 hg w9 hbox hb; have BK280 := AM hbox; have GW280 := AM ((by rw [hg]; exact (below_size bel_) : w.heap.size ≤ gb280)); have GE280 := AM ((by rw [hg]; exact (below_size bel_) : w.heap.size ≤ gb280)); replace HB := AM (below_step bel_ hb); have NB279_280 := AM ((by rw [hg]; exact Nat.ne_of_lt (blk_lt (g := gb279) (o := .cells #[.int .i64 0, .string (⟨#[]⟩ : ByteArray)] 60 (0, 0)) (bk_ BK279.out)) : gb279 ≠ gb280)); have NB280_279 := AM ((by rw [hg]; exact Nat.ne_of_gt (blk_lt (g := gb279) (o := .cells #[.int .i64 0, .string (⟨#[]⟩ : ByteArray)] 60 (0, 0)) (bk_ BK279.out)) : gb280 ≠ gb279)); replace BK279 := AM (blk_below (g := gb279) (o := .cells #[.int .i64 0, .string (⟨#[]⟩ : ByteArray)] 60 (0, 0)) (bk_ BK279.out) hb); clear hb hbox hg) | ((with_reducible refine gate_dst (N := 15) rfl ?_); refine be_ 15 #[.string a0, .int .i64 a1, .bool false] 107 ?_; intro gb281 hg w10 hbox hb; have NB279_281 := AM ((by rw [hg]; exact Nat.ne_of_lt (blk_lt (g := gb279) (o := .cells #[.int .i64 0, .string (⟨#[]⟩ : ByteArray)] 60 (0, 0)) (bk_ BK279.out)) : gb279 ≠ gb281)); have NB281_279 := AM ((by rw [hg]; exact Nat.ne_of_gt (blk_lt (g := gb279) (o := .cells #[.int .i64 0, .string (⟨#[]⟩ : ByteArray)] 60 (0, 0)) (bk_ BK279.out)) : gb281 ≠ gb279)); replace BK279 := AM (blk_below (g := gb279) (o := .cells #[.int .i64 0, .string (⟨#[]⟩ : ByteArray)] 60 (0, 0)) (bk_ BK279.out) hb); have NB280_281 := AM ((by rw [hg]; exact Nat.ne_of_lt (blk_lt (g := gb280) (o := .cells #[.string (⟨#[]⟩ : ByteArray), .int .i64 0, .int .i64 0, .int .i64 0] 58 (0, 0)) (bk_ BK280.out)) : gb280 ≠ gb281)); have NB281_280 := AM ((by rw [hg]; exact Nat.ne_of_gt (blk_lt (g := gb280) (o := .cells #[.string (⟨#[]⟩ : ByteArray), .int .i64 0, .int .i64 0, .int .i64 0] 58 (0, 0)) (bk_ BK280.out)) : gb281 ≠ gb280)); replace BK280 := AM (blk_below (g := gb280) (o := .cells #[.string (⟨#[]⟩ : ByteArray), .int .i64 0, .int .i64 0, .int .i64 0] 58 (0, 0)) (bk_ BK280.out) hb); have HI281 := AM ((⟨hbox, (by rw [hg]; exact (below_size bel_) : w.heap.size ≤ gb281)⟩ : IsS107 w w10 gb281 a0 a1 false)); replace HB := AM (below_step bel_ hb); clear hb hbox hg) | ((with_reducible refine gate_callee (f := 84) rfl ?_); refine gl_ (some 17) Tryd.func84 #[.pointer (some ⟨gb281, 0, none⟩), .int .i64 1] ?_; (with_reducible refine (impl_reader_take.calls gb281 a0 a1 false 1 t282 t283 t284 t285 w _ ?side1 ?side2 A3.out).mono ?_); (case side1 => repeat (first | (with_reducible first | exact HI281.out | apply IsS107.alloc | apply IsS107.drewN | apply IsS107.drew | apply IsS107.set_0 | apply IsS107.set_1 | apply IsS107.set_2 | refine IsS107.far ?_ NB281_279.out _ | refine IsS107.far ?_ NB281_280.out _) | exact HI281.out)); (case side2 => repeat (first | (with_reducible first | exact HB.out | apply below_alloc | apply pw_below_drewN | apply below_drew1 | refine below_set ?_ (IsS107.ge HI281.out) | refine below_set ?_ GE279.out | refine below_set ?_ GE280.out) | exact HB.out)); rintro e w11 ⟨rfl, hi, hb, hk⟩; refine ⟨_, rfl, ?_⟩; replace BK279 := AM (KeepBut.blk hk (g' := gb279) (o := .cells #[.int .i64 0, .string (⟨#[]⟩ : ByteArray)] 60 (0, 0)) (bk_ BK279.out) NB279_281.out (by simp)); replace BK280 := AM (KeepBut.blk hk (g' := gb280) (o := .cells #[.string (⟨#[]⟩ : ByteArray), .int .i64 0, .int .i64 0, .int .i64 0] 58 (0, 0)) (bk_ BK280.out) NB280_281.out (by simp)); replace HB := AM hb; replace HI281 := AM hi; (try clear hb); (try clear hb2); (try clear hk); (try clear hi)) | ((with_reducible refine gate_callee (f := 84) rfl ?_); refine gl_ (some 19) Tryd.func84 #[.pointer (some ⟨gb281, 0, none⟩), .int .i64 32] ?_; (with_reducible refine (impl_reader_take.calls gb281 t283 t284 t285 32 t286 t287 t288 t289 w _ ?side1 ?side2 A4.out).mono ?_); (case side1 => repeat (first | (with_reducible first | exact HI281.out | apply IsS107.alloc | apply IsS107.drewN | apply IsS107.drew | apply IsS107.set_0 | apply IsS107.set_1 | apply IsS107.set_2 | refine IsS107.far ?_ NB281_279.out _ | refine IsS107.far ?_ NB281_280.out _) | exact HI281.out)); (case side2 => repeat (first | (with_reducible first | exact HB.out | apply below_alloc | apply pw_below_drewN | apply below_drew1 | refine below_set ?_ (IsS107.ge HI281.out) | refine below_set ?_ GE279.out | refine below_set ?_ GE280.out) | exact HB.out)); rintro e w12 ⟨rfl, hi, hb, hk⟩; refine ⟨_, rfl, ?_⟩; replace BK279 := AM (KeepBut.blk hk (g' := gb279) (o := .cells #[.int .i64 0, .string (⟨#[]⟩ : ByteArray)] 60 (0, 0)) (bk_ BK279.out) NB279_281.out (by simp)); replace BK280 := AM (KeepBut.blk hk (g' := gb280) (o := .cells #[.string (⟨#[]⟩ : ByteArray), .int .i64 0, .int .i64 0, .int .i64 0] 58 (0, 0)) (bk_ BK280.out) NB280_281.out (by simp)); replace HB := AM hb; replace HI281 := AM hi; (try clear hb); (try clear hb2); (try clear hk); (try clear hi)) | ((with_reducible refine gate_callee (f := 85) rfl ?_); refine gl_ (some 21) Tryd.func85 #[.pointer (some ⟨gb281, 0, none⟩)] ?_; (with_reducible refine (impl_reader_num.calls k gb281 t287 t288 t289 t290 t291 t292 t293 w _ ?side1 ?side2 A5.out).mono ?_); (case side1 => repeat (first | (with_reducible first | exact HI281.out | apply IsS107.alloc | apply IsS107.drewN | apply IsS107.drew | apply IsS107.set_0 | apply IsS107.set_1 | apply IsS107.set_2 | refine IsS107.far ?_ NB281_279.out _ | refine IsS107.far ?_ NB281_280.out _) | exact HI281.out)); (case side2 => repeat (first | (with_reducible first | exact HB.out | apply below_alloc | apply pw_below_drewN | apply below_drew1 | refine below_set ?_ (IsS107.ge HI281.out) | refine below_set ?_ GE279.out | refine below_set ?_ GE280.out) | exact HB.out)); rintro e w13 ⟨rfl, hi, hb, hk⟩; refine ⟨_, rfl, ?_⟩; replace BK279 := AM (KeepBut.blk hk (g' := gb279) (o := .cells #[.int .i64 0, .string (⟨#[]⟩ : ByteArray)] 60 (0, 0)) (bk_ BK279.out) NB279_281.out (by simp)); replace BK280 := AM (KeepBut.blk hk (g' := gb280) (o := .cells #[.string (⟨#[]⟩ : ByteArray), .int .i64 0, .int .i64 0, .int .i64 0] 58 (0, 0)) (bk_ BK280.out) NB280_281.out (by simp)); replace HB := AM hb; replace HI281 := AM hi; (try clear hb); (try clear hb2); (try clear hk); (try clear hi)) | ((with_reducible refine gate_callee (f := 86) rfl ?_); refine gl_ (some 23) Tryd.func86 #[.pointer (some ⟨gb281, 0, none⟩)] ?_; (with_reducible refine (impl_reader_string.calls k gb281 t291 t292 t293 t294 t295 t296 t297 w _ ?side1 ?side2 A6.out).mono ?_); (case side1 => repeat (first | (with_reducible first | exact HI281.out | apply IsS107.alloc | apply IsS107.drewN | apply IsS107.drew | apply IsS107.set_0 | apply IsS107.set_1 | apply IsS107.set_2 | refine IsS107.far ?_ NB281_279.out _ | refine IsS107.far ?_ NB281_280.out _) | exact HI281.out)); (case side2 => repeat (first | (with_reducible first | exact HB.out | apply below_alloc | apply pw_below_drewN | apply below_drew1 | refine below_set ?_ (IsS107.ge HI281.out) | refine below_set ?_ GE279.out | refine below_set ?_ GE280.out) | exact HB.out)); rintro e w14 ⟨rfl, hi, hb, hk⟩; refine ⟨_, rfl, ?_⟩; replace BK279 := AM (KeepBut.blk hk (g' := gb279) (o := .cells #[.int .i64 0, .string (⟨#[]⟩ : ByteArray)] 60 (0, 0)) (bk_ BK279.out) NB279_281.out (by simp)); replace BK280 := AM (KeepBut.blk hk (g' := gb280) (o := .cells #[.string (⟨#[]⟩ : ByteArray), .int .i64 0, .int .i64 0, .int .i64 0] 58 (0, 0)) (bk_ BK280.out) NB280_281.out (by simp)); replace HB := AM hb; replace HI281 := AM hi; (try clear hb); (try clear hb2); (try clear hk); (try clear hi)) | ((with_reducible refine gate_dst (N := 11) rfl ?_); refine be_ 11 #[.int .i64 0, .string (⟨#[]⟩ : ByteArray)] 60 ?_; intro gb298 hg w15 hbox hb; have BK298 := AM hbox; have GW298 := AM ((by rw [hg]; exact (below_size (belg_ (IsS107.ge HI281.out))) : w.heap.size ≤ gb298)); have GE298 := AM ((by rw [hg]; exact (below_size (belg_ (IsS107.ge HI281.out))) : w.heap.size ≤ gb298)); replace HB := AM (below_step (belg_ (IsS107.ge HI281.out)) hb); have NB279_298 := AM ((by rw [hg]; exact Nat.ne_of_lt (blk_lt (g := gb279) (o := .cells #[.int .i64 0, .string (⟨#[]⟩ : ByteArray)] 60 (0, 0)) (bk_ BK279.out)) : gb279 ≠ gb298)); have NB298_279 := AM ((by rw [hg]; exact Nat.ne_of_gt (blk_lt (g := gb279) (o := .cells #[.int .i64 0, .string (⟨#[]⟩ : ByteArray)] 60 (0, 0)) (bk_ BK279.out)) : gb298 ≠ gb279)); replace BK279 := AM (blk_below (g := gb279) (o := .cells #[.int .i64 0, .string (⟨#[]⟩ : ByteArray)] 60 (0, 0)) (bk_ BK279.out) hb); have NB280_298 := AM ((by rw [hg]; exact Nat.ne_of_lt (blk_lt (g := gb280) (o := .cells #[.string (⟨#[]⟩ : ByteArray), .int .i64 0, .int .i64 0, .int .i64 0] 58 (0, 0)) (bk_ BK280.out)) : gb280 ≠ gb298)); have NB298_280 := AM ((by rw [hg]; exact Nat.ne_of_gt (blk_lt (g := gb280) (o := .cells #[.string (⟨#[]⟩ : ByteArray), .int .i64 0, .int .i64 0, .int .i64 0] 58 (0, 0)) (bk_ BK280.out)) : gb298 ≠ gb280)); replace BK280 := AM (blk_below (g := gb280) (o := .cells #[.string (⟨#[]⟩ : ByteArray), .int .i64 0, .int .i64 0, .int .i64 0] 58 (0, 0)) (bk_ BK280.out) hb); have NB281_298 := AM ((by rw [hg]; exact Nat.ne_of_lt (IsS107.lt (show IsS107 w _ gb281 t295 t296 t297 from is107_)) : gb281 ≠ gb298)); have NB298_281 := AM ((by rw [hg]; exact Nat.ne_of_gt (IsS107.lt (show IsS107 w _ gb281 t295 t296 t297 from is107_)) : gb298 ≠ gb281)); replace HI281 := AM (IsS107.below is107_ hb); clear hb hbox hg; have hnb16 := NB298_279.out; have hnc16 := NB279_298.out; have hnb17 := NB298_280.out; have hnc17 := NB280_298.out; have hnb18 := NB298_281.out; have hnc18 := NB281_298.out; have hcz19_0 : w15.cell? ⟨gb298, 0, none⟩ = some (.int .i64 0) := (blk_cell BK298.out 0).trans rfl; have hcz19_1 : w15.cell? ⟨gb298, 1, none⟩ = some (.string (⟨#[]⟩ : ByteArray)) := (blk_cell BK298.out 1).trans rfl; have hfz19_0 := blk_frozen BK298.out 0; have hfz19_1 := blk_frozen BK298.out 1))
  (try simp only [Act.put, List.setIfInBounds_toArray, List.set_cons_zero, List.set_cons_succ])
  go_cut [43] (fun v43 wc => ∃ (kq : Nat) (x43_6 : Bool), v43 = .bool x43_6 ∧ Aside0 (impl_readRecord.j0 kq t286 x43_6 t295 t296 t297 t290 t294 = some (r1, r2, r3, r4, r5, r6, r7, r8)) ∧ Aside0 (kq ≤ k) ∧ Aside0 (wc.heap[gb279]? = some (.cells #[.int .i64 0, .string (⟨#[]⟩ : ByteArray)] 60 (0, 0))) ∧ Aside0 (wc.heap[gb280]? = some (.cells #[.string (⟨#[]⟩ : ByteArray), .int .i64 0, .int .i64 0, .int .i64 0] 58 (0, 0))) ∧ Aside0 (wc.heap[gb298]? = some (.cells #[.int .i64 t290, .string t294] 60 (0, 0))) ∧ Aside0 (IsS107 w wc gb281 t295 t296 t297) ∧ Aside0 (Below w.heap.size w wc))
  case first =>
    have H := HC7.out
    clear HC7
    by_cases c20 : t297 = true
    · subst c20
      rw [if_pos rfl] at H
      have H' := AM H
      clear H
      obtain ⟨HGz21, hgz21⟩ := HI281.out
      have hcz21_0 := cellS107_0 HGz21
      have hcz21_1 := cellS107_1 HGz21
      have hcz21_2 := cellS107_2 HGz21
      have hfz21_0 := blk_frozen HGz21 0
      have hfz21_1 := blk_frozen HGz21 1
      have hfz21_2 := blk_frozen HGz21 2
      clear HGz21 hgz21
      go_wp2
      go_meet
      case rel => exact ⟨_, (true), (by first | rfl | (simp; done) | (simp [*]; done)), H', ⟨by first | omega | exact Nat.le_refl _⟩, ⟨bka_⟩, ⟨bka_⟩, ⟨bka_⟩, ⟨is107_⟩, ⟨belg_ (IsS107.ge HI281.out)⟩⟩
    · replace c20 := Bool.eq_false_iff.mpr c20
      subst c20
      rw [if_neg (show ¬ (false = true) by decide)] at H
      by_cases c22 : t282.toList = ([66] : List UInt8)
      · rw [if_pos c22] at H
        have c22b0 : (t282.toList == ([66] : List UInt8)) = true := beq_iff_eq.mpr c22
        have c22b1 : (t282.toList != ([66] : List UInt8)) = false := bne_eq_false_iff_eq.mpr c22
        clear c22
        (first | rw [c22b0] | (simp only [i64_w, i32_w]; rw [c22b0]) | skip)
        obtain ⟨t299, A23, H⟩ := OB H
        try dsimp only at H
        replace A23 := AM A23
        by_cases c24 : t299 = true
        · subst c24
          rw [if_pos rfl] at H
          obtain ⟨t300, A25, H⟩ := OB H
          try dsimp only at H
          replace A25 := AM A25
          have H' := AM H
          clear H
          obtain ⟨HGz26, hgz26⟩ := HI281.out
          have hcz26_0 := cellS107_0 HGz26
          have hcz26_1 := cellS107_1 HGz26
          have hcz26_2 := cellS107_2 HGz26
          have hfz26_0 := blk_frozen HGz26 0
          have hfz26_1 := blk_frozen HGz26 1
          have hfz26_2 := blk_frozen HGz26 2
          clear HGz26 hgz26
          have hnb27 := NB298_279.out
          have hnc27 := NB279_298.out
          have hnb28 := NB298_280.out
          have hnc28 := NB280_298.out
          have hnb29 := NB298_281.out
          have hnc29 := NB281_298.out
          have hcz30_0 : w15.cell? ⟨gb298, 0, none⟩ = some (.int .i64 0) := (blk_cell BK298.out 0).trans rfl
          have hcz30_1 : w15.cell? ⟨gb298, 1, none⟩ = some (.string (⟨#[]⟩ : ByteArray)) := (blk_cell BK298.out 1).trans rfl
          have hfz30_0 := blk_frozen BK298.out 0
          have hfz30_1 := blk_frozen BK298.out 1
          go_wp2_with (first | (go_at_call 87; (with_reducible refine (impl_BlobRight.calls t290 t294 true _ A23.out).mono ?_); rintro e w31 ⟨rfl, hb⟩; have n0_ := AM (blk_below (g := gb279) (o := .cells #[.int .i64 0, .string (⟨#[]⟩ : ByteArray)] 60 (0, 0)) bka_ hb); have n1_ := AM (blk_below (g := gb280) (o := .cells #[.string (⟨#[]⟩ : ByteArray), .int .i64 0, .int .i64 0, .int .i64 0] 58 (0, 0)) bka_ hb); have n2_ := AM (IsS107.below (show IsS107 w ((w15.setCell ⟨gb298, 0, none⟩ (.int .i64 t290)).setCell ⟨gb298, 1, none⟩ (.string t294)) gb281 t295 t296 false from is107_) hb); have n3_ := AM (blk_below (g := gb298) (o := .cells #[.int .i64 t290, .string t294] 60 (0, 0)) bka_ hb); have n4_ := AM (below_step (belg_ (IsS107.ge HI281.out)) hb); clear BK279; clear BK280; clear HI281; clear BK298; clear HB; have BK279 := n0_; have BK280 := n1_; have HI281 := n2_; have BK298 := n3_; have HB := n4_; clear n0_ n1_ n2_ n3_ n4_; (try clear hb); (try clear hb2); (try clear hk); (try clear hi); have hcz32_0 : w31.cell? ⟨gb298, 0, none⟩ = some (.int .i64 t290) := (blk_cell BK298.out 0).trans rfl; have hcz32_1 : w31.cell? ⟨gb298, 1, none⟩ = some (.string t294) := (blk_cell BK298.out 1).trans rfl; have hfz32_0 := blk_frozen BK298.out 0; have hfz32_1 := blk_frozen BK298.out 1) | (go_at_call 88; (with_reducible refine (impl_Blob_key.calls k t290 t294 t300 _ A25.out).mono ?_); rintro e w33 ⟨rfl, hb⟩; replace BK279 := AM (blk_below (g := gb279) (o := .cells #[.int .i64 0, .string (⟨#[]⟩ : ByteArray)] 60 (0, 0)) (bk_ BK279.out) hb); replace BK280 := AM (blk_below (g := gb280) (o := .cells #[.string (⟨#[]⟩ : ByteArray), .int .i64 0, .int .i64 0, .int .i64 0] 58 (0, 0)) (bk_ BK280.out) hb); replace BK298 := AM (blk_below (g := gb298) (o := .cells #[.int .i64 t290, .string t294] 60 (0, 0)) (bk_ BK298.out) hb); replace HB := AM (below_step (belg_ (IsS107.ge HI281.out)) hb); replace HI281 := AM (IsS107.below is107_ hb); (try clear hb); (try clear hb2); (try clear hk); (try clear hi)))
          go_meet
          case rel => exact ⟨_, ((t300.toList != t286.toList)), (by first | rfl | (simp; done) | (simp [*]; done)), H', ⟨by first | omega | exact Nat.le_refl _⟩, ⟨bk_ BK279.out⟩, ⟨bk_ BK280.out⟩, ⟨bk_ BK298.out⟩, ⟨is107_⟩, ⟨belg_ (IsS107.ge HI281.out)⟩⟩
        · replace c24 := Bool.eq_false_iff.mpr c24
          subst c24
          rw [if_neg (show ¬ (false = true) by decide)] at H
          have H' := AM H
          clear H
          obtain ⟨HGz34, hgz34⟩ := HI281.out
          have hcz34_0 := cellS107_0 HGz34
          have hcz34_1 := cellS107_1 HGz34
          have hcz34_2 := cellS107_2 HGz34
          have hfz34_0 := blk_frozen HGz34 0
          have hfz34_1 := blk_frozen HGz34 1
          have hfz34_2 := blk_frozen HGz34 2
          clear HGz34 hgz34
          have hnb35 := NB298_279.out
          have hnc35 := NB279_298.out
          have hnb36 := NB298_280.out
          have hnc36 := NB280_298.out
          have hnb37 := NB298_281.out
          have hnc37 := NB281_298.out
          have hcz38_0 : w15.cell? ⟨gb298, 0, none⟩ = some (.int .i64 0) := (blk_cell BK298.out 0).trans rfl
          have hcz38_1 : w15.cell? ⟨gb298, 1, none⟩ = some (.string (⟨#[]⟩ : ByteArray)) := (blk_cell BK298.out 1).trans rfl
          have hfz38_0 := blk_frozen BK298.out 0
          have hfz38_1 := blk_frozen BK298.out 1
          go_wp2_with (first | (go_at_call 87; (with_reducible refine (impl_BlobRight.calls t290 t294 false _ A23.out).mono ?_); rintro e w39 ⟨rfl, hb⟩; have n0_ := AM (blk_below (g := gb279) (o := .cells #[.int .i64 0, .string (⟨#[]⟩ : ByteArray)] 60 (0, 0)) bka_ hb); have n1_ := AM (blk_below (g := gb280) (o := .cells #[.string (⟨#[]⟩ : ByteArray), .int .i64 0, .int .i64 0, .int .i64 0] 58 (0, 0)) bka_ hb); have n2_ := AM (IsS107.below (show IsS107 w ((w15.setCell ⟨gb298, 0, none⟩ (.int .i64 t290)).setCell ⟨gb298, 1, none⟩ (.string t294)) gb281 t295 t296 false from is107_) hb); have n3_ := AM (blk_below (g := gb298) (o := .cells #[.int .i64 t290, .string t294] 60 (0, 0)) bka_ hb); have n4_ := AM (below_step (belg_ (IsS107.ge HI281.out)) hb); clear BK279; clear BK280; clear HI281; clear BK298; clear HB; have BK279 := n0_; have BK280 := n1_; have HI281 := n2_; have BK298 := n3_; have HB := n4_; clear n0_ n1_ n2_ n3_ n4_; (try clear hb); (try clear hb2); (try clear hk); (try clear hi)))
          go_meet
          case rel => exact ⟨_, (true), (by first | rfl | (simp; done) | (simp [*]; done)), H', ⟨by first | omega | exact Nat.le_refl _⟩, ⟨bk_ BK279.out⟩, ⟨bk_ BK280.out⟩, ⟨bk_ BK298.out⟩, ⟨is107_⟩, ⟨belg_ (IsS107.ge HI281.out)⟩⟩
      · rw [if_neg c22] at H
        have c22b0 : (t282.toList == ([66] : List UInt8)) = false := beq_eq_false_iff_ne.mpr c22
        have c22b1 : (t282.toList != ([66] : List UInt8)) = true := bne_iff_ne.mpr c22
        (first | rw [c22b0] | (simp only [i64_w, i32_w]; rw [c22b0]) | skip)
        have H' := AM H
        clear H
        obtain ⟨HGz40, hgz40⟩ := HI281.out
        have hcz40_0 := cellS107_0 HGz40
        have hcz40_1 := cellS107_1 HGz40
        have hcz40_2 := cellS107_2 HGz40
        have hfz40_0 := blk_frozen HGz40 0
        have hfz40_1 := blk_frozen HGz40 1
        have hfz40_2 := blk_frozen HGz40 2
        clear HGz40 hgz40
        go_wp2
        go_meet
        case rel => exact ⟨_, (true), (by first | rfl | (simp; done) | (simp [*]; done)), H', ⟨by first | omega | exact Nat.le_refl _⟩, ⟨bka_⟩, ⟨bka_⟩, ⟨bka_⟩, ⟨is107_⟩, ⟨belg_ (IsS107.ge HI281.out)⟩⟩
  case rest =>
    clear HC7
    try clear c1
    try clear c2
    try clear p2
    try clear c3
    try clear c4
    try clear c8
    try clear c16
    try clear c17
    try clear c18
    try clear c20
    try clear c22
    try clear c22b0
    try clear c22b1
    try clear c24
    try clear c27
    try clear c28
    try clear c29
    try clear c35
    try clear c36
    try clear c37
    try clear hcz19_0
    try clear hcz19_1
    try clear hcz21_0
    try clear hcz21_1
    try clear hcz21_2
    try clear hcz26_0
    try clear hcz26_1
    try clear hcz26_2
    try clear hcz30_0
    try clear hcz30_1
    try clear hcz32_0
    try clear hcz32_1
    try clear hcz34_0
    try clear hcz34_1
    try clear hcz34_2
    try clear hcz38_0
    try clear hcz38_1
    try clear hcz40_0
    try clear hcz40_1
    try clear hcz40_2
    try clear hfz19_0
    try clear hfz19_1
    try clear hfz21_0
    try clear hfz21_1
    try clear hfz21_2
    try clear hfz26_0
    try clear hfz26_1
    try clear hfz26_2
    try clear hfz30_0
    try clear hfz30_1
    try clear hfz32_0
    try clear hfz32_1
    try clear hfz34_0
    try clear hfz34_1
    try clear hfz34_2
    try clear hfz38_0
    try clear hfz38_1
    try clear hfz40_0
    try clear hfz40_1
    try clear hfz40_2
    obtain ⟨kq, x43_6, rfl, HA, HJ6, BK279, BK280, BK298, HI281, HB⟩ := hcut
    cases kq with
    | zero => exact absurd HA.out (by simp [impl_readRecord.j0])
    | succ kj6 =>
      have H := HA.out
      clear HA
      simp only [impl_readRecord.j0] at H
      by_cases c41 : x43_6 = true
      · subst c41
        rw [if_pos rfl] at H
        simp only [Option.some.injEq, Prod.mk.injEq] at H
        obtain ⟨rfl, rfl, rfl, rfl, rfl, rfl, rfl, rfl⟩ := H
        have hnb42 := NB279_280.out
        have hnc42 := NB280_279.out
        have hnb43 := NB279_298.out
        have hnc43 := NB298_279.out
        have hnb44 := NB279_281.out
        have hnc44 := NB281_279.out
        have hcz45_0 : wc.cell? ⟨gb279, 0, none⟩ = some (.int .i64 0) := (blk_cell BK279.out 0).trans rfl
        have hcz45_1 : wc.cell? ⟨gb279, 1, none⟩ = some (.string (⟨#[]⟩ : ByteArray)) := (blk_cell BK279.out 1).trans rfl
        have hfz45_0 := blk_frozen BK279.out 0
        have hfz45_1 := blk_frozen BK279.out 1
        have hnb46 := NB280_298.out
        have hnc46 := NB298_280.out
        have hnb47 := NB280_281.out
        have hnc47 := NB281_280.out
        have hcz48_0 : wc.cell? ⟨gb280, 0, none⟩ = some (.string (⟨#[]⟩ : ByteArray)) := (blk_cell BK280.out 0).trans rfl
        have hcz48_1 : wc.cell? ⟨gb280, 1, none⟩ = some (.int .i64 0) := (blk_cell BK280.out 1).trans rfl
        have hcz48_2 : wc.cell? ⟨gb280, 2, none⟩ = some (.int .i64 0) := (blk_cell BK280.out 2).trans rfl
        have hcz48_3 : wc.cell? ⟨gb280, 3, none⟩ = some (.int .i64 0) := (blk_cell BK280.out 3).trans rfl
        have hfz48_0 := blk_frozen BK280.out 0
        have hfz48_1 := blk_frozen BK280.out 1
        have hfz48_2 := blk_frozen BK280.out 2
        have hfz48_3 := blk_frozen BK280.out 3
        go_wp2
        refine bodyPost_ret (results_list (rs := [.cell 4 60, .cell 5 58, .tmp 6, .tmp 7]) rfl (by simp) (.cell gb279 60 #[.int .i64 0, .string (⟨#[]⟩ : ByteArray)] (0, 0) _ rfl bka_ Tryd.underlying60 rfl (by kernel_rfl) (.cell gb280 58 #[.string (⟨#[]⟩ : ByteArray), .int .i64 0, .int .i64 0, .int .i64 0] (0, 0) _ rfl bka_ Tryd.underlying58 rfl (by kernel_rfl) (.tmp (.tmp .nil))))) rfl ?_
        exact ⟨ri_, belg_ (IsS107.ge HI281.out)⟩
      · replace c41 := Bool.eq_false_iff.mpr c41
        subst c41
        rw [if_neg (show ¬ (false = true) by decide)] at H
        obtain ⟨t301, A49, H⟩ := OB H
        try dsimp only at H
        replace A49 := AM A49
        obtain ⟨t302, A50, H⟩ := OB H
        try dsimp only at H
        replace A50 := AM A50
        simp only [Option.some.injEq, Prod.mk.injEq] at H
        obtain ⟨rfl, rfl, rfl, rfl, rfl, rfl, rfl, rfl⟩ := H
        try go_wp2
        replace BK279 := AM (blk_drew BK279.out)
        replace BK280 := AM (blk_drew BK280.out)
        replace BK298 := AM (blk_drew BK298.out)
        replace HI281 := AM (IsS107.drew HI281.out)
        replace HB := AM (below_drew1 HB.out)
        refine start_ (n := 24) (S := fun w' => w'.cell? ⟨gb298, 0, none⟩ = some (.int .i64 t290) ∧ w'.cell? ⟨gb298, 1, none⟩ = some (.string t294) ∧ w'.cell? ⟨gb281, 0, none⟩ = some (.string t295) ∧ w'.cell? ⟨gb281, 1, none⟩ = some (.int .i64 t296) ∧ w'.cell? ⟨gb281, 2, none⟩ = some (.bool t297)) (ds := []) #[false, false, false, false, false, false, false, false, false, false, false, false, false, false, false, false, false, false, false, false, false, false, false, false] (by kernel_rfl) rfl rfl ⟨(blk_cell BK298.out 0).trans rfl, (blk_cell BK298.out 1).trans rfl, (cellS107_0 HI281.out.1), (cellS107_1 HI281.out.1), (cellS107_2 HI281.out.1)⟩ (fun hHeld => ?_); refine with_tabW impl_readRecord.tab6 impl_readRecord.bits6 (fun HT_ HW_ => ?_)
        generalize wc.drew = w51 at BK279 BK280 BK298 HI281 HB hHeld ⊢
        refine pu_ HT_ 1 (some 47) #[false, true, false, false, false, false, false, false, false, false, false, false, false, false, false, false, false, false, false, false, false, false, false, false] ?_
        refine pu_ HT_ 2 (some 48) #[false, true, true, false, false, false, false, false, false, false, false, false, false, false, false, false, false, false, false, false, false, false, false, false] ?_
        refine pu_ HT_ 4 (some 50) #[false, true, true, false, true, false, false, false, false, false, false, false, false, false, false, false, false, false, false, false, false, false, false, false] ?_
        refine pu_ HT_ 5 (some 51) #[false, true, true, false, true, true, false, false, false, false, false, false, false, false, false, false, false, false, false, false, false, false, false, false] ?_
        refine pu_ HT_ 6 (some 52) #[false, true, true, false, true, true, true, false, false, false, false, false, false, false, false, false, false, false, false, false, false, false, false, false] ?_
        refine pu_ HT_ 8 (some 54) #[false, true, true, false, true, true, true, false, true, false, false, false, false, false, false, false, false, false, false, false, false, false, false, false] ?_
        refine pu_ HT_ 12 (some 58) #[false, true, true, false, true, true, true, false, true, false, false, false, true, false, false, false, false, false, false, false, false, false, false, false] ?_
        refine pu_ HT_ 16 (some 62) #[false, true, true, false, true, true, true, false, true, false, false, false, true, false, false, false, true, false, false, false, false, false, false, false] ?_
        refine pu_ HT_ 17 (some 63) #[false, true, true, false, true, true, true, false, true, false, false, false, true, false, false, false, true, true, false, false, false, false, false, false] ?_
        refine pu_ HT_ 18 (some 64) #[false, true, true, false, true, true, true, false, true, false, false, false, true, false, false, false, true, true, true, false, false, false, false, false] ?_
        refine ta_ HT_ HW_ 0 (some 46) #[true, true, true, false, true, true, true, false, true, false, false, false, true, false, false, false, true, true, true, false, false, false, false, false] hHeld ?_
        refine ta_ HT_ HW_ 3 (some 49) #[true, true, true, true, true, true, true, false, true, false, false, false, true, false, false, false, true, true, true, false, false, false, false, false] hHeld ?_
        refine ta_ HT_ HW_ 7 (some 53) #[true, true, true, true, true, true, true, true, true, false, false, false, true, false, false, false, true, true, true, false, false, false, false, false] hHeld ?_
        refine ta_ HT_ HW_ 9 (some 55) #[true, true, true, true, true, true, true, true, true, true, false, false, true, false, false, false, true, true, true, false, false, false, false, false] hHeld ?_
        refine ta_ HT_ HW_ 13 (some 59) #[true, true, true, true, true, true, true, true, true, true, false, false, true, true, false, false, true, true, true, false, false, false, false, false] hHeld ?_
        refine ta_ HT_ HW_ 19 (some 65) #[true, true, true, true, true, true, true, true, true, true, false, false, true, true, false, false, true, true, true, true, false, false, false, false] hHeld ?_
        refine on_ HT_ 10 (some 56) #[true, true, true, true, true, true, true, true, true, true, true, false, true, true, false, false, true, true, true, true, false, false, false, false] (fun K hK => ?_)
        refine go1_ Tryd.func42 #[.string t294] ?_
        with_reducible refine (impl_long.calls t294 t301 _ A49.out).mono ?_
        rintro e w' ⟨rfl, ⟨nd, rfl⟩⟩
        refine ⟨_, rfl, ?_⟩
        refine hK.out _ _ ⟨(blk_cell BK298.out 0).trans rfl, (blk_cell BK298.out 1).trans rfl, (cellS107_0 HI281.out.1), (cellS107_1 HI281.out.1), (cellS107_2 HI281.out.1)⟩ (fun hHeld => ?_)
        clear hK K
        refine nm_ ?_
        refine pu_ HT_ 11 (some 57) #[true, true, true, true, true, true, true, true, true, true, true, true, true, true, false, false, true, true, true, true, false, false, false, false] ?_
        refine on_ HT_ 14 (some 60) #[true, true, true, true, true, true, true, true, true, true, true, true, true, true, true, false, true, true, true, true, false, false, false, false] (fun K hK => ?_)
        refine go1_ Tryd.func42 #[.string t294] ?_
        with_reducible refine (impl_long.calls t294 t302 _ A50.out).mono ?_
        rintro e w' ⟨rfl, ⟨nd, rfl⟩⟩
        refine ⟨_, rfl, ?_⟩
        refine hK.out _ _ ⟨(blk_cell BK298.out 0).trans rfl, (blk_cell BK298.out 1).trans rfl, (cellS107_0 HI281.out.1), (cellS107_1 HI281.out.1), (cellS107_2 HI281.out.1)⟩ (fun hHeld => ?_)
        clear hK K
        refine nm_ ?_
        refine pu_ HT_ 15 (some 61) #[true, true, true, true, true, true, true, true, true, true, true, true, true, true, true, true, true, true, true, true, false, false, false, false] ?_
        refine on_ HT_ 20 none #[true, true, true, true, true, true, true, true, true, true, true, true, true, true, true, true, true, true, true, true, true, false, false, false] (fun K hK => ?_)
        have hs52 : w51.cell? ⟨gb279, 0, none⟩ = some (.int .i64 0) := (blk_cell BK279.out 0).trans rfl
        have hfs52 := blk_frozen BK279.out 0
        have hns52_1 := NB280_279.out
        have hns52_2 := NB298_279.out
        have hms52_1 := NB279_280.out
        have hms52_2 := NB279_298.out
        have hs53 : w51.cell? ⟨gb279, 1, none⟩ = some (.string (⟨#[]⟩ : ByteArray)) := (blk_cell BK279.out 1).trans rfl
        have hfs53 := blk_frozen BK279.out 1
        have hns53_1 := NB280_279.out
        have hns53_2 := NB298_279.out
        have hms53_1 := NB279_280.out
        have hms53_2 := NB279_298.out
        refine sk_ ?_
        refine hK.out _ _ ⟨(by (rw [cell_far, cell_far]) <;> first | exact hHeld.1 | exact NB298_279.out), (by (rw [cell_far, cell_far]) <;> first | exact hHeld.2.1 | exact NB298_279.out), (by (rw [cell_far, cell_far]) <;> first | exact hHeld.2.2.1 | exact NB281_279.out), (by (rw [cell_far, cell_far]) <;> first | exact hHeld.2.2.2.1 | exact NB281_279.out), (by (rw [cell_far, cell_far]) <;> first | exact hHeld.2.2.2.2 | exact NB281_279.out)⟩ (fun hHeld => ?_)
        clear hK K
        refine on_ HT_ 21 none #[true, true, true, true, true, true, true, true, true, true, true, true, true, true, true, true, true, true, true, true, true, true, false, false] (fun K hK => ?_)
        have hs54 : w51.cell? ⟨gb280, 0, none⟩ = some (.string (⟨#[]⟩ : ByteArray)) := (blk_cell BK280.out 0).trans rfl
        have hfs54 := blk_frozen BK280.out 0
        have hns54_0 := NB279_280.out
        have hns54_2 := NB298_280.out
        have hms54_0 := NB280_279.out
        have hms54_2 := NB280_298.out
        have hs55 : w51.cell? ⟨gb280, 1, none⟩ = some (.int .i64 0) := (blk_cell BK280.out 1).trans rfl
        have hfs55 := blk_frozen BK280.out 1
        have hns55_0 := NB279_280.out
        have hns55_2 := NB298_280.out
        have hms55_0 := NB280_279.out
        have hms55_2 := NB280_298.out
        have hs56 : w51.cell? ⟨gb280, 2, none⟩ = some (.int .i64 0) := (blk_cell BK280.out 2).trans rfl
        have hfs56 := blk_frozen BK280.out 2
        have hns56_0 := NB279_280.out
        have hns56_2 := NB298_280.out
        have hms56_0 := NB280_279.out
        have hms56_2 := NB280_298.out
        have hs57 : w51.cell? ⟨gb280, 3, none⟩ = some (.int .i64 0) := (blk_cell BK280.out 3).trans rfl
        have hfs57 := blk_frozen BK280.out 3
        have hns57_0 := NB279_280.out
        have hns57_2 := NB298_280.out
        have hms57_0 := NB280_279.out
        have hms57_2 := NB280_298.out
        refine sk_ ?_
        refine hK.out _ _ ⟨(by (rw [cell_far, cell_far, cell_far, cell_far]) <;> first | exact hHeld.1 | exact NB298_280.out), (by (rw [cell_far, cell_far, cell_far, cell_far]) <;> first | exact hHeld.2.1 | exact NB298_280.out), (by (rw [cell_far, cell_far, cell_far, cell_far]) <;> first | exact hHeld.2.2.1 | exact NB281_280.out), (by (rw [cell_far, cell_far, cell_far, cell_far]) <;> first | exact hHeld.2.2.2.1 | exact NB281_280.out), (by (rw [cell_far, cell_far, cell_far, cell_far]) <;> first | exact hHeld.2.2.2.2 | exact NB281_280.out)⟩ (fun hHeld => ?_)
        clear hK K
        refine pu_ HT_ 22 (some 6) #[true, true, true, true, true, true, true, true, true, true, true, true, true, true, true, true, true, true, true, true, true, true, true, false] ?_
        refine pu_ HT_ 23 (some 7) #[true, true, true, true, true, true, true, true, true, true, true, true, true, true, true, true, true, true, true, true, true, true, true, true] ?_
        refine dn_ HT_ ?_
        try go_wp2
        refine bodyPost_ret (results_list (rs := [.cell 4 60, .cell 5 58, .tmp 6, .tmp 7]) rfl (by simp) (.cell gb279 60 #[.int .i64 t290, .string t294] (0, 0) _ rfl bka_ Tryd.underlying60 rfl (by kernel_rfl) (.cell gb280 58 #[.string t286, .int .i64 t290, .int .i64 (wrap64 (t296 - t301)), .int .i64 t302] (0, 0) _ rfl bka_ Tryd.underlying58 rfl (by kernel_rfl) (.tmp (.tmp .nil))))) rfl ?_
        exact ⟨ri_, belg_ (IsS107.ge HI281.out)⟩

/-! ### impl_PackRead: function 9 -/
def impl_PackRead.l0 : Nat → ByteArray → List (S60) → Int → Option ((List (S60)) × Int × Int)
  | 0, _, _, _ => none
  | k + 1, x0, x3, x4 => (impl_long.f x0).bind fun t305 => (if x4 < t305 then ((impl_readRecord.f k x0 x4).bind fun bt306 => (if bt306.2.2.2.2.2.2.2 = true then (if x3.length < 5864062014805 then (impl_PackRead.l0 k x0 (x3 ++ [(⟨bt306.1, bt306.2.1⟩ : S60)]) bt306.2.2.2.2.2.2.1) else (none)) else (some (([] : List (S60)), x4, 3)))) else ((impl_PackRight.f k x3).bind fun t319 => (if t319 = true then (some (x3, 0, 0)) else (some (([] : List (S60)), 0, 1)))))
def impl_PackRead.f (k : Nat) (a0 : ByteArray) : Option ((List (S60)) × Int × Int) := (impl_isLong.f a0).bind fun t304 => (if t304 = true then (some (([] : List (S60)), 0, 2)) else (impl_PackRead.l0 k a0 ([] : List (S60)) 0))
theorem impl_PackRead.mono_l : ∀ k, (∀ y0 y1 y2, LeO (impl_PackRead.l0 k y0 y1 y2) (impl_PackRead.l0 (k + 1) y0 y1 y2))
  | 0 => fun _ _ _ r h => by simp [impl_PackRead.l0] at h
  | k + 1 => by
    have ih0 := impl_PackRead.mono_l k
    · intro y0 y1 y2
      unfold impl_PackRead.l0
      repeat' first
      | (with_reducible exact ih0 _ _ _)
      | (with_reducible exact impl_PackRight.mono _ _)
      | (with_reducible exact impl_readRecord.mono _ _ _)
      | (with_reducible exact LeO.refl _)
      | (with_reducible exact LeO.none _)
      | (with_reducible refine LeO.ite ?_ ?_)
      | (with_reducible refine LeO.bind ?_ (fun _ => ?_))
      | exact ih0 _ _ _
      | exact impl_PackRight.mono _ _
      | exact impl_readRecord.mono _ _ _
      | exact LeO.none _
      | refine LeO.ite ?_ ?_
      | refine LeO.bind ?_ (fun _ => ?_)
theorem impl_PackRead.mono : ∀ a0 k, LeO (impl_PackRead.f k a0) (impl_PackRead.f (k + 1) a0) := by
  intro a0 k
  have ih0 := impl_PackRead.mono_l k
  unfold impl_PackRead.f
  repeat' first
      | (with_reducible exact ih0 _ _ _)
      | (with_reducible exact impl_PackRight.mono _ _)
      | (with_reducible exact impl_readRecord.mono _ _ _)
      | (with_reducible exact LeO.refl _)
      | (with_reducible exact LeO.none _)
      | (with_reducible refine LeO.ite ?_ ?_)
      | (with_reducible refine LeO.bind ?_ (fun _ => ?_))
      | exact ih0 _ _ _
      | exact impl_PackRight.mono _ _
      | exact impl_readRecord.mono _ _ _
      | exact LeO.none _
      | refine LeO.ite ?_ ?_
      | refine LeO.bind ?_ (fun _ => ?_)
set_option maxHeartbeats 8000000 in
set_option maxRecDepth 100000 in
theorem impl_PackRead.calls (k : Nat) (a0 : ByteArray) (r1 : List (S60)) (r2 : Int) (r3 : Int) (w : World) (h : impl_PackRead.f k a0 = some (r1, r2, r3)) (hL : Hand.LaidG w := by first | exact hL | exact Hand.LaidG.below hL bel_) :
    Calls Tryd.prog 9 #[.string a0] w fun e w' => ∃ v0_ : Value, e = .returned (.agg #[v0_, .int .i64 r2, .int .i64 r3]) ∧ Kd.R k60 60 w' w.heap.size (fun _ => True) v0_ r1 ∧ Below w.heap.size w w' := by
  have hu24 := Tryd.underlying24
  have hu60 := Tryd.underlying60
  have hu58 := Tryd.underlying58
  have HB := AM (Below.refl w.heap.size w)
  have H : ((impl_isLong.f a0).bind fun t304 => (if t304 = true then (some (([] : List (S60)), 0, 2)) else (impl_PackRead.l0 k a0 ([] : List (S60)) 0))) = some (r1, r2, r3) := h
  clear h
  obtain ⟨t304, A2, H⟩ := OB H
  try dsimp only at H
  replace A2 := AM A2
  by_cases c3 : t304 = true
  · subst c3
    rw [if_pos rfl] at H
    simp only [Option.some.injEq, Prod.mk.injEq] at H
    obtain ⟨rfl, rfl, rfl⟩ := H
    go_enter Tryd.func9, Tryd.ntmps9
    go_wp2_with (first | ((with_reducible refine gate_dst (N := 2) rfl ?_); refine be_ 2 #[.slice none 0 0, .int .i64 0, .int .i64 0] 24 ?_; intro gb303 hg w4 hbox hb; have BK303 := AM hbox; have GW303 := AM ((by rw [hg]; exact (below_size bel_) : w.heap.size ≤ gb303)); have GE303 := AM ((by rw [hg]; exact (below_size bel_) : w.heap.size ≤ gb303)); replace HB := AM (below_step bel_ hb); clear hb hbox hg) | ((with_reducible refine gate_callee (f := 41) rfl ?_); refine gl_ (some 10) Tryd.func41 #[.string a0] ?_; (with_reducible refine (impl_isLong.calls a0 true _ A2.out).mono ?_); rintro e w' ⟨rfl, ⟨nd, rfl⟩⟩; refine ⟨_, rfl, ?_⟩; (try (rw [drewN_self w4]; generalize hq_ : World.drewN w4 _ = w4; replace BK303 : Aside0 (w4.heap[gb303]? = some (.cells #[.slice none 0 0, .int .i64 0, .int .i64 0] 24 (0, 0))) := ⟨by rw [← hq_]; exact (bk_ BK303.out)⟩; replace HB : Aside0 (Below w.heap.size w w4) := ⟨by rw [← hq_]; exact bel_⟩; clear hq_)); have hcz5_0 : w4.cell? ⟨gb303, 0, none⟩ = some (.slice none 0 0) := (blk_cell BK303.out 0).trans rfl; have hcz5_1 : w4.cell? ⟨gb303, 1, none⟩ = some (.int .i64 0) := (blk_cell BK303.out 1).trans rfl; have hcz5_2 : w4.cell? ⟨gb303, 2, none⟩ = some (.int .i64 0) := (blk_cell BK303.out 2).trans rfl; have hfz5_0 := blk_frozen BK303.out 0; have hfz5_1 := blk_frozen BK303.out 1; have hfz5_2 := blk_frozen BK303.out 2))
    refine bodyPost_ret (results_cell_row rfl _ _ gb303 24 #[.slice none 0 0, .int .i64 0, .int .i64 2] (0, 0) _ rfl bka_ Tryd.underlying24 rfl (by kernel_rfl)) rfl ?_
    exact ⟨_, ri_, by first | exact Kd.R_nil _ _ _ _ _ | exact Kd.N_nil _ _ _ _ _ | exact Kd.V_nil _ _ _ _ _ | exact Kd.Q_nil _ _ _ _ _ | exact Kd.S_nil _ _ _ _ _, bel_⟩
  · replace c3 := Bool.eq_false_iff.mpr c3
    subst c3
    rw [if_neg (show ¬ (false = true) by decide)] at H
    have H' := AM H
    clear H
    go_enter Tryd.func9, Tryd.ntmps9
    go_wp2_with (first | ((with_reducible refine gate_dst (N := 2) rfl ?_); refine be_ 2 #[.slice none 0 0, .int .i64 0, .int .i64 0] 24 ?_; intro gb303 hg w6 hbox hb; have BK303 := AM hbox; have GW303 := AM ((by rw [hg]; exact (below_size bel_) : w.heap.size ≤ gb303)); have GE303 := AM ((by rw [hg]; exact (below_size bel_) : w.heap.size ≤ gb303)); replace HB := AM (below_step bel_ hb); clear hb hbox hg) | ((with_reducible refine gate_callee (f := 41) rfl ?_); refine gl_ (some 10) Tryd.func41 #[.string a0] ?_; (with_reducible refine (impl_isLong.calls a0 false _ A2.out).mono ?_); rintro e w' ⟨rfl, ⟨nd, rfl⟩⟩; refine ⟨_, rfl, ?_⟩))
    go_loopg [3, 4] k (fun kq v3 v4 w' => ∃ (x3_1 : List (S60)) (x4_1 : Int) (x304001_1 : Int) (x304002_1 : Int), v4 = .int .i64 x4_1 ∧ Aside0 (impl_PackRead.l0 kq a0 x3_1 x4_1 = some (r1, r2, r3)) ∧ Aside0 (kq ≤ k) ∧ Aside0 (Kd.R k60 60 w' w.heap.size (fun _ => True) v3 x3_1) ∧ Aside0 (w'.heap[gb303]? = some (.cells #[(.slice none 0 0), .int .i64 x304001_1, .int .i64 x304002_1] 24 (0, 0))) ∧ Aside0 (Below w.heap.size w w'))
    case atStart => exact ⟨(([] : List (S60))), (0), (0), (0), (by first | rfl | (simp; done) | (simp [*]; done)), H', ⟨Nat.le_refl _⟩, ⟨by first | exact Kd.R_nil _ _ _ _ _ | exact Kd.N_nil _ _ _ _ _ | exact Kd.V_nil _ _ _ _ _ | exact Kd.Q_nil _ _ _ _ _ | exact Kd.S_nil _ _ _ _ _⟩, ⟨bk_ BK303.out⟩, ⟨bel_⟩⟩
    case round =>
      clear H'
      try clear p2
      try clear c3
      try clear c4
      try clear hcz5_0
      try clear hcz5_1
      try clear hcz5_2
      try clear hfz5_0
      try clear hfz5_1
      try clear hfz5_2
      obtain ⟨x3_1, x4_1, x304001_1, x304002_1, rfl, HA, HK1, HO_3, BK303, HB⟩ := hrel
      cases gk with
      | zero => exact absurd HA.out (by simp [impl_PackRead.l0])
      | succ k1 =>
        have H := HA.out
        clear HA
        simp only [impl_PackRead.l0] at H
        obtain ⟨t305, A7, H⟩ := OB H
        try dsimp only at H
        replace A7 := AM A7
        by_cases c8 : x4_1 < t305
        · rw [if_pos c8] at H
          have c8b0 : decide (x4_1 < t305) = true := decide_eq_true c8
          clear c8
          obtain ⟨⟨t306, t307, t308, t309, t310, t311, t312, t313⟩, A9, H⟩ := OB H
          try dsimp only at H
          replace A9 := AM A9
          by_cases c10 : t313 = true
          · subst c10
            rw [if_pos rfl] at H
            by_cases c11 : x3_1.length < 5864062014805
            · rw [if_pos c11] at H
              have LMc11 := AM c11
              clear c11
              obtain ⟨y316, hy316⟩ : ∃ y_ : List (S60), y_ = (x3_1 ++ [(⟨t306, t307⟩ : S60)]) := ⟨_, rfl⟩
              replace H : (impl_PackRead.l0 k1 a0 y316 t312) = some (r1, r2, r3) := by first | (rw [hy316]; with_reducible exact H) | (have H2_ := (Option.bind_some _ _).symm.trans H; rw [hy316]; with_reducible exact H2_) | (have H2_ := (Option.bind_some _ _).symm.trans H; with_reducible exact H2_) | with_reducible exact H | (rw [hy316]; exact H) | exact H
              have Ny316 := AM hy316
              clear hy316
              have H' := AM H
              clear H
              go_wp2_with (first | ((with_reducible refine gate_callee (f := 42) rfl ?_); refine gl_ (some 14) Tryd.func42 #[.string a0] ?_; (with_reducible refine (impl_long.calls a0 t305 _ A7.out).mono ?_); rintro e w' ⟨rfl, ⟨nd, rfl⟩⟩; refine ⟨_, rfl, ?_⟩; (try (rw [drewN_self wr]; generalize hq_ : World.drewN wr _ = wr; replace HO_3 : Aside0 (Kd.R k60 60 wr w.heap.size (fun _ => True) u3 x3_1) := ⟨by rw [← hq_]; exact (ro_ HO_3.out)⟩; replace BK303 : Aside0 (wr.heap[gb303]? = some (.cells #[.slice none 0 0, .int .i64 x304001_1, .int .i64 x304002_1] 24 (0, 0))) := ⟨by rw [← hq_]; exact (bk_ BK303.out)⟩; replace HB : Aside0 (Below w.heap.size w wr) := ⟨by rw [← hq_]; exact bel_⟩; clear hq_))) | ((with_reducible refine gate_callee (f := 43) rfl ?_); refine gl_ (some 19) Tryd.func43 #[.string a0, .int .i64 x4_1] ?_; (with_reducible refine (impl_readRecord.calls k1 a0 x4_1 t306 t307 t308 t309 t310 t311 t312 true _ A9.out).mono ?_); rintro e w12 ⟨rfl, hb⟩; refine ⟨_, rfl, ?_⟩; replace HO_3 := AM (Kd.R_below (ro_ HO_3.out) hb); replace BK303 := AM (blk_below (g := gb303) (o := .cells #[.slice none 0 0, .int .i64 x304001_1, .int .i64 x304002_1] 24 (0, 0)) (bk_ BK303.out) hb); replace HB := AM (below_step bel_ hb); (try clear hb); (try clear hb2); (try clear hk); (try clear hi)) | ((with_reducible refine gate_dst (N := 5) rfl ?_); refine be_ 5 #[.int .i64 0, .string (⟨#[]⟩ : ByteArray)] 60 ?_; intro gb314 hg w13 hbox hb; replace HO_3 := AM (Kd.R_below (Kd.R_elderB (ro_ HO_3.out) gb314 (Nat.le_of_eq hg.symm)) hb); have BK314 := AM hbox; have GW314 := AM ((by rw [hg]; exact (below_size bel_) : w.heap.size ≤ gb314)); have GE314 := AM ((by rw [hg]; exact (below_size bel_) : w.heap.size ≤ gb314)); replace HB := AM (below_step bel_ hb); have NB303_314 := AM ((by rw [hg]; exact Nat.ne_of_lt (blk_lt (g := gb303) (o := .cells #[.slice none 0 0, .int .i64 x304001_1, .int .i64 x304002_1] 24 (0, 0)) (bk_ BK303.out)) : gb303 ≠ gb314)); have NB314_303 := AM ((by rw [hg]; exact Nat.ne_of_gt (blk_lt (g := gb303) (o := .cells #[.slice none 0 0, .int .i64 x304001_1, .int .i64 x304002_1] 24 (0, 0)) (bk_ BK303.out)) : gb314 ≠ gb303)); replace BK303 := AM (blk_below (g := gb303) (o := .cells #[.slice none 0 0, .int .i64 x304001_1, .int .i64 x304002_1] 24 (0, 0)) (bk_ BK303.out) hb); clear hb hbox hg) | ((with_reducible refine gate_dst (N := 6) rfl ?_); refine be_ 6 #[.string (⟨#[]⟩ : ByteArray), .int .i64 0, .int .i64 0, .int .i64 0] 58 ?_; intro gb315 hg w14 hbox hb; replace HO_3 := AM (Kd.R_below (ro_ HO_3.out) hb); have BK315 := AM hbox; have GW315 := AM ((by rw [hg]; exact (below_size bel_) : w.heap.size ≤ gb315)); have GE315 := AM ((by rw [hg]; exact (below_size bel_) : w.heap.size ≤ gb315)); replace HB := AM (below_step bel_ hb); have NB303_315 := AM ((by rw [hg]; exact Nat.ne_of_lt (blk_lt (g := gb303) (o := .cells #[.slice none 0 0, .int .i64 x304001_1, .int .i64 x304002_1] 24 (0, 0)) (bk_ BK303.out)) : gb303 ≠ gb315)); have NB315_303 := AM ((by rw [hg]; exact Nat.ne_of_gt (blk_lt (g := gb303) (o := .cells #[.slice none 0 0, .int .i64 x304001_1, .int .i64 x304002_1] 24 (0, 0)) (bk_ BK303.out)) : gb315 ≠ gb303)); replace BK303 := AM (blk_below (g := gb303) (o := .cells #[.slice none 0 0, .int .i64 x304001_1, .int .i64 x304002_1] 24 (0, 0)) (bk_ BK303.out) hb); have NB314_315 := AM ((by rw [hg]; exact Nat.ne_of_lt (blk_lt (g := gb314) (o := .cells #[.int .i64 0, .string (⟨#[]⟩ : ByteArray)] 60 (0, 0)) (bk_ BK314.out)) : gb314 ≠ gb315)); have NB315_314 := AM ((by rw [hg]; exact Nat.ne_of_gt (blk_lt (g := gb314) (o := .cells #[.int .i64 0, .string (⟨#[]⟩ : ByteArray)] 60 (0, 0)) (bk_ BK314.out)) : gb315 ≠ gb314)); replace BK314 := AM (blk_below (g := gb314) (o := .cells #[.int .i64 0, .string (⟨#[]⟩ : ByteArray)] 60 (0, 0)) (bk_ BK314.out) hb); clear hb hbox hg; have hnb15 := NB314_303.out; have hnc15 := NB303_314.out; have hnb16 := NB314_315.out; have hnc16 := NB315_314.out; have hcz17_0 : w14.cell? ⟨gb314, 0, none⟩ = some (.int .i64 0) := (blk_cell BK314.out 0).trans rfl; have hcz17_1 : w14.cell? ⟨gb314, 1, none⟩ = some (.string (⟨#[]⟩ : ByteArray)) := (blk_cell BK314.out 1).trans rfl; have hfz17_0 := blk_frozen BK314.out 0; have hfz17_1 := blk_frozen BK314.out 1; have hnb18 := NB315_303.out; have hnc18 := NB303_315.out; have hcz19_0 : w14.cell? ⟨gb315, 0, none⟩ = some (.string (⟨#[]⟩ : ByteArray)) := (blk_cell BK315.out 0).trans rfl; have hcz19_1 : w14.cell? ⟨gb315, 1, none⟩ = some (.int .i64 0) := (blk_cell BK315.out 1).trans rfl; have hcz19_2 : w14.cell? ⟨gb315, 2, none⟩ = some (.int .i64 0) := (blk_cell BK315.out 2).trans rfl; have hcz19_3 : w14.cell? ⟨gb315, 3, none⟩ = some (.int .i64 0) := (blk_cell BK315.out 3).trans rfl; have hfz19_0 := blk_frozen BK315.out 0; have hfz19_1 := blk_frozen BK315.out 1; have hfz19_2 := blk_frozen BK315.out 2; have hfz19_3 := blk_frozen BK315.out 3) | ((with_reducible refine gate_builtin (b := .append) (xs := #[.tmp 28, .tmp 30]) rfl ?_); at_builtin; refine Kd.R_append k60 (w0 := w) w.heap.size rfl (.tmp 28) (.tmp 30) 22 60 (.agg #[(.int .i64 0), (.string ⟨#[]⟩)]) 24 rfl Tryd.underlying22 info60 rfl (by decide) (by omega) u3 x3_1 (⟨t306, t307⟩ : S60) [.int .i64 t306, .string t307] (fun k_ => k_ ≠ gb314) (fun _ => False) rfl (by first | (go_simp; done) | (go_simp; rfl)) ?aP (fun _ hk => hk.elim) ?aF ?aO ?aB ?aS ?aL ?_; (case aP => exact k60_mkM _ _ _ (⟨t306, t307⟩ : S60)); (case aB => exact bel_); (case aF => exact (fun k_ hk => Kd.freshB (g := gb314) (o := .cells #[.int .i64 t306, .string t307] 60 (0, 0)) bka_ k_ hk)); (case aO => exact (by (with_reducible repeat (first | apply Kd.R_alloc | apply Kd.R_drewN | apply Kd.R_drew)); exact Kd.R_mono (Kd.R_far (p := ⟨gb315, 3, none⟩) (Kd.R_far (p := ⟨gb315, 2, none⟩) (Kd.R_far (p := ⟨gb315, 1, none⟩) (Kd.R_far (p := ⟨gb315, 0, none⟩) (Kd.R_far (p := ⟨gb314, 1, none⟩) (Kd.R_far (p := ⟨gb314, 0, none⟩) (Kd.R_types (Kd.R_mono HO_3.out (fun k_ hk => (⟨hk, hk.2⟩ : _ ∧ k_ ≠ gb314))) BK315.out (by decide)) (fun _ hk => hk.1.2) (.int .i64 t306)) (fun _ hk => hk.1.2) (.string t307)) (fun _ hk => hk.2) (.string t308)) (fun _ hk => hk.2) (.int .i64 t309)) (fun _ hk => hk.2) (.int .i64 t310)) (fun _ hk => hk.2) (.int .i64 t311)) (fun _ hk => hk.1.1.2))); (case aS => exact (below_size bel_)); (case aL => have := LMc11.out; omega); intro v317 w20 ho hb hg hat; rw [← Ny316.out] at ho; have n0_ := AM (blk_grown (g := gb303) (o := .cells #[.slice none 0 0, .int .i64 x304001_1, .int .i64 x304002_1] 24 (0, 0)) bka_ hg (Kd.R_ne HO_3.out BK303.out (by decide))); have n1_ := AM (blk_grown (g := gb314) (o := .cells #[.int .i64 t306, .string t307] 60 (0, 0)) bka_ hg (Kd.R_away HO_3.out (fun _ hk => hk.2))); have n2_ := AM (blk_grown (g := gb315) (o := .cells #[.string t308, .int .i64 t309, .int .i64 t310, .int .i64 t311] 58 (0, 0)) bka_ hg (Kd.R_ne HO_3.out BK315.out (by decide))); have n3_ := AM hb; have n4_ := AM ho; clear BK303; clear BK314; clear BK315; clear HB; clear HO_3; have BK303 := n0_; have BK314 := n1_; have BK315 := n2_; have HB := n3_; have HO318 := n4_; clear n0_ n1_ n2_ n3_ n4_; clear ho hb hg hat))
              go_roundg k1
              case measure => have := HK1.out; omega
              case rel => exact ⟨(y316), (t312), (x304001_1), (x304002_1), (by first | rfl | (simp; done) | (simp [*]; done)), H', ⟨by have := HK1.out; omega⟩, ⟨by (with_reducible repeat (first | apply Kd.R_alloc | apply Kd.R_drewN | apply Kd.R_drew)); exact Kd.R_mono HO318.out (fun _ hk => trivial)⟩, ⟨bk_ BK303.out⟩, ⟨bel_⟩⟩
            · rw [if_neg c11] at H
              exact absurd H (by simp)
          · replace c10 := Bool.eq_false_iff.mpr c10
            subst c10
            rw [if_neg (show ¬ (false = true) by decide)] at H
            simp only [Option.some.injEq, Prod.mk.injEq] at H
            obtain ⟨rfl, rfl, rfl⟩ := H
            go_wp2_with (first | ((with_reducible refine gate_callee (f := 42) rfl ?_); refine gl_ (some 14) Tryd.func42 #[.string a0] ?_; (with_reducible refine (impl_long.calls a0 t305 _ A7.out).mono ?_); rintro e w' ⟨rfl, ⟨nd, rfl⟩⟩; refine ⟨_, rfl, ?_⟩; (try (rw [drewN_self wr]; generalize hq_ : World.drewN wr _ = wr; replace HO_3 : Aside0 (Kd.R k60 60 wr w.heap.size (fun _ => True) u3 x3_1) := ⟨by rw [← hq_]; exact (ro_ HO_3.out)⟩; replace BK303 : Aside0 (wr.heap[gb303]? = some (.cells #[.slice none 0 0, .int .i64 x304001_1, .int .i64 x304002_1] 24 (0, 0))) := ⟨by rw [← hq_]; exact (bk_ BK303.out)⟩; replace HB : Aside0 (Below w.heap.size w wr) := ⟨by rw [← hq_]; exact bel_⟩; clear hq_))) | ((with_reducible refine gate_callee (f := 43) rfl ?_); refine gl_ (some 19) Tryd.func43 #[.string a0, .int .i64 x4_1] ?_; (with_reducible refine (impl_readRecord.calls k1 a0 x4_1 t306 t307 t308 t309 t310 t311 t312 false _ A9.out).mono ?_); rintro e w21 ⟨rfl, hb⟩; refine ⟨_, rfl, ?_⟩; replace HO_3 := AM (Kd.R_below (ro_ HO_3.out) hb); replace BK303 := AM (blk_below (g := gb303) (o := .cells #[.slice none 0 0, .int .i64 x304001_1, .int .i64 x304002_1] 24 (0, 0)) (bk_ BK303.out) hb); replace HB := AM (below_step bel_ hb); (try clear hb); (try clear hb2); (try clear hk); (try clear hi)) | ((with_reducible refine gate_dst (N := 5) rfl ?_); refine be_ 5 #[.int .i64 0, .string (⟨#[]⟩ : ByteArray)] 60 ?_; intro gb314 hg w22 hbox hb; replace HO_3 := AM (Kd.R_below (Kd.R_elderB (ro_ HO_3.out) gb314 (Nat.le_of_eq hg.symm)) hb); have BK314 := AM hbox; have GW314 := AM ((by rw [hg]; exact (below_size bel_) : w.heap.size ≤ gb314)); have GE314 := AM ((by rw [hg]; exact (below_size bel_) : w.heap.size ≤ gb314)); replace HB := AM (below_step bel_ hb); have NB303_314 := AM ((by rw [hg]; exact Nat.ne_of_lt (blk_lt (g := gb303) (o := .cells #[.slice none 0 0, .int .i64 x304001_1, .int .i64 x304002_1] 24 (0, 0)) (bk_ BK303.out)) : gb303 ≠ gb314)); have NB314_303 := AM ((by rw [hg]; exact Nat.ne_of_gt (blk_lt (g := gb303) (o := .cells #[.slice none 0 0, .int .i64 x304001_1, .int .i64 x304002_1] 24 (0, 0)) (bk_ BK303.out)) : gb314 ≠ gb303)); replace BK303 := AM (blk_below (g := gb303) (o := .cells #[.slice none 0 0, .int .i64 x304001_1, .int .i64 x304002_1] 24 (0, 0)) (bk_ BK303.out) hb); clear hb hbox hg) | ((with_reducible refine gate_dst (N := 6) rfl ?_); refine be_ 6 #[.string (⟨#[]⟩ : ByteArray), .int .i64 0, .int .i64 0, .int .i64 0] 58 ?_; intro gb315 hg w23 hbox hb; replace HO_3 := AM (Kd.R_below (ro_ HO_3.out) hb); have BK315 := AM hbox; have GW315 := AM ((by rw [hg]; exact (below_size bel_) : w.heap.size ≤ gb315)); have GE315 := AM ((by rw [hg]; exact (below_size bel_) : w.heap.size ≤ gb315)); replace HB := AM (below_step bel_ hb); have NB303_315 := AM ((by rw [hg]; exact Nat.ne_of_lt (blk_lt (g := gb303) (o := .cells #[.slice none 0 0, .int .i64 x304001_1, .int .i64 x304002_1] 24 (0, 0)) (bk_ BK303.out)) : gb303 ≠ gb315)); have NB315_303 := AM ((by rw [hg]; exact Nat.ne_of_gt (blk_lt (g := gb303) (o := .cells #[.slice none 0 0, .int .i64 x304001_1, .int .i64 x304002_1] 24 (0, 0)) (bk_ BK303.out)) : gb315 ≠ gb303)); replace BK303 := AM (blk_below (g := gb303) (o := .cells #[.slice none 0 0, .int .i64 x304001_1, .int .i64 x304002_1] 24 (0, 0)) (bk_ BK303.out) hb); have NB314_315 := AM ((by rw [hg]; exact Nat.ne_of_lt (blk_lt (g := gb314) (o := .cells #[.int .i64 0, .string (⟨#[]⟩ : ByteArray)] 60 (0, 0)) (bk_ BK314.out)) : gb314 ≠ gb315)); have NB315_314 := AM ((by rw [hg]; exact Nat.ne_of_gt (blk_lt (g := gb314) (o := .cells #[.int .i64 0, .string (⟨#[]⟩ : ByteArray)] 60 (0, 0)) (bk_ BK314.out)) : gb315 ≠ gb314)); replace BK314 := AM (blk_below (g := gb314) (o := .cells #[.int .i64 0, .string (⟨#[]⟩ : ByteArray)] 60 (0, 0)) (bk_ BK314.out) hb); clear hb hbox hg; have hnb24 := NB314_303.out; have hnc24 := NB303_314.out; have hnb25 := NB314_315.out; have hnc25 := NB315_314.out; have hcz26_0 : w23.cell? ⟨gb314, 0, none⟩ = some (.int .i64 0) := (blk_cell BK314.out 0).trans rfl; have hcz26_1 : w23.cell? ⟨gb314, 1, none⟩ = some (.string (⟨#[]⟩ : ByteArray)) := (blk_cell BK314.out 1).trans rfl; have hfz26_0 := blk_frozen BK314.out 0; have hfz26_1 := blk_frozen BK314.out 1; have hnb27 := NB315_303.out; have hnc27 := NB303_315.out; have hcz28_0 : w23.cell? ⟨gb315, 0, none⟩ = some (.string (⟨#[]⟩ : ByteArray)) := (blk_cell BK315.out 0).trans rfl; have hcz28_1 : w23.cell? ⟨gb315, 1, none⟩ = some (.int .i64 0) := (blk_cell BK315.out 1).trans rfl; have hcz28_2 : w23.cell? ⟨gb315, 2, none⟩ = some (.int .i64 0) := (blk_cell BK315.out 2).trans rfl; have hcz28_3 : w23.cell? ⟨gb315, 3, none⟩ = some (.int .i64 0) := (blk_cell BK315.out 3).trans rfl; have hfz28_0 := blk_frozen BK315.out 0; have hfz28_1 := blk_frozen BK315.out 1; have hfz28_2 := blk_frozen BK315.out 2; have hfz28_3 := blk_frozen BK315.out 3; have hcz29_0 : w23.cell? ⟨gb303, 0, none⟩ = some (.slice none 0 0) := (blk_cell BK303.out 0).trans rfl; have hcz29_1 : w23.cell? ⟨gb303, 1, none⟩ = some (.int .i64 x304001_1) := (blk_cell BK303.out 1).trans rfl; have hcz29_2 : w23.cell? ⟨gb303, 2, none⟩ = some (.int .i64 x304002_1) := (blk_cell BK303.out 2).trans rfl; have hfz29_0 := blk_frozen BK303.out 0; have hfz29_1 := blk_frozen BK303.out 1; have hfz29_2 := blk_frozen BK303.out 2))
            refine bodyPost_ret (results_cell_row rfl _ _ gb303 24 #[.slice none 0 0, .int .i64 x4_1, .int .i64 3] (0, 0) _ rfl bka_ Tryd.underlying24 rfl (by kernel_rfl)) rfl ?_
            exact ⟨_, ri_, by first | exact Kd.R_nil _ _ _ _ _ | exact Kd.N_nil _ _ _ _ _ | exact Kd.V_nil _ _ _ _ _ | exact Kd.Q_nil _ _ _ _ _ | exact Kd.S_nil _ _ _ _ _, bel_⟩
        · rw [if_neg c8] at H
          have c8b0 : decide (x4_1 < t305) = false := decide_eq_false c8
          clear c8
          obtain ⟨t319, A30, H⟩ := OB H
          try dsimp only at H
          replace A30 := AM A30
          by_cases c31 : t319 = true
          · subst c31
            rw [if_pos rfl] at H
            simp only [Option.some.injEq, Prod.mk.injEq] at H
            obtain ⟨rfl, rfl, rfl⟩ := H
            go_wp2_with (first | ((with_reducible refine gate_callee (f := 42) rfl ?_); refine gl_ (some 14) Tryd.func42 #[.string a0] ?_; (with_reducible refine (impl_long.calls a0 t305 _ A7.out).mono ?_); rintro e w' ⟨rfl, ⟨nd, rfl⟩⟩; refine ⟨_, rfl, ?_⟩; (try (rw [drewN_self wr]; generalize hq_ : World.drewN wr _ = wr; replace HO_3 : Aside0 (Kd.R k60 60 wr w.heap.size (fun _ => True) u3 x3_1) := ⟨by rw [← hq_]; exact (ro_ HO_3.out)⟩; replace BK303 : Aside0 (wr.heap[gb303]? = some (.cells #[.slice none 0 0, .int .i64 x304001_1, .int .i64 x304002_1] 24 (0, 0))) := ⟨by rw [← hq_]; exact (bk_ BK303.out)⟩; replace HB : Aside0 (Below w.heap.size w wr) := ⟨by rw [← hq_]; exact bel_⟩; clear hq_)); obtain ⟨Ao32, co32, eo32⟩ := Kd.R_slice HO_3.out; subst eo32) | ((with_reducible refine gate_callee (f := 16) rfl ?_); refine gl_ (some 34) Tryd.func16 #[.slice Ao32 x3_1.length co32] ?_; (with_reducible refine (impl_PackRight.calls k1 _ _ x3_1 true _ ?side1 ?side2 A30.out).mono ?_); (case side1 => repeat (first | exact (Kd.R_reads' HO_3.out).2.2 | (with_reducible refine Kd.C_alloc ?_ _) | (with_reducible refine Kd.C_drewN ?_ _) | (with_reducible refine Kd.C_drew ?_))); (case side2 => exact (Kd.R_reads' HO_3.out).2.1); rintro e w33 ⟨rfl, hb⟩; refine ⟨_, rfl, ?_⟩; replace HO_3 := AM (Kd.R_below (ro_ HO_3.out) hb); replace BK303 := AM (blk_below (g := gb303) (o := .cells #[.slice none 0 0, .int .i64 x304001_1, .int .i64 x304002_1] 24 (0, 0)) (bk_ BK303.out) hb); replace HB := AM (below_step bel_ hb); (try clear hb); (try clear hb2); (try clear hk); (try clear hi); have hcz34_0 : w33.cell? ⟨gb303, 0, none⟩ = some (.slice none 0 0) := (blk_cell BK303.out 0).trans rfl; have hcz34_1 : w33.cell? ⟨gb303, 1, none⟩ = some (.int .i64 x304001_1) := (blk_cell BK303.out 1).trans rfl; have hcz34_2 : w33.cell? ⟨gb303, 2, none⟩ = some (.int .i64 x304002_1) := (blk_cell BK303.out 2).trans rfl; have hfz34_0 := blk_frozen BK303.out 0; have hfz34_1 := blk_frozen BK303.out 1; have hfz34_2 := blk_frozen BK303.out 2))
            refine bodyPost_ret (results_cell_row rfl _ _ gb303 24 #[.slice Ao32 x3_1.length co32, .int .i64 0, .int .i64 0] (0, 0) _ rfl bka_ Tryd.underlying24 rfl (by kernel_rfl)) rfl ?_
            exact ⟨_, ri_, by (with_reducible repeat (first | apply Kd.R_alloc | apply Kd.R_drewN | apply Kd.R_drew)); exact Kd.R_mono (Kd.R_far (p := ⟨gb303, 2, none⟩) (Kd.R_far (p := ⟨gb303, 1, none⟩) (Kd.R_far (p := ⟨gb303, 0, none⟩) (Kd.R_types HO_3.out BK303.out (by decide)) (fun _ hk => hk.2) (.slice Ao32 x3_1.length co32)) (fun _ hk => hk.2) (.int .i64 0)) (fun _ hk => hk.2) (.int .i64 0)) (fun _ hk => trivial), bel_⟩
          · replace c31 := Bool.eq_false_iff.mpr c31
            subst c31
            rw [if_neg (show ¬ (false = true) by decide)] at H
            simp only [Option.some.injEq, Prod.mk.injEq] at H
            obtain ⟨rfl, rfl, rfl⟩ := H
            go_wp2_with (first | ((with_reducible refine gate_callee (f := 42) rfl ?_); refine gl_ (some 14) Tryd.func42 #[.string a0] ?_; (with_reducible refine (impl_long.calls a0 t305 _ A7.out).mono ?_); rintro e w' ⟨rfl, ⟨nd, rfl⟩⟩; refine ⟨_, rfl, ?_⟩; (try (rw [drewN_self wr]; generalize hq_ : World.drewN wr _ = wr; replace HO_3 : Aside0 (Kd.R k60 60 wr w.heap.size (fun _ => True) u3 x3_1) := ⟨by rw [← hq_]; exact (ro_ HO_3.out)⟩; replace BK303 : Aside0 (wr.heap[gb303]? = some (.cells #[.slice none 0 0, .int .i64 x304001_1, .int .i64 x304002_1] 24 (0, 0))) := ⟨by rw [← hq_]; exact (bk_ BK303.out)⟩; replace HB : Aside0 (Below w.heap.size w wr) := ⟨by rw [← hq_]; exact bel_⟩; clear hq_)); obtain ⟨Ao35, co35, eo35⟩ := Kd.R_slice HO_3.out; subst eo35) | ((with_reducible refine gate_callee (f := 16) rfl ?_); refine gl_ (some 34) Tryd.func16 #[.slice Ao35 x3_1.length co35] ?_; (with_reducible refine (impl_PackRight.calls k1 _ _ x3_1 false _ ?side1 ?side2 A30.out).mono ?_); (case side1 => repeat (first | exact (Kd.R_reads' HO_3.out).2.2 | (with_reducible refine Kd.C_alloc ?_ _) | (with_reducible refine Kd.C_drewN ?_ _) | (with_reducible refine Kd.C_drew ?_))); (case side2 => exact (Kd.R_reads' HO_3.out).2.1); rintro e w36 ⟨rfl, hb⟩; refine ⟨_, rfl, ?_⟩; replace HO_3 := AM (Kd.R_below (ro_ HO_3.out) hb); replace BK303 := AM (blk_below (g := gb303) (o := .cells #[.slice none 0 0, .int .i64 x304001_1, .int .i64 x304002_1] 24 (0, 0)) (bk_ BK303.out) hb); replace HB := AM (below_step bel_ hb); (try clear hb); (try clear hb2); (try clear hk); (try clear hi); have hcz37_0 : w36.cell? ⟨gb303, 0, none⟩ = some (.slice none 0 0) := (blk_cell BK303.out 0).trans rfl; have hcz37_1 : w36.cell? ⟨gb303, 1, none⟩ = some (.int .i64 x304001_1) := (blk_cell BK303.out 1).trans rfl; have hcz37_2 : w36.cell? ⟨gb303, 2, none⟩ = some (.int .i64 x304002_1) := (blk_cell BK303.out 2).trans rfl; have hfz37_0 := blk_frozen BK303.out 0; have hfz37_1 := blk_frozen BK303.out 1; have hfz37_2 := blk_frozen BK303.out 2))
            refine bodyPost_ret (results_cell_row rfl _ _ gb303 24 #[.slice none 0 0, .int .i64 0, .int .i64 1] (0, 0) _ rfl bka_ Tryd.underlying24 rfl (by kernel_rfl)) rfl ?_
            exact ⟨_, ri_, by first | exact Kd.R_nil _ _ _ _ _ | exact Kd.N_nil _ _ _ _ _ | exact Kd.V_nil _ _ _ _ _ | exact Kd.Q_nil _ _ _ _ _ | exact Kd.S_nil _ _ _ _ _, bel_⟩

/-! ### laws_eqBlob: function 89 -/
def laws_eqBlob.f (a0_0 : Int) (a0_1 : ByteArray) (a1_0 : Int) (a1_1 : ByteArray) : Option (Bool) := if a0_0 = a1_0 then (if a0_1.toList = a1_1.toList then (some true) else (some false)) else (some false)
set_option maxHeartbeats 8000000 in
set_option maxRecDepth 100000 in
theorem laws_eqBlob.calls (a0_0 : Int) (a0_1 : ByteArray) (a1_0 : Int) (a1_1 : ByteArray) (r : Bool) (w : World) (h : laws_eqBlob.f a0_0 a0_1 a1_0 a1_1 = some r) :
    Calls Tryd.prog 89 #[.agg #[.int .i64 a0_0, .string a0_1], .agg #[.int .i64 a1_0, .string a1_1]] w fun e w' => e = .returned (.bool r) ∧ Below w.heap.size w w' := by
  have hu60 := Tryd.underlying60
  have HB := AM (Below.refl w.heap.size w)
  have H : (if a0_0 = a1_0 then (if a0_1.toList = a1_1.toList then (some true) else (some false)) else (some false)) = some r := h
  clear h
  by_cases c3 : a0_0 = a1_0
  · rw [if_pos c3] at H
    have c3b0 : (a0_0 == a1_0) = true := beq_iff_eq.mpr c3
    have c3b1 : (a0_0 != a1_0) = false := bne_eq_false_iff_eq.mpr c3
    clear c3
    by_cases c4 : a0_1.toList = a1_1.toList
    · rw [if_pos c4] at H
      have c4b0 : (a0_1.toList == a1_1.toList) = true := beq_iff_eq.mpr c4
      have c4b1 : (a0_1.toList != a1_1.toList) = false := bne_eq_false_iff_eq.mpr c4
      clear c4
      obtain rfl := Option.some.inj H
      go_enter Tryd.func89, Tryd.ntmps89
      go_wp2_with (first | ((with_reducible refine gate_dst (N := 2) rfl ?_); refine be_ 2 #[.int .i64 a0_0, .string a0_1] 60 ?_; intro gb320 hg w5 hbox hb; have BK320 := AM hbox; have GW320 := AM ((by rw [hg]; exact (below_size bel_) : w.heap.size ≤ gb320)); have GE320 := AM ((by rw [hg]; exact (below_size bel_) : w.heap.size ≤ gb320)); replace HB := AM (below_step bel_ hb); clear hb hbox hg) | ((with_reducible refine gate_dst (N := 3) rfl ?_); refine be_ 3 #[.int .i64 a1_0, .string a1_1] 60 ?_; intro gb321 hg w6 hbox hb; have BK321 := AM hbox; have GW321 := AM ((by rw [hg]; exact (below_size bel_) : w.heap.size ≤ gb321)); have GE321 := AM ((by rw [hg]; exact (below_size bel_) : w.heap.size ≤ gb321)); replace HB := AM (below_step bel_ hb); have NB320_321 := AM ((by rw [hg]; exact Nat.ne_of_lt (blk_lt (g := gb320) (o := .cells #[.int .i64 a0_0, .string a0_1] 60 (0, 0)) (bk_ BK320.out)) : gb320 ≠ gb321)); have NB321_320 := AM ((by rw [hg]; exact Nat.ne_of_gt (blk_lt (g := gb320) (o := .cells #[.int .i64 a0_0, .string a0_1] 60 (0, 0)) (bk_ BK320.out)) : gb321 ≠ gb320)); replace BK320 := AM (blk_below (g := gb320) (o := .cells #[.int .i64 a0_0, .string a0_1] 60 (0, 0)) (bk_ BK320.out) hb); clear hb hbox hg; have hnb7 := NB320_321.out; have hnc7 := NB321_320.out; have hcz8_0 : w6.cell? ⟨gb320, 0, none⟩ = some (.int .i64 a0_0) := (blk_cell BK320.out 0).trans rfl; have hcz8_1 : w6.cell? ⟨gb320, 1, none⟩ = some (.string a0_1) := (blk_cell BK320.out 1).trans rfl; have hfz8_0 := blk_frozen BK320.out 0; have hfz8_1 := blk_frozen BK320.out 1; have hcz9_0 : w6.cell? ⟨gb321, 0, none⟩ = some (.int .i64 a1_0) := (blk_cell BK321.out 0).trans rfl; have hcz9_1 : w6.cell? ⟨gb321, 1, none⟩ = some (.string a1_1) := (blk_cell BK321.out 1).trans rfl; have hfz9_0 := blk_frozen BK321.out 0; have hfz9_1 := blk_frozen BK321.out 1))
      go_ret
      exact ⟨ri_, bel_⟩
    · rw [if_neg c4] at H
      have c4b0 : (a0_1.toList == a1_1.toList) = false := beq_eq_false_iff_ne.mpr c4
      have c4b1 : (a0_1.toList != a1_1.toList) = true := bne_iff_ne.mpr c4
      obtain rfl := Option.some.inj H
      go_enter Tryd.func89, Tryd.ntmps89
      go_wp2_with (first | ((with_reducible refine gate_dst (N := 2) rfl ?_); refine be_ 2 #[.int .i64 a0_0, .string a0_1] 60 ?_; intro gb320 hg w10 hbox hb; have BK320 := AM hbox; have GW320 := AM ((by rw [hg]; exact (below_size bel_) : w.heap.size ≤ gb320)); have GE320 := AM ((by rw [hg]; exact (below_size bel_) : w.heap.size ≤ gb320)); replace HB := AM (below_step bel_ hb); clear hb hbox hg) | ((with_reducible refine gate_dst (N := 3) rfl ?_); refine be_ 3 #[.int .i64 a1_0, .string a1_1] 60 ?_; intro gb321 hg w11 hbox hb; have BK321 := AM hbox; have GW321 := AM ((by rw [hg]; exact (below_size bel_) : w.heap.size ≤ gb321)); have GE321 := AM ((by rw [hg]; exact (below_size bel_) : w.heap.size ≤ gb321)); replace HB := AM (below_step bel_ hb); have NB320_321 := AM ((by rw [hg]; exact Nat.ne_of_lt (blk_lt (g := gb320) (o := .cells #[.int .i64 a0_0, .string a0_1] 60 (0, 0)) (bk_ BK320.out)) : gb320 ≠ gb321)); have NB321_320 := AM ((by rw [hg]; exact Nat.ne_of_gt (blk_lt (g := gb320) (o := .cells #[.int .i64 a0_0, .string a0_1] 60 (0, 0)) (bk_ BK320.out)) : gb321 ≠ gb320)); replace BK320 := AM (blk_below (g := gb320) (o := .cells #[.int .i64 a0_0, .string a0_1] 60 (0, 0)) (bk_ BK320.out) hb); clear hb hbox hg; have hnb12 := NB320_321.out; have hnc12 := NB321_320.out; have hcz13_0 : w11.cell? ⟨gb320, 0, none⟩ = some (.int .i64 a0_0) := (blk_cell BK320.out 0).trans rfl; have hcz13_1 : w11.cell? ⟨gb320, 1, none⟩ = some (.string a0_1) := (blk_cell BK320.out 1).trans rfl; have hfz13_0 := blk_frozen BK320.out 0; have hfz13_1 := blk_frozen BK320.out 1; have hcz14_0 : w11.cell? ⟨gb321, 0, none⟩ = some (.int .i64 a1_0) := (blk_cell BK321.out 0).trans rfl; have hcz14_1 : w11.cell? ⟨gb321, 1, none⟩ = some (.string a1_1) := (blk_cell BK321.out 1).trans rfl; have hfz14_0 := blk_frozen BK321.out 0; have hfz14_1 := blk_frozen BK321.out 1))
      go_ret
      exact ⟨ri_, bel_⟩
  · rw [if_neg c3] at H
    have c3b0 : (a0_0 == a1_0) = false := beq_eq_false_iff_ne.mpr c3
    have c3b1 : (a0_0 != a1_0) = true := bne_iff_ne.mpr c3
    obtain rfl := Option.some.inj H
    go_enter Tryd.func89, Tryd.ntmps89
    go_wp2_with (first | ((with_reducible refine gate_dst (N := 2) rfl ?_); refine be_ 2 #[.int .i64 a0_0, .string a0_1] 60 ?_; intro gb320 hg w15 hbox hb; have BK320 := AM hbox; have GW320 := AM ((by rw [hg]; exact (below_size bel_) : w.heap.size ≤ gb320)); have GE320 := AM ((by rw [hg]; exact (below_size bel_) : w.heap.size ≤ gb320)); replace HB := AM (below_step bel_ hb); clear hb hbox hg) | ((with_reducible refine gate_dst (N := 3) rfl ?_); refine be_ 3 #[.int .i64 a1_0, .string a1_1] 60 ?_; intro gb321 hg w16 hbox hb; have BK321 := AM hbox; have GW321 := AM ((by rw [hg]; exact (below_size bel_) : w.heap.size ≤ gb321)); have GE321 := AM ((by rw [hg]; exact (below_size bel_) : w.heap.size ≤ gb321)); replace HB := AM (below_step bel_ hb); have NB320_321 := AM ((by rw [hg]; exact Nat.ne_of_lt (blk_lt (g := gb320) (o := .cells #[.int .i64 a0_0, .string a0_1] 60 (0, 0)) (bk_ BK320.out)) : gb320 ≠ gb321)); have NB321_320 := AM ((by rw [hg]; exact Nat.ne_of_gt (blk_lt (g := gb320) (o := .cells #[.int .i64 a0_0, .string a0_1] 60 (0, 0)) (bk_ BK320.out)) : gb321 ≠ gb320)); replace BK320 := AM (blk_below (g := gb320) (o := .cells #[.int .i64 a0_0, .string a0_1] 60 (0, 0)) (bk_ BK320.out) hb); clear hb hbox hg; have hnb17 := NB320_321.out; have hnc17 := NB321_320.out; have hcz18_0 : w16.cell? ⟨gb320, 0, none⟩ = some (.int .i64 a0_0) := (blk_cell BK320.out 0).trans rfl; have hcz18_1 : w16.cell? ⟨gb320, 1, none⟩ = some (.string a0_1) := (blk_cell BK320.out 1).trans rfl; have hfz18_0 := blk_frozen BK320.out 0; have hfz18_1 := blk_frozen BK320.out 1; have hcz19_0 : w16.cell? ⟨gb321, 0, none⟩ = some (.int .i64 a1_0) := (blk_cell BK321.out 0).trans rfl; have hcz19_1 : w16.cell? ⟨gb321, 1, none⟩ = some (.string a1_1) := (blk_cell BK321.out 1).trans rfl; have hfz19_0 := blk_frozen BK321.out 0; have hfz19_1 := blk_frozen BK321.out 1))
    go_ret
    exact ⟨ri_, bel_⟩

end Go.Proofs.YtfffdndeccipnaaDoor.PFnExactPackRead
