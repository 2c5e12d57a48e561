-- A program of this session wrote this text: a changed copy of the kit print, with given functions.
import Derived.Test.YtddapeieolfolaaDoorPFnFramex0
import Derived.Test.YtddapeieolfolaaDoorPFnFramex6
import Derived.Test.YtddapeieolfolaaDoorPFnFramex7
import Derived.Test.YtddapeieolfolaaDoorPFnFramex8
import Derived.Test.YtddapeieolfolaaDoorPFnFramex11
import Derived.Test.YtddapeieolfolaaDoorPFnFramex12
namespace Go.Proofs.YtddapeieolfolaaDoor.PFnFrame
open Go.RowKit Go.Proofs.YtddapeieolfolaaDoorW.PrintWords Go.Proofs.YtddapeieolfolaaDoorW.PrintLast Go.Proofs.YtddapeieolfolaaDoorW.PrintMore Go.Proofs.YtddapeieolfolaaDoor.Aut
attribute [local go_sem] max2_int min2_int max_two min_two max_three min_three max_four min_four   -- for this text's walks alone
set_option linter.unusedVariables false
set_option linter.unusedSimpArgs false

/-! ### impl_readFrame: function 81 -/
def impl_readFrame.f (k : Nat) (a0 : ByteArray) : Option (Int × Int × Int × Int × ByteArray × ByteArray × Bool) := (impl_reader_take.f a0 0 false 1).bind fun bt258 => ((impl_reader_num.f k bt258.2.1 bt258.2.2.1 bt258.2.2.2).bind fun bt262 => ((impl_reader_num.f k bt262.2.1 bt262.2.2.1 bt262.2.2.2).bind fun bt266 => ((impl_reader_num.f k bt266.2.1 bt266.2.2.1 bt266.2.2.2).bind fun bt270 => ((impl_reader_num.f k bt270.2.1 bt270.2.2.1 bt270.2.2.2).bind fun bt274 => ((impl_reader_take.f bt274.2.1 bt274.2.2.1 bt274.2.2.2 32).bind fun bt278 => ((impl_reader_take.f bt278.2.1 bt278.2.2.1 bt278.2.2.2 32).bind fun bt283 => ((impl_long.f a0).bind fun t287 => ((impl_reader_take.f bt283.2.1 bt283.2.2.1 bt283.2.2.2 (wrap64 (t287 - bt283.2.2.1))).bind fun bt288 => (if bt288.2.2.2 = true then (some (0, 0, 0, 0, (⟨#[]⟩ : ByteArray), (⟨#[]⟩ : ByteArray), false)) else (if bt258.1.toList = ([70] : List UInt8) then ((impl_FrameRight.f bt262.1 bt266.1 bt270.1 bt274.1 bt278.1 bt288.1).bind fun t292 => (if t292 = true then ((impl_Frame_bytes.f k bt262.1 bt266.1 bt270.1 bt274.1 bt278.1 bt288.1).bind fun t293 => (if t293.toList = a0.toList then (some (bt262.1, bt266.1, bt270.1, bt274.1, bt278.1, bt288.1, true)) else (some (0, 0, 0, 0, (⟨#[]⟩ : ByteArray), (⟨#[]⟩ : ByteArray), false)))) else (some (0, 0, 0, 0, (⟨#[]⟩ : ByteArray), (⟨#[]⟩ : ByteArray), false)))) else (some (0, 0, 0, 0, (⟨#[]⟩ : ByteArray), (⟨#[]⟩ : ByteArray), false))))))))))))
theorem impl_readFrame.mono : ∀ a0 k, LeO (impl_readFrame.f k a0) (impl_readFrame.f (k + 1) a0) := by
  intro a0 k
  unfold impl_readFrame.f
  repeat' first
      | (with_reducible exact impl_Frame_bytes.mono _ _ _ _ _ _ _)
      | (with_reducible exact impl_reader_num.mono _ _ _ _)
      | (with_reducible exact LeO.refl _)
      | (with_reducible exact LeO.none _)
      | (with_reducible refine LeO.ite ?_ ?_)
      | (with_reducible refine LeO.bind ?_ (fun _ => ?_))
      | exact impl_Frame_bytes.mono _ _ _ _ _ _ _
      | exact impl_reader_num.mono _ _ _ _
      | exact LeO.none _
      | refine LeO.ite ?_ ?_
      | refine LeO.bind ?_ (fun _ => ?_)
def impl_readFrame.T5 : Bool × List (List Nat × List Nat) := (true, [([], []), ([], []), ([1], [1]), ([], []), ([3], [3]), ([4], [4]), ([5], [5]), ([2, 6], [2, 6]), ([0, 7, 2], [0, 7]), ([0, 1, 2, 3, 4, 5, 6, 7, 8], []), ([9, 8, 8, 0, 1, 2, 3, 4, 5, 6, 7, 8], [8, 9])])
def impl_readFrame.B5 : List Nat := [0, 0, 2, 0, 8, 24, 56, 126, 255, 511, 1023]
theorem impl_readFrame.tab5 : rtab .any (opsOf Tryd.f81 5) = impl_readFrame.T5 := by kernel_rfl
theorem impl_readFrame.bits5 : waitsOk impl_readFrame.T5.2 impl_readFrame.B5 = true := by kernel_rfl
set_option maxHeartbeats 8000000 in
set_option maxRecDepth 100000 in
theorem impl_readFrame.calls (k : Nat) (a0 : ByteArray) (r1 : Int) (r2 : Int) (r3 : Int) (r4 : Int) (r5 : ByteArray) (r6 : ByteArray) (r7 : Bool) (w : World) (h : impl_readFrame.f k a0 = some (r1, r2, r3, r4, r5, r6, r7)) (hL : Hand.LaidG w := by first | exact hL | exact Hand.LaidG.below hL bel_) :
    Calls Tryd.prog 81 #[.string a0] w fun e w' => e = .returned (.tuple #[.agg #[.int .i64 r1, .int .i64 r2, .int .i64 r3, .int .i64 r4, .string r5, .string r6], .bool r7]) ∧ Below w.heap.size w w' := by
  have hu28 := Tryd.underlying28
  have hu134 := Tryd.underlying134
  have HB := AM (Below.refl w.heap.size w)
  have H : ((impl_reader_take.f a0 0 false 1).bind fun bt258 => ((impl_reader_num.f k bt258.2.1 bt258.2.2.1 bt258.2.2.2).bind fun bt262 => ((impl_reader_num.f k bt262.2.1 bt262.2.2.1 bt262.2.2.2).bind fun bt266 => ((impl_reader_num.f k bt266.2.1 bt266.2.2.1 bt266.2.2.2).bind fun bt270 => ((impl_reader_num.f k bt270.2.1 bt270.2.2.1 bt270.2.2.2).bind fun bt274 => ((impl_reader_take.f bt274.2.1 bt274.2.2.1 bt274.2.2.2 32).bind fun bt278 => ((impl_reader_take.f bt278.2.1 bt278.2.2.1 bt278.2.2.2 32).bind fun bt283 => ((impl_long.f a0).bind fun t287 => ((impl_reader_take.f bt283.2.1 bt283.2.2.1 bt283.2.2.2 (wrap64 (t287 - bt283.2.2.1))).bind fun bt288 => (if bt288.2.2.2 = true then (some (0, 0, 0, 0, (⟨#[]⟩ : ByteArray), (⟨#[]⟩ : ByteArray), false)) else (if bt258.1.toList = ([70] : List UInt8) then ((impl_FrameRight.f bt262.1 bt266.1 bt270.1 bt274.1 bt278.1 bt288.1).bind fun t292 => (if t292 = true then ((impl_Frame_bytes.f k bt262.1 bt266.1 bt270.1 bt274.1 bt278.1 bt288.1).bind fun t293 => (if t293.toList = a0.toList then (some (bt262.1, bt266.1, bt270.1, bt274.1, bt278.1, bt288.1, true)) else (some (0, 0, 0, 0, (⟨#[]⟩ : ByteArray), (⟨#[]⟩ : ByteArray), false)))) else (some (0, 0, 0, 0, (⟨#[]⟩ : ByteArray), (⟨#[]⟩ : ByteArray), false)))) else (some (0, 0, 0, 0, (⟨#[]⟩ : ByteArray), (⟨#[]⟩ : ByteArray), false))))))))))))) = some (r1, r2, r3, r4, r5, r6, r7) := h
  clear h
  obtain ⟨⟨t258, t259, t260, t261⟩, A2, H⟩ := OB H
  try dsimp only at H
  replace A2 := AM A2
  obtain ⟨⟨t262, t263, t264, t265⟩, A3, H⟩ := OB H
  try dsimp only at H
  replace A3 := AM A3
  obtain ⟨⟨t266, t267, t268, t269⟩, A4, H⟩ := OB H
  try dsimp only at H
  replace A4 := AM A4
  obtain ⟨⟨t270, t271, t272, t273⟩, A5, H⟩ := OB H
  try dsimp only at H
  replace A5 := AM A5
  obtain ⟨⟨t274, t275, t276, t277⟩, A6, H⟩ := OB H
  try dsimp only at H
  replace A6 := AM A6
  obtain ⟨⟨t278, t279, t280, t281⟩, A7, H⟩ := OB H
  try dsimp only at H
  replace A7 := AM A7
  obtain ⟨⟨t283, t284, t285, t286⟩, A8, H⟩ := OB H
  try dsimp only at H
  replace A8 := AM A8
  obtain ⟨t287, A9, H⟩ := OB H
  try dsimp only at H
  replace A9 := AM A9
  obtain ⟨⟨t288, t289, t290, t291⟩, A10, H⟩ := OB H
  try dsimp only at H
  replace A10 := AM A10
  by_cases c11 : t291 = true
  · subst c11
    rw [if_pos rfl] at H
    simp only [Option.some.injEq, Prod.mk.injEq] at H
    obtain ⟨rfl, rfl, rfl, rfl, rfl, rfl, rfl⟩ := H
    go_enter Tryd.func81, Tryd.ntmps81
    try go_wp2_with (first | ((with_reducible refine gate_dst (N := 2) rfl ?_); refine be_ 2 #[.int .i64 0, .int .i64 0, .int .i64 0, .int .i64 0, .string (⟨#[]⟩ : ByteArray), .string (⟨#[]⟩ : ByteArray)] 28 ?_; intro gb256 hg w12 hbox hb; have BK256 := AM hbox; have GW256 := AM ((by rw [hg]; exact (below_size bel_) : w.heap.size ≤ gb256)); have GE256 := AM ((by rw [hg]; exact (below_size bel_) : w.heap.size ≤ gb256)); replace HB := AM (below_step bel_ hb); clear hb hbox hg) | ((with_reducible refine gate_dst (N := 9) rfl ?_); refine be_ 9 #[.string a0, .int .i64 0, .bool false] 134 ?_; intro gb257 hg w13 hbox hb; have NB256_257 := AM ((by rw [hg]; exact Nat.ne_of_lt (blk_lt (g := gb256) (o := .cells #[.int .i64 0, .int .i64 0, .int .i64 0, .int .i64 0, .string (⟨#[]⟩ : ByteArray), .string (⟨#[]⟩ : ByteArray)] 28 (0, 0)) (bk_ BK256.out)) : gb256 ≠ gb257)); have NB257_256 := AM ((by rw [hg]; exact Nat.ne_of_gt (blk_lt (g := gb256) (o := .cells #[.int .i64 0, .int .i64 0, .int .i64 0, .int .i64 0, .string (⟨#[]⟩ : ByteArray), .string (⟨#[]⟩ : ByteArray)] 28 (0, 0)) (bk_ BK256.out)) : gb257 ≠ gb256)); replace BK256 := AM (blk_below (g := gb256) (o := .cells #[.int .i64 0, .int .i64 0, .int .i64 0, .int .i64 0, .string (⟨#[]⟩ : ByteArray), .string (⟨#[]⟩ : ByteArray)] 28 (0, 0)) (bk_ BK256.out) hb); have HI257 := AM ((⟨hbox, (by rw [hg]; exact (below_size bel_) : w.heap.size ≤ gb257)⟩ : IsS134 w w13 gb257 a0 0 false)); replace HB := AM (below_step bel_ hb); clear hb hbox hg) | ((with_reducible refine gate_callee (f := 115) rfl ?_); refine gl_ (some 11) Tryd.func115 #[.pointer (some ⟨gb257, 0, none⟩), .int .i64 1] ?_; (with_reducible refine (impl_reader_take.calls gb257 a0 0 false 1 t258 t259 t260 t261 w _ ?side1 ?side2 A2.out).mono ?_); (case side1 => exact is134_); (case side2 => exact belg_ (IsS134.ge HI257.out)); rintro e w14 ⟨rfl, hi, hb, hk⟩; refine ⟨_, rfl, ?_⟩; replace BK256 := AM (KeepBut.blk hk (g' := gb256) (o := .cells #[.int .i64 0, .int .i64 0, .int .i64 0, .int .i64 0, .string (⟨#[]⟩ : ByteArray), .string (⟨#[]⟩ : ByteArray)] 28 (0, 0)) (bk_ BK256.out) NB256_257.out (by simp)); replace HB := AM hb; replace HI257 := AM hi; (try clear hb); (try clear hb2); (try clear hk); (try clear hi)) | ((with_reducible refine gate_callee (f := 116) rfl ?_); refine gl_ (some 13) Tryd.func116 #[.pointer (some ⟨gb257, 0, none⟩)] ?_; (with_reducible refine (impl_reader_num.calls k gb257 t259 t260 t261 t262 t263 t264 t265 w _ ?side1 ?side2 A3.out).mono ?_); (case side1 => exact is134_); (case side2 => exact belg_ (IsS134.ge HI257.out)); rintro e w15 ⟨rfl, hi, hb, hk⟩; refine ⟨_, rfl, ?_⟩; replace BK256 := AM (KeepBut.blk hk (g' := gb256) (o := .cells #[.int .i64 0, .int .i64 0, .int .i64 0, .int .i64 0, .string (⟨#[]⟩ : ByteArray), .string (⟨#[]⟩ : ByteArray)] 28 (0, 0)) (bk_ BK256.out) NB256_257.out (by simp)); replace HB := AM hb; replace HI257 := AM hi; (try clear hb); (try clear hb2); (try clear hk); (try clear hi)) | ((with_reducible refine gate_callee (f := 116) rfl ?_); refine gl_ (some 15) Tryd.func116 #[.pointer (some ⟨gb257, 0, none⟩)] ?_; (with_reducible refine (impl_reader_num.calls k gb257 t263 t264 t265 t266 t267 t268 t269 w _ ?side1 ?side2 A4.out).mono ?_); (case side1 => exact is134_); (case side2 => exact belg_ (IsS134.ge HI257.out)); rintro e w16 ⟨rfl, hi, hb, hk⟩; refine ⟨_, rfl, ?_⟩; replace BK256 := AM (KeepBut.blk hk (g' := gb256) (o := .cells #[.int .i64 0, .int .i64 0, .int .i64 0, .int .i64 0, .string (⟨#[]⟩ : ByteArray), .string (⟨#[]⟩ : ByteArray)] 28 (0, 0)) (bk_ BK256.out) NB256_257.out (by simp)); replace HB := AM hb; replace HI257 := AM hi; (try clear hb); (try clear hb2); (try clear hk); (try clear hi)) | ((with_reducible refine gate_callee (f := 116) rfl ?_); refine gl_ (some 17) Tryd.func116 #[.pointer (some ⟨gb257, 0, none⟩)] ?_; (with_reducible refine (impl_reader_num.calls k gb257 t267 t268 t269 t270 t271 t272 t273 w _ ?side1 ?side2 A5.out).mono ?_); (case side1 => exact is134_); (case side2 => exact belg_ (IsS134.ge HI257.out)); rintro e w17 ⟨rfl, hi, hb, hk⟩; refine ⟨_, rfl, ?_⟩; replace BK256 := AM (KeepBut.blk hk (g' := gb256) (o := .cells #[.int .i64 0, .int .i64 0, .int .i64 0, .int .i64 0, .string (⟨#[]⟩ : ByteArray), .string (⟨#[]⟩ : ByteArray)] 28 (0, 0)) (bk_ BK256.out) NB256_257.out (by simp)); replace HB := AM hb; replace HI257 := AM hi; (try clear hb); (try clear hb2); (try clear hk); (try clear hi)) | ((with_reducible refine gate_callee (f := 116) rfl ?_); refine gl_ (some 19) Tryd.func116 #[.pointer (some ⟨gb257, 0, none⟩)] ?_; (with_reducible refine (impl_reader_num.calls k gb257 t271 t272 t273 t274 t275 t276 t277 w _ ?side1 ?side2 A6.out).mono ?_); (case side1 => exact is134_); (case side2 => exact belg_ (IsS134.ge HI257.out)); rintro e w18 ⟨rfl, hi, hb, hk⟩; refine ⟨_, rfl, ?_⟩; replace BK256 := AM (KeepBut.blk hk (g' := gb256) (o := .cells #[.int .i64 0, .int .i64 0, .int .i64 0, .int .i64 0, .string (⟨#[]⟩ : ByteArray), .string (⟨#[]⟩ : ByteArray)] 28 (0, 0)) (bk_ BK256.out) NB256_257.out (by simp)); replace HB := AM hb; replace HI257 := AM hi; (try clear hb); (try clear hb2); (try clear hk); (try clear hi)) | ((with_reducible refine gate_callee (f := 115) rfl ?_); refine gl_ (some 21) Tryd.func115 #[.pointer (some ⟨gb257, 0, none⟩), .int .i64 32] ?_; (with_reducible refine (impl_reader_take.calls gb257 t275 t276 t277 32 t278 t279 t280 t281 w _ ?side1 ?side2 A7.out).mono ?_); (case side1 => exact is134_); (case side2 => exact belg_ (IsS134.ge HI257.out)); rintro e w19 ⟨rfl, hi, hb, hk⟩; refine ⟨_, rfl, ?_⟩; replace BK256 := AM (KeepBut.blk hk (g' := gb256) (o := .cells #[.int .i64 0, .int .i64 0, .int .i64 0, .int .i64 0, .string (⟨#[]⟩ : ByteArray), .string (⟨#[]⟩ : ByteArray)] 28 (0, 0)) (bk_ BK256.out) NB256_257.out (by simp)); replace HB := AM hb; replace HI257 := AM hi; (try clear hb); (try clear hb2); (try clear hk); (try clear hi)) | ((with_reducible refine gate_dst (N := 6) rfl ?_); refine be_ 6 #[.int .i64 0, .int .i64 0, .int .i64 0, .int .i64 0, .string (⟨#[]⟩ : ByteArray), .string (⟨#[]⟩ : ByteArray)] 28 ?_; intro gb282 hg w20 hbox hb; have BK282 := AM hbox; have GW282 := AM ((by rw [hg]; exact (below_size (belg_ (IsS134.ge HI257.out))) : w.heap.size ≤ gb282)); have GE282 := AM ((by rw [hg]; exact (below_size (belg_ (IsS134.ge HI257.out))) : w.heap.size ≤ gb282)); replace HB := AM (below_step (belg_ (IsS134.ge HI257.out)) hb); have NB256_282 := AM ((by rw [hg]; exact Nat.ne_of_lt (blk_lt (g := gb256) (o := .cells #[.int .i64 0, .int .i64 0, .int .i64 0, .int .i64 0, .string (⟨#[]⟩ : ByteArray), .string (⟨#[]⟩ : ByteArray)] 28 (0, 0)) (bk_ BK256.out)) : gb256 ≠ gb282)); have NB282_256 := AM ((by rw [hg]; exact Nat.ne_of_gt (blk_lt (g := gb256) (o := .cells #[.int .i64 0, .int .i64 0, .int .i64 0, .int .i64 0, .string (⟨#[]⟩ : ByteArray), .string (⟨#[]⟩ : ByteArray)] 28 (0, 0)) (bk_ BK256.out)) : gb282 ≠ gb256)); replace BK256 := AM (blk_below (g := gb256) (o := .cells #[.int .i64 0, .int .i64 0, .int .i64 0, .int .i64 0, .string (⟨#[]⟩ : ByteArray), .string (⟨#[]⟩ : ByteArray)] 28 (0, 0)) (bk_ BK256.out) hb); have NB257_282 := AM ((by rw [hg]; exact Nat.ne_of_lt (IsS134.lt (show IsS134 w _ gb257 t279 t280 t281 from is134_)) : gb257 ≠ gb282)); have NB282_257 := AM ((by rw [hg]; exact Nat.ne_of_gt (IsS134.lt (show IsS134 w _ gb257 t279 t280 t281 from is134_)) : gb282 ≠ gb257)); replace HI257 := AM (IsS134.below is134_ hb); clear hb hbox hg; have hnb21 := NB282_256.out; have hnc21 := NB256_282.out; have hnb22 := NB282_257.out; have hnc22 := NB257_282.out; have hcz23_0 : w20.cell? ⟨gb282, 0, none⟩ = some (.int .i64 0) := (blk_cell BK282.out 0).trans rfl; have hcz23_1 : w20.cell? ⟨gb282, 1, none⟩ = some (.int .i64 0) := (blk_cell BK282.out 1).trans rfl; have hcz23_2 : w20.cell? ⟨gb282, 2, none⟩ = some (.int .i64 0) := (blk_cell BK282.out 2).trans rfl; have hcz23_3 : w20.cell? ⟨gb282, 3, none⟩ = some (.int .i64 0) := (blk_cell BK282.out 3).trans rfl; have hcz23_4 : w20.cell? ⟨gb282, 4, none⟩ = some (.string (⟨#[]⟩ : ByteArray)) := (blk_cell BK282.out 4).trans rfl; have hcz23_5 : w20.cell? ⟨gb282, 5, none⟩ = some (.string (⟨#[]⟩ : ByteArray)) := (blk_cell BK282.out 5).trans rfl; have hfz23_0 := blk_frozen BK282.out 0; have hfz23_1 := blk_frozen BK282.out 1; have hfz23_2 := blk_frozen BK282.out 2; have hfz23_3 := blk_frozen BK282.out 3; have hfz23_4 := blk_frozen BK282.out 4; have hfz23_5 := blk_frozen BK282.out 5) | ((with_reducible refine gate_callee (f := 115) rfl ?_); refine gl_ (some 24) Tryd.func115 #[.pointer (some ⟨gb257, 0, none⟩), .int .i64 32] ?_; (with_reducible refine (impl_reader_take.calls gb257 t279 t280 t281 32 t283 t284 t285 t286 w _ ?side1 ?side2 A8.out).mono ?_); (case side1 => exact is134_); (case side2 => exact belg_ (IsS134.ge HI257.out)); rintro e w24 ⟨rfl, hi, hb, hk⟩; refine ⟨_, rfl, ?_⟩; have n0_ := AM (KeepBut.blk hk (g' := gb256) (o := .cells #[.int .i64 0, .int .i64 0, .int .i64 0, .int .i64 0, .string (⟨#[]⟩ : ByteArray), .string (⟨#[]⟩ : ByteArray)] 28 (0, 0)) bka_ NB256_257.out (by simp)); have n1_ := AM (KeepBut.blk hk (g' := gb282) (o := .cells #[.int .i64 t262, .int .i64 t266, .int .i64 t270, .int .i64 t274, .string t278, .string (⟨#[]⟩ : ByteArray)] 28 (0, 0)) bka_ NB282_257.out (by simp)); have n2_ := AM hb; have n3_ := AM hi; clear BK256; clear BK282; clear HB; clear HI257; have BK256 := n0_; have BK282 := n1_; have HB := n2_; have HI257 := n3_; clear n0_ n1_ n2_ n3_; (try clear hb); (try clear hb2); (try clear hk); (try clear hi)))
    replace BK256 := AM (blk_drew BK256.out)
    replace BK282 := AM (blk_drew BK282.out)
    replace HI257 := AM (IsS134.drew HI257.out)
    replace HB := AM (below_drew1 HB.out)
    refine start_ (n := 11) (S := fun w' => w'.cell? ⟨gb257, 0, none⟩ = some (.string t284) ∧ w'.cell? ⟨gb257, 1, none⟩ = some (.int .i64 t285) ∧ w'.cell? ⟨gb257, 2, none⟩ = some (.bool t286)) (ds := [8, 10]) (Array.replicate 11 false) (by kernel_rfl) rfl rfl ⟨(cellS134_0 HI257.out.1), (cellS134_1 HI257.out.1), (cellS134_2 HI257.out.1)⟩ (fun hHeld => ?_); refine with_tabW impl_readFrame.tab5 impl_readFrame.bits5 (fun HT_ HW_ => ?_)
    generalize w24.drew = w25 at BK256 BK282 HI257 HB hHeld ⊢
    refine pu_ HT_ 0 (some 25) (bA 11 1) ?_
    refine pu_ HT_ 1 (some 26) (bA 11 3) ?_
    refine pu_ HT_ 3 (some 28) (bA 11 11) ?_
    refine pu_ HT_ 4 (some 29) (bA 11 27) ?_
    refine pu_ HT_ 5 (some 30) (bA 11 59) ?_
    refine ta_ HT_ HW_ 6 (some 31) (bA 11 123) hHeld ?_
    refine on_ HT_ 2 (some 27) (bA 11 127) (fun K hK => ?_)
    refine go1_ Tryd.func70 #[.string a0] ?_
    with_reducible refine (impl_long.calls a0 t287 _ A9.out).mono ?_
    rintro e w' ⟨rfl, ⟨nd, rfl⟩⟩
    refine ⟨_, rfl, ?_⟩
    refine hK.out _ _ ⟨(cellS134_0 HI257.out.1), (cellS134_1 HI257.out.1), (cellS134_2 HI257.out.1)⟩ (fun hHeld => ?_)
    clear hK K
    refine nm_ ?_
    refine pu_ HT_ 7 (some 32) (bA 11 255) ?_
    refine last_ (i := 8) (N := some 33) (bA 11 511) (by exact rfl) (by exact rfl) (one_of HT_.out (by kernel_rfl)) (by decide) (fun K hK => ?_)
    refine go1_ Tryd.func115 #[.pointer (some ⟨gb257, 0, none⟩), .int .i64 (wrap64 (t287 - t285))] ?_
    with_reducible refine (impl_reader_take.calls gb257 t284 t285 t286 (wrap64 (t287 - t285)) t288 t289 t290 true w _ ?side1 ?side2 A10.out).mono ?_
    (case side1 => exact is134_)
    (case side2 => exact belg_ (IsS134.ge HI257.out))
    rintro e w26 ⟨rfl, hi, hb, hk⟩
    refine ⟨_, rfl, ?_⟩
    replace BK256 := AM (KeepBut.blk hk (g' := gb256) (o := .cells #[.int .i64 0, .int .i64 0, .int .i64 0, .int .i64 0, .string (⟨#[]⟩ : ByteArray), .string (⟨#[]⟩ : ByteArray)] 28 (0, 0)) (bk_ BK256.out) NB256_257.out (by simp))
    replace BK282 := AM (KeepBut.blk hk (g' := gb282) (o := .cells #[.int .i64 t262, .int .i64 t266, .int .i64 t270, .int .i64 t274, .string t278, .string (⟨#[]⟩ : ByteArray)] 28 (0, 0)) (bk_ BK282.out) NB282_257.out (by simp))
    replace HB := AM hb
    replace HI257 := AM hi
    (try clear hb); (try clear hb2); (try clear hk); (try clear hi)
    refine hK.out _ _ ?_
    clear hK K
    refine nm_ ?_
    refine pu_ HT_ 9 (some 34) (bA 11 1023) ?_
    refine last_ (i := 10) (N := none) (bA 11 2047) (by exact rfl) (by exact rfl) (one_of HT_.out (by kernel_rfl)) (by decide) (fun K hK => ?_)
    have hs27 : w26.cell? ⟨gb282, 5, none⟩ = some (.string (⟨#[]⟩ : ByteArray)) := (blk_cell BK282.out 5).trans rfl
    have hfs27 := blk_frozen BK282.out 5
    have hns27_0 := NB256_282.out
    have hms27_0 := NB282_256.out
    refine sk_ ?_
    refine hK.out _ _ ?_
    clear hK K
    refine dn_ HT_ ?_
    obtain ⟨HGz28, hgz28⟩ := HI257.out
    have hcz28_0 := cellS134_0 HGz28
    have hcz28_1 := cellS134_1 HGz28
    have hcz28_2 := cellS134_2 HGz28
    have hfz28_0 := blk_frozen HGz28 0
    have hfz28_1 := blk_frozen HGz28 1
    have hfz28_2 := blk_frozen HGz28 2
    clear HGz28 hgz28
    have hnb29 := NB256_257.out
    have hnc29 := NB257_256.out
    have hcz30_0 : w26.cell? ⟨gb256, 0, none⟩ = some (.int .i64 0) := (blk_cell BK256.out 0).trans rfl
    have hcz30_1 : w26.cell? ⟨gb256, 1, none⟩ = some (.int .i64 0) := (blk_cell BK256.out 1).trans rfl
    have hcz30_2 : w26.cell? ⟨gb256, 2, none⟩ = some (.int .i64 0) := (blk_cell BK256.out 2).trans rfl
    have hcz30_3 : w26.cell? ⟨gb256, 3, none⟩ = some (.int .i64 0) := (blk_cell BK256.out 3).trans rfl
    have hcz30_4 : w26.cell? ⟨gb256, 4, none⟩ = some (.string (⟨#[]⟩ : ByteArray)) := (blk_cell BK256.out 4).trans rfl
    have hcz30_5 : w26.cell? ⟨gb256, 5, none⟩ = some (.string (⟨#[]⟩ : ByteArray)) := (blk_cell BK256.out 5).trans rfl
    have hfz30_0 := blk_frozen BK256.out 0
    have hfz30_1 := blk_frozen BK256.out 1
    have hfz30_2 := blk_frozen BK256.out 2
    have hfz30_3 := blk_frozen BK256.out 3
    have hfz30_4 := blk_frozen BK256.out 4
    have hfz30_5 := blk_frozen BK256.out 5
    try go_wp2
    refine bodyPost_ret (results_ct rfl _ _ gb256 28 #[.int .i64 0, .int .i64 0, .int .i64 0, .int .i64 0, .string (⟨#[]⟩ : ByteArray), .string (⟨#[]⟩ : ByteArray)] (0, 0) _ rfl bka_ Tryd.underlying28 rfl (by kernel_rfl)) rfl ?_
    exact ⟨ri_, belg_ (IsS134.ge HI257.out)⟩
  · replace c11 := Bool.eq_false_iff.mpr c11
    subst c11
    rw [if_neg (show ¬ (false = true) by decide)] at H
    by_cases c31 : t258.toList = ([70] : List UInt8)
    · rw [if_pos c31] at H
      have c31b0 : (t258.toList == ([70] : List UInt8)) = true := beq_iff_eq.mpr c31
      have c31b1 : (t258.toList != ([70] : List UInt8)) = false := bne_eq_false_iff_eq.mpr c31
      clear c31
      obtain ⟨t292, A32, H⟩ := OB H
      try dsimp only at H
      replace A32 := AM A32
      by_cases c33 : t292 = true
      · subst c33
        rw [if_pos rfl] at H
        obtain ⟨t293, A34, H⟩ := OB H
        try dsimp only at H
        replace A34 := AM A34
        by_cases c35 : t293.toList = a0.toList
        · rw [if_pos c35] at H
          have c35b0 : (t293.toList == a0.toList) = true := beq_iff_eq.mpr c35
          have c35b1 : (t293.toList != a0.toList) = false := bne_eq_false_iff_eq.mpr c35
          clear c35
          simp only [Option.some.injEq, Prod.mk.injEq] at H
          obtain ⟨rfl, rfl, rfl, rfl, rfl, rfl, rfl⟩ := H
          go_enter Tryd.func81, Tryd.ntmps81
          try go_wp2_with (first | ((with_reducible refine gate_dst (N := 2) rfl ?_); refine be_ 2 #[.int .i64 0, .int .i64 0, .int .i64 0, .int .i64 0, .string (⟨#[]⟩ : ByteArray), .string (⟨#[]⟩ : ByteArray)] 28 ?_; intro gb256 hg w36 hbox hb; have BK256 := AM hbox; have GW256 := AM ((by rw [hg]; exact (below_size bel_) : w.heap.size ≤ gb256)); have GE256 := AM ((by rw [hg]; exact (below_size bel_) : w.heap.size ≤ gb256)); replace HB := AM (below_step bel_ hb); clear hb hbox hg) | ((with_reducible refine gate_dst (N := 9) rfl ?_); refine be_ 9 #[.string a0, .int .i64 0, .bool false] 134 ?_; intro gb257 hg w37 hbox hb; have NB256_257 := AM ((by rw [hg]; exact Nat.ne_of_lt (blk_lt (g := gb256) (o := .cells #[.int .i64 0, .int .i64 0, .int .i64 0, .int .i64 0, .string (⟨#[]⟩ : ByteArray), .string (⟨#[]⟩ : ByteArray)] 28 (0, 0)) (bk_ BK256.out)) : gb256 ≠ gb257)); have NB257_256 := AM ((by rw [hg]; exact Nat.ne_of_gt (blk_lt (g := gb256) (o := .cells #[.int .i64 0, .int .i64 0, .int .i64 0, .int .i64 0, .string (⟨#[]⟩ : ByteArray), .string (⟨#[]⟩ : ByteArray)] 28 (0, 0)) (bk_ BK256.out)) : gb257 ≠ gb256)); replace BK256 := AM (blk_below (g := gb256) (o := .cells #[.int .i64 0, .int .i64 0, .int .i64 0, .int .i64 0, .string (⟨#[]⟩ : ByteArray), .string (⟨#[]⟩ : ByteArray)] 28 (0, 0)) (bk_ BK256.out) hb); have HI257 := AM ((⟨hbox, (by rw [hg]; exact (below_size bel_) : w.heap.size ≤ gb257)⟩ : IsS134 w w37 gb257 a0 0 false)); replace HB := AM (below_step bel_ hb); clear hb hbox hg) | ((with_reducible refine gate_callee (f := 115) rfl ?_); refine gl_ (some 11) Tryd.func115 #[.pointer (some ⟨gb257, 0, none⟩), .int .i64 1] ?_; (with_reducible refine (impl_reader_take.calls gb257 a0 0 false 1 t258 t259 t260 t261 w _ ?side1 ?side2 A2.out).mono ?_); (case side1 => exact is134_); (case side2 => exact belg_ (IsS134.ge HI257.out)); rintro e w38 ⟨rfl, hi, hb, hk⟩; refine ⟨_, rfl, ?_⟩; replace BK256 := AM (KeepBut.blk hk (g' := gb256) (o := .cells #[.int .i64 0, .int .i64 0, .int .i64 0, .int .i64 0, .string (⟨#[]⟩ : ByteArray), .string (⟨#[]⟩ : ByteArray)] 28 (0, 0)) (bk_ BK256.out) NB256_257.out (by simp)); replace HB := AM hb; replace HI257 := AM hi; (try clear hb); (try clear hb2); (try clear hk); (try clear hi)) | ((with_reducible refine gate_callee (f := 116) rfl ?_); refine gl_ (some 13) Tryd.func116 #[.pointer (some ⟨gb257, 0, none⟩)] ?_; (with_reducible refine (impl_reader_num.calls k gb257 t259 t260 t261 t262 t263 t264 t265 w _ ?side1 ?side2 A3.out).mono ?_); (case side1 => exact is134_); (case side2 => exact belg_ (IsS134.ge HI257.out)); rintro e w39 ⟨rfl, hi, hb, hk⟩; refine ⟨_, rfl, ?_⟩; replace BK256 := AM (KeepBut.blk hk (g' := gb256) (o := .cells #[.int .i64 0, .int .i64 0, .int .i64 0, .int .i64 0, .string (⟨#[]⟩ : ByteArray), .string (⟨#[]⟩ : ByteArray)] 28 (0, 0)) (bk_ BK256.out) NB256_257.out (by simp)); replace HB := AM hb; replace HI257 := AM hi; (try clear hb); (try clear hb2); (try clear hk); (try clear hi)) | ((with_reducible refine gate_callee (f := 116) rfl ?_); refine gl_ (some 15) Tryd.func116 #[.pointer (some ⟨gb257, 0, none⟩)] ?_; (with_reducible refine (impl_reader_num.calls k gb257 t263 t264 t265 t266 t267 t268 t269 w _ ?side1 ?side2 A4.out).mono ?_); (case side1 => exact is134_); (case side2 => exact belg_ (IsS134.ge HI257.out)); rintro e w40 ⟨rfl, hi, hb, hk⟩; refine ⟨_, rfl, ?_⟩; replace BK256 := AM (KeepBut.blk hk (g' := gb256) (o := .cells #[.int .i64 0, .int .i64 0, .int .i64 0, .int .i64 0, .string (⟨#[]⟩ : ByteArray), .string (⟨#[]⟩ : ByteArray)] 28 (0, 0)) (bk_ BK256.out) NB256_257.out (by simp)); replace HB := AM hb; replace HI257 := AM hi; (try clear hb); (try clear hb2); (try clear hk); (try clear hi)) | ((with_reducible refine gate_callee (f := 116) rfl ?_); refine gl_ (some 17) Tryd.func116 #[.pointer (some ⟨gb257, 0, none⟩)] ?_; (with_reducible refine (impl_reader_num.calls k gb257 t267 t268 t269 t270 t271 t272 t273 w _ ?side1 ?side2 A5.out).mono ?_); (case side1 => exact is134_); (case side2 => exact belg_ (IsS134.ge HI257.out)); rintro e w41 ⟨rfl, hi, hb, hk⟩; refine ⟨_, rfl, ?_⟩; replace BK256 := AM (KeepBut.blk hk (g' := gb256) (o := .cells #[.int .i64 0, .int .i64 0, .int .i64 0, .int .i64 0, .string (⟨#[]⟩ : ByteArray), .string (⟨#[]⟩ : ByteArray)] 28 (0, 0)) (bk_ BK256.out) NB256_257.out (by simp)); replace HB := AM hb; replace HI257 := AM hi; (try clear hb); (try clear hb2); (try clear hk); (try clear hi)) | ((with_reducible refine gate_callee (f := 116) rfl ?_); refine gl_ (some 19) Tryd.func116 #[.pointer (some ⟨gb257, 0, none⟩)] ?_; (with_reducible refine (impl_reader_num.calls k gb257 t271 t272 t273 t274 t275 t276 t277 w _ ?side1 ?side2 A6.out).mono ?_); (case side1 => exact is134_); (case side2 => exact belg_ (IsS134.ge HI257.out)); rintro e w42 ⟨rfl, hi, hb, hk⟩; refine ⟨_, rfl, ?_⟩; replace BK256 := AM (KeepBut.blk hk (g' := gb256) (o := .cells #[.int .i64 0, .int .i64 0, .int .i64 0, .int .i64 0, .string (⟨#[]⟩ : ByteArray), .string (⟨#[]⟩ : ByteArray)] 28 (0, 0)) (bk_ BK256.out) NB256_257.out (by simp)); replace HB := AM hb; replace HI257 := AM hi; (try clear hb); (try clear hb2); (try clear hk); (try clear hi)) | ((with_reducible refine gate_callee (f := 115) rfl ?_); refine gl_ (some 21) Tryd.func115 #[.pointer (some ⟨gb257, 0, none⟩), .int .i64 32] ?_; (with_reducible refine (impl_reader_take.calls gb257 t275 t276 t277 32 t278 t279 t280 t281 w _ ?side1 ?side2 A7.out).mono ?_); (case side1 => exact is134_); (case side2 => exact belg_ (IsS134.ge HI257.out)); rintro e w43 ⟨rfl, hi, hb, hk⟩; refine ⟨_, rfl, ?_⟩; replace BK256 := AM (KeepBut.blk hk (g' := gb256) (o := .cells #[.int .i64 0, .int .i64 0, .int .i64 0, .int .i64 0, .string (⟨#[]⟩ : ByteArray), .string (⟨#[]⟩ : ByteArray)] 28 (0, 0)) (bk_ BK256.out) NB256_257.out (by simp)); replace HB := AM hb; replace HI257 := AM hi; (try clear hb); (try clear hb2); (try clear hk); (try clear hi)) | ((with_reducible refine gate_dst (N := 6) rfl ?_); refine be_ 6 #[.int .i64 0, .int .i64 0, .int .i64 0, .int .i64 0, .string (⟨#[]⟩ : ByteArray), .string (⟨#[]⟩ : ByteArray)] 28 ?_; intro gb282 hg w44 hbox hb; have BK282 := AM hbox; have GW282 := AM ((by rw [hg]; exact (below_size (belg_ (IsS134.ge HI257.out))) : w.heap.size ≤ gb282)); have GE282 := AM ((by rw [hg]; exact (below_size (belg_ (IsS134.ge HI257.out))) : w.heap.size ≤ gb282)); replace HB := AM (below_step (belg_ (IsS134.ge HI257.out)) hb); have NB256_282 := AM ((by rw [hg]; exact Nat.ne_of_lt (blk_lt (g := gb256) (o := .cells #[.int .i64 0, .int .i64 0, .int .i64 0, .int .i64 0, .string (⟨#[]⟩ : ByteArray), .string (⟨#[]⟩ : ByteArray)] 28 (0, 0)) (bk_ BK256.out)) : gb256 ≠ gb282)); have NB282_256 := AM ((by rw [hg]; exact Nat.ne_of_gt (blk_lt (g := gb256) (o := .cells #[.int .i64 0, .int .i64 0, .int .i64 0, .int .i64 0, .string (⟨#[]⟩ : ByteArray), .string (⟨#[]⟩ : ByteArray)] 28 (0, 0)) (bk_ BK256.out)) : gb282 ≠ gb256)); replace BK256 := AM (blk_below (g := gb256) (o := .cells #[.int .i64 0, .int .i64 0, .int .i64 0, .int .i64 0, .string (⟨#[]⟩ : ByteArray), .string (⟨#[]⟩ : ByteArray)] 28 (0, 0)) (bk_ BK256.out) hb); have NB257_282 := AM ((by rw [hg]; exact Nat.ne_of_lt (IsS134.lt (show IsS134 w _ gb257 t279 t280 t281 from is134_)) : gb257 ≠ gb282)); have NB282_257 := AM ((by rw [hg]; exact Nat.ne_of_gt (IsS134.lt (show IsS134 w _ gb257 t279 t280 t281 from is134_)) : gb282 ≠ gb257)); replace HI257 := AM (IsS134.below is134_ hb); clear hb hbox hg; have hnb45 := NB282_256.out; have hnc45 := NB256_282.out; have hnb46 := NB282_257.out; have hnc46 := NB257_282.out; have hcz47_0 : w44.cell? ⟨gb282, 0, none⟩ = some (.int .i64 0) := (blk_cell BK282.out 0).trans rfl; have hcz47_1 : w44.cell? ⟨gb282, 1, none⟩ = some (.int .i64 0) := (blk_cell BK282.out 1).trans rfl; have hcz47_2 : w44.cell? ⟨gb282, 2, none⟩ = some (.int .i64 0) := (blk_cell BK282.out 2).trans rfl; have hcz47_3 : w44.cell? ⟨gb282, 3, none⟩ = some (.int .i64 0) := (blk_cell BK282.out 3).trans rfl; have hcz47_4 : w44.cell? ⟨gb282, 4, none⟩ = some (.string (⟨#[]⟩ : ByteArray)) := (blk_cell BK282.out 4).trans rfl; have hcz47_5 : w44.cell? ⟨gb282, 5, none⟩ = some (.string (⟨#[]⟩ : ByteArray)) := (blk_cell BK282.out 5).trans rfl; have hfz47_0 := blk_frozen BK282.out 0; have hfz47_1 := blk_frozen BK282.out 1; have hfz47_2 := blk_frozen BK282.out 2; have hfz47_3 := blk_frozen BK282.out 3; have hfz47_4 := blk_frozen BK282.out 4; have hfz47_5 := blk_frozen BK282.out 5) | ((with_reducible refine gate_callee (f := 115) rfl ?_); refine gl_ (some 24) Tryd.func115 #[.pointer (some ⟨gb257, 0, none⟩), .int .i64 32] ?_; (with_reducible refine (impl_reader_take.calls gb257 t279 t280 t281 32 t283 t284 t285 t286 w _ ?side1 ?side2 A8.out).mono ?_); (case side1 => exact is134_); (case side2 => exact belg_ (IsS134.ge HI257.out)); rintro e w48 ⟨rfl, hi, hb, hk⟩; refine ⟨_, rfl, ?_⟩; have n0_ := AM (KeepBut.blk hk (g' := gb256) (o := .cells #[.int .i64 0, .int .i64 0, .int .i64 0, .int .i64 0, .string (⟨#[]⟩ : ByteArray), .string (⟨#[]⟩ : ByteArray)] 28 (0, 0)) bka_ NB256_257.out (by simp)); have n1_ := AM (KeepBut.blk hk (g' := gb282) (o := .cells #[.int .i64 t262, .int .i64 t266, .int .i64 t270, .int .i64 t274, .string t278, .string (⟨#[]⟩ : ByteArray)] 28 (0, 0)) bka_ NB282_257.out (by simp)); have n2_ := AM hb; have n3_ := AM hi; clear BK256; clear BK282; clear HB; clear HI257; have BK256 := n0_; have BK282 := n1_; have HB := n2_; have HI257 := n3_; clear n0_ n1_ n2_ n3_; (try clear hb); (try clear hb2); (try clear hk); (try clear hi)))
          replace BK256 := AM (blk_drew BK256.out)
          replace BK282 := AM (blk_drew BK282.out)
          replace HI257 := AM (IsS134.drew HI257.out)
          replace HB := AM (below_drew1 HB.out)
          refine start_ (n := 11) (S := fun w' => w'.cell? ⟨gb257, 0, none⟩ = some (.string t284) ∧ w'.cell? ⟨gb257, 1, none⟩ = some (.int .i64 t285) ∧ w'.cell? ⟨gb257, 2, none⟩ = some (.bool t286)) (ds := [8, 10]) (Array.replicate 11 false) (by kernel_rfl) rfl rfl ⟨(cellS134_0 HI257.out.1), (cellS134_1 HI257.out.1), (cellS134_2 HI257.out.1)⟩ (fun hHeld => ?_); refine with_tabW impl_readFrame.tab5 impl_readFrame.bits5 (fun HT_ HW_ => ?_)
          generalize w48.drew = w49 at BK256 BK282 HI257 HB hHeld ⊢
          refine pu_ HT_ 0 (some 25) (bA 11 1) ?_
          refine pu_ HT_ 1 (some 26) (bA 11 3) ?_
          refine pu_ HT_ 3 (some 28) (bA 11 11) ?_
          refine pu_ HT_ 4 (some 29) (bA 11 27) ?_
          refine pu_ HT_ 5 (some 30) (bA 11 59) ?_
          refine ta_ HT_ HW_ 6 (some 31) (bA 11 123) hHeld ?_
          refine on_ HT_ 2 (some 27) (bA 11 127) (fun K hK => ?_)
          refine go1_ Tryd.func70 #[.string a0] ?_
          with_reducible refine (impl_long.calls a0 t287 _ A9.out).mono ?_
          rintro e w' ⟨rfl, ⟨nd, rfl⟩⟩
          refine ⟨_, rfl, ?_⟩
          refine hK.out _ _ ⟨(cellS134_0 HI257.out.1), (cellS134_1 HI257.out.1), (cellS134_2 HI257.out.1)⟩ (fun hHeld => ?_)
          clear hK K
          refine nm_ ?_
          refine pu_ HT_ 7 (some 32) (bA 11 255) ?_
          refine last_ (i := 8) (N := some 33) (bA 11 511) (by exact rfl) (by exact rfl) (one_of HT_.out (by kernel_rfl)) (by decide) (fun K hK => ?_)
          refine go1_ Tryd.func115 #[.pointer (some ⟨gb257, 0, none⟩), .int .i64 (wrap64 (t287 - t285))] ?_
          with_reducible refine (impl_reader_take.calls gb257 t284 t285 t286 (wrap64 (t287 - t285)) t288 t289 t290 false w _ ?side1 ?side2 A10.out).mono ?_
          (case side1 => exact is134_)
          (case side2 => exact belg_ (IsS134.ge HI257.out))
          rintro e w50 ⟨rfl, hi, hb, hk⟩
          refine ⟨_, rfl, ?_⟩
          replace BK256 := AM (KeepBut.blk hk (g' := gb256) (o := .cells #[.int .i64 0, .int .i64 0, .int .i64 0, .int .i64 0, .string (⟨#[]⟩ : ByteArray), .string (⟨#[]⟩ : ByteArray)] 28 (0, 0)) (bk_ BK256.out) NB256_257.out (by simp))
          replace BK282 := AM (KeepBut.blk hk (g' := gb282) (o := .cells #[.int .i64 t262, .int .i64 t266, .int .i64 t270, .int .i64 t274, .string t278, .string (⟨#[]⟩ : ByteArray)] 28 (0, 0)) (bk_ BK282.out) NB282_257.out (by simp))
          replace HB := AM hb
          replace HI257 := AM hi
          (try clear hb); (try clear hb2); (try clear hk); (try clear hi)
          refine hK.out _ _ ?_
          clear hK K
          refine nm_ ?_
          refine pu_ HT_ 9 (some 34) (bA 11 1023) ?_
          refine last_ (i := 10) (N := none) (bA 11 2047) (by exact rfl) (by exact rfl) (one_of HT_.out (by kernel_rfl)) (by decide) (fun K hK => ?_)
          have hs51 : w50.cell? ⟨gb282, 5, none⟩ = some (.string (⟨#[]⟩ : ByteArray)) := (blk_cell BK282.out 5).trans rfl
          have hfs51 := blk_frozen BK282.out 5
          have hns51_0 := NB256_282.out
          have hms51_0 := NB282_256.out
          refine sk_ ?_
          refine hK.out _ _ ?_
          clear hK K
          refine dn_ HT_ ?_
          obtain ⟨HGz52, hgz52⟩ := HI257.out
          have hcz52_0 := cellS134_0 HGz52
          have hcz52_1 := cellS134_1 HGz52
          have hcz52_2 := cellS134_2 HGz52
          have hfz52_0 := blk_frozen HGz52 0
          have hfz52_1 := blk_frozen HGz52 1
          have hfz52_2 := blk_frozen HGz52 2
          clear HGz52 hgz52
          have hcz53_0 : w50.cell? ⟨gb282, 0, none⟩ = some (.int .i64 t262) := (blk_cell BK282.out 0).trans rfl
          have hcz53_1 : w50.cell? ⟨gb282, 1, none⟩ = some (.int .i64 t266) := (blk_cell BK282.out 1).trans rfl
          have hcz53_2 : w50.cell? ⟨gb282, 2, none⟩ = some (.int .i64 t270) := (blk_cell BK282.out 2).trans rfl
          have hcz53_3 : w50.cell? ⟨gb282, 3, none⟩ = some (.int .i64 t274) := (blk_cell BK282.out 3).trans rfl
          have hcz53_4 : w50.cell? ⟨gb282, 4, none⟩ = some (.string t278) := (blk_cell BK282.out 4).trans rfl
          have hcz53_5 : w50.cell? ⟨gb282, 5, none⟩ = some (.string (⟨#[]⟩ : ByteArray)) := (blk_cell BK282.out 5).trans rfl
          have hfz53_0 := blk_frozen BK282.out 0
          have hfz53_1 := blk_frozen BK282.out 1
          have hfz53_2 := blk_frozen BK282.out 2
          have hfz53_3 := blk_frozen BK282.out 3
          have hfz53_4 := blk_frozen BK282.out 4
          have hfz53_5 := blk_frozen BK282.out 5
          try go_wp2_with (first | (go_at_call 45; (with_reducible refine (impl_FrameRight.calls t262 t266 t270 t274 t278 t288 true _ A32.out).mono ?_); rintro e w54 ⟨rfl, hb⟩; have n0_ := AM (blk_below (g := gb256) (o := .cells #[.int .i64 0, .int .i64 0, .int .i64 0, .int .i64 0, .string (⟨#[]⟩ : ByteArray), .string (⟨#[]⟩ : ByteArray)] 28 (0, 0)) bka_ hb); have n1_ := AM (IsS134.below (show IsS134 w (w50.setCell ⟨gb282, 5, none⟩ (.string t288)) gb257 t289 t290 false from is134_) hb); have n2_ := AM (blk_below (g := gb282) (o := .cells #[.int .i64 t262, .int .i64 t266, .int .i64 t270, .int .i64 t274, .string t278, .string t288] 28 (0, 0)) bka_ hb); have n3_ := AM (below_step (belg_ (IsS134.ge HI257.out)) hb); clear BK256; clear HI257; clear BK282; clear HB; have BK256 := n0_; have HI257 := n1_; have BK282 := n2_; have HB := n3_; clear n0_ n1_ n2_ n3_; (try clear hb); (try clear hb2); (try clear hk); (try clear hi); have hcz55_0 : w54.cell? ⟨gb282, 0, none⟩ = some (.int .i64 t262) := (blk_cell BK282.out 0).trans rfl; have hcz55_1 : w54.cell? ⟨gb282, 1, none⟩ = some (.int .i64 t266) := (blk_cell BK282.out 1).trans rfl; have hcz55_2 : w54.cell? ⟨gb282, 2, none⟩ = some (.int .i64 t270) := (blk_cell BK282.out 2).trans rfl; have hcz55_3 : w54.cell? ⟨gb282, 3, none⟩ = some (.int .i64 t274) := (blk_cell BK282.out 3).trans rfl; have hcz55_4 : w54.cell? ⟨gb282, 4, none⟩ = some (.string t278) := (blk_cell BK282.out 4).trans rfl; have hcz55_5 : w54.cell? ⟨gb282, 5, none⟩ = some (.string t288) := (blk_cell BK282.out 5).trans rfl; have hfz55_0 := blk_frozen BK282.out 0; have hfz55_1 := blk_frozen BK282.out 1; have hfz55_2 := blk_frozen BK282.out 2; have hfz55_3 := blk_frozen BK282.out 3; have hfz55_4 := blk_frozen BK282.out 4; have hfz55_5 := blk_frozen BK282.out 5) | (go_at_call 53; (with_reducible refine (impl_Frame_bytes.calls k t262 t266 t270 t274 t278 t288 t293 _ A34.out).mono ?_); rintro e w56 ⟨rfl, hb⟩; replace BK256 := AM (blk_below (g := gb256) (o := .cells #[.int .i64 0, .int .i64 0, .int .i64 0, .int .i64 0, .string (⟨#[]⟩ : ByteArray), .string (⟨#[]⟩ : ByteArray)] 28 (0, 0)) (bk_ BK256.out) hb); replace BK282 := AM (blk_below (g := gb282) (o := .cells #[.int .i64 t262, .int .i64 t266, .int .i64 t270, .int .i64 t274, .string t278, .string t288] 28 (0, 0)) (bk_ BK282.out) hb); replace HB := AM (below_step (belg_ (IsS134.ge HI257.out)) hb); replace HI257 := AM (IsS134.below is134_ hb); (try clear hb); (try clear hb2); (try clear hk); (try clear hi); have hcz57_0 : w56.cell? ⟨gb282, 0, none⟩ = some (.int .i64 t262) := (blk_cell BK282.out 0).trans rfl; have hcz57_1 : w56.cell? ⟨gb282, 1, none⟩ = some (.int .i64 t266) := (blk_cell BK282.out 1).trans rfl; have hcz57_2 : w56.cell? ⟨gb282, 2, none⟩ = some (.int .i64 t270) := (blk_cell BK282.out 2).trans rfl; have hcz57_3 : w56.cell? ⟨gb282, 3, none⟩ = some (.int .i64 t274) := (blk_cell BK282.out 3).trans rfl; have hcz57_4 : w56.cell? ⟨gb282, 4, none⟩ = some (.string t278) := (blk_cell BK282.out 4).trans rfl; have hcz57_5 : w56.cell? ⟨gb282, 5, none⟩ = some (.string t288) := (blk_cell BK282.out 5).trans rfl; have hfz57_0 := blk_frozen BK282.out 0; have hfz57_1 := blk_frozen BK282.out 1; have hfz57_2 := blk_frozen BK282.out 2; have hfz57_3 := blk_frozen BK282.out 3; have hfz57_4 := blk_frozen BK282.out 4; have hfz57_5 := blk_frozen BK282.out 5; have hnb58 := NB256_257.out; have hnc58 := NB257_256.out; have hcz59_0 : w56.cell? ⟨gb256, 0, none⟩ = some (.int .i64 0) := (blk_cell BK256.out 0).trans rfl; have hcz59_1 : w56.cell? ⟨gb256, 1, none⟩ = some (.int .i64 0) := (blk_cell BK256.out 1).trans rfl; have hcz59_2 : w56.cell? ⟨gb256, 2, none⟩ = some (.int .i64 0) := (blk_cell BK256.out 2).trans rfl; have hcz59_3 : w56.cell? ⟨gb256, 3, none⟩ = some (.int .i64 0) := (blk_cell BK256.out 3).trans rfl; have hcz59_4 : w56.cell? ⟨gb256, 4, none⟩ = some (.string (⟨#[]⟩ : ByteArray)) := (blk_cell BK256.out 4).trans rfl; have hcz59_5 : w56.cell? ⟨gb256, 5, none⟩ = some (.string (⟨#[]⟩ : ByteArray)) := (blk_cell BK256.out 5).trans rfl; have hfz59_0 := blk_frozen BK256.out 0; have hfz59_1 := blk_frozen BK256.out 1; have hfz59_2 := blk_frozen BK256.out 2; have hfz59_3 := blk_frozen BK256.out 3; have hfz59_4 := blk_frozen BK256.out 4; have hfz59_5 := blk_frozen BK256.out 5))
          refine bodyPost_ret (results_ct rfl _ _ gb256 28 #[.int .i64 t262, .int .i64 t266, .int .i64 t270, .int .i64 t274, .string t278, .string t288] (0, 0) _ rfl bka_ Tryd.underlying28 rfl (by kernel_rfl)) rfl ?_
          exact ⟨ri_, belg_ (IsS134.ge HI257.out)⟩
        · rw [if_neg c35] at H
          have c35b0 : (t293.toList == a0.toList) = false := beq_eq_false_iff_ne.mpr c35
          have c35b1 : (t293.toList != a0.toList) = true := bne_iff_ne.mpr c35
          simp only [Option.some.injEq, Prod.mk.injEq] at H
          obtain ⟨rfl, rfl, rfl, rfl, rfl, rfl, rfl⟩ := H
          go_enter Tryd.func81, Tryd.ntmps81
          try go_wp2_with (first | ((with_reducible refine gate_dst (N := 2) rfl ?_); refine be_ 2 #[.int .i64 0, .int .i64 0, .int .i64 0, .int .i64 0, .string (⟨#[]⟩ : ByteArray), .string (⟨#[]⟩ : ByteArray)] 28 ?_; intro gb256 hg w60 hbox hb; have BK256 := AM hbox; have GW256 := AM ((by rw [hg]; exact (below_size bel_) : w.heap.size ≤ gb256)); have GE256 := AM ((by rw [hg]; exact (below_size bel_) : w.heap.size ≤ gb256)); replace HB := AM (below_step bel_ hb); clear hb hbox hg) | ((with_reducible refine gate_dst (N := 9) rfl ?_); refine be_ 9 #[.string a0, .int .i64 0, .bool false] 134 ?_; intro gb257 hg w61 hbox hb; have NB256_257 := AM ((by rw [hg]; exact Nat.ne_of_lt (blk_lt (g := gb256) (o := .cells #[.int .i64 0, .int .i64 0, .int .i64 0, .int .i64 0, .string (⟨#[]⟩ : ByteArray), .string (⟨#[]⟩ : ByteArray)] 28 (0, 0)) (bk_ BK256.out)) : gb256 ≠ gb257)); have NB257_256 := AM ((by rw [hg]; exact Nat.ne_of_gt (blk_lt (g := gb256) (o := .cells #[.int .i64 0, .int .i64 0, .int .i64 0, .int .i64 0, .string (⟨#[]⟩ : ByteArray), .string (⟨#[]⟩ : ByteArray)] 28 (0, 0)) (bk_ BK256.out)) : gb257 ≠ gb256)); replace BK256 := AM (blk_below (g := gb256) (o := .cells #[.int .i64 0, .int .i64 0, .int .i64 0, .int .i64 0, .string (⟨#[]⟩ : ByteArray), .string (⟨#[]⟩ : ByteArray)] 28 (0, 0)) (bk_ BK256.out) hb); have HI257 := AM ((⟨hbox, (by rw [hg]; exact (below_size bel_) : w.heap.size ≤ gb257)⟩ : IsS134 w w61 gb257 a0 0 false)); replace HB := AM (below_step bel_ hb); clear hb hbox hg) | ((with_reducible refine gate_callee (f := 115) rfl ?_); refine gl_ (some 11) Tryd.func115 #[.pointer (some ⟨gb257, 0, none⟩), .int .i64 1] ?_; (with_reducible refine (impl_reader_take.calls gb257 a0 0 false 1 t258 t259 t260 t261 w _ ?side1 ?side2 A2.out).mono ?_); (case side1 => exact is134_); (case side2 => exact belg_ (IsS134.ge HI257.out)); rintro e w62 ⟨rfl, hi, hb, hk⟩; refine ⟨_, rfl, ?_⟩; replace BK256 := AM (KeepBut.blk hk (g' := gb256) (o := .cells #[.int .i64 0, .int .i64 0, .int .i64 0, .int .i64 0, .string (⟨#[]⟩ : ByteArray), .string (⟨#[]⟩ : ByteArray)] 28 (0, 0)) (bk_ BK256.out) NB256_257.out (by simp)); replace HB := AM hb; replace HI257 := AM hi; (try clear hb); (try clear hb2); (try clear hk); (try clear hi)) | ((with_reducible refine gate_callee (f := 116) rfl ?_); refine gl_ (some 13) Tryd.func116 #[.pointer (some ⟨gb257, 0, none⟩)] ?_; (with_reducible refine (impl_reader_num.calls k gb257 t259 t260 t261 t262 t263 t264 t265 w _ ?side1 ?side2 A3.out).mono ?_); (case side1 => exact is134_); (case side2 => exact belg_ (IsS134.ge HI257.out)); rintro e w63 ⟨rfl, hi, hb, hk⟩; refine ⟨_, rfl, ?_⟩; replace BK256 := AM (KeepBut.blk hk (g' := gb256) (o := .cells #[.int .i64 0, .int .i64 0, .int .i64 0, .int .i64 0, .string (⟨#[]⟩ : ByteArray), .string (⟨#[]⟩ : ByteArray)] 28 (0, 0)) (bk_ BK256.out) NB256_257.out (by simp)); replace HB := AM hb; replace HI257 := AM hi; (try clear hb); (try clear hb2); (try clear hk); (try clear hi)) | ((with_reducible refine gate_callee (f := 116) rfl ?_); refine gl_ (some 15) Tryd.func116 #[.pointer (some ⟨gb257, 0, none⟩)] ?_; (with_reducible refine (impl_reader_num.calls k gb257 t263 t264 t265 t266 t267 t268 t269 w _ ?side1 ?side2 A4.out).mono ?_); (case side1 => exact is134_); (case side2 => exact belg_ (IsS134.ge HI257.out)); rintro e w64 ⟨rfl, hi, hb, hk⟩; refine ⟨_, rfl, ?_⟩; replace BK256 := AM (KeepBut.blk hk (g' := gb256) (o := .cells #[.int .i64 0, .int .i64 0, .int .i64 0, .int .i64 0, .string (⟨#[]⟩ : ByteArray), .string (⟨#[]⟩ : ByteArray)] 28 (0, 0)) (bk_ BK256.out) NB256_257.out (by simp)); replace HB := AM hb; replace HI257 := AM hi; (try clear hb); (try clear hb2); (try clear hk); (try clear hi)) | ((with_reducible refine gate_callee (f := 116) rfl ?_); refine gl_ (some 17) Tryd.func116 #[.pointer (some ⟨gb257, 0, none⟩)] ?_; (with_reducible refine (impl_reader_num.calls k gb257 t267 t268 t269 t270 t271 t272 t273 w _ ?side1 ?side2 A5.out).mono ?_); (case side1 => exact is134_); (case side2 => exact belg_ (IsS134.ge HI257.out)); rintro e w65 ⟨rfl, hi, hb, hk⟩; refine ⟨_, rfl, ?_⟩; replace BK256 := AM (KeepBut.blk hk (g' := gb256) (o := .cells #[.int .i64 0, .int .i64 0, .int .i64 0, .int .i64 0, .string (⟨#[]⟩ : ByteArray), .string (⟨#[]⟩ : ByteArray)] 28 (0, 0)) (bk_ BK256.out) NB256_257.out (by simp)); replace HB := AM hb; replace HI257 := AM hi; (try clear hb); (try clear hb2); (try clear hk); (try clear hi)) | ((with_reducible refine gate_callee (f := 116) rfl ?_); refine gl_ (some 19) Tryd.func116 #[.pointer (some ⟨gb257, 0, none⟩)] ?_; (with_reducible refine (impl_reader_num.calls k gb257 t271 t272 t273 t274 t275 t276 t277 w _ ?side1 ?side2 A6.out).mono ?_); (case side1 => exact is134_); (case side2 => exact belg_ (IsS134.ge HI257.out)); rintro e w66 ⟨rfl, hi, hb, hk⟩; refine ⟨_, rfl, ?_⟩; replace BK256 := AM (KeepBut.blk hk (g' := gb256) (o := .cells #[.int .i64 0, .int .i64 0, .int .i64 0, .int .i64 0, .string (⟨#[]⟩ : ByteArray), .string (⟨#[]⟩ : ByteArray)] 28 (0, 0)) (bk_ BK256.out) NB256_257.out (by simp)); replace HB := AM hb; replace HI257 := AM hi; (try clear hb); (try clear hb2); (try clear hk); (try clear hi)) | ((with_reducible refine gate_callee (f := 115) rfl ?_); refine gl_ (some 21) Tryd.func115 #[.pointer (some ⟨gb257, 0, none⟩), .int .i64 32] ?_; (with_reducible refine (impl_reader_take.calls gb257 t275 t276 t277 32 t278 t279 t280 t281 w _ ?side1 ?side2 A7.out).mono ?_); (case side1 => exact is134_); (case side2 => exact belg_ (IsS134.ge HI257.out)); rintro e w67 ⟨rfl, hi, hb, hk⟩; refine ⟨_, rfl, ?_⟩; replace BK256 := AM (KeepBut.blk hk (g' := gb256) (o := .cells #[.int .i64 0, .int .i64 0, .int .i64 0, .int .i64 0, .string (⟨#[]⟩ : ByteArray), .string (⟨#[]⟩ : ByteArray)] 28 (0, 0)) (bk_ BK256.out) NB256_257.out (by simp)); replace HB := AM hb; replace HI257 := AM hi; (try clear hb); (try clear hb2); (try clear hk); (try clear hi)) | ((with_reducible refine gate_dst (N := 6) rfl ?_); refine be_ 6 #[.int .i64 0, .int .i64 0, .int .i64 0, .int .i64 0, .string (⟨#[]⟩ : ByteArray), .string (⟨#[]⟩ : ByteArray)] 28 ?_; intro gb282 hg w68 hbox hb; have BK282 := AM hbox; have GW282 := AM ((by rw [hg]; exact (below_size (belg_ (IsS134.ge HI257.out))) : w.heap.size ≤ gb282)); have GE282 := AM ((by rw [hg]; exact (below_size (belg_ (IsS134.ge HI257.out))) : w.heap.size ≤ gb282)); replace HB := AM (below_step (belg_ (IsS134.ge HI257.out)) hb); have NB256_282 := AM ((by rw [hg]; exact Nat.ne_of_lt (blk_lt (g := gb256) (o := .cells #[.int .i64 0, .int .i64 0, .int .i64 0, .int .i64 0, .string (⟨#[]⟩ : ByteArray), .string (⟨#[]⟩ : ByteArray)] 28 (0, 0)) (bk_ BK256.out)) : gb256 ≠ gb282)); have NB282_256 := AM ((by rw [hg]; exact Nat.ne_of_gt (blk_lt (g := gb256) (o := .cells #[.int .i64 0, .int .i64 0, .int .i64 0, .int .i64 0, .string (⟨#[]⟩ : ByteArray), .string (⟨#[]⟩ : ByteArray)] 28 (0, 0)) (bk_ BK256.out)) : gb282 ≠ gb256)); replace BK256 := AM (blk_below (g := gb256) (o := .cells #[.int .i64 0, .int .i64 0, .int .i64 0, .int .i64 0, .string (⟨#[]⟩ : ByteArray), .string (⟨#[]⟩ : ByteArray)] 28 (0, 0)) (bk_ BK256.out) hb); have NB257_282 := AM ((by rw [hg]; exact Nat.ne_of_lt (IsS134.lt (show IsS134 w _ gb257 t279 t280 t281 from is134_)) : gb257 ≠ gb282)); have NB282_257 := AM ((by rw [hg]; exact Nat.ne_of_gt (IsS134.lt (show IsS134 w _ gb257 t279 t280 t281 from is134_)) : gb282 ≠ gb257)); replace HI257 := AM (IsS134.below is134_ hb); clear hb hbox hg; have hnb69 := NB282_256.out; have hnc69 := NB256_282.out; have hnb70 := NB282_257.out; have hnc70 := NB257_282.out; have hcz71_0 : w68.cell? ⟨gb282, 0, none⟩ = some (.int .i64 0) := (blk_cell BK282.out 0).trans rfl; have hcz71_1 : w68.cell? ⟨gb282, 1, none⟩ = some (.int .i64 0) := (blk_cell BK282.out 1).trans rfl; have hcz71_2 : w68.cell? ⟨gb282, 2, none⟩ = some (.int .i64 0) := (blk_cell BK282.out 2).trans rfl; have hcz71_3 : w68.cell? ⟨gb282, 3, none⟩ = some (.int .i64 0) := (blk_cell BK282.out 3).trans rfl; have hcz71_4 : w68.cell? ⟨gb282, 4, none⟩ = some (.string (⟨#[]⟩ : ByteArray)) := (blk_cell BK282.out 4).trans rfl; have hcz71_5 : w68.cell? ⟨gb282, 5, none⟩ = some (.string (⟨#[]⟩ : ByteArray)) := (blk_cell BK282.out 5).trans rfl; have hfz71_0 := blk_frozen BK282.out 0; have hfz71_1 := blk_frozen BK282.out 1; have hfz71_2 := blk_frozen BK282.out 2; have hfz71_3 := blk_frozen BK282.out 3; have hfz71_4 := blk_frozen BK282.out 4; have hfz71_5 := blk_frozen BK282.out 5) | ((with_reducible refine gate_callee (f := 115) rfl ?_); refine gl_ (some 24) Tryd.func115 #[.pointer (some ⟨gb257, 0, none⟩), .int .i64 32] ?_; (with_reducible refine (impl_reader_take.calls gb257 t279 t280 t281 32 t283 t284 t285 t286 w _ ?side1 ?side2 A8.out).mono ?_); (case side1 => exact is134_); (case side2 => exact belg_ (IsS134.ge HI257.out)); rintro e w72 ⟨rfl, hi, hb, hk⟩; refine ⟨_, rfl, ?_⟩; have n0_ := AM (KeepBut.blk hk (g' := gb256) (o := .cells #[.int .i64 0, .int .i64 0, .int .i64 0, .int .i64 0, .string (⟨#[]⟩ : ByteArray), .string (⟨#[]⟩ : ByteArray)] 28 (0, 0)) bka_ NB256_257.out (by simp)); have n1_ := AM (KeepBut.blk hk (g' := gb282) (o := .cells #[.int .i64 t262, .int .i64 t266, .int .i64 t270, .int .i64 t274, .string t278, .string (⟨#[]⟩ : ByteArray)] 28 (0, 0)) bka_ NB282_257.out (by simp)); have n2_ := AM hb; have n3_ := AM hi; clear BK256; clear BK282; clear HB; clear HI257; have BK256 := n0_; have BK282 := n1_; have HB := n2_; have HI257 := n3_; clear n0_ n1_ n2_ n3_; (try clear hb); (try clear hb2); (try clear hk); (try clear hi)))
          replace BK256 := AM (blk_drew BK256.out)
          replace BK282 := AM (blk_drew BK282.out)
          replace HI257 := AM (IsS134.drew HI257.out)
          replace HB := AM (below_drew1 HB.out)
          refine start_ (n := 11) (S := fun w' => w'.cell? ⟨gb257, 0, none⟩ = some (.string t284) ∧ w'.cell? ⟨gb257, 1, none⟩ = some (.int .i64 t285) ∧ w'.cell? ⟨gb257, 2, none⟩ = some (.bool t286)) (ds := [8, 10]) (Array.replicate 11 false) (by kernel_rfl) rfl rfl ⟨(cellS134_0 HI257.out.1), (cellS134_1 HI257.out.1), (cellS134_2 HI257.out.1)⟩ (fun hHeld => ?_); refine with_tabW impl_readFrame.tab5 impl_readFrame.bits5 (fun HT_ HW_ => ?_)
          generalize w72.drew = w73 at BK256 BK282 HI257 HB hHeld ⊢
          refine pu_ HT_ 0 (some 25) (bA 11 1) ?_
          refine pu_ HT_ 1 (some 26) (bA 11 3) ?_
          refine pu_ HT_ 3 (some 28) (bA 11 11) ?_
          refine pu_ HT_ 4 (some 29) (bA 11 27) ?_
          refine pu_ HT_ 5 (some 30) (bA 11 59) ?_
          refine ta_ HT_ HW_ 6 (some 31) (bA 11 123) hHeld ?_
          refine on_ HT_ 2 (some 27) (bA 11 127) (fun K hK => ?_)
          refine go1_ Tryd.func70 #[.string a0] ?_
          with_reducible refine (impl_long.calls a0 t287 _ A9.out).mono ?_
          rintro e w' ⟨rfl, ⟨nd, rfl⟩⟩
          refine ⟨_, rfl, ?_⟩
          refine hK.out _ _ ⟨(cellS134_0 HI257.out.1), (cellS134_1 HI257.out.1), (cellS134_2 HI257.out.1)⟩ (fun hHeld => ?_)
          clear hK K
          refine nm_ ?_
          refine pu_ HT_ 7 (some 32) (bA 11 255) ?_
          refine last_ (i := 8) (N := some 33) (bA 11 511) (by exact rfl) (by exact rfl) (one_of HT_.out (by kernel_rfl)) (by decide) (fun K hK => ?_)
          refine go1_ Tryd.func115 #[.pointer (some ⟨gb257, 0, none⟩), .int .i64 (wrap64 (t287 - t285))] ?_
          with_reducible refine (impl_reader_take.calls gb257 t284 t285 t286 (wrap64 (t287 - t285)) t288 t289 t290 false w _ ?side1 ?side2 A10.out).mono ?_
          (case side1 => exact is134_)
          (case side2 => exact belg_ (IsS134.ge HI257.out))
          rintro e w74 ⟨rfl, hi, hb, hk⟩
          refine ⟨_, rfl, ?_⟩
          replace BK256 := AM (KeepBut.blk hk (g' := gb256) (o := .cells #[.int .i64 0, .int .i64 0, .int .i64 0, .int .i64 0, .string (⟨#[]⟩ : ByteArray), .string (⟨#[]⟩ : ByteArray)] 28 (0, 0)) (bk_ BK256.out) NB256_257.out (by simp))
          replace BK282 := AM (KeepBut.blk hk (g' := gb282) (o := .cells #[.int .i64 t262, .int .i64 t266, .int .i64 t270, .int .i64 t274, .string t278, .string (⟨#[]⟩ : ByteArray)] 28 (0, 0)) (bk_ BK282.out) NB282_257.out (by simp))
          replace HB := AM hb
          replace HI257 := AM hi
          (try clear hb); (try clear hb2); (try clear hk); (try clear hi)
          refine hK.out _ _ ?_
          clear hK K
          refine nm_ ?_
          refine pu_ HT_ 9 (some 34) (bA 11 1023) ?_
          refine last_ (i := 10) (N := none) (bA 11 2047) (by exact rfl) (by exact rfl) (one_of HT_.out (by kernel_rfl)) (by decide) (fun K hK => ?_)
          have hs75 : w74.cell? ⟨gb282, 5, none⟩ = some (.string (⟨#[]⟩ : ByteArray)) := (blk_cell BK282.out 5).trans rfl
          have hfs75 := blk_frozen BK282.out 5
          have hns75_0 := NB256_282.out
          have hms75_0 := NB282_256.out
          refine sk_ ?_
          refine hK.out _ _ ?_
          clear hK K
          refine dn_ HT_ ?_
          obtain ⟨HGz76, hgz76⟩ := HI257.out
          have hcz76_0 := cellS134_0 HGz76
          have hcz76_1 := cellS134_1 HGz76
          have hcz76_2 := cellS134_2 HGz76
          have hfz76_0 := blk_frozen HGz76 0
          have hfz76_1 := blk_frozen HGz76 1
          have hfz76_2 := blk_frozen HGz76 2
          clear HGz76 hgz76
          have hcz77_0 : w74.cell? ⟨gb282, 0, none⟩ = some (.int .i64 t262) := (blk_cell BK282.out 0).trans rfl
          have hcz77_1 : w74.cell? ⟨gb282, 1, none⟩ = some (.int .i64 t266) := (blk_cell BK282.out 1).trans rfl
          have hcz77_2 : w74.cell? ⟨gb282, 2, none⟩ = some (.int .i64 t270) := (blk_cell BK282.out 2).trans rfl
          have hcz77_3 : w74.cell? ⟨gb282, 3, none⟩ = some (.int .i64 t274) := (blk_cell BK282.out 3).trans rfl
          have hcz77_4 : w74.cell? ⟨gb282, 4, none⟩ = some (.string t278) := (blk_cell BK282.out 4).trans rfl
          have hcz77_5 : w74.cell? ⟨gb282, 5, none⟩ = some (.string (⟨#[]⟩ : ByteArray)) := (blk_cell BK282.out 5).trans rfl
          have hfz77_0 := blk_frozen BK282.out 0
          have hfz77_1 := blk_frozen BK282.out 1
          have hfz77_2 := blk_frozen BK282.out 2
          have hfz77_3 := blk_frozen BK282.out 3
          have hfz77_4 := blk_frozen BK282.out 4
          have hfz77_5 := blk_frozen BK282.out 5
          try go_wp2_with (first | (go_at_call 45; (with_reducible refine (impl_FrameRight.calls t262 t266 t270 t274 t278 t288 true _ A32.out).mono ?_); rintro e w78 ⟨rfl, hb⟩; have n0_ := AM (blk_below (g := gb256) (o := .cells #[.int .i64 0, .int .i64 0, .int .i64 0, .int .i64 0, .string (⟨#[]⟩ : ByteArray), .string (⟨#[]⟩ : ByteArray)] 28 (0, 0)) bka_ hb); have n1_ := AM (IsS134.below (show IsS134 w (w74.setCell ⟨gb282, 5, none⟩ (.string t288)) gb257 t289 t290 false from is134_) hb); have n2_ := AM (blk_below (g := gb282) (o := .cells #[.int .i64 t262, .int .i64 t266, .int .i64 t270, .int .i64 t274, .string t278, .string t288] 28 (0, 0)) bka_ hb); have n3_ := AM (below_step (belg_ (IsS134.ge HI257.out)) hb); clear BK256; clear HI257; clear BK282; clear HB; have BK256 := n0_; have HI257 := n1_; have BK282 := n2_; have HB := n3_; clear n0_ n1_ n2_ n3_; (try clear hb); (try clear hb2); (try clear hk); (try clear hi); have hcz79_0 : w78.cell? ⟨gb282, 0, none⟩ = some (.int .i64 t262) := (blk_cell BK282.out 0).trans rfl; have hcz79_1 : w78.cell? ⟨gb282, 1, none⟩ = some (.int .i64 t266) := (blk_cell BK282.out 1).trans rfl; have hcz79_2 : w78.cell? ⟨gb282, 2, none⟩ = some (.int .i64 t270) := (blk_cell BK282.out 2).trans rfl; have hcz79_3 : w78.cell? ⟨gb282, 3, none⟩ = some (.int .i64 t274) := (blk_cell BK282.out 3).trans rfl; have hcz79_4 : w78.cell? ⟨gb282, 4, none⟩ = some (.string t278) := (blk_cell BK282.out 4).trans rfl; have hcz79_5 : w78.cell? ⟨gb282, 5, none⟩ = some (.string t288) := (blk_cell BK282.out 5).trans rfl; have hfz79_0 := blk_frozen BK282.out 0; have hfz79_1 := blk_frozen BK282.out 1; have hfz79_2 := blk_frozen BK282.out 2; have hfz79_3 := blk_frozen BK282.out 3; have hfz79_4 := blk_frozen BK282.out 4; have hfz79_5 := blk_frozen BK282.out 5) | (go_at_call 53; (with_reducible refine (impl_Frame_bytes.calls k t262 t266 t270 t274 t278 t288 t293 _ A34.out).mono ?_); rintro e w80 ⟨rfl, hb⟩; replace BK256 := AM (blk_below (g := gb256) (o := .cells #[.int .i64 0, .int .i64 0, .int .i64 0, .int .i64 0, .string (⟨#[]⟩ : ByteArray), .string (⟨#[]⟩ : ByteArray)] 28 (0, 0)) (bk_ BK256.out) hb); replace BK282 := AM (blk_below (g := gb282) (o := .cells #[.int .i64 t262, .int .i64 t266, .int .i64 t270, .int .i64 t274, .string t278, .string t288] 28 (0, 0)) (bk_ BK282.out) hb); replace HB := AM (below_step (belg_ (IsS134.ge HI257.out)) hb); replace HI257 := AM (IsS134.below is134_ hb); (try clear hb); (try clear hb2); (try clear hk); (try clear hi); have hnb81 := NB256_257.out; have hnc81 := NB257_256.out; have hcz82_0 : w80.cell? ⟨gb256, 0, none⟩ = some (.int .i64 0) := (blk_cell BK256.out 0).trans rfl; have hcz82_1 : w80.cell? ⟨gb256, 1, none⟩ = some (.int .i64 0) := (blk_cell BK256.out 1).trans rfl; have hcz82_2 : w80.cell? ⟨gb256, 2, none⟩ = some (.int .i64 0) := (blk_cell BK256.out 2).trans rfl; have hcz82_3 : w80.cell? ⟨gb256, 3, none⟩ = some (.int .i64 0) := (blk_cell BK256.out 3).trans rfl; have hcz82_4 : w80.cell? ⟨gb256, 4, none⟩ = some (.string (⟨#[]⟩ : ByteArray)) := (blk_cell BK256.out 4).trans rfl; have hcz82_5 : w80.cell? ⟨gb256, 5, none⟩ = some (.string (⟨#[]⟩ : ByteArray)) := (blk_cell BK256.out 5).trans rfl; have hfz82_0 := blk_frozen BK256.out 0; have hfz82_1 := blk_frozen BK256.out 1; have hfz82_2 := blk_frozen BK256.out 2; have hfz82_3 := blk_frozen BK256.out 3; have hfz82_4 := blk_frozen BK256.out 4; have hfz82_5 := blk_frozen BK256.out 5))
          refine bodyPost_ret (results_ct rfl _ _ gb256 28 #[.int .i64 0, .int .i64 0, .int .i64 0, .int .i64 0, .string (⟨#[]⟩ : ByteArray), .string (⟨#[]⟩ : ByteArray)] (0, 0) _ rfl bka_ Tryd.underlying28 rfl (by kernel_rfl)) rfl ?_
          exact ⟨ri_, belg_ (IsS134.ge HI257.out)⟩
      · replace c33 := Bool.eq_false_iff.mpr c33
        subst c33
        rw [if_neg (show ¬ (false = true) by decide)] at H
        simp only [Option.some.injEq, Prod.mk.injEq] at H
        obtain ⟨rfl, rfl, rfl, rfl, rfl, rfl, rfl⟩ := H
        go_enter Tryd.func81, Tryd.ntmps81
        try go_wp2_with (first | ((with_reducible refine gate_dst (N := 2) rfl ?_); refine be_ 2 #[.int .i64 0, .int .i64 0, .int .i64 0, .int .i64 0, .string (⟨#[]⟩ : ByteArray), .string (⟨#[]⟩ : ByteArray)] 28 ?_; intro gb256 hg w83 hbox hb; have BK256 := AM hbox; have GW256 := AM ((by rw [hg]; exact (below_size bel_) : w.heap.size ≤ gb256)); have GE256 := AM ((by rw [hg]; exact (below_size bel_) : w.heap.size ≤ gb256)); replace HB := AM (below_step bel_ hb); clear hb hbox hg) | ((with_reducible refine gate_dst (N := 9) rfl ?_); refine be_ 9 #[.string a0, .int .i64 0, .bool false] 134 ?_; intro gb257 hg w84 hbox hb; have NB256_257 := AM ((by rw [hg]; exact Nat.ne_of_lt (blk_lt (g := gb256) (o := .cells #[.int .i64 0, .int .i64 0, .int .i64 0, .int .i64 0, .string (⟨#[]⟩ : ByteArray), .string (⟨#[]⟩ : ByteArray)] 28 (0, 0)) (bk_ BK256.out)) : gb256 ≠ gb257)); have NB257_256 := AM ((by rw [hg]; exact Nat.ne_of_gt (blk_lt (g := gb256) (o := .cells #[.int .i64 0, .int .i64 0, .int .i64 0, .int .i64 0, .string (⟨#[]⟩ : ByteArray), .string (⟨#[]⟩ : ByteArray)] 28 (0, 0)) (bk_ BK256.out)) : gb257 ≠ gb256)); replace BK256 := AM (blk_below (g := gb256) (o := .cells #[.int .i64 0, .int .i64 0, .int .i64 0, .int .i64 0, .string (⟨#[]⟩ : ByteArray), .string (⟨#[]⟩ : ByteArray)] 28 (0, 0)) (bk_ BK256.out) hb); have HI257 := AM ((⟨hbox, (by rw [hg]; exact (below_size bel_) : w.heap.size ≤ gb257)⟩ : IsS134 w w84 gb257 a0 0 false)); replace HB := AM (below_step bel_ hb); clear hb hbox hg) | ((with_reducible refine gate_callee (f := 115) rfl ?_); refine gl_ (some 11) Tryd.func115 #[.pointer (some ⟨gb257, 0, none⟩), .int .i64 1] ?_; (with_reducible refine (impl_reader_take.calls gb257 a0 0 false 1 t258 t259 t260 t261 w _ ?side1 ?side2 A2.out).mono ?_); (case side1 => exact is134_); (case side2 => exact belg_ (IsS134.ge HI257.out)); rintro e w85 ⟨rfl, hi, hb, hk⟩; refine ⟨_, rfl, ?_⟩; replace BK256 := AM (KeepBut.blk hk (g' := gb256) (o := .cells #[.int .i64 0, .int .i64 0, .int .i64 0, .int .i64 0, .string (⟨#[]⟩ : ByteArray), .string (⟨#[]⟩ : ByteArray)] 28 (0, 0)) (bk_ BK256.out) NB256_257.out (by simp)); replace HB := AM hb; replace HI257 := AM hi; (try clear hb); (try clear hb2); (try clear hk); (try clear hi)) | ((with_reducible refine gate_callee (f := 116) rfl ?_); refine gl_ (some 13) Tryd.func116 #[.pointer (some ⟨gb257, 0, none⟩)] ?_; (with_reducible refine (impl_reader_num.calls k gb257 t259 t260 t261 t262 t263 t264 t265 w _ ?side1 ?side2 A3.out).mono ?_); (case side1 => exact is134_); (case side2 => exact belg_ (IsS134.ge HI257.out)); rintro e w86 ⟨rfl, hi, hb, hk⟩; refine ⟨_, rfl, ?_⟩; replace BK256 := AM (KeepBut.blk hk (g' := gb256) (o := .cells #[.int .i64 0, .int .i64 0, .int .i64 0, .int .i64 0, .string (⟨#[]⟩ : ByteArray), .string (⟨#[]⟩ : ByteArray)] 28 (0, 0)) (bk_ BK256.out) NB256_257.out (by simp)); replace HB := AM hb; replace HI257 := AM hi; (try clear hb); (try clear hb2); (try clear hk); (try clear hi)) | ((with_reducible refine gate_callee (f := 116) rfl ?_); refine gl_ (some 15) Tryd.func116 #[.pointer (some ⟨gb257, 0, none⟩)] ?_; (with_reducible refine (impl_reader_num.calls k gb257 t263 t264 t265 t266 t267 t268 t269 w _ ?side1 ?side2 A4.out).mono ?_); (case side1 => exact is134_); (case side2 => exact belg_ (IsS134.ge HI257.out)); rintro e w87 ⟨rfl, hi, hb, hk⟩; refine ⟨_, rfl, ?_⟩; replace BK256 := AM (KeepBut.blk hk (g' := gb256) (o := .cells #[.int .i64 0, .int .i64 0, .int .i64 0, .int .i64 0, .string (⟨#[]⟩ : ByteArray), .string (⟨#[]⟩ : ByteArray)] 28 (0, 0)) (bk_ BK256.out) NB256_257.out (by simp)); replace HB := AM hb; replace HI257 := AM hi; (try clear hb); (try clear hb2); (try clear hk); (try clear hi)) | ((with_reducible refine gate_callee (f := 116) rfl ?_); refine gl_ (some 17) Tryd.func116 #[.pointer (some ⟨gb257, 0, none⟩)] ?_; (with_reducible refine (impl_reader_num.calls k gb257 t267 t268 t269 t270 t271 t272 t273 w _ ?side1 ?side2 A5.out).mono ?_); (case side1 => exact is134_); (case side2 => exact belg_ (IsS134.ge HI257.out)); rintro e w88 ⟨rfl, hi, hb, hk⟩; refine ⟨_, rfl, ?_⟩; replace BK256 := AM (KeepBut.blk hk (g' := gb256) (o := .cells #[.int .i64 0, .int .i64 0, .int .i64 0, .int .i64 0, .string (⟨#[]⟩ : ByteArray), .string (⟨#[]⟩ : ByteArray)] 28 (0, 0)) (bk_ BK256.out) NB256_257.out (by simp)); replace HB := AM hb; replace HI257 := AM hi; (try clear hb); (try clear hb2); (try clear hk); (try clear hi)) | ((with_reducible refine gate_callee (f := 116) rfl ?_); refine gl_ (some 19) Tryd.func116 #[.pointer (some ⟨gb257, 0, none⟩)] ?_; (with_reducible refine (impl_reader_num.calls k gb257 t271 t272 t273 t274 t275 t276 t277 w _ ?side1 ?side2 A6.out).mono ?_); (case side1 => exact is134_); (case side2 => exact belg_ (IsS134.ge HI257.out)); rintro e w89 ⟨rfl, hi, hb, hk⟩; refine ⟨_, rfl, ?_⟩; replace BK256 := AM (KeepBut.blk hk (g' := gb256) (o := .cells #[.int .i64 0, .int .i64 0, .int .i64 0, .int .i64 0, .string (⟨#[]⟩ : ByteArray), .string (⟨#[]⟩ : ByteArray)] 28 (0, 0)) (bk_ BK256.out) NB256_257.out (by simp)); replace HB := AM hb; replace HI257 := AM hi; (try clear hb); (try clear hb2); (try clear hk); (try clear hi)) | ((with_reducible refine gate_callee (f := 115) rfl ?_); refine gl_ (some 21) Tryd.func115 #[.pointer (some ⟨gb257, 0, none⟩), .int .i64 32] ?_; (with_reducible refine (impl_reader_take.calls gb257 t275 t276 t277 32 t278 t279 t280 t281 w _ ?side1 ?side2 A7.out).mono ?_); (case side1 => exact is134_); (case side2 => exact belg_ (IsS134.ge HI257.out)); rintro e w90 ⟨rfl, hi, hb, hk⟩; refine ⟨_, rfl, ?_⟩; replace BK256 := AM (KeepBut.blk hk (g' := gb256) (o := .cells #[.int .i64 0, .int .i64 0, .int .i64 0, .int .i64 0, .string (⟨#[]⟩ : ByteArray), .string (⟨#[]⟩ : ByteArray)] 28 (0, 0)) (bk_ BK256.out) NB256_257.out (by simp)); replace HB := AM hb; replace HI257 := AM hi; (try clear hb); (try clear hb2); (try clear hk); (try clear hi)) | ((with_reducible refine gate_dst (N := 6) rfl ?_); refine be_ 6 #[.int .i64 0, .int .i64 0, .int .i64 0, .int .i64 0, .string (⟨#[]⟩ : ByteArray), .string (⟨#[]⟩ : ByteArray)] 28 ?_; intro gb282 hg w91 hbox hb; have BK282 := AM hbox; have GW282 := AM ((by rw [hg]; exact (below_size (belg_ (IsS134.ge HI257.out))) : w.heap.size ≤ gb282)); have GE282 := AM ((by rw [hg]; exact (below_size (belg_ (IsS134.ge HI257.out))) : w.heap.size ≤ gb282)); replace HB := AM (below_step (belg_ (IsS134.ge HI257.out)) hb); have NB256_282 := AM ((by rw [hg]; exact Nat.ne_of_lt (blk_lt (g := gb256) (o := .cells #[.int .i64 0, .int .i64 0, .int .i64 0, .int .i64 0, .string (⟨#[]⟩ : ByteArray), .string (⟨#[]⟩ : ByteArray)] 28 (0, 0)) (bk_ BK256.out)) : gb256 ≠ gb282)); have NB282_256 := AM ((by rw [hg]; exact Nat.ne_of_gt (blk_lt (g := gb256) (o := .cells #[.int .i64 0, .int .i64 0, .int .i64 0, .int .i64 0, .string (⟨#[]⟩ : ByteArray), .string (⟨#[]⟩ : ByteArray)] 28 (0, 0)) (bk_ BK256.out)) : gb282 ≠ gb256)); replace BK256 := AM (blk_below (g := gb256) (o := .cells #[.int .i64 0, .int .i64 0, .int .i64 0, .int .i64 0, .string (⟨#[]⟩ : ByteArray), .string (⟨#[]⟩ : ByteArray)] 28 (0, 0)) (bk_ BK256.out) hb); have NB257_282 := AM ((by rw [hg]; exact Nat.ne_of_lt (IsS134.lt (show IsS134 w _ gb257 t279 t280 t281 from is134_)) : gb257 ≠ gb282)); have NB282_257 := AM ((by rw [hg]; exact Nat.ne_of_gt (IsS134.lt (show IsS134 w _ gb257 t279 t280 t281 from is134_)) : gb282 ≠ gb257)); replace HI257 := AM (IsS134.below is134_ hb); clear hb hbox hg; have hnb92 := NB282_256.out; have hnc92 := NB256_282.out; have hnb93 := NB282_257.out; have hnc93 := NB257_282.out; have hcz94_0 : w91.cell? ⟨gb282, 0, none⟩ = some (.int .i64 0) := (blk_cell BK282.out 0).trans rfl; have hcz94_1 : w91.cell? ⟨gb282, 1, none⟩ = some (.int .i64 0) := (blk_cell BK282.out 1).trans rfl; have hcz94_2 : w91.cell? ⟨gb282, 2, none⟩ = some (.int .i64 0) := (blk_cell BK282.out 2).trans rfl; have hcz94_3 : w91.cell? ⟨gb282, 3, none⟩ = some (.int .i64 0) := (blk_cell BK282.out 3).trans rfl; have hcz94_4 : w91.cell? ⟨gb282, 4, none⟩ = some (.string (⟨#[]⟩ : ByteArray)) := (blk_cell BK282.out 4).trans rfl; have hcz94_5 : w91.cell? ⟨gb282, 5, none⟩ = some (.string (⟨#[]⟩ : ByteArray)) := (blk_cell BK282.out 5).trans rfl; have hfz94_0 := blk_frozen BK282.out 0; have hfz94_1 := blk_frozen BK282.out 1; have hfz94_2 := blk_frozen BK282.out 2; have hfz94_3 := blk_frozen BK282.out 3; have hfz94_4 := blk_frozen BK282.out 4; have hfz94_5 := blk_frozen BK282.out 5) | ((with_reducible refine gate_callee (f := 115) rfl ?_); refine gl_ (some 24) Tryd.func115 #[.pointer (some ⟨gb257, 0, none⟩), .int .i64 32] ?_; (with_reducible refine (impl_reader_take.calls gb257 t279 t280 t281 32 t283 t284 t285 t286 w _ ?side1 ?side2 A8.out).mono ?_); (case side1 => exact is134_); (case side2 => exact belg_ (IsS134.ge HI257.out)); rintro e w95 ⟨rfl, hi, hb, hk⟩; refine ⟨_, rfl, ?_⟩; have n0_ := AM (KeepBut.blk hk (g' := gb256) (o := .cells #[.int .i64 0, .int .i64 0, .int .i64 0, .int .i64 0, .string (⟨#[]⟩ : ByteArray), .string (⟨#[]⟩ : ByteArray)] 28 (0, 0)) bka_ NB256_257.out (by simp)); have n1_ := AM (KeepBut.blk hk (g' := gb282) (o := .cells #[.int .i64 t262, .int .i64 t266, .int .i64 t270, .int .i64 t274, .string t278, .string (⟨#[]⟩ : ByteArray)] 28 (0, 0)) bka_ NB282_257.out (by simp)); have n2_ := AM hb; have n3_ := AM hi; clear BK256; clear BK282; clear HB; clear HI257; have BK256 := n0_; have BK282 := n1_; have HB := n2_; have HI257 := n3_; clear n0_ n1_ n2_ n3_; (try clear hb); (try clear hb2); (try clear hk); (try clear hi)))
        replace BK256 := AM (blk_drew BK256.out)
        replace BK282 := AM (blk_drew BK282.out)
        replace HI257 := AM (IsS134.drew HI257.out)
        replace HB := AM (below_drew1 HB.out)
        refine start_ (n := 11) (S := fun w' => w'.cell? ⟨gb257, 0, none⟩ = some (.string t284) ∧ w'.cell? ⟨gb257, 1, none⟩ = some (.int .i64 t285) ∧ w'.cell? ⟨gb257, 2, none⟩ = some (.bool t286)) (ds := [8, 10]) (Array.replicate 11 false) (by kernel_rfl) rfl rfl ⟨(cellS134_0 HI257.out.1), (cellS134_1 HI257.out.1), (cellS134_2 HI257.out.1)⟩ (fun hHeld => ?_); refine with_tabW impl_readFrame.tab5 impl_readFrame.bits5 (fun HT_ HW_ => ?_)
        generalize w95.drew = w96 at BK256 BK282 HI257 HB hHeld ⊢
        refine pu_ HT_ 0 (some 25) (bA 11 1) ?_
        refine pu_ HT_ 1 (some 26) (bA 11 3) ?_
        refine pu_ HT_ 3 (some 28) (bA 11 11) ?_
        refine pu_ HT_ 4 (some 29) (bA 11 27) ?_
        refine pu_ HT_ 5 (some 30) (bA 11 59) ?_
        refine ta_ HT_ HW_ 6 (some 31) (bA 11 123) hHeld ?_
        refine on_ HT_ 2 (some 27) (bA 11 127) (fun K hK => ?_)
        refine go1_ Tryd.func70 #[.string a0] ?_
        with_reducible refine (impl_long.calls a0 t287 _ A9.out).mono ?_
        rintro e w' ⟨rfl, ⟨nd, rfl⟩⟩
        refine ⟨_, rfl, ?_⟩
        refine hK.out _ _ ⟨(cellS134_0 HI257.out.1), (cellS134_1 HI257.out.1), (cellS134_2 HI257.out.1)⟩ (fun hHeld => ?_)
        clear hK K
        refine nm_ ?_
        refine pu_ HT_ 7 (some 32) (bA 11 255) ?_
        refine last_ (i := 8) (N := some 33) (bA 11 511) (by exact rfl) (by exact rfl) (one_of HT_.out (by kernel_rfl)) (by decide) (fun K hK => ?_)
        refine go1_ Tryd.func115 #[.pointer (some ⟨gb257, 0, none⟩), .int .i64 (wrap64 (t287 - t285))] ?_
        with_reducible refine (impl_reader_take.calls gb257 t284 t285 t286 (wrap64 (t287 - t285)) t288 t289 t290 false w _ ?side1 ?side2 A10.out).mono ?_
        (case side1 => exact is134_)
        (case side2 => exact belg_ (IsS134.ge HI257.out))
        rintro e w97 ⟨rfl, hi, hb, hk⟩
        refine ⟨_, rfl, ?_⟩
        replace BK256 := AM (KeepBut.blk hk (g' := gb256) (o := .cells #[.int .i64 0, .int .i64 0, .int .i64 0, .int .i64 0, .string (⟨#[]⟩ : ByteArray), .string (⟨#[]⟩ : ByteArray)] 28 (0, 0)) (bk_ BK256.out) NB256_257.out (by simp))
        replace BK282 := AM (KeepBut.blk hk (g' := gb282) (o := .cells #[.int .i64 t262, .int .i64 t266, .int .i64 t270, .int .i64 t274, .string t278, .string (⟨#[]⟩ : ByteArray)] 28 (0, 0)) (bk_ BK282.out) NB282_257.out (by simp))
        replace HB := AM hb
        replace HI257 := AM hi
        (try clear hb); (try clear hb2); (try clear hk); (try clear hi)
        refine hK.out _ _ ?_
        clear hK K
        refine nm_ ?_
        refine pu_ HT_ 9 (some 34) (bA 11 1023) ?_
        refine last_ (i := 10) (N := none) (bA 11 2047) (by exact rfl) (by exact rfl) (one_of HT_.out (by kernel_rfl)) (by decide) (fun K hK => ?_)
        have hs98 : w97.cell? ⟨gb282, 5, none⟩ = some (.string (⟨#[]⟩ : ByteArray)) := (blk_cell BK282.out 5).trans rfl
        have hfs98 := blk_frozen BK282.out 5
        have hns98_0 := NB256_282.out
        have hms98_0 := NB282_256.out
        refine sk_ ?_
        refine hK.out _ _ ?_
        clear hK K
        refine dn_ HT_ ?_
        obtain ⟨HGz99, hgz99⟩ := HI257.out
        have hcz99_0 := cellS134_0 HGz99
        have hcz99_1 := cellS134_1 HGz99
        have hcz99_2 := cellS134_2 HGz99
        have hfz99_0 := blk_frozen HGz99 0
        have hfz99_1 := blk_frozen HGz99 1
        have hfz99_2 := blk_frozen HGz99 2
        clear HGz99 hgz99
        have hcz100_0 : w97.cell? ⟨gb282, 0, none⟩ = some (.int .i64 t262) := (blk_cell BK282.out 0).trans rfl
        have hcz100_1 : w97.cell? ⟨gb282, 1, none⟩ = some (.int .i64 t266) := (blk_cell BK282.out 1).trans rfl
        have hcz100_2 : w97.cell? ⟨gb282, 2, none⟩ = some (.int .i64 t270) := (blk_cell BK282.out 2).trans rfl
        have hcz100_3 : w97.cell? ⟨gb282, 3, none⟩ = some (.int .i64 t274) := (blk_cell BK282.out 3).trans rfl
        have hcz100_4 : w97.cell? ⟨gb282, 4, none⟩ = some (.string t278) := (blk_cell BK282.out 4).trans rfl
        have hcz100_5 : w97.cell? ⟨gb282, 5, none⟩ = some (.string (⟨#[]⟩ : ByteArray)) := (blk_cell BK282.out 5).trans rfl
        have hfz100_0 := blk_frozen BK282.out 0
        have hfz100_1 := blk_frozen BK282.out 1
        have hfz100_2 := blk_frozen BK282.out 2
        have hfz100_3 := blk_frozen BK282.out 3
        have hfz100_4 := blk_frozen BK282.out 4
        have hfz100_5 := blk_frozen BK282.out 5
        try go_wp2_with (first | (go_at_call 45; (with_reducible refine (impl_FrameRight.calls t262 t266 t270 t274 t278 t288 false _ A32.out).mono ?_); rintro e w101 ⟨rfl, hb⟩; have n0_ := AM (blk_below (g := gb256) (o := .cells #[.int .i64 0, .int .i64 0, .int .i64 0, .int .i64 0, .string (⟨#[]⟩ : ByteArray), .string (⟨#[]⟩ : ByteArray)] 28 (0, 0)) bka_ hb); have n1_ := AM (IsS134.below (show IsS134 w (w97.setCell ⟨gb282, 5, none⟩ (.string t288)) gb257 t289 t290 false from is134_) hb); have n2_ := AM (blk_below (g := gb282) (o := .cells #[.int .i64 t262, .int .i64 t266, .int .i64 t270, .int .i64 t274, .string t278, .string t288] 28 (0, 0)) bka_ hb); have n3_ := AM (below_step (belg_ (IsS134.ge HI257.out)) hb); clear BK256; clear HI257; clear BK282; clear HB; have BK256 := n0_; have HI257 := n1_; have BK282 := n2_; have HB := n3_; clear n0_ n1_ n2_ n3_; (try clear hb); (try clear hb2); (try clear hk); (try clear hi); have hnb102 := NB256_257.out; have hnc102 := NB257_256.out; have hcz103_0 : w101.cell? ⟨gb256, 0, none⟩ = some (.int .i64 0) := (blk_cell BK256.out 0).trans rfl; have hcz103_1 : w101.cell? ⟨gb256, 1, none⟩ = some (.int .i64 0) := (blk_cell BK256.out 1).trans rfl; have hcz103_2 : w101.cell? ⟨gb256, 2, none⟩ = some (.int .i64 0) := (blk_cell BK256.out 2).trans rfl; have hcz103_3 : w101.cell? ⟨gb256, 3, none⟩ = some (.int .i64 0) := (blk_cell BK256.out 3).trans rfl; have hcz103_4 : w101.cell? ⟨gb256, 4, none⟩ = some (.string (⟨#[]⟩ : ByteArray)) := (blk_cell BK256.out 4).trans rfl; have hcz103_5 : w101.cell? ⟨gb256, 5, none⟩ = some (.string (⟨#[]⟩ : ByteArray)) := (blk_cell BK256.out 5).trans rfl; have hfz103_0 := blk_frozen BK256.out 0; have hfz103_1 := blk_frozen BK256.out 1; have hfz103_2 := blk_frozen BK256.out 2; have hfz103_3 := blk_frozen BK256.out 3; have hfz103_4 := blk_frozen BK256.out 4; have hfz103_5 := blk_frozen BK256.out 5))
        refine bodyPost_ret (results_ct rfl _ _ gb256 28 #[.int .i64 0, .int .i64 0, .int .i64 0, .int .i64 0, .string (⟨#[]⟩ : ByteArray), .string (⟨#[]⟩ : ByteArray)] (0, 0) _ rfl bka_ Tryd.underlying28 rfl (by kernel_rfl)) rfl ?_
        exact ⟨ri_, belg_ (IsS134.ge HI257.out)⟩
    · rw [if_neg c31] at H
      have c31b0 : (t258.toList == ([70] : List UInt8)) = false := beq_eq_false_iff_ne.mpr c31
      have c31b1 : (t258.toList != ([70] : List UInt8)) = true := bne_iff_ne.mpr c31
      simp only [Option.some.injEq, Prod.mk.injEq] at H
      obtain ⟨rfl, rfl, rfl, rfl, rfl, rfl, rfl⟩ := H
      go_enter Tryd.func81, Tryd.ntmps81
      try go_wp2_with (first | ((with_reducible refine gate_dst (N := 2) rfl ?_); refine be_ 2 #[.int .i64 0, .int .i64 0, .int .i64 0, .int .i64 0, .string (⟨#[]⟩ : ByteArray), .string (⟨#[]⟩ : ByteArray)] 28 ?_; intro gb256 hg w104 hbox hb; have BK256 := AM hbox; have GW256 := AM ((by rw [hg]; exact (below_size bel_) : w.heap.size ≤ gb256)); have GE256 := AM ((by rw [hg]; exact (below_size bel_) : w.heap.size ≤ gb256)); replace HB := AM (below_step bel_ hb); clear hb hbox hg) | ((with_reducible refine gate_dst (N := 9) rfl ?_); refine be_ 9 #[.string a0, .int .i64 0, .bool false] 134 ?_; intro gb257 hg w105 hbox hb; have NB256_257 := AM ((by rw [hg]; exact Nat.ne_of_lt (blk_lt (g := gb256) (o := .cells #[.int .i64 0, .int .i64 0, .int .i64 0, .int .i64 0, .string (⟨#[]⟩ : ByteArray), .string (⟨#[]⟩ : ByteArray)] 28 (0, 0)) (bk_ BK256.out)) : gb256 ≠ gb257)); have NB257_256 := AM ((by rw [hg]; exact Nat.ne_of_gt (blk_lt (g := gb256) (o := .cells #[.int .i64 0, .int .i64 0, .int .i64 0, .int .i64 0, .string (⟨#[]⟩ : ByteArray), .string (⟨#[]⟩ : ByteArray)] 28 (0, 0)) (bk_ BK256.out)) : gb257 ≠ gb256)); replace BK256 := AM (blk_below (g := gb256) (o := .cells #[.int .i64 0, .int .i64 0, .int .i64 0, .int .i64 0, .string (⟨#[]⟩ : ByteArray), .string (⟨#[]⟩ : ByteArray)] 28 (0, 0)) (bk_ BK256.out) hb); have HI257 := AM ((⟨hbox, (by rw [hg]; exact (below_size bel_) : w.heap.size ≤ gb257)⟩ : IsS134 w w105 gb257 a0 0 false)); replace HB := AM (below_step bel_ hb); clear hb hbox hg) | ((with_reducible refine gate_callee (f := 115) rfl ?_); refine gl_ (some 11) Tryd.func115 #[.pointer (some ⟨gb257, 0, none⟩), .int .i64 1] ?_; (with_reducible refine (impl_reader_take.calls gb257 a0 0 false 1 t258 t259 t260 t261 w _ ?side1 ?side2 A2.out).mono ?_); (case side1 => exact is134_); (case side2 => exact belg_ (IsS134.ge HI257.out)); rintro e w106 ⟨rfl, hi, hb, hk⟩; refine ⟨_, rfl, ?_⟩; replace BK256 := AM (KeepBut.blk hk (g' := gb256) (o := .cells #[.int .i64 0, .int .i64 0, .int .i64 0, .int .i64 0, .string (⟨#[]⟩ : ByteArray), .string (⟨#[]⟩ : ByteArray)] 28 (0, 0)) (bk_ BK256.out) NB256_257.out (by simp)); replace HB := AM hb; replace HI257 := AM hi; (try clear hb); (try clear hb2); (try clear hk); (try clear hi)) | ((with_reducible refine gate_callee (f := 116) rfl ?_); refine gl_ (some 13) Tryd.func116 #[.pointer (some ⟨gb257, 0, none⟩)] ?_; (with_reducible refine (impl_reader_num.calls k gb257 t259 t260 t261 t262 t263 t264 t265 w _ ?side1 ?side2 A3.out).mono ?_); (case side1 => exact is134_); (case side2 => exact belg_ (IsS134.ge HI257.out)); rintro e w107 ⟨rfl, hi, hb, hk⟩; refine ⟨_, rfl, ?_⟩; replace BK256 := AM (KeepBut.blk hk (g' := gb256) (o := .cells #[.int .i64 0, .int .i64 0, .int .i64 0, .int .i64 0, .string (⟨#[]⟩ : ByteArray), .string (⟨#[]⟩ : ByteArray)] 28 (0, 0)) (bk_ BK256.out) NB256_257.out (by simp)); replace HB := AM hb; replace HI257 := AM hi; (try clear hb); (try clear hb2); (try clear hk); (try clear hi)) | ((with_reducible refine gate_callee (f := 116) rfl ?_); refine gl_ (some 15) Tryd.func116 #[.pointer (some ⟨gb257, 0, none⟩)] ?_; (with_reducible refine (impl_reader_num.calls k gb257 t263 t264 t265 t266 t267 t268 t269 w _ ?side1 ?side2 A4.out).mono ?_); (case side1 => exact is134_); (case side2 => exact belg_ (IsS134.ge HI257.out)); rintro e w108 ⟨rfl, hi, hb, hk⟩; refine ⟨_, rfl, ?_⟩; replace BK256 := AM (KeepBut.blk hk (g' := gb256) (o := .cells #[.int .i64 0, .int .i64 0, .int .i64 0, .int .i64 0, .string (⟨#[]⟩ : ByteArray), .string (⟨#[]⟩ : ByteArray)] 28 (0, 0)) (bk_ BK256.out) NB256_257.out (by simp)); replace HB := AM hb; replace HI257 := AM hi; (try clear hb); (try clear hb2); (try clear hk); (try clear hi)) | ((with_reducible refine gate_callee (f := 116) rfl ?_); refine gl_ (some 17) Tryd.func116 #[.pointer (some ⟨gb257, 0, none⟩)] ?_; (with_reducible refine (impl_reader_num.calls k gb257 t267 t268 t269 t270 t271 t272 t273 w _ ?side1 ?side2 A5.out).mono ?_); (case side1 => exact is134_); (case side2 => exact belg_ (IsS134.ge HI257.out)); rintro e w109 ⟨rfl, hi, hb, hk⟩; refine ⟨_, rfl, ?_⟩; replace BK256 := AM (KeepBut.blk hk (g' := gb256) (o := .cells #[.int .i64 0, .int .i64 0, .int .i64 0, .int .i64 0, .string (⟨#[]⟩ : ByteArray), .string (⟨#[]⟩ : ByteArray)] 28 (0, 0)) (bk_ BK256.out) NB256_257.out (by simp)); replace HB := AM hb; replace HI257 := AM hi; (try clear hb); (try clear hb2); (try clear hk); (try clear hi)) | ((with_reducible refine gate_callee (f := 116) rfl ?_); refine gl_ (some 19) Tryd.func116 #[.pointer (some ⟨gb257, 0, none⟩)] ?_; (with_reducible refine (impl_reader_num.calls k gb257 t271 t272 t273 t274 t275 t276 t277 w _ ?side1 ?side2 A6.out).mono ?_); (case side1 => exact is134_); (case side2 => exact belg_ (IsS134.ge HI257.out)); rintro e w110 ⟨rfl, hi, hb, hk⟩; refine ⟨_, rfl, ?_⟩; replace BK256 := AM (KeepBut.blk hk (g' := gb256) (o := .cells #[.int .i64 0, .int .i64 0, .int .i64 0, .int .i64 0, .string (⟨#[]⟩ : ByteArray), .string (⟨#[]⟩ : ByteArray)] 28 (0, 0)) (bk_ BK256.out) NB256_257.out (by simp)); replace HB := AM hb; replace HI257 := AM hi; (try clear hb); (try clear hb2); (try clear hk); (try clear hi)) | ((with_reducible refine gate_callee (f := 115) rfl ?_); refine gl_ (some 21) Tryd.func115 #[.pointer (some ⟨gb257, 0, none⟩), .int .i64 32] ?_; (with_reducible refine (impl_reader_take.calls gb257 t275 t276 t277 32 t278 t279 t280 t281 w _ ?side1 ?side2 A7.out).mono ?_); (case side1 => exact is134_); (case side2 => exact belg_ (IsS134.ge HI257.out)); rintro e w111 ⟨rfl, hi, hb, hk⟩; refine ⟨_, rfl, ?_⟩; replace BK256 := AM (KeepBut.blk hk (g' := gb256) (o := .cells #[.int .i64 0, .int .i64 0, .int .i64 0, .int .i64 0, .string (⟨#[]⟩ : ByteArray), .string (⟨#[]⟩ : ByteArray)] 28 (0, 0)) (bk_ BK256.out) NB256_257.out (by simp)); replace HB := AM hb; replace HI257 := AM hi; (try clear hb); (try clear hb2); (try clear hk); (try clear hi)) | ((with_reducible refine gate_dst (N := 6) rfl ?_); refine be_ 6 #[.int .i64 0, .int .i64 0, .int .i64 0, .int .i64 0, .string (⟨#[]⟩ : ByteArray), .string (⟨#[]⟩ : ByteArray)] 28 ?_; intro gb282 hg w112 hbox hb; have BK282 := AM hbox; have GW282 := AM ((by rw [hg]; exact (below_size (belg_ (IsS134.ge HI257.out))) : w.heap.size ≤ gb282)); have GE282 := AM ((by rw [hg]; exact (below_size (belg_ (IsS134.ge HI257.out))) : w.heap.size ≤ gb282)); replace HB := AM (below_step (belg_ (IsS134.ge HI257.out)) hb); have NB256_282 := AM ((by rw [hg]; exact Nat.ne_of_lt (blk_lt (g := gb256) (o := .cells #[.int .i64 0, .int .i64 0, .int .i64 0, .int .i64 0, .string (⟨#[]⟩ : ByteArray), .string (⟨#[]⟩ : ByteArray)] 28 (0, 0)) (bk_ BK256.out)) : gb256 ≠ gb282)); have NB282_256 := AM ((by rw [hg]; exact Nat.ne_of_gt (blk_lt (g := gb256) (o := .cells #[.int .i64 0, .int .i64 0, .int .i64 0, .int .i64 0, .string (⟨#[]⟩ : ByteArray), .string (⟨#[]⟩ : ByteArray)] 28 (0, 0)) (bk_ BK256.out)) : gb282 ≠ gb256)); replace BK256 := AM (blk_below (g := gb256) (o := .cells #[.int .i64 0, .int .i64 0, .int .i64 0, .int .i64 0, .string (⟨#[]⟩ : ByteArray), .string (⟨#[]⟩ : ByteArray)] 28 (0, 0)) (bk_ BK256.out) hb); have NB257_282 := AM ((by rw [hg]; exact Nat.ne_of_lt (IsS134.lt (show IsS134 w _ gb257 t279 t280 t281 from is134_)) : gb257 ≠ gb282)); have NB282_257 := AM ((by rw [hg]; exact Nat.ne_of_gt (IsS134.lt (show IsS134 w _ gb257 t279 t280 t281 from is134_)) : gb282 ≠ gb257)); replace HI257 := AM (IsS134.below is134_ hb); clear hb hbox hg; have hnb113 := NB282_256.out; have hnc113 := NB256_282.out; have hnb114 := NB282_257.out; have hnc114 := NB257_282.out; have hcz115_0 : w112.cell? ⟨gb282, 0, none⟩ = some (.int .i64 0) := (blk_cell BK282.out 0).trans rfl; have hcz115_1 : w112.cell? ⟨gb282, 1, none⟩ = some (.int .i64 0) := (blk_cell BK282.out 1).trans rfl; have hcz115_2 : w112.cell? ⟨gb282, 2, none⟩ = some (.int .i64 0) := (blk_cell BK282.out 2).trans rfl; have hcz115_3 : w112.cell? ⟨gb282, 3, none⟩ = some (.int .i64 0) := (blk_cell BK282.out 3).trans rfl; have hcz115_4 : w112.cell? ⟨gb282, 4, none⟩ = some (.string (⟨#[]⟩ : ByteArray)) := (blk_cell BK282.out 4).trans rfl; have hcz115_5 : w112.cell? ⟨gb282, 5, none⟩ = some (.string (⟨#[]⟩ : ByteArray)) := (blk_cell BK282.out 5).trans rfl; have hfz115_0 := blk_frozen BK282.out 0; have hfz115_1 := blk_frozen BK282.out 1; have hfz115_2 := blk_frozen BK282.out 2; have hfz115_3 := blk_frozen BK282.out 3; have hfz115_4 := blk_frozen BK282.out 4; have hfz115_5 := blk_frozen BK282.out 5) | ((with_reducible refine gate_callee (f := 115) rfl ?_); refine gl_ (some 24) Tryd.func115 #[.pointer (some ⟨gb257, 0, none⟩), .int .i64 32] ?_; (with_reducible refine (impl_reader_take.calls gb257 t279 t280 t281 32 t283 t284 t285 t286 w _ ?side1 ?side2 A8.out).mono ?_); (case side1 => exact is134_); (case side2 => exact belg_ (IsS134.ge HI257.out)); rintro e w116 ⟨rfl, hi, hb, hk⟩; refine ⟨_, rfl, ?_⟩; have n0_ := AM (KeepBut.blk hk (g' := gb256) (o := .cells #[.int .i64 0, .int .i64 0, .int .i64 0, .int .i64 0, .string (⟨#[]⟩ : ByteArray), .string (⟨#[]⟩ : ByteArray)] 28 (0, 0)) bka_ NB256_257.out (by simp)); have n1_ := AM (KeepBut.blk hk (g' := gb282) (o := .cells #[.int .i64 t262, .int .i64 t266, .int .i64 t270, .int .i64 t274, .string t278, .string (⟨#[]⟩ : ByteArray)] 28 (0, 0)) bka_ NB282_257.out (by simp)); have n2_ := AM hb; have n3_ := AM hi; clear BK256; clear BK282; clear HB; clear HI257; have BK256 := n0_; have BK282 := n1_; have HB := n2_; have HI257 := n3_; clear n0_ n1_ n2_ n3_; (try clear hb); (try clear hb2); (try clear hk); (try clear hi)))
      replace BK256 := AM (blk_drew BK256.out)
      replace BK282 := AM (blk_drew BK282.out)
      replace HI257 := AM (IsS134.drew HI257.out)
      replace HB := AM (below_drew1 HB.out)
      refine start_ (n := 11) (S := fun w' => w'.cell? ⟨gb257, 0, none⟩ = some (.string t284) ∧ w'.cell? ⟨gb257, 1, none⟩ = some (.int .i64 t285) ∧ w'.cell? ⟨gb257, 2, none⟩ = some (.bool t286)) (ds := [8, 10]) (Array.replicate 11 false) (by kernel_rfl) rfl rfl ⟨(cellS134_0 HI257.out.1), (cellS134_1 HI257.out.1), (cellS134_2 HI257.out.1)⟩ (fun hHeld => ?_); refine with_tabW impl_readFrame.tab5 impl_readFrame.bits5 (fun HT_ HW_ => ?_)
      generalize w116.drew = w117 at BK256 BK282 HI257 HB hHeld ⊢
      refine pu_ HT_ 0 (some 25) (bA 11 1) ?_
      refine pu_ HT_ 1 (some 26) (bA 11 3) ?_
      refine pu_ HT_ 3 (some 28) (bA 11 11) ?_
      refine pu_ HT_ 4 (some 29) (bA 11 27) ?_
      refine pu_ HT_ 5 (some 30) (bA 11 59) ?_
      refine ta_ HT_ HW_ 6 (some 31) (bA 11 123) hHeld ?_
      refine on_ HT_ 2 (some 27) (bA 11 127) (fun K hK => ?_)
      refine go1_ Tryd.func70 #[.string a0] ?_
      with_reducible refine (impl_long.calls a0 t287 _ A9.out).mono ?_
      rintro e w' ⟨rfl, ⟨nd, rfl⟩⟩
      refine ⟨_, rfl, ?_⟩
      refine hK.out _ _ ⟨(cellS134_0 HI257.out.1), (cellS134_1 HI257.out.1), (cellS134_2 HI257.out.1)⟩ (fun hHeld => ?_)
      clear hK K
      refine nm_ ?_
      refine pu_ HT_ 7 (some 32) (bA 11 255) ?_
      refine last_ (i := 8) (N := some 33) (bA 11 511) (by exact rfl) (by exact rfl) (one_of HT_.out (by kernel_rfl)) (by decide) (fun K hK => ?_)
      refine go1_ Tryd.func115 #[.pointer (some ⟨gb257, 0, none⟩), .int .i64 (wrap64 (t287 - t285))] ?_
      with_reducible refine (impl_reader_take.calls gb257 t284 t285 t286 (wrap64 (t287 - t285)) t288 t289 t290 false w _ ?side1 ?side2 A10.out).mono ?_
      (case side1 => exact is134_)
      (case side2 => exact belg_ (IsS134.ge HI257.out))
      rintro e w118 ⟨rfl, hi, hb, hk⟩
      refine ⟨_, rfl, ?_⟩
      replace BK256 := AM (KeepBut.blk hk (g' := gb256) (o := .cells #[.int .i64 0, .int .i64 0, .int .i64 0, .int .i64 0, .string (⟨#[]⟩ : ByteArray), .string (⟨#[]⟩ : ByteArray)] 28 (0, 0)) (bk_ BK256.out) NB256_257.out (by simp))
      replace BK282 := AM (KeepBut.blk hk (g' := gb282) (o := .cells #[.int .i64 t262, .int .i64 t266, .int .i64 t270, .int .i64 t274, .string t278, .string (⟨#[]⟩ : ByteArray)] 28 (0, 0)) (bk_ BK282.out) NB282_257.out (by simp))
      replace HB := AM hb
      replace HI257 := AM hi
      (try clear hb); (try clear hb2); (try clear hk); (try clear hi)
      refine hK.out _ _ ?_
      clear hK K
      refine nm_ ?_
      refine pu_ HT_ 9 (some 34) (bA 11 1023) ?_
      refine last_ (i := 10) (N := none) (bA 11 2047) (by exact rfl) (by exact rfl) (one_of HT_.out (by kernel_rfl)) (by decide) (fun K hK => ?_)
      have hs119 : w118.cell? ⟨gb282, 5, none⟩ = some (.string (⟨#[]⟩ : ByteArray)) := (blk_cell BK282.out 5).trans rfl
      have hfs119 := blk_frozen BK282.out 5
      have hns119_0 := NB256_282.out
      have hms119_0 := NB282_256.out
      refine sk_ ?_
      refine hK.out _ _ ?_
      clear hK K
      refine dn_ HT_ ?_
      obtain ⟨HGz120, hgz120⟩ := HI257.out
      have hcz120_0 := cellS134_0 HGz120
      have hcz120_1 := cellS134_1 HGz120
      have hcz120_2 := cellS134_2 HGz120
      have hfz120_0 := blk_frozen HGz120 0
      have hfz120_1 := blk_frozen HGz120 1
      have hfz120_2 := blk_frozen HGz120 2
      clear HGz120 hgz120
      have hnb121 := NB256_257.out
      have hnc121 := NB257_256.out
      have hcz122_0 : w118.cell? ⟨gb256, 0, none⟩ = some (.int .i64 0) := (blk_cell BK256.out 0).trans rfl
      have hcz122_1 : w118.cell? ⟨gb256, 1, none⟩ = some (.int .i64 0) := (blk_cell BK256.out 1).trans rfl
      have hcz122_2 : w118.cell? ⟨gb256, 2, none⟩ = some (.int .i64 0) := (blk_cell BK256.out 2).trans rfl
      have hcz122_3 : w118.cell? ⟨gb256, 3, none⟩ = some (.int .i64 0) := (blk_cell BK256.out 3).trans rfl
      have hcz122_4 : w118.cell? ⟨gb256, 4, none⟩ = some (.string (⟨#[]⟩ : ByteArray)) := (blk_cell BK256.out 4).trans rfl
      have hcz122_5 : w118.cell? ⟨gb256, 5, none⟩ = some (.string (⟨#[]⟩ : ByteArray)) := (blk_cell BK256.out 5).trans rfl
      have hfz122_0 := blk_frozen BK256.out 0
      have hfz122_1 := blk_frozen BK256.out 1
      have hfz122_2 := blk_frozen BK256.out 2
      have hfz122_3 := blk_frozen BK256.out 3
      have hfz122_4 := blk_frozen BK256.out 4
      have hfz122_5 := blk_frozen BK256.out 5
      try go_wp2
      refine bodyPost_ret (results_ct rfl _ _ gb256 28 #[.int .i64 0, .int .i64 0, .int .i64 0, .int .i64 0, .string (⟨#[]⟩ : ByteArray), .string (⟨#[]⟩ : ByteArray)] (0, 0) _ rfl bka_ Tryd.underlying28 rfl (by kernel_rfl)) rfl ?_
      exact ⟨ri_, belg_ (IsS134.ge HI257.out)⟩

end Go.Proofs.YtddapeieolfolaaDoor.PFnFrame
