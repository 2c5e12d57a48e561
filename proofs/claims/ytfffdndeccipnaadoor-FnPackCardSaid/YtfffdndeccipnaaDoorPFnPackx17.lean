/- Functions of the law FnPack: the print's, with walks of this session's own. No statement is proved here. -/
import Derived.WalkLawsBesides
import Derived.Test.YtfffdndeccipnaaDoorPFnPackx15
namespace Go.Proofs.YtfffdndeccipnaaDoor.PFnPack
open Go.RowKit Go.Proofs.YtfffdndeccipnaaDoorW.PrintWords Go.Proofs.YtfffdndeccipnaaDoorW.PrintLast Go.Proofs.YtfffdndeccipnaaDoorW.PrintMore Go.Proofs.YtfffdndeccipnaaDoor.Reg Go.Proofs.YtfffdndeccipnaaDoor.Aut
attribute [local go_sem] max2_int min2_int max_two min_two y9_ y8_ max_four min_four
set_option linter.unusedVariables false
set_option linter.unusedSimpArgs false
set_option maxHeartbeats 8000000
set_option maxRecDepth 100000
attribute [local go_sem high] eqA60
/-! ### zt_: function 52 -/
def zt_.l0 : Nat → Int → List Int → Int → List Int → Int → Int → Int → Option (ByteArray × Int × Int × Int)
 | 0, _, _, _, _, _, _, _ => none
 | k + 1, x1, x5, x6, x1000, x1001, x1002, x1003 => if x6 < x1 then ((zs_.f x1000 x1001 x1002 x1003 256).bind fun bt326 => (if x5.length < 140737488355328 then (zt_.l0 k x1 (x5 ++ [(bt326.1) % 256]) (wrap64 (x6 + 1)) x1000 bt326.2.1 bt326.2.2.1 bt326.2.2.2) else (none))) else (some (strOfNums x5, x1001, x1002, x1003))
def zt_.f (k : Nat) (s0_0 : List Int) (s0_1 : Int) (s0_2 : Int) (s0_3 : Int) (a1 : Int) : Option (ByteArray × Int × Int × Int) := zt_.l0 k a1 (([] : List Int)) 0 s0_0 s0_1 s0_2 s0_3
theorem zt_.mono_l : ∀ k, (∀ y0 y1 y2 y3 y4 y5 y6, LeO (zt_.l0 k y0 y1 y2 y3 y4 y5 y6) (zt_.l0 (k + 1) y0 y1 y2 y3 y4 y5 y6))
 | 0 => fun _ _ _ _ _ _ _ r h => by simp [zt_.l0] at h
 | k + 1 => by
  have ih0 := zt_.mono_l k
  ·
   intro y0 y1 y2 y3 y4 y5 y6
   unfold zt_.l0
   repeat' with_reducible first | exact ih0 _ _ _ _ _ _ _ | exact LeO.refl _ | exact LeO.none _ | refine LeO.ite ?_ ?_ | refine LeO.bind ?_ (fun _ => ?_)
theorem zt_.mono : ∀ a0 a1 a2 a3 a4 k, LeO (zt_.f k a0 a1 a2 a3 a4) (zt_.f (k + 1) a0 a1 a2 a3 a4) := by
 intro a0 a1 a2 a3 a4 k
 have ih0 := zt_.mono_l k
 unfold zt_.f
 repeat' with_reducible first | exact ih0 _ _ _ _ _ _ _ | exact LeO.refl _ | exact LeO.none _ | refine LeO.ite ?_ ?_ | refine LeO.bind ?_ (fun _ => ?_)
theorem zt_.calls (k : Nat) (g : Nat) (s0_0 : List Int) (s0_1 : Int) (s0_2 : Int) (s0_3 : Int) (a1 : Int) (r1 : ByteArray) (r2 : Int) (r3 : Int) (r4 : Int) (w0 w : World) (hI : zi_ w0 w g s0_0 s0_1 s0_2 s0_3) (hB : Below w0.heap.size w0 w) (h : zt_.f k s0_0 s0_1 s0_2 s0_3 a1 = some (r1, r2, r3, r4)) :
 Calls Tryd.prog 52 #[.pointer (some ⟨g, 0, none⟩), .int .i64 a1] w fun e w' => e = .returned (.string r1) ∧ zi_ w0 w' g s0_0 r2 r3 r4 ∧ Below w0.heap.size w0 w' ∧ zw_ w w' g none := by
 have HI0 := AM hI
 have HK := AM (zw_.refl w g none)
 have HL := AM hB.size
 clear hI
 have HW0 := AM hB.size
 have HB := AM hB
 clear hB
 have H : (zt_.l0 k a1 (([] : List Int)) 0 s0_0 s0_1 s0_2 s0_3) = some (r1, r2, r3, r4) := h
 clear h
 obtain ⟨y323, hy323⟩ : ∃ y_ : List Int, y_ = (([] : List Int)) := ⟨_, rfl⟩
 replace H : (zt_.l0 k a1 y323 0 s0_0 s0_1 s0_2 s0_3) = some (r1, r2, r3, r4) := hy_ hy323 H
 have Ny323 := AM hy323
 clear hy323
 have H' := AM H
 clear H
 go_enter Tryd.func52, Tryd.ntmps52
 go_wp2_with (first | ((with_reducible refine zy_ (N := 7) rfl ?_); refine Kd.R_lit (Kd.int .u8) _ 5 ?hgL1 (N := 7) ?hdL1 (xs := ([] : List Int)) (inner := []) (ok := fun _ => True) (okp := fun _ => True) ?hrL1 ?hpL1 (fun _ hk => hk) trivial (Below.refl _ _) (Nat.le_refl _) (by simp) ?_; (case hdL1 => rfl); (case hgL1 => rfl); (case hrL1 => first | (go_simp; done) | (go_simp; rfl)); (case hpL1 => exact (Reps.none _ _)); intro v324 w3 ho4 hb hg_ hnew_; clear hg_ hnew_; (first | rw [← Ny323.out] at ho4 | (simp only [Int.reduceToNat] at ho4; rw [← Ny323.out] at ho4)); have HO325 := AM (Kd.ya_ ho4 (z3_ (w := w) (g := g) (row := none) kp_)); replace HK := AM (kb_ w g hb); replace HB := AM (zc_ (belg_ (zi_.ge HI0.out)) hb); replace HI0 := AM (zi_.below zJ_ hb); clear hb ho4))
 go_loopg [5, 6] k (fun kq v5 v6 w' => ∃ (x5_1 : List Int) (x6_1 : Int) (x1001_1 : Int) (x1002_1 : Int) (x1003_1 : Int), v6 = .int .i64 x6_1 ∧ zd_ (zt_.l0 kq a1 x5_1 x6_1 s0_0 x1001_1 x1002_1 x1003_1 = some (r1, r2, r3, r4)) ∧ zd_ (kq ≤ k) ∧ zd_ (Kd.R (Kd.int .u8) 5 w' w.heap.size (fun _ => True) v5 x5_1) ∧ zd_ (zi_ w0 w' g s0_0 x1001_1 x1002_1 x1003_1) ∧ zd_ (zw_ w w' g none) ∧ zd_ (Below w0.heap.size w0 w'))
 case atStart => exact ⟨(y323), (0), (s0_1), (s0_2), (s0_3), re_, H', ⟨Nat.le_refl _⟩, ⟨ro_ HO325.out⟩, ⟨zJ_⟩, ⟨kp_⟩, ⟨belg_ (zi_.ge HI0.out)⟩⟩
 case round =>
  clear H'
  obtain ⟨x5_1, x6_1, x1001_1, x1002_1, x1003_1, rfl, HA, HK1, HO_5, HI0, HK, HB⟩ := hrel
  cases gk with
  | zero => exact absurd HA.out (by simp [zt_.l0])
  | succ k1 =>
   have H := HA.out
   clear HA
   simp only [zt_.l0] at H
   by_cases c5 : x6_1 < a1
   ·
    rw [if_pos c5] at H
    have c5b0 : decide (x6_1 < a1) = true := decide_eq_true c5
    clear c5
    obtain ⟨⟨t326, t327, t328, t329⟩, A6, H⟩ := OB H
    try dsimp only at H
    replace A6 := AM A6
    by_cases c7 : x5_1.length < 140737488355328
    ·
     rw [if_pos c7] at H
     have LMc7 := AM c7
     clear c7
     obtain ⟨y330, hy330⟩ : ∃ y_ : List Int, y_ = (x5_1 ++ [(t326) % 256]) := ⟨_, rfl⟩
     replace H : (zt_.l0 k1 a1 y330 (wrap64 (x6_1 + 1)) s0_0 t327 t328 t329) = some (r1, r2, r3, r4) := hy_ hy330 H
     have Ny330 := AM hy330
     clear hy330
     have H' := AM H
     clear H
     go_wp2_with (first | ((with_reducible refine zg_ (f := 53) rfl ?_); refine gl_ (some 15) Tryd.func53 #[.pointer (some ⟨g, 0, none⟩), .int .i64 256] ?_; (with_reducible refine (zs_.calls g s0_0 x1001_1 x1002_1 x1003_1 256 t326 t327 t328 t329 w0 _ ?side1 ?side2 A6.out).mono ?_); (case side1 => exact zJ_); (case side2 => exact belg_ (zi_.ge HI0.out)); rintro e w8 ⟨rfl, hi, hb, hk⟩; refine ⟨_, rfl, ?_⟩; replace HO_5 := AM (Kd.z9_ (Kd.xg_ (zi_.apart (show zi_ w0 _ g s0_0 x1001_1 x1002_1 x1003_1 from zJ_) (ro_ HO_5.out) (by decide)) hk (fun _ h => h.2)) (fun _ h => h.1)); replace HK := AM (kk_ w hk); replace HB := AM hb; replace HI0 := AM hi; (try clear hb); (try clear hk); (try clear hi)) | ((with_reducible refine ye_ (b := .append) (xs := #[.tmp 13, .tmp 17]) rfl ?_); at_builtin; refine Kd.y7_ (Kd.int .u8) w.heap.size rfl (.tmp 13) (.tmp 17) 29 5 (.int .u8 0) 1 rfl Tryd.underlying29 info5 rfl (by decide) (by omega) u5 x5_1 ((t326) % 256) [.int .u8 ((t326) % 256)] (fun _ => True) (fun _ => False) rfl rfl ?aP (fun _ hk => hk.elim) ?aF ?aO (Below.refl _ _) ?aS ?aL ?_; (case aP => exact rfl); (case aF => exact (fun _ _ => trivial)); (case aO => exact (ro_ HO_5.out)); (case aS => exact (z3_ (w := w) (g := g) (row := none) kp_)); (case aL => have := LMc7.out; omega); intro v331 w9 ho hb hg hat; rw [← Ny330.out] at ho; have n0_ := AM (zi_.grown zJ_ hg (zi_.own_ne HI0.out HO_5.out (by decide))); have n1_ := AM (below_weaken (belg_ (zi_.ge HI0.out)) HL.out hb); have n2_ := AM (zw_.trans (kp_ (w := w)) (zw_.of_grown hg g) (Kd.R_base2 HO_5.out)); have n3_ := AM ho; clear HI0; clear HB; clear HK; clear HO_5; have HI0 := n0_; have HB := n1_; have HK := n2_; have HO332 := n3_; clear n0_ n1_ n2_ n3_; clear ho hb hg hat))
     go_roundg k1
     case measure => have := HK1.out; omega
     case rel => exact ⟨(y330), (wrap64 (x6_1 + 1)), (t327), (t328), (t329), re_, H', ⟨by have := HK1.out; omega⟩, ⟨ro_ HO332.out⟩, ⟨zJ_⟩, ⟨kp_⟩, ⟨belg_ (zi_.ge HI0.out)⟩⟩
    ·
     rw [if_neg c7] at H
     exact absurd H (by simp)
   ·
    rw [if_neg c5] at H
    have c5b0 : decide (x6_1 < a1) = false := decide_eq_false c5
    clear c5
    simp only [Option.some.injEq, Prod.mk.injEq] at H
    obtain ⟨rfl, rfl, rfl, rfl⟩ := H
    have hcv10 := yF_ (P := Tryd.prog) Tryd.underlying29 Tryd.underlying5 Tryd.underlying9 (Kd.yL_ HO_5.out)
    go_wp2
    go_ret
    exact ⟨ri_, zJ_, belg_ (zi_.ge HI0.out), kp_⟩
/-! ### zG_: function 91 -/
def zG_.f (s0_0 : List Int) (s0_1 : Int) (s0_2 : Int) (s0_3 : Int) (a1 : Int) : Option (Bool × Int × Int × Int) := (zs_.f s0_0 s0_1 s0_2 s0_3 a1).bind fun bt333 => (some ((bt333.1 == 0), bt333.2.1, bt333.2.2.1, bt333.2.2.2))
theorem zG_.calls (g : Nat) (s0_0 : List Int) (s0_1 : Int) (s0_2 : Int) (s0_3 : Int) (a1 : Int) (r1 : Bool) (r2 : Int) (r3 : Int) (r4 : Int) (w0 w : World) (hI : zi_ w0 w g s0_0 s0_1 s0_2 s0_3) (hB : Below w0.heap.size w0 w) (h : zG_.f s0_0 s0_1 s0_2 s0_3 a1 = some (r1, r2, r3, r4)) :
 Calls Tryd.prog 91 #[.pointer (some ⟨g, 0, none⟩), .int .i64 a1] w fun e w' => e = .returned (.bool r1) ∧ zi_ w0 w' g s0_0 r2 r3 r4 ∧ Below w0.heap.size w0 w' ∧ zw_ w w' g none := by
 have HI0 := AM hI
 have HK := AM (zw_.refl w g none)
 have HL := AM hB.size
 clear hI
 have HW0 := AM hB.size
 have HB := AM hB
 clear hB
 have H : ((zs_.f s0_0 s0_1 s0_2 s0_3 a1).bind fun bt333 => (some ((bt333.1 == 0), bt333.2.1, bt333.2.2.1, bt333.2.2.2))) = some (r1, r2, r3, r4) := h
 clear h
 obtain ⟨⟨t333, t334, t335, t336⟩, A3, H⟩ := OB H
 try dsimp only at H
 replace A3 := AM A3
 simp only [Option.some.injEq, Prod.mk.injEq] at H
 obtain ⟨rfl, rfl, rfl, rfl⟩ := H
 go_enter Tryd.func91, Tryd.ntmps91
 go_wp2_with (first | ((with_reducible refine zg_ (f := 53) rfl ?_); refine gl_ (some 7) Tryd.func53 #[.pointer (some ⟨g, 0, none⟩), .int .i64 a1] ?_; (with_reducible refine (zs_.calls g s0_0 s0_1 s0_2 s0_3 a1 t333 t334 t335 t336 w0 _ ?side1 ?side2 A3.out).mono ?_); (case side1 => exact zJ_); (case side2 => exact belg_ (zi_.ge HI0.out)); rintro e w4 ⟨rfl, hi, hb, hk⟩; refine ⟨_, rfl, ?_⟩; replace HK := AM (kk_ w hk); replace HB := AM hb; replace HI0 := AM hi; (try clear hb); (try clear hk); (try clear hi)))
 go_ret
 exact ⟨ri_, zJ_, belg_ (zi_.ge HI0.out), kp_⟩
/-! ### zo_: function 90 -/
def zo_.j0 : Nat → List Int → Int → Int → Int → Int → ByteArray → Option (Int × ByteArray × Int × Int × Int)
 | 0, _, _, _, _, _, _ => none
 | k + 1, x1000, x1001, x1002, x1003, x351000, x351001 => (zG_.f x1000 x1001 x1002 x1003 60).bind fun bt359 => (if bt359.1 = true then ((zs_.f x1000 bt359.2.1 bt359.2.2.1 bt359.2.2.2 3).bind fun bt363 => (if 0 ≤ (wrap64 (1999 + bt363.1)) then (if (wrap64 (1999 + bt363.1) : Int).toNat ≤ 281474976710656 then (some (x351000, strOfNums (List.replicate (wrap64 (1999 + bt363.1) : Int).toNat 0), bt363.2.1, bt363.2.2.1, bt363.2.2.2)) else (none)) else (none))) else (some (x351000, x351001, bt359.2.1, bt359.2.2.1, bt359.2.2.2)))
def zo_.f (k : Nat) (s0_0 : List Int) (s0_1 : Int) (s0_2 : Int) (s0_3 : Int) : Option (Int × ByteArray × Int × Int × Int) := (zs_.f s0_0 s0_1 s0_2 s0_3 2).bind fun bt338 => ((zs_.f s0_0 bt338.2.1 bt338.2.2.1 bt338.2.2.2 30).bind fun bt342 => ((zt_.f k s0_0 bt342.2.1 bt342.2.2.1 bt342.2.2.2 bt342.1).bind fun bt346 => ((zG_.f s0_0 bt346.2.1 bt346.2.2.1 bt346.2.2.2 25).bind fun bt351 => (if bt351.1 = true then ((zs_.f s0_0 bt351.2.1 bt351.2.2.1 bt351.2.2.2 5).bind fun bt355 => (zo_.j0 k s0_0 bt355.2.1 bt355.2.2.1 bt355.2.2.2 (wrap64 (bt355.1 - 1)) bt346.1)) else (zo_.j0 k s0_0 bt351.2.1 bt351.2.2.1 bt351.2.2.2 (wrap64 (1 + bt338.1)) bt346.1)))))
theorem zo_.mono_l : ∀ k, (∀ y0 y1 y2 y3 y4 y5, LeO (zo_.j0 k y0 y1 y2 y3 y4 y5) (zo_.j0 (k + 1) y0 y1 y2 y3 y4 y5))
 | 0 => fun _ _ _ _ _ _ r h => by simp [zo_.j0] at h
 | k + 1 => by
  have ih0 := zo_.mono_l k
  ·
   intro y0 y1 y2 y3 y4 y5
   unfold zo_.j0
   repeat' with_reducible first | exact ih0 _ _ _ _ _ _ | exact zt_.mono _ _ _ _ _ _ | exact LeO.refl _ | exact LeO.none _ | refine LeO.ite ?_ ?_ | refine LeO.bind ?_ (fun _ => ?_)
theorem zo_.mono : ∀ a0 a1 a2 a3 k, LeO (zo_.f k a0 a1 a2 a3) (zo_.f (k + 1) a0 a1 a2 a3) := by
 intro a0 a1 a2 a3 k
 have ih0 := zo_.mono_l k
 unfold zo_.f
 repeat' with_reducible first | exact ih0 _ _ _ _ _ _ | exact zt_.mono _ _ _ _ _ _ | exact LeO.refl _ | exact LeO.none _ | refine LeO.ite ?_ ?_ | refine LeO.bind ?_ (fun _ => ?_)
theorem zo_.calls (k : Nat) (g : Nat) (s0_0 : List Int) (s0_1 : Int) (s0_2 : Int) (s0_3 : Int) (r1 : Int) (r2 : ByteArray) (r3 : Int) (r4 : Int) (r5 : Int) (w0 w : World) (hI : zi_ w0 w g s0_0 s0_1 s0_2 s0_3) (hB : Below w0.heap.size w0 w) (h : zo_.f k s0_0 s0_1 s0_2 s0_3 = some (r1, r2, r3, r4, r5)) :
 Calls Tryd.prog 90 #[.pointer (some ⟨g, 0, none⟩)] w fun e w' => e = .returned (.agg #[.int .i64 r1, .string r2]) ∧ zi_ w0 w' g s0_0 r3 r4 r5 ∧ Below w0.heap.size w0 w' ∧ zw_ w w' g none := by
 have hu60 := Tryd.underlying60
 have HI0 := AM hI
 have HK := AM (zw_.refl w g none)
 have HL := AM hB.size
 clear hI
 have HW0 := AM hB.size
 have HB := AM hB
 clear hB
 have H : ((zs_.f s0_0 s0_1 s0_2 s0_3 2).bind fun bt338 => ((zs_.f s0_0 bt338.2.1 bt338.2.2.1 bt338.2.2.2 30).bind fun bt342 => ((zt_.f k s0_0 bt342.2.1 bt342.2.2.1 bt342.2.2.2 bt342.1).bind fun bt346 => ((zG_.f s0_0 bt346.2.1 bt346.2.2.1 bt346.2.2.2 25).bind fun bt351 => (if bt351.1 = true then ((zs_.f s0_0 bt351.2.1 bt351.2.2.1 bt351.2.2.2 5).bind fun bt355 => (zo_.j0 k s0_0 bt355.2.1 bt355.2.2.1 bt355.2.2.2 (wrap64 (bt355.1 - 1)) bt346.1)) else (zo_.j0 k s0_0 bt351.2.1 bt351.2.2.1 bt351.2.2.2 (wrap64 (1 + bt338.1)) bt346.1)))))) = some (r1, r2, r3, r4, r5) := h
 clear h
 obtain ⟨⟨t338, t339, t340, t341⟩, A2, H⟩ := OB H
 try dsimp only at H
 replace A2 := AM A2
 obtain ⟨⟨t342, t343, t344, t345⟩, A3, H⟩ := OB H
 try dsimp only at H
 replace A3 := AM A3
 obtain ⟨⟨t346, t347, t348, t349⟩, A4, H⟩ := OB H
 try dsimp only at H
 replace A4 := AM A4
 obtain ⟨⟨t351, t352, t353, t354⟩, A5, H⟩ := OB H
 try dsimp only at H
 replace A5 := AM A5
 have HC6 := AM H
 clear H
 go_enter Tryd.func90, Tryd.ntmps90
 go_upto_if 13 with (first | ((with_reducible refine zy_ (N := 2) rfl ?_); refine be_ 2 #[.int .i64 0, .string (⟨#[]⟩ : ByteArray)] 60 ?_; intro gb337 hg w7 hbox hb; replace HB := AM (zc_ (belg_ (zi_.ge HI0.out)) hb); have BK337 := AM hbox; have GW337 := AM ((by rw [hg]; exact (z3_ (w := w) (g := g) (row := none) kp_) : w.heap.size ≤ gb337)); have GE337 := AM ((Nat.le_trans HW0.out (by rw [hg]; exact (z3_ (w := w) (g := g) (row := none) kp_) : w.heap.size ≤ gb337) : w0.heap.size ≤ gb337)); replace HK := AM (kb_ w g hb); have NB0_337 := AM ((by rw [hg]; exact Nat.ne_of_lt (zi_.lt (show zi_ w0 _ g s0_0 s0_1 s0_2 s0_3 from zJ_)) : g ≠ gb337)); have NB337_0 := AM ((by rw [hg]; exact Nat.ne_of_gt (zi_.lt (show zi_ w0 _ g s0_0 s0_1 s0_2 s0_3 from zJ_)) : gb337 ≠ g)); replace HI0 := AM (zi_.below zJ_ hb); clear hb hbox hg) | ((with_reducible refine zg_ (f := 53) rfl ?_); refine gl_ (some 5) Tryd.func53 #[.pointer (some ⟨g, 0, none⟩), .int .i64 2] ?_; (with_reducible refine (zs_.calls g s0_0 s0_1 s0_2 s0_3 2 t338 t339 t340 t341 w0 _ ?side1 ?side2 A2.out).mono ?_); (case side1 => exact zJ_); (case side2 => exact belg_ (zi_.ge HI0.out)); rintro e w8 ⟨rfl, hi, hb, hk⟩; refine ⟨_, rfl, ?_⟩; replace BK337 := AM (zw_.blk hk (g' := gb337) (o := .cells #[.int .i64 0, .string (⟨#[]⟩ : ByteArray)] 60 (0, 0)) (bk_ BK337.out) NB337_0.out (by simp)); replace HK := AM (kk_ w hk); replace HB := AM hb; replace HI0 := AM hi; (try clear hb); (try clear hk); (try clear hi)) | ((with_reducible refine zg_ (f := 53) rfl ?_); refine gl_ (some 9) Tryd.func53 #[.pointer (some ⟨g, 0, none⟩), .int .i64 30] ?_; (with_reducible refine (zs_.calls g s0_0 t339 t340 t341 30 t342 t343 t344 t345 w0 _ ?side1 ?side2 A3.out).mono ?_); (case side1 => exact zJ_); (case side2 => exact belg_ (zi_.ge HI0.out)); rintro e w9 ⟨rfl, hi, hb, hk⟩; refine ⟨_, rfl, ?_⟩; replace BK337 := AM (zw_.blk hk (g' := gb337) (o := .cells #[.int .i64 0, .string (⟨#[]⟩ : ByteArray)] 60 (0, 0)) (bk_ BK337.out) NB337_0.out (by simp)); replace HK := AM (kk_ w hk); replace HB := AM hb; replace HI0 := AM hi; (try clear hb); (try clear hk); (try clear hi)) | ((with_reducible refine zg_ (f := 52) rfl ?_); refine gl_ (some 10) Tryd.func52 #[.pointer (some ⟨g, 0, none⟩), .int .i64 t342] ?_; (with_reducible refine (zt_.calls k g s0_0 t343 t344 t345 t342 t346 t347 t348 t349 w0 _ ?side1 ?side2 A4.out).mono ?_); (case side1 => exact zJ_); (case side2 => exact belg_ (zi_.ge HI0.out)); rintro e w10 ⟨rfl, hi, hb, hk⟩; refine ⟨_, rfl, ?_⟩; replace BK337 := AM (zw_.blk hk (g' := gb337) (o := .cells #[.int .i64 0, .string (⟨#[]⟩ : ByteArray)] 60 (0, 0)) (bk_ BK337.out) NB337_0.out (by simp)); replace HK := AM (kk_ w hk); replace HB := AM hb; replace HI0 := AM hi; (try clear hb); (try clear hk); (try clear hi)) | ((with_reducible refine zy_ (N := 3) rfl ?_); refine be_ 3 #[.int .i64 0, .string (⟨#[]⟩ : ByteArray)] 60 ?_; intro gb350 hg w11 hbox hb; replace HB := AM (zc_ (belg_ (zi_.ge HI0.out)) hb); have BK350 := AM hbox; have GW350 := AM ((by rw [hg]; exact (z3_ (w := w) (g := g) (row := none) kp_) : w.heap.size ≤ gb350)); have GE350 := AM ((Nat.le_trans HW0.out (by rw [hg]; exact (z3_ (w := w) (g := g) (row := none) kp_) : w.heap.size ≤ gb350) : w0.heap.size ≤ gb350)); replace HK := AM (kb_ w g hb); have NB337_350 := AM ((by rw [hg]; exact Nat.ne_of_lt (zA_ (g := gb337) (o := .cells #[.int .i64 0, .string (⟨#[]⟩ : ByteArray)] 60 (0, 0)) (bk_ BK337.out)) : gb337 ≠ gb350)); have NB350_337 := AM ((by rw [hg]; exact Nat.ne_of_gt (zA_ (g := gb337) (o := .cells #[.int .i64 0, .string (⟨#[]⟩ : ByteArray)] 60 (0, 0)) (bk_ BK337.out)) : gb350 ≠ gb337)); replace BK337 := AM (zh_ (g := gb337) (o := .cells #[.int .i64 0, .string (⟨#[]⟩ : ByteArray)] 60 (0, 0)) (bk_ BK337.out) hb); have NB0_350 := AM ((by rw [hg]; exact Nat.ne_of_lt (zi_.lt (show zi_ w0 _ g s0_0 t347 t348 t349 from zJ_)) : g ≠ gb350)); have NB350_0 := AM ((by rw [hg]; exact Nat.ne_of_gt (zi_.lt (show zi_ w0 _ g s0_0 t347 t348 t349 from zJ_)) : gb350 ≠ g)); replace HI0 := AM (zi_.below zJ_ hb); clear hb hbox hg; have hnb12 := NB350_337.out; have hnc12 := NB337_350.out; have hnb13 := NB350_0.out; have hnc13 := NB0_350.out; have hcz14_0 : w11.cell? ⟨gb350, 0, none⟩ = some (.int .i64 0) := (zb_ BK350.out 0).trans rfl; have hcz14_1 : w11.cell? ⟨gb350, 1, none⟩ = some (.string (⟨#[]⟩ : ByteArray)) := (zb_ BK350.out 1).trans rfl; have hfz14_0 := za_ BK350.out 0; have hfz14_1 := za_ BK350.out 1) | ((with_reducible refine zg_ (f := 91) rfl ?_); refine gl_ (some 13) Tryd.func91 #[.pointer (some ⟨g, 0, none⟩), .int .i64 25] ?_; (with_reducible refine (zG_.calls g s0_0 t347 t348 t349 25 t351 t352 t353 t354 w0 _ ?side1 ?side2 A5.out).mono ?_); (case side1 => exact zJ_); (case side2 => exact belg_ (zi_.ge HI0.out)); rintro e w15 ⟨rfl, hi, hb, hk⟩; refine ⟨_, rfl, ?_⟩; have n0_ := AM (zw_.blk hk (g' := gb337) (o := .cells #[.int .i64 0, .string (⟨#[]⟩ : ByteArray)] 60 (0, 0)) bka_ NB337_0.out (by simp)); have n1_ := AM (zw_.blk hk (g' := gb350) (o := .cells #[.int .i64 (wrap64 (1 + t338)), .string t346] 60 (0, 0)) bka_ NB350_0.out (by simp)); have n2_ := AM (kk_ w hk); have n3_ := AM hb; have n4_ := AM hi; clear BK337; clear BK350; clear HK; clear HB; clear HI0; have BK337 := n0_; have BK350 := n1_; have HK := n2_; have HB := n3_; have HI0 := n4_; clear n0_ n1_ n2_ n3_ n4_; (try clear hb); (try clear hk); (try clear hi)))
 (try simp only [Act.put, List.setIfInBounds_toArray, List.set_cons_zero, List.set_cons_succ])
 go_cut [] (fun wc => ∃ (kq : Nat) (x1001_5 : Int) (x1002_5 : Int) (x1003_5 : Int) (x351000_5 : Int), zd_ (zo_.j0 kq s0_0 x1001_5 x1002_5 x1003_5 x351000_5 t346 = some (r1, r2, r3, r4, r5)) ∧ zd_ (kq ≤ k) ∧ zd_ (wc.heap[gb337]? = some (.cells #[.int .i64 0, .string (⟨#[]⟩ : ByteArray)] 60 (0, 0))) ∧ zd_ (wc.heap[gb350]? = some (.cells #[.int .i64 x351000_5, .string t346] 60 (0, 0))) ∧ zd_ (zi_ w0 wc g s0_0 x1001_5 x1002_5 x1003_5) ∧ zd_ (zw_ w wc g none) ∧ zd_ (Below w0.heap.size w0 wc))
 case first =>
  have H := HC6.out
  clear HC6
  by_cases c16 : t351 = true
  ·
   subst c16
   rw [if_pos rfl] at H
   obtain ⟨⟨t355, t356, t357, t358⟩, A17, H⟩ := OB H
   try dsimp only at H
   replace A17 := AM A17
   have H' := AM H
   clear H
   go_wp2_with (first | ((with_reducible refine zg_ (f := 53) rfl ?_); refine gl_ (some 15) Tryd.func53 #[.pointer (some ⟨g, 0, none⟩), .int .i64 5] ?_; (with_reducible refine (zs_.calls g s0_0 t352 t353 t354 5 t355 t356 t357 t358 w0 _ ?side1 ?side2 A17.out).mono ?_); (case side1 => exact zJ_); (case side2 => exact belg_ (zi_.ge HI0.out)); rintro e w18 ⟨rfl, hi, hb, hk⟩; refine ⟨_, rfl, ?_⟩; replace BK337 := AM (zw_.blk hk (g' := gb337) (o := .cells #[.int .i64 0, .string (⟨#[]⟩ : ByteArray)] 60 (0, 0)) (bk_ BK337.out) NB337_0.out (by simp)); replace BK350 := AM (zw_.blk hk (g' := gb350) (o := .cells #[.int .i64 (wrap64 (1 + t338)), .string t346] 60 (0, 0)) (bk_ BK350.out) NB350_0.out (by simp)); replace HK := AM (kk_ w hk); replace HB := AM hb; replace HI0 := AM hi; (try clear hb); (try clear hk); (try clear hi); have hnb19 := NB350_337.out; have hnc19 := NB337_350.out; have hnb20 := NB350_0.out; have hnc20 := NB0_350.out; have hcz21_0 : w18.cell? ⟨gb350, 0, none⟩ = some (.int .i64 (wrap64 (1 + t338))) := (zb_ BK350.out 0).trans rfl; have hcz21_1 : w18.cell? ⟨gb350, 1, none⟩ = some (.string t346) := (zb_ BK350.out 1).trans rfl; have hfz21_0 := za_ BK350.out 0; have hfz21_1 := za_ BK350.out 1))
   go_meet
   case rel => exact ⟨_, (t356), (t357), (t358), (wrap64 (t355 - 1)), H', ⟨by first | omega | exact Nat.le_refl _⟩, ⟨bka_⟩, ⟨bka_⟩, ⟨zJ_⟩, ⟨kp_⟩, ⟨belg_ (zi_.ge HI0.out)⟩⟩
  ·
   replace c16 := Bool.eq_false_iff.mpr c16
   subst c16
   rw [if_neg (show ¬ (false = true) by decide)] at H
   have H' := AM H
   clear H
   go_wp2
   go_meet
   case rel => exact ⟨_, (t352), (t353), (t354), (wrap64 (1 + t338)), H', ⟨by first | omega | exact Nat.le_refl _⟩, ⟨bk_ BK337.out⟩, ⟨bk_ BK350.out⟩, ⟨zJ_⟩, ⟨kp_⟩, ⟨belg_ (zi_.ge HI0.out)⟩⟩
 case rest =>
  clear HC6
  (try clear c16); (try clear hcz14_0); (try clear hcz14_1); (try clear hcz21_0); (try clear hcz21_1); (try clear hfz14_0); (try clear hfz14_1); (try clear hfz21_0); (try clear hfz21_1)
  obtain ⟨kq, x1001_5, x1002_5, x1003_5, x351000_5, HA, HJ5, BK337, BK350, HI0, HK, HB⟩ := hcut
  cases kq with
  | zero => exact absurd HA.out (by simp [zo_.j0])
  | succ kj5 =>
   have H := HA.out
   clear HA
   simp only [zo_.j0] at H
   obtain ⟨⟨t359, t360, t361, t362⟩, A22, H⟩ := OB H
   try dsimp only at H
   replace A22 := AM A22
   by_cases c23 : t359 = true
   ·
    subst c23
    rw [if_pos rfl] at H
    obtain ⟨⟨t363, t364, t365, t366⟩, A24, H⟩ := OB H
    try dsimp only at H
    replace A24 := AM A24
    obtain ⟨ji25, hji25⟩ : ∃ j_ : Int, (wrap64 (1999 + t363)) = j_ := ⟨_, rfl⟩
    replace H : (if 0 ≤ (ji25) then (if (ji25 : Int).toNat ≤ 281474976710656 then (some (x351000_5, strOfNums (List.replicate (ji25 : Int).toNat 0), t364, t365, t366)) else (none)) else (none)) = some (r1, r2, r3, r4, r5) := by first | (rw [hji25] at H; exact H) | (simp only [hji25] at H ⊢; exact H)
    (try rw [hji25] at A22)
    (try rw [hji25] at A24)
    have hji25w : (IntKind.i64.wrap (1999 + t363)) = ji25 := (i64_w _).trans hji25
    by_cases c26 : 0 ≤ (ji25)
    ·
     rw [if_pos c26] at H
     have c26b0 := eq_true c26
     have c26b1 : decide (0 ≤ (ji25)) = true := decide_eq_true c26
     clear c26
     by_cases c27 : (ji25 : Int).toNat ≤ 281474976710656
     ·
      rw [if_pos c27] at H
      have c27b0 := eq_true c27
      have c27b1 : decide ((ji25 : Int).toNat ≤ 281474976710656) = true := decide_eq_true c27
      clear c27
      obtain ⟨y367, hy367⟩ : ∃ y_ : List Int, y_ = (List.replicate (ji25 : Int).toNat 0) := ⟨_, rfl⟩
      replace H : (some (x351000_5, strOfNums y367, t364, t365, t366)) = some (r1, r2, r3, r4, r5) := hy_ hy367 H
      have Ny367 := AM hy367
      clear hy367
      simp only [Option.some.injEq, Prod.mk.injEq] at H
      obtain ⟨rfl, rfl, rfl, rfl, rfl⟩ := H
      go_wp2_with (first | ((with_reducible refine zg_ (f := 91) rfl ?_); refine gl_ (some 19) Tryd.func91 #[.pointer (some ⟨g, 0, none⟩), .int .i64 60] ?_; (with_reducible refine (zG_.calls g s0_0 x1001_5 x1002_5 x1003_5 60 true t360 t361 t362 w0 _ ?side1 ?side2 A22.out).mono ?_); (case side1 => exact zJ_); (case side2 => exact belg_ (zi_.ge HI0.out)); rintro e w28 ⟨rfl, hi, hb, hk⟩; refine ⟨_, rfl, ?_⟩; replace BK337 := AM (zw_.blk hk (g' := gb337) (o := .cells #[.int .i64 0, .string (⟨#[]⟩ : ByteArray)] 60 (0, 0)) (bk_ BK337.out) NB337_0.out (by simp)); replace BK350 := AM (zw_.blk hk (g' := gb350) (o := .cells #[.int .i64 x351000_5, .string t346] 60 (0, 0)) (bk_ BK350.out) NB350_0.out (by simp)); replace HK := AM (kk_ w hk); replace HB := AM hb; replace HI0 := AM hi; (try clear hb); (try clear hk); (try clear hi)) | ((with_reducible refine zg_ (f := 53) rfl ?_); refine gl_ (some 21) Tryd.func53 #[.pointer (some ⟨g, 0, none⟩), .int .i64 3] ?_; (with_reducible refine (zs_.calls g s0_0 t360 t361 t362 3 t363 t364 t365 t366 w0 _ ?side1 ?side2 A24.out).mono ?_); (case side1 => exact zJ_); (case side2 => exact belg_ (zi_.ge HI0.out)); rintro e w29 ⟨rfl, hi, hb, hk⟩; refine ⟨_, rfl, ?_⟩; replace BK337 := AM (zw_.blk hk (g' := gb337) (o := .cells #[.int .i64 0, .string (⟨#[]⟩ : ByteArray)] 60 (0, 0)) (bk_ BK337.out) NB337_0.out (by simp)); replace BK350 := AM (zw_.blk hk (g' := gb350) (o := .cells #[.int .i64 x351000_5, .string t346] 60 (0, 0)) (bk_ BK350.out) NB350_0.out (by simp)); replace HK := AM (kk_ w hk); replace HB := AM hb; replace HI0 := AM hi; (try clear hb); (try clear hk); (try clear hi)) | ((with_reducible refine zy_ (N := 23) rfl ?_); refine Kd.R_make (Kd.int .u8) _ 5 rfl (N := 23) rfl 29 _ _ rfl ji25 rfl rfl Tryd.underlying29 (.int .u8 0) 1 info5 rfl (by decide) (by omega) 0 (ok := fun _ => True) (okp := fun _ => True) rfl (fun _ hk => hk) trivial (of_decide_eq_true asm_) (Nat.le_trans (Nat.mul_le_mul_right _ (of_decide_eq_true asm_ : ji25.toNat ≤ 281474976710656)) (by omega)) (Below.refl _ _) (Nat.le_refl _) ?_; intro v368 w30 ho31 hb hg_ hnew_; clear hg_ hnew_; (first | rw [← Ny367.out] at ho31 | (simp only [Int.reduceToNat] at ho31; rw [← Ny367.out] at ho31)); have HO369 := AM (Kd.ya_ ho31 (z3_ (w := w) (g := g) (row := none) kp_)); replace BK337 := AM (zh_ (g := gb337) (o := .cells #[.int .i64 0, .string (⟨#[]⟩ : ByteArray)] 60 (0, 0)) (bk_ BK337.out) hb); replace BK350 := AM (zh_ (g := gb350) (o := .cells #[.int .i64 x351000_5, .string t346] 60 (0, 0)) (bk_ BK350.out) hb); replace HK := AM (kb_ w g hb); replace HB := AM (zc_ (belg_ (zi_.ge HI0.out)) hb); replace HI0 := AM (zi_.below zJ_ hb); clear hb ho31; have hcv32 := yF_ (P := Tryd.prog) Tryd.underlying29 Tryd.underlying5 Tryd.underlying9 (Kd.yL_ HO369.out); have hnb33 := NB350_337.out; have hnc33 := NB337_350.out; have hnb34 := NB350_0.out; have hnc34 := NB0_350.out; have hcz35_0 : w30.cell? ⟨gb350, 0, none⟩ = some (.int .i64 x351000_5) := (zb_ BK350.out 0).trans rfl; have hcz35_1 : w30.cell? ⟨gb350, 1, none⟩ = some (.string t346) := (zb_ BK350.out 1).trans rfl; have hfz35_0 := za_ BK350.out 0; have hfz35_1 := za_ BK350.out 1; have hnb36 := NB337_0.out; have hnc36 := NB0_337.out; have hcz37_0 : w30.cell? ⟨gb337, 0, none⟩ = some (.int .i64 0) := (zb_ BK337.out 0).trans rfl; have hcz37_1 : w30.cell? ⟨gb337, 1, none⟩ = some (.string (⟨#[]⟩ : ByteArray)) := (zb_ BK337.out 1).trans rfl; have hfz37_0 := za_ BK337.out 0; have hfz37_1 := za_ BK337.out 1))
      refine bodyPost_ret (results_cell_row rfl _ _ gb337 60 #[.int .i64 x351000_5, .string (strOfNums y367)] (0, 0) _ rfl bka_ Tryd.underlying60 rfl (by kernel_rfl)) rfl ?_
      exact ⟨by first | rfl | (simp [yd_, yc_] <;> rfl) | (simp only [← hji25]; first | rfl | (simp [yd_, yc_] <;> rfl)) | (simp [*, yd_, yc_] <;> rfl), zJ_, belg_ (zi_.ge HI0.out), kp_⟩
     ·
      rw [if_neg c27] at H
      exact absurd H (by simp)
    ·
     rw [if_neg c26] at H
     exact absurd H (by simp)
   ·
    replace c23 := Bool.eq_false_iff.mpr c23
    subst c23
    rw [if_neg (show ¬ (false = true) by decide)] at H
    simp only [Option.some.injEq, Prod.mk.injEq] at H
    obtain ⟨rfl, rfl, rfl, rfl, rfl⟩ := H
    go_wp2_with (first | ((with_reducible refine zg_ (f := 91) rfl ?_); refine gl_ (some 19) Tryd.func91 #[.pointer (some ⟨g, 0, none⟩), .int .i64 60] ?_; (with_reducible refine (zG_.calls g s0_0 x1001_5 x1002_5 x1003_5 60 false t360 t361 t362 w0 _ ?side1 ?side2 A22.out).mono ?_); (case side1 => exact zJ_); (case side2 => exact belg_ (zi_.ge HI0.out)); rintro e w38 ⟨rfl, hi, hb, hk⟩; refine ⟨_, rfl, ?_⟩; replace BK337 := AM (zw_.blk hk (g' := gb337) (o := .cells #[.int .i64 0, .string (⟨#[]⟩ : ByteArray)] 60 (0, 0)) (bk_ BK337.out) NB337_0.out (by simp)); replace BK350 := AM (zw_.blk hk (g' := gb350) (o := .cells #[.int .i64 x351000_5, .string t346] 60 (0, 0)) (bk_ BK350.out) NB350_0.out (by simp)); replace HK := AM (kk_ w hk); replace HB := AM hb; replace HI0 := AM hi; (try clear hb); (try clear hk); (try clear hi); have hnb39 := NB350_337.out; have hnc39 := NB337_350.out; have hnb40 := NB350_0.out; have hnc40 := NB0_350.out; have hcz41_0 : w38.cell? ⟨gb350, 0, none⟩ = some (.int .i64 x351000_5) := (zb_ BK350.out 0).trans rfl; have hcz41_1 : w38.cell? ⟨gb350, 1, none⟩ = some (.string t346) := (zb_ BK350.out 1).trans rfl; have hfz41_0 := za_ BK350.out 0; have hfz41_1 := za_ BK350.out 1; have hnb42 := NB337_0.out; have hnc42 := NB0_337.out; have hcz43_0 : w38.cell? ⟨gb337, 0, none⟩ = some (.int .i64 0) := (zb_ BK337.out 0).trans rfl; have hcz43_1 : w38.cell? ⟨gb337, 1, none⟩ = some (.string (⟨#[]⟩ : ByteArray)) := (zb_ BK337.out 1).trans rfl; have hfz43_0 := za_ BK337.out 0; have hfz43_1 := za_ BK337.out 1))
    refine bodyPost_ret (results_cell_row rfl _ _ gb337 60 #[.int .i64 x351000_5, .string t346] (0, 0) _ rfl bka_ Tryd.underlying60 rfl (by kernel_rfl)) rfl ?_
    exact ⟨ri_, zJ_, belg_ (zi_.ge HI0.out), kp_⟩
/-! ### zU_: function 92 -/
def zU_.l0 : Nat → Int → Bool → ByteArray → Option (ByteArray)
 | 0, _, _, _ => none
 | k + 1, x0, x3, x4 => if x0 = 0 then (if x3 = true then (if 1 + x4.size ≤ 9223372036854775807 then (some ((⟨#[45]⟩ : ByteArray) ++ x4)) else (none)) else (some x4)) else (if (Int.tmod x0 10) < 0 then ((some (([(wrap64 (48 + (wrap64 (-(Int.tmod x0 10))))) % 256] : List Int) : List Int)).bind fun y370 => (if (strOfNums y370).size + x4.size ≤ 9223372036854775807 then (zU_.l0 k (wrap64 (Int.tdiv x0 10)) x3 ((strOfNums y370) ++ x4)) else (none))) else ((some (([(wrap64 (48 + (Int.tmod x0 10))) % 256] : List Int) : List Int)).bind fun y373 => (if (strOfNums y373).size + x4.size ≤ 9223372036854775807 then (zU_.l0 k (wrap64 (Int.tdiv x0 10)) x3 ((strOfNums y373) ++ x4)) else (none))))
def zU_.f (k : Nat) (a0 : Int) : Option (ByteArray) := if a0 = 0 then (some (⟨#[48]⟩ : ByteArray)) else (zU_.l0 k a0 (decide (a0 < 0)) (⟨#[]⟩ : ByteArray))
theorem zU_.mono_l : ∀ k, (∀ y0 y1 y2, LeO (zU_.l0 k y0 y1 y2) (zU_.l0 (k + 1) y0 y1 y2))
 | 0 => fun _ _ _ r h => by simp [zU_.l0] at h
 | k + 1 => by
  have ih0 := zU_.mono_l k
  ·
   intro y0 y1 y2
   unfold zU_.l0
   repeat' with_reducible first | exact ih0 _ _ _ | exact LeO.refl _ | exact LeO.none _ | refine LeO.ite ?_ ?_ | refine LeO.bind ?_ (fun _ => ?_)
theorem zU_.mono : ∀ a0 k, LeO (zU_.f k a0) (zU_.f (k + 1) a0) := by
 intro a0 k
 have ih0 := zU_.mono_l k
 unfold zU_.f
 repeat' with_reducible first | exact ih0 _ _ _ | exact LeO.refl _ | exact LeO.none _ | refine LeO.ite ?_ ?_ | refine LeO.bind ?_ (fun _ => ?_)
theorem zU_.calls (k : Nat) (a0 : Int) (r : ByteArray) (w : World) (h : zU_.f k a0 = some r) :
 Calls Tryd.prog 92 #[.int .i64 a0] w fun e w' => e = .returned (.string r) ∧ Below w.heap.size w w' := by
 have HB := AM (Below.refl w.heap.size w)
 have H : (if a0 = 0 then (some (⟨#[48]⟩ : ByteArray)) else (zU_.l0 k a0 (decide (a0 < 0)) (⟨#[]⟩ : ByteArray))) = some r := h
 clear h
 by_cases c2 : a0 = 0
 ·
  rw [if_pos c2] at H
  have c2b0 : (a0 == 0) = true := beq_iff_eq.mpr c2
  have c2b1 : (a0 != 0) = false := bne_eq_false_iff_eq.mpr c2
  clear c2
  obtain rfl := Option.some.inj H
  go_enter Tryd.func92, Tryd.ntmps92
  go_wp2
  go_ret
  exact ⟨ri_, bel_⟩
 ·
  rw [if_neg c2] at H
  have c2b0 : (a0 == 0) = false := beq_eq_false_iff_ne.mpr c2
  have c2b1 : (a0 != 0) = true := bne_iff_ne.mpr c2
  have H' := AM H
  clear H
  go_enter Tryd.func92, Tryd.ntmps92
  go_wp2
  go_loopg [0, 4] k (fun kq v0 v4 w' => ∃ (x0_1 : Int) (x4_1 : ByteArray), v0 = .int .i64 x0_1 ∧ v4 = .string x4_1 ∧ zd_ (zU_.l0 kq x0_1 (decide (a0 < 0)) x4_1 = some r) ∧ zd_ (kq ≤ k) ∧ zd_ (Below w.heap.size w w'))
  case atStart => exact ⟨(a0), ((⟨#[]⟩ : ByteArray)), re_, re_, H', ⟨Nat.le_refl _⟩, ⟨bel_⟩⟩
  case round =>
   clear H'
   (try clear c2); (try clear c2b0); (try clear c2b1)
   obtain ⟨x0_1, x4_1, rfl, rfl, HA, HK1, HB⟩ := hrel
   cases gk with
   | zero => exact absurd HA.out (by simp [zU_.l0])
   | succ k1 =>
    have H := HA.out
    clear HA
    simp only [zU_.l0] at H
    by_cases c3 : x0_1 = 0
    ·
     rw [if_pos c3] at H
     have c3b0 : (x0_1 == 0) = true := beq_iff_eq.mpr c3
     have c3b1 : (x0_1 != 0) = false := bne_eq_false_iff_eq.mpr c3
     clear c3
     by_cases c4 : (decide (a0 < 0)) = true
     ·
      rw [if_pos c4] at H
      have c4b0 : (decide (a0 < 0)) = true := c4
      clear c4
      by_cases c5 : 1 + x4_1.size ≤ 9223372036854775807
      ·
       rw [if_pos c5] at H
       have c5b0 := eq_true c5
       have c5b1 : decide (1 + x4_1.size ≤ 9223372036854775807) = true := decide_eq_true c5
       try have c5b2 : (9223372036854775807 < 1 + x4_1.size) = False := eq_false (Nat.not_lt.2 c5)
       obtain rfl := Option.some.inj H
       go_wp2
       all_goals first | (exfalso; have z_ := of_decide_eq_true c4b0; omega) | (go_ret; exact ⟨ri_, bel_⟩)
      ·
       rw [if_neg c5] at H
       exact absurd H (by simp)
     ·
      rw [if_neg c4] at H
      have c4b0 : (decide (a0 < 0)) = false := by simpa using c4
      clear c4
      obtain rfl := Option.some.inj H
      go_wp2
      all_goals first | (exfalso; have z_ := of_decide_eq_false c4b0; omega) | (go_ret; exact ⟨ri_, bel_⟩)
    ·
     rw [if_neg c3] at H
     have c3b0 : (x0_1 == 0) = false := beq_eq_false_iff_ne.mpr c3
     have c3b1 : (x0_1 != 0) = true := bne_iff_ne.mpr c3
     by_cases c6 : (Int.tmod x0_1 10) < 0
     ·
      rw [if_pos c6] at H
      have c6b0 : decide ((Int.tmod x0_1 10) < 0) = true := decide_eq_true c6
      clear c6
      obtain ⟨y370, hy370⟩ : ∃ y_ : List Int, y_ = (([(wrap64 (48 + (wrap64 (-(Int.tmod x0_1 10))))) % 256] : List Int)) := ⟨_, rfl⟩
      replace H : (if (strOfNums y370).size + x4_1.size ≤ 9223372036854775807 then (zU_.l0 k1 (wrap64 (Int.tdiv x0_1 10)) (decide (a0 < 0)) ((strOfNums y370) ++ x4_1)) else (none)) = some r := hy_ hy370 H
      have Ny370 := AM hy370
      clear hy370
      by_cases c7 : (strOfNums y370).size + x4_1.size ≤ 9223372036854775807
      ·
       rw [if_pos c7] at H
       have c7b0 := eq_true c7
       have c7b1 : decide ((strOfNums y370).size + x4_1.size ≤ 9223372036854775807) = true := decide_eq_true c7
       try have c7b2 : (9223372036854775807 < (strOfNums y370).size + x4_1.size) = False := eq_false (Nat.not_lt.2 c7)
       have H' := AM H
       clear H
       go_wp2_with (first | ((with_reducible refine zy_ (N := 21) rfl ?_); refine Kd.R_lit (Kd.int .u8) _ 5 ?hgL2 (N := 21) ?hdL2 (xs := ([(wrap64 (48 + (wrap64 (-(Int.tmod x0_1 10))))) % 256] : List Int)) (inner := [.int .u8 ((wrap64 (48 + (wrap64 (-(Int.tmod x0_1 10))))) % 256)]) (ok := fun _ => True) (okp := fun _ => True) ?hrL2 ?hpL2 (fun _ hk => hk) trivial (Below.refl _ _) (Nat.le_refl _) (by simp) ?_; (case hdL2 => rfl); (case hgL2 => rfl); (case hrL2 => first | (go_simp; done) | (go_simp; rfl)); (case hpL2 => exact (Reps.one (show Kd.M (Kd.int .u8) _ _ _ ((wrap64 (48 + (wrap64 (-(Int.tmod x0_1 10))))) % 256) [.int .u8 ((wrap64 (48 + (wrap64 (-(Int.tmod x0_1 10))))) % 256)] from rfl) (Reps.none _ _))); intro v371 w8 ho9 hb hg_ hnew_; clear hg_ hnew_; (first | rw [← Ny370.out] at ho9 | (simp only [Int.reduceToNat] at ho9; rw [← Ny370.out] at ho9)); have HO372 := AM (Kd.ya_ ho9 (zf_ bel_)); replace HB := AM (zc_ bel_ hb); clear hb ho9; have hcv10 := yF_ (P := Tryd.prog) Tryd.underlying29 Tryd.underlying5 Tryd.underlying9 (Kd.yL_ HO372.out)))
       go_roundg k1
       case measure => have := HK1.out; omega
       case rel => exact ⟨(wrap64 (Int.tdiv x0_1 10)), ((strOfNums y370) ++ x4_1), re_, re_, H', ⟨by have := HK1.out; omega⟩, ⟨bel_⟩⟩
      ·
       rw [if_neg c7] at H
       exact absurd H (by simp)
     ·
      rw [if_neg c6] at H
      have c6b0 : decide ((Int.tmod x0_1 10) < 0) = false := decide_eq_false c6
      clear c6
      obtain ⟨y373, hy373⟩ : ∃ y_ : List Int, y_ = (([(wrap64 (48 + (Int.tmod x0_1 10))) % 256] : List Int)) := ⟨_, rfl⟩
      replace H : (if (strOfNums y373).size + x4_1.size ≤ 9223372036854775807 then (zU_.l0 k1 (wrap64 (Int.tdiv x0_1 10)) (decide (a0 < 0)) ((strOfNums y373) ++ x4_1)) else (none)) = some r := hy_ hy373 H
      have Ny373 := AM hy373
      clear hy373
      by_cases c11 : (strOfNums y373).size + x4_1.size ≤ 9223372036854775807
      ·
       rw [if_pos c11] at H
       have c11b0 := eq_true c11
       have c11b1 : decide ((strOfNums y373).size + x4_1.size ≤ 9223372036854775807) = true := decide_eq_true c11
       try have c11b2 : (9223372036854775807 < (strOfNums y373).size + x4_1.size) = False := eq_false (Nat.not_lt.2 c11)
       have H' := AM H
       clear H
       go_wp2_with (first | ((with_reducible refine zy_ (N := 21) rfl ?_); refine Kd.R_lit (Kd.int .u8) _ 5 ?hgL3 (N := 21) ?hdL3 (xs := ([(wrap64 (48 + (Int.tmod x0_1 10))) % 256] : List Int)) (inner := [.int .u8 ((wrap64 (48 + (Int.tmod x0_1 10))) % 256)]) (ok := fun _ => True) (okp := fun _ => True) ?hrL3 ?hpL3 (fun _ hk => hk) trivial (Below.refl _ _) (Nat.le_refl _) (by simp) ?_; (case hdL3 => rfl); (case hgL3 => rfl); (case hrL3 => first | (go_simp; done) | (go_simp; rfl)); (case hpL3 => exact (Reps.one (show Kd.M (Kd.int .u8) _ _ _ ((wrap64 (48 + (Int.tmod x0_1 10))) % 256) [.int .u8 ((wrap64 (48 + (Int.tmod x0_1 10))) % 256)] from rfl) (Reps.none _ _))); intro v374 w12 ho13 hb hg_ hnew_; clear hg_ hnew_; (first | rw [← Ny373.out] at ho13 | (simp only [Int.reduceToNat] at ho13; rw [← Ny373.out] at ho13)); have HO375 := AM (Kd.ya_ ho13 (zf_ bel_)); replace HB := AM (zc_ bel_ hb); clear hb ho13; have hcv14 := yF_ (P := Tryd.prog) Tryd.underlying29 Tryd.underlying5 Tryd.underlying9 (Kd.yL_ HO375.out)))
       go_roundg k1
       case measure => have := HK1.out; omega
       case rel => exact ⟨(wrap64 (Int.tdiv x0_1 10)), ((strOfNums y373) ++ x4_1), re_, re_, H', ⟨by have := HK1.out; omega⟩, ⟨bel_⟩⟩
      ·
       rw [if_neg c11] at H
       exact absurd H (by simp)
/-! ### ze_: function 48 -/
mutual
def ze_.l0 : Nat → List (S60) → Int → List Int → Int → Int → Int → Option ((List (S60)) × Int × Int × Int)
 | 0, _, _, _, _, _, _ => none
 | k + 1, x3, x4, x1000, x1001, x1002, x1003 => if x4 > 0 then ((zo_.f k x1000 x1001 x1002 x1003).bind fun bt383 => (if x3.length < 5864062014805 then (ze_.l0 k (x3 ++ [(⟨bt383.1, bt383.2.1⟩ : S60)]) (wrap64 (x4 - 1)) x1000 bt383.2.2.1 bt383.2.2.2.1 bt383.2.2.2.2) else (none))) else (if (x3.length : Int) > 0 then ((zG_.f x1000 x1001 x1002 x1003 15).bind fun bt391 => (ze_.j1 k x3 bt391.1 x1000 bt391.2.1 bt391.2.2.1 bt391.2.2.2)) else (ze_.j1 k x3 false x1000 x1001 x1002 x1003))
def ze_.j1 : Nat → List (S60) → Bool → List Int → Int → Int → Int → Option ((List (S60)) × Int × Int × Int)
 | 0, _, _, _, _, _, _ => none
 | k + 1, x3, x24, x1000, x1001, x1002, x1003 => if x24 = true then (if 0 < (x3.length : Int) then (if x3.length < 5864062014805 then (ze_.j2 k (x3 ++ [(⟨(zE_ x3 0).f0, (zE_ x3 0).f1⟩ : S60)]) x1000 x1001 x1002 x1003) else (none)) else (none)) else (ze_.j2 k x3 x1000 x1001 x1002 x1003)
def ze_.j2 : Nat → List (S60) → List Int → Int → Int → Int → Option ((List (S60)) × Int × Int × Int)
 | 0, _, _, _, _, _ => none
 | k + 1, x3, x1000, x1001, x1002, x1003 => (zG_.f x1000 x1001 x1002 x1003 40).bind fun bt399 => (if bt399.1 = true then (ze_.l1 k x3 0 x1000 bt399.2.1 bt399.2.2.1 bt399.2.2.2) else (some (x3, bt399.2.1, bt399.2.2.1, bt399.2.2.2)))
def ze_.l1 : Nat → List (S60) → Int → List Int → Int → Int → Int → Option ((List (S60)) × Int × Int × Int)
 | 0, _, _, _, _, _, _ => none
 | k + 1, x3, x5, x1000, x1001, x1002, x1003 => (zs_.f x1000 x1001 x1002 x1003 3).bind fun bt403 => (if (x3.length : Int) < (wrap64 (39 + bt403.1)) then ((zU_.f k x5).bind fun t407 => (if t407.size + 1 ≤ 9223372036854775807 then (if x3.length < 5864062014805 then (ze_.l1 k (x3 ++ [(⟨1, t407 ++ (⟨#[121]⟩ : ByteArray)⟩ : S60)]) (wrap64 (x5 + 1)) x1000 bt403.2.1 bt403.2.2.1 bt403.2.2.2) else (none)) else (none))) else (some (x3, bt403.2.1, bt403.2.2.1, bt403.2.2.2)))
end
def ze_.f (k : Nat) (s0_0 : List Int) (s0_1 : Int) (s0_2 : Int) (s0_3 : Int) : Option ((List (S60)) × Int × Int × Int) := (zs_.f s0_0 s0_1 s0_2 s0_3 5).bind fun bt379 => (ze_.l0 k (([] : List (S60))) bt379.1 s0_0 bt379.2.1 bt379.2.2.1 bt379.2.2.2)
theorem ze_.mono_l : ∀ k, (∀ y0 y1 y2 y3 y4 y5, LeO (ze_.l0 k y0 y1 y2 y3 y4 y5) (ze_.l0 (k + 1) y0 y1 y2 y3 y4 y5)) ∧ (∀ y0 y1 y2 y3 y4 y5, LeO (ze_.j1 k y0 y1 y2 y3 y4 y5) (ze_.j1 (k + 1) y0 y1 y2 y3 y4 y5)) ∧ (∀ y0 y1 y2 y3 y4, LeO (ze_.j2 k y0 y1 y2 y3 y4) (ze_.j2 (k + 1) y0 y1 y2 y3 y4)) ∧ (∀ y0 y1 y2 y3 y4 y5, LeO (ze_.l1 k y0 y1 y2 y3 y4 y5) (ze_.l1 (k + 1) y0 y1 y2 y3 y4 y5))
 | 0 => ⟨fun _ _ _ _ _ _ r h => by simp [ze_.l0] at h, fun _ _ _ _ _ _ r h => by simp [ze_.j1] at h, fun _ _ _ _ _ r h => by simp [ze_.j2] at h, fun _ _ _ _ _ _ r h => by simp [ze_.l1] at h⟩
 | k + 1 => by
  obtain ⟨ih0, ih1, ih2, ih3⟩ := ze_.mono_l k
  refine ⟨?_, ?_, ?_, ?_⟩
  ·
   intro y0 y1 y2 y3 y4 y5
   unfold ze_.l0
   repeat' with_reducible first | exact ih0 _ _ _ _ _ _ | exact ih1 _ _ _ _ _ _ | exact ih2 _ _ _ _ _ | exact ih3 _ _ _ _ _ _ | exact zU_.mono _ _ | exact zo_.mono _ _ _ _ _ | exact LeO.refl _ | exact LeO.none _ | refine LeO.ite ?_ ?_ | refine LeO.bind ?_ (fun _ => ?_)
  ·
   intro y0 y1 y2 y3 y4 y5
   unfold ze_.j1
   repeat' with_reducible first | exact ih0 _ _ _ _ _ _ | exact ih1 _ _ _ _ _ _ | exact ih2 _ _ _ _ _ | exact ih3 _ _ _ _ _ _ | exact zU_.mono _ _ | exact zo_.mono _ _ _ _ _ | exact LeO.refl _ | exact LeO.none _ | refine LeO.ite ?_ ?_ | refine LeO.bind ?_ (fun _ => ?_)
  ·
   intro y0 y1 y2 y3 y4
   unfold ze_.j2
   repeat' with_reducible first | exact ih0 _ _ _ _ _ _ | exact ih1 _ _ _ _ _ _ | exact ih2 _ _ _ _ _ | exact ih3 _ _ _ _ _ _ | exact zU_.mono _ _ | exact zo_.mono _ _ _ _ _ | exact LeO.refl _ | exact LeO.none _ | refine LeO.ite ?_ ?_ | refine LeO.bind ?_ (fun _ => ?_)
  ·
   intro y0 y1 y2 y3 y4 y5
   unfold ze_.l1
   repeat' with_reducible first | exact ih0 _ _ _ _ _ _ | exact ih1 _ _ _ _ _ _ | exact ih2 _ _ _ _ _ | exact ih3 _ _ _ _ _ _ | exact zU_.mono _ _ | exact zo_.mono _ _ _ _ _ | exact LeO.refl _ | exact LeO.none _ | refine LeO.ite ?_ ?_ | refine LeO.bind ?_ (fun _ => ?_)
theorem ze_.mono : ∀ a0 a1 a2 a3 k, LeO (ze_.f k a0 a1 a2 a3) (ze_.f (k + 1) a0 a1 a2 a3) := by
 intro a0 a1 a2 a3 k
 obtain ⟨ih0, ih1, ih2, ih3⟩ := ze_.mono_l k
 unfold ze_.f
 repeat' with_reducible first | exact ih0 _ _ _ _ _ _ | exact ih1 _ _ _ _ _ _ | exact ih2 _ _ _ _ _ | exact ih3 _ _ _ _ _ _ | exact zU_.mono _ _ | exact zo_.mono _ _ _ _ _ | exact LeO.refl _ | exact LeO.none _ | refine LeO.ite ?_ ?_ | refine LeO.bind ?_ (fun _ => ?_)
theorem ze_.calls (k : Nat) (g : Nat) (s0_0 : List Int) (s0_1 : Int) (s0_2 : Int) (s0_3 : Int) (r1 : List (S60)) (r2 : Int) (r3 : Int) (r4 : Int) (w0 w : World) (hI : zi_ w0 w g s0_0 s0_1 s0_2 s0_3) (hB : Below w0.heap.size w0 w) (h : ze_.f k s0_0 s0_1 s0_2 s0_3 = some (r1, r2, r3, r4)) :
 Calls Tryd.prog 48 #[.pointer (some ⟨g, 0, none⟩)] w fun e w' => ∃ v0_ : Value, e = .returned (v0_) ∧ Kd.R k60 60 w' w.heap.size (fun _ => True) v0_ r1 ∧ zi_ w0 w' g s0_0 r2 r3 r4 ∧ Below w0.heap.size w0 w' ∧ zw_ w w' g none := by
 have hu60 := Tryd.underlying60
 have HI0 := AM hI
 have HK := AM (zw_.refl w g none)
 have HL := AM hB.size
 clear hI
 have HW0 := AM hB.size
 have HB := AM hB
 clear hB
 have H : ((zs_.f s0_0 s0_1 s0_2 s0_3 5).bind fun bt379 => (ze_.l0 k (([] : List (S60))) bt379.1 s0_0 bt379.2.1 bt379.2.2.1 bt379.2.2.2)) = some (r1, r2, r3, r4) := h
 clear h
 obtain ⟨y376, hy376⟩ : ∃ y_ : List (S60), y_ = (([] : List (S60))) := ⟨_, rfl⟩
 replace H : ((zs_.f s0_0 s0_1 s0_2 s0_3 5).bind fun bt379 => (ze_.l0 k y376 bt379.1 s0_0 bt379.2.1 bt379.2.2.1 bt379.2.2.2)) = some (r1, r2, r3, r4) := hy_ hy376 H
 have Ny376 := AM hy376
 clear hy376
 obtain ⟨⟨t379, t380, t381, t382⟩, A2, H⟩ := OB H
 try dsimp only at H
 replace A2 := AM A2
 have H' := AM H
 clear H
 go_enter Tryd.func48, Tryd.ntmps48
 go_wp2_with (first | ((with_reducible refine zy_ (N := 6) rfl ?_); refine Kd.R_lit k60 _ 60 ?hgL1 (N := 6) ?hdL1 (xs := ([] : List (S60))) (inner := []) (ok := fun _ => True) (okp := fun _ => True) ?hrL1 ?hpL1 (fun _ hk => hk) trivial (Below.refl _ _) (Nat.le_refl _) (by simp) ?_; (case hdL1 => rfl); (case hgL1 => rfl); (case hrL1 => first | (go_simp; done) | (go_simp; rfl)); (case hpL1 => exact (Reps.none _ _)); intro v377 w3 ho4 hb hg_ hnew_; clear hg_ hnew_; (first | rw [← Ny376.out] at ho4 | (simp only [Int.reduceToNat] at ho4; rw [← Ny376.out] at ho4)); have HO378 := AM (Kd.ya_ ho4 (z3_ (w := w) (g := g) (row := none) kp_)); replace HK := AM (kb_ w g hb); replace HB := AM (zc_ (belg_ (zi_.ge HI0.out)) hb); replace HI0 := AM (zi_.below zJ_ hb); clear hb ho4) | ((with_reducible refine zg_ (f := 53) rfl ?_); refine gl_ (some 8) Tryd.func53 #[.pointer (some ⟨g, 0, none⟩), .int .i64 5] ?_; (with_reducible refine (zs_.calls g s0_0 s0_1 s0_2 s0_3 5 t379 t380 t381 t382 w0 _ ?side1 ?side2 A2.out).mono ?_); (case side1 => exact zJ_); (case side2 => exact belg_ (zi_.ge HI0.out)); rintro e w5 ⟨rfl, hi, hb, hk⟩; refine ⟨_, rfl, ?_⟩; replace HO378 := AM (Kd.z9_ (Kd.xg_ (zi_.apart (show zi_ w0 _ g s0_0 s0_1 s0_2 s0_3 from zJ_) (ro_ HO378.out) (by decide)) hk (fun _ h => h.2)) (fun _ h => h.1)); replace HK := AM (kk_ w hk); replace HB := AM hb; replace HI0 := AM hi; (try clear hb); (try clear hk); (try clear hi)))
 go_loopg [3, 4] k (fun kq v3 v4 w' => ∃ (x3_1 : List (S60)) (x4_1 : Int) (x1001_1 : Int) (x1002_1 : Int) (x1003_1 : Int), v4 = .int .i64 x4_1 ∧ zd_ (ze_.l0 kq x3_1 x4_1 s0_0 x1001_1 x1002_1 x1003_1 = some (r1, r2, r3, r4)) ∧ zd_ (kq ≤ k) ∧ zd_ (Kd.R k60 60 w' w.heap.size (fun _ => True) v3 x3_1) ∧ zd_ (zi_ w0 w' g s0_0 x1001_1 x1002_1 x1003_1) ∧ zd_ (zw_ w w' g none) ∧ zd_ (Below w0.heap.size w0 w'))
 case atStart => exact ⟨(y376), (t379), (t380), (t381), (t382), re_, H', ⟨Nat.le_refl _⟩, ⟨ro_ HO378.out⟩, ⟨zJ_⟩, ⟨kp_⟩, ⟨belg_ (zi_.ge HI0.out)⟩⟩
 case round =>
  clear H'
  obtain ⟨x3_1, x4_1, x1001_1, x1002_1, x1003_1, rfl, HA, HK1, HO_3, HI0, HK, HB⟩ := hrel
  cases gk with
  | zero => exact absurd HA.out (by simp [ze_.l0])
  | succ k1 =>
   have H := HA.out
   clear HA
   simp only [ze_.l0] at H
   by_cases c6 : x4_1 > 0
   ·
    rw [if_pos c6] at H
    have c6b0 : decide (0 < x4_1) = true := decide_eq_true c6
    clear c6
    obtain ⟨⟨t383, t384, t385, t386, t387⟩, A7, H⟩ := OB H
    try dsimp only at H
    replace A7 := AM A7
    by_cases c8 : x3_1.length < 5864062014805
    ·
     rw [if_pos c8] at H
     have LMc8 := AM c8
     clear c8
     obtain ⟨y388, hy388⟩ : ∃ y_ : List (S60), y_ = (x3_1 ++ [(⟨t383, t384⟩ : S60)]) := ⟨_, rfl⟩
     replace H : (ze_.l0 k1 y388 (wrap64 (x4_1 - 1)) s0_0 t385 t386 t387) = some (r1, r2, r3, r4) := hy_ hy388 H
     have Ny388 := AM hy388
     clear hy388
     have H' := AM H
     clear H
     go_wp2_with (first | ((with_reducible refine zg_ (f := 90) rfl ?_); refine gl_ (some 15) Tryd.func90 #[.pointer (some ⟨g, 0, none⟩)] ?_; (with_reducible refine (zo_.calls k1 g s0_0 x1001_1 x1002_1 x1003_1 t383 t384 t385 t386 t387 w0 _ ?side1 ?side2 A7.out).mono ?_); (case side1 => exact zJ_); (case side2 => exact belg_ (zi_.ge HI0.out)); rintro e w9 ⟨rfl, hi, hb, hk⟩; refine ⟨_, rfl, ?_⟩; replace HO_3 := AM (Kd.z9_ (Kd.xg_ (zi_.apart (show zi_ w0 _ g s0_0 x1001_1 x1002_1 x1003_1 from zJ_) (ro_ HO_3.out) (by decide)) hk (fun _ h => h.2)) (fun _ h => h.1)); replace HK := AM (kk_ w hk); replace HB := AM hb; replace HI0 := AM hi; (try clear hb); (try clear hk); (try clear hi)) | ((with_reducible refine ye_ (b := .append) (xs := #[.tmp 13, .tmp 16]) rfl ?_); at_builtin; refine Kd.y7_ k60 w.heap.size rfl (.tmp 13) (.tmp 16) 22 60 (.agg #[(.int .i64 0), (.string ⟨#[]⟩)]) 24 rfl Tryd.underlying22 info60 rfl (by decide) (by omega) u3 x3_1 (⟨t383, t384⟩ : S60) [.int .i64 t383, .string t384] (fun _ => True) (fun _ => False) rfl rfl ?aP (fun _ hk => hk.elim) ?aF ?aO (Below.refl _ _) ?aS ?aL ?_; (case aP => exact k60_mkM _ _ _ (⟨t383, t384⟩ : S60)); (case aF => exact (fun _ _ => trivial)); (case aO => exact (ro_ HO_3.out)); (case aS => exact (z3_ (w := w) (g := g) (row := none) kp_)); (case aL => have := LMc8.out; omega); intro v389 w10 ho hb hg hat; rw [← Ny388.out] at ho; have n0_ := AM (zi_.grown zJ_ hg (zi_.own_ne HI0.out HO_3.out (by decide))); have n1_ := AM (below_weaken (belg_ (zi_.ge HI0.out)) HL.out hb); have n2_ := AM (zw_.trans (kp_ (w := w)) (zw_.of_grown hg g) (Kd.R_base2 HO_3.out)); have n3_ := AM ho; clear HI0; clear HB; clear HK; clear HO_3; have HI0 := n0_; have HB := n1_; have HK := n2_; have HO390 := n3_; clear n0_ n1_ n2_ n3_; clear ho hb hg hat))
     go_roundg k1
     case measure => have := HK1.out; omega
     case rel => exact ⟨(y388), (wrap64 (x4_1 - 1)), (t385), (t386), (t387), re_, H', ⟨by have := HK1.out; omega⟩, ⟨ro_ HO390.out⟩, ⟨zJ_⟩, ⟨kp_⟩, ⟨belg_ (zi_.ge HI0.out)⟩⟩
    ·
     rw [if_neg c8] at H
     exact absurd H (by simp)
   ·
    rw [if_neg c6] at H
    have c6b0 : decide (0 < x4_1) = false := decide_eq_false c6
    clear c6
    have HC11 := AM H
    clear H
    go_upto_region 6 with (fail)
    go_cut [24] (fun v24 wc => ∃ (kq : Nat) (x24_10 : Bool) (x1001_10 : Int) (x1002_10 : Int) (x1003_10 : Int), v24 = .bool x24_10 ∧ zd_ (ze_.j1 kq x3_1 x24_10 s0_0 x1001_10 x1002_10 x1003_10 = some (r1, r2, r3, r4)) ∧ zd_ (kq ≤ k1) ∧ zd_ (Kd.R k60 60 wc w.heap.size (fun _ => True) u3 x3_1) ∧ zd_ (zi_ w0 wc g s0_0 x1001_10 x1002_10 x1003_10) ∧ zd_ (zw_ w wc g none) ∧ zd_ (Below w0.heap.size w0 wc))
    case first =>
     have H := HC11.out
     clear HC11
     by_cases c12 : (x3_1.length : Int) > 0
     ·
      rw [if_pos c12] at H
      have c12b0 : decide (0 < (x3_1.length : Int)) = true := decide_eq_true c12
      have c12b1 : decide (0 < x3_1.length) = true := decide_eq_true (by omega)
      clear c12
      (first | rw [c12b0] | (simp only [i64_w, i32_w]; rw [c12b0]) | skip)
      obtain ⟨⟨t391, t392, t393, t394⟩, A13, H⟩ := OB H
      try dsimp only at H
      replace A13 := AM A13
      have H' := AM H
      clear H
      obtain ⟨Ao14, co14, eo14⟩ := Kd.yg_ HO_3.out
      subst eo14
      go_wp2_with (first | (go_at_call 91; (with_reducible refine (zG_.calls g s0_0 x1001_1 x1002_1 x1003_1 15 t391 t392 t393 t394 w0 _ ?side1 ?side2 A13.out).mono ?_); (case side1 => exact zJ_); (case side2 => exact belg_ (zi_.ge HI0.out)); rintro e w15 ⟨rfl, hi, hb, hk⟩; replace HO_3 := AM (Kd.z9_ (Kd.xg_ (zi_.apart (show zi_ w0 _ g s0_0 x1001_1 x1002_1 x1003_1 from zJ_) (ro_ HO_3.out) (by decide)) hk (fun _ h => h.2)) (fun _ h => h.1)); replace HK := AM (kk_ w hk); replace HB := AM hb; replace HI0 := AM hi; (try clear hb); (try clear hk); (try clear hi)))
      go_meet
      case rel => exact ⟨_, (t391), (t392), (t393), (t394), re_, H', ⟨by have := HK1.out; first | omega | exact Nat.le_refl _⟩, ⟨ro_ HO_3.out⟩, ⟨zJ_⟩, ⟨kp_⟩, ⟨belg_ (zi_.ge HI0.out)⟩⟩
     ·
      rw [if_neg c12] at H
      have c12b0 : decide (0 < (x3_1.length : Int)) = false := decide_eq_false c12
      have c12b1 : decide (0 < x3_1.length) = false := decide_eq_false (by omega)
      clear c12
      (first | rw [c12b0] | (simp only [i64_w, i32_w]; rw [c12b0]) | skip)
      have H' := AM H
      clear H
      obtain ⟨Ao16, co16, eo16⟩ := Kd.yg_ HO_3.out
      subst eo16
      go_wp2
      go_meet
      case rel => exact ⟨_, (false), (x1001_1), (x1002_1), (x1003_1), re_, H', ⟨by have := HK1.out; first | omega | exact Nat.le_refl _⟩, ⟨ro_ HO_3.out⟩, ⟨zJ_⟩, ⟨kp_⟩, ⟨belg_ (zi_.ge HI0.out)⟩⟩
    case rest =>
     clear HC11
     (try clear c6b0); (try clear c8); (try clear c12b0); (try clear c12b1)
     obtain ⟨kq, x24_10, x1001_10, x1002_10, x1003_10, rfl, HA, HJ10, HO_3, HI0, HK, HB⟩ := hcut
     cases kq with
     | zero => exact absurd HA.out (by simp [ze_.j1])
     | succ kj10 =>
      have H := HA.out
      clear HA
      simp only [ze_.j1] at H
      have HC17 := AM H
      clear H
      go_upto_if 24 with (fail)
      go_cut [3] (fun v3 wc => ∃ (kq : Nat) (x3_16 : List (S60)), zd_ (ze_.j2 kq x3_16 s0_0 x1001_10 x1002_10 x1003_10 = some (r1, r2, r3, r4)) ∧ zd_ (kq ≤ kj10) ∧ zd_ (Kd.R k60 60 wc w.heap.size (fun _ => True) v3 x3_16) ∧ zd_ (zi_ w0 wc g s0_0 x1001_10 x1002_10 x1003_10) ∧ zd_ (zw_ w wc g none) ∧ zd_ (Below w0.heap.size w0 wc))
      case first =>
       have H := HC17.out
       clear HC17
       by_cases c18 : x24_10 = true
       ·
        subst c18
        rw [if_pos rfl] at H
        by_cases c19 : 0 < (x3_1.length : Int)
        ·
         rw [if_pos c19] at H
         have c19b0 : decide (0 < (x3_1.length : Int)) = true := decide_eq_true c19
         have c19b1 : decide (0 < x3_1.length) = true := decide_eq_true (by omega)
         clear c19
         (first | rw [c19b0] | (simp only [i64_w, i32_w]; rw [c19b0]) | skip)
         by_cases c20 : x3_1.length < 5864062014805
         ·
          rw [if_pos c20] at H
          have LMc20 := AM c20
          clear c20
          obtain ⟨y396, hy396⟩ : ∃ y_ : List (S60), y_ = (x3_1 ++ [(⟨(zE_ x3_1 0).f0, (zE_ x3_1 0).f1⟩ : S60)]) := ⟨_, rfl⟩
          replace H : (ze_.j2 kj10 y396 s0_0 x1001_10 x1002_10 x1003_10) = some (r1, r2, r3, r4) := hy_ hy396 H
          have Ny396 := AM hy396
          clear hy396
          have H' := AM H
          clear H
          obtain ⟨Ao21, co21, eo21⟩ := Kd.yg_ HO_3.out
          subst eo21
          have p395 : 0 ≤ (0 : Int) := (by omega)
          have q395 : 0 < (x3_1.length : Int) := of_decide_eq_true asm_
          obtain ⟨ad395, e395, hx395_0, hx395_1⟩ := at_T60 (Kd.zY_ HO_3.out).2.2 0 p395 q395
          cases e395
          have qi395 : (0 < x3_1.length) = True := eq_true (by omega)
          (try rw [show ((0 : Int)).toNat = 0 from rfl] at hx395_0)
          (try rw [show 0 * 2 = 0 from rfl] at hx395_0)
          (try rw [Addr.add_zero'] at hx395_0)
          (try rw [show ((0 : Int)).toNat = 0 from rfl] at hx395_1)
          (try rw [show 0 * 2 = 0 from rfl] at hx395_1)
          (try rw [Addr.add_zero'] at hx395_1)
          replace p395 := eq_true p395
          replace q395 := eq_true q395
          go_wp2_with (first | ((with_reducible refine ye_ (b := .append) (xs := #[.tmp 25, .tmp 29]) rfl ?_); at_builtin; refine Kd.y7_ k60 w.heap.size rfl (.tmp 25) (.tmp 29) 22 60 (.agg #[(.int .i64 0), (.string ⟨#[]⟩)]) 24 rfl Tryd.underlying22 info60 rfl (by decide) (by omega) (.slice (some ad395) x3_1.length co21) x3_1 (⟨(zE_ x3_1 0).f0, (zE_ x3_1 0).f1⟩ : S60) [.int .i64 ((zE_ x3_1 0).f0), .string ((zE_ x3_1 0).f1)] (fun _ => True) (fun _ => False) rfl rfl ?aP (fun _ hk => hk.elim) ?aF ?aO (Below.refl _ _) ?aS ?aL ?_; (case aP => exact k60_mkM _ _ _ (⟨(zE_ x3_1 0).f0, (zE_ x3_1 0).f1⟩ : S60)); (case aF => exact (fun _ _ => trivial)); (case aO => exact (ro_ HO_3.out)); (case aS => exact (z3_ (w := w) (g := g) (row := none) kp_)); (case aL => have := LMc20.out; omega); intro v397 w22 ho hb hg hat; rw [← Ny396.out] at ho; have n0_ := AM (zi_.grown zJ_ hg (zi_.own_ne HI0.out HO_3.out (by decide))); have n1_ := AM (below_weaken (belg_ (zi_.ge HI0.out)) HL.out hb); have n2_ := AM (zw_.trans (kp_ (w := w)) (zw_.of_grown hg g) (Kd.R_base2 HO_3.out)); have n3_ := AM ho; clear HI0; clear HB; clear HK; clear HO_3; have HI0 := n0_; have HB := n1_; have HK := n2_; have HO398 := n3_; clear n0_ n1_ n2_ n3_; clear ho hb hg hat))
          go_meet
          case rel => exact ⟨_, (y396), H', ⟨by have := HK1.out; have := HJ10.out; first | omega | exact Nat.le_refl _⟩, ⟨ro_ HO398.out⟩, ⟨zJ_⟩, ⟨kp_⟩, ⟨belg_ (zi_.ge HI0.out)⟩⟩
         ·
          rw [if_neg c20] at H
          exact absurd H (by simp)
        ·
         rw [if_neg c19] at H
         exact absurd H (by simp)
       ·
        replace c18 := Bool.eq_false_iff.mpr c18
        subst c18
        rw [if_neg (show ¬ (false = true) by decide)] at H
        have H' := AM H
        clear H
        go_wp2
        go_meet
        case rel => exact ⟨_, (x3_1), H', ⟨by have := HK1.out; have := HJ10.out; first | omega | exact Nat.le_refl _⟩, ⟨ro_ HO_3.out⟩, ⟨zJ_⟩, ⟨kp_⟩, ⟨belg_ (zi_.ge HI0.out)⟩⟩
      case rest =>
       clear HC17
       (try clear c18); (try clear c19); (try clear c19b0); (try clear c19b1); (try clear c20); (try clear hx395_0); (try clear hx395_1); (try clear p395); (try clear q395)
       obtain ⟨kq, x3_16, HA, HJ16, HO_3, HI0, HK, HB⟩ := hcut
       cases kq with
       | zero => exact absurd HA.out (by simp [ze_.j2])
       | succ kj16 =>
        have H := HA.out
        clear HA
        simp only [ze_.j2] at H
        obtain ⟨⟨t399, t400, t401, t402⟩, A23, H⟩ := OB H
        try dsimp only at H
        replace A23 := AM A23
        by_cases c24 : t399 = true
        ·
         subst c24
         rw [if_pos rfl] at H
         have H' := AM H
         clear H
         go_wp2_with (first | ((with_reducible refine zg_ (f := 91) rfl ?_); refine gl_ (some 32) Tryd.func91 #[.pointer (some ⟨g, 0, none⟩), .int .i64 40] ?_; (with_reducible refine (zG_.calls g s0_0 x1001_10 x1002_10 x1003_10 40 true t400 t401 t402 w0 _ ?side1 ?side2 A23.out).mono ?_); (case side1 => exact zJ_); (case side2 => exact belg_ (zi_.ge HI0.out)); rintro e w25 ⟨rfl, hi, hb, hk⟩; refine ⟨_, rfl, ?_⟩; replace HO_3 := AM (Kd.z9_ (Kd.xg_ (zi_.apart (show zi_ w0 _ g s0_0 x1001_10 x1002_10 x1003_10 from zJ_) (ro_ HO_3.out) (by decide)) hk (fun _ h => h.2)) (fun _ h => h.1)); replace HK := AM (kk_ w hk); replace HB := AM hb; replace HI0 := AM hi; (try clear hb); (try clear hk); (try clear hi)))
         go_loopg [3, 5] kj16 (fun kq v3 v5 w' => ∃ (x3_4 : List (S60)) (x5_4 : Int) (x1001_4 : Int) (x1002_4 : Int) (x1003_4 : Int), v5 = .int .i64 x5_4 ∧ zd_ (ze_.l1 kq x3_4 x5_4 s0_0 x1001_4 x1002_4 x1003_4 = some (r1, r2, r3, r4)) ∧ zd_ (kq ≤ kj16) ∧ zd_ (Kd.R k60 60 w' w.heap.size (fun _ => True) v3 x3_4) ∧ zd_ (zi_ w0 w' g s0_0 x1001_4 x1002_4 x1003_4) ∧ zd_ (zw_ w w' g none) ∧ zd_ (Below w0.heap.size w0 w'))
         case atStart => exact ⟨(x3_16), (0), (t400), (t401), (t402), re_, H', ⟨Nat.le_refl _⟩, ⟨ro_ HO_3.out⟩, ⟨zJ_⟩, ⟨kp_⟩, ⟨belg_ (zi_.ge HI0.out)⟩⟩
         case round =>
          clear H'
          (try clear c24)
          obtain ⟨x3_4, x5_4, x1001_4, x1002_4, x1003_4, rfl, HA, HK4, HO_3, HI0, HK, HB⟩ := hrel
          cases gk with
          | zero => exact absurd HA.out (by simp [ze_.l1])
          | succ k4 =>
           have H := HA.out
           clear HA
           simp only [ze_.l1] at H
           obtain ⟨⟨t403, t404, t405, t406⟩, A26, H⟩ := OB H
           try dsimp only at H
           replace A26 := AM A26
           by_cases c27 : (x3_4.length : Int) < (wrap64 (39 + t403))
           ·
            rw [if_pos c27] at H
            have c27b0 : decide ((x3_4.length : Int) < (wrap64 (39 + t403))) = true := decide_eq_true c27
            try have c27b9 : (decide ((x3_4.length : Int) < ((39 + t403)))) = true := (by have hw0 : wrap64 (39 + t403) = 39 + t403 := (by unfold wrap64; omega); have z_ := c27b0; simp only [hw0] at z_; exact z_)
            clear c27
            obtain ⟨t407, A28, H⟩ := OB H
            try dsimp only at H
            replace A28 := AM A28
            by_cases c29 : t407.size + 1 ≤ 9223372036854775807
            ·
             rw [if_pos c29] at H
             have c29b0 := eq_true c29
             have c29b1 : decide (t407.size + 1 ≤ 9223372036854775807) = true := decide_eq_true c29
             try have c27b8 : (decide ((x3_4.length : Int) < ((39 + t403)))) = true := (by have hw0 : wrap64 (39 + t403) = 39 + t403 := (by unfold wrap64; omega); have z_ := c27b0; simp only [hw0] at z_; exact z_)
             try have c29b2 : (9223372036854775807 < t407.size + 1) = False := eq_false (Nat.not_lt.2 c29)
             by_cases c30 : x3_4.length < 5864062014805
             ·
              rw [if_pos c30] at H
              have LMc30 := AM c30
              clear c30
              obtain ⟨y408, hy408⟩ : ∃ y_ : List (S60), y_ = (x3_4 ++ [(⟨1, t407 ++ (⟨#[121]⟩ : ByteArray)⟩ : S60)]) := ⟨_, rfl⟩
              replace H : (ze_.l1 k4 y408 (wrap64 (x5_4 + 1)) s0_0 t404 t405 t406) = some (r1, r2, r3, r4) := hy_ hy408 H
              have Ny408 := AM hy408
              clear hy408
              have H' := AM H
              clear H
              obtain ⟨Ao31, co31, eo31⟩ := Kd.yg_ HO_3.out
              subst eo31
              go_wp2_with (first | ((with_reducible refine zg_ (f := 53) rfl ?_); refine gl_ (some 36) Tryd.func53 #[.pointer (some ⟨g, 0, none⟩), .int .i64 3] ?_; (with_reducible refine (zs_.calls g s0_0 x1001_4 x1002_4 x1003_4 3 t403 t404 t405 t406 w0 _ ?side1 ?side2 A26.out).mono ?_); (case side1 => exact zJ_); (case side2 => exact belg_ (zi_.ge HI0.out)); rintro e w32 ⟨rfl, hi, hb, hk⟩; refine ⟨_, rfl, ?_⟩; replace HO_3 := AM (Kd.z9_ (Kd.xg_ (zi_.apart (show zi_ w0 _ g s0_0 x1001_4 x1002_4 x1003_4 from zJ_) (ro_ HO_3.out) (by decide)) hk (fun _ h => h.2)) (fun _ h => h.1)); replace HK := AM (kk_ w hk); replace HB := AM hb; replace HI0 := AM hi; (try clear hb); (try clear hk); (try clear hi)) | ((with_reducible refine zg_ (f := 92) rfl ?_); refine gl_ (some 43) Tryd.func92 #[.int .i64 x5_4] ?_; (with_reducible refine (zU_.calls k4 x5_4 t407 _ A28.out).mono ?_); rintro e w33 ⟨rfl, hb⟩; refine ⟨_, rfl, ?_⟩; replace HO_3 := AM (Kd.zX_ (ro_ HO_3.out) hb); replace HK := AM (kb_ w g hb); replace HB := AM (zc_ (belg_ (zi_.ge HI0.out)) hb); replace HI0 := AM (zi_.below zJ_ hb); (try clear hb)) | ((with_reducible refine ye_ (b := .append) (xs := #[.tmp 41, .tmp 46]) rfl ?_); at_builtin; refine Kd.y7_ k60 w.heap.size rfl (.tmp 41) (.tmp 46) 22 60 (.agg #[(.int .i64 0), (.string ⟨#[]⟩)]) 24 rfl Tryd.underlying22 info60 rfl (by decide) (by omega) (.slice Ao31 x3_4.length co31) x3_4 (⟨1, t407 ++ (⟨#[121]⟩ : ByteArray)⟩ : S60) [.int .i64 1, .string (t407 ++ (⟨#[121]⟩ : ByteArray))] (fun _ => True) (fun _ => False) rfl rfl ?aP (fun _ hk => hk.elim) ?aF ?aO (Below.refl _ _) ?aS ?aL ?_; (case aP => exact k60_mkM _ _ _ (⟨1, t407 ++ (⟨#[121]⟩ : ByteArray)⟩ : S60)); (case aF => exact (fun _ _ => trivial)); (case aO => exact (ro_ HO_3.out)); (case aS => exact (z3_ (w := w) (g := g) (row := none) kp_)); (case aL => have := LMc30.out; omega); intro v409 w34 ho hb hg hat; rw [← Ny408.out] at ho; have n0_ := AM (zi_.grown zJ_ hg (zi_.own_ne HI0.out HO_3.out (by decide))); have n1_ := AM (below_weaken (belg_ (zi_.ge HI0.out)) HL.out hb); have n2_ := AM (zw_.trans (kp_ (w := w)) (zw_.of_grown hg g) (Kd.R_base2 HO_3.out)); have n3_ := AM ho; clear HI0; clear HB; clear HK; clear HO_3; have HI0 := n0_; have HB := n1_; have HK := n2_; have HO410 := n3_; clear n0_ n1_ n2_ n3_; clear ho hb hg hat))
              go_roundg k4
              case measure => have := HK1.out; have := HJ10.out; have := HJ16.out; have := HK4.out; omega
              case rel => exact ⟨(y408), (wrap64 (x5_4 + 1)), (t404), (t405), (t406), re_, H', ⟨by have := HK1.out; have := HJ10.out; have := HJ16.out; have := HK4.out; omega⟩, ⟨ro_ HO410.out⟩, ⟨zJ_⟩, ⟨kp_⟩, ⟨belg_ (zi_.ge HI0.out)⟩⟩
             ·
              rw [if_neg c30] at H
              exact absurd H (by simp)
            ·
             rw [if_neg c29] at H
             exact absurd H (by simp)
           ·
            rw [if_neg c27] at H
            have c27b0 : decide ((x3_4.length : Int) < (wrap64 (39 + t403))) = false := decide_eq_false c27
            try have c27b9 : (decide ((x3_4.length : Int) < ((39 + t403)))) = false := (by have hw0 : wrap64 (39 + t403) = 39 + t403 := (by unfold wrap64; omega); have z_ := c27b0; simp only [hw0] at z_; exact z_)
            clear c27
            simp only [Option.some.injEq, Prod.mk.injEq] at H
            obtain ⟨rfl, rfl, rfl, rfl⟩ := H
            obtain ⟨Ao35, co35, eo35⟩ := Kd.yg_ HO_3.out
            subst eo35
            go_wp2_with (first | ((with_reducible refine zg_ (f := 53) rfl ?_); refine gl_ (some 36) Tryd.func53 #[.pointer (some ⟨g, 0, none⟩), .int .i64 3] ?_; (with_reducible refine (zs_.calls g s0_0 x1001_4 x1002_4 x1003_4 3 t403 t404 t405 t406 w0 _ ?side1 ?side2 A26.out).mono ?_); (case side1 => exact zJ_); (case side2 => exact belg_ (zi_.ge HI0.out)); rintro e w36 ⟨rfl, hi, hb, hk⟩; refine ⟨_, rfl, ?_⟩; replace HO_3 := AM (Kd.z9_ (Kd.xg_ (zi_.apart (show zi_ w0 _ g s0_0 x1001_4 x1002_4 x1003_4 from zJ_) (ro_ HO_3.out) (by decide)) hk (fun _ h => h.2)) (fun _ h => h.1)); replace HK := AM (kk_ w hk); replace HB := AM hb; replace HI0 := AM hi; (try clear hb); (try clear hk); (try clear hi)))
            go_ret
            exact ⟨_, ri_, ro_ HO_3.out, zJ_, belg_ (zi_.ge HI0.out), kp_⟩
        ·
         replace c24 := Bool.eq_false_iff.mpr c24
         subst c24
         rw [if_neg (show ¬ (false = true) by decide)] at H
         simp only [Option.some.injEq, Prod.mk.injEq] at H
         obtain ⟨rfl, rfl, rfl, rfl⟩ := H
         go_wp2_with (first | ((with_reducible refine zg_ (f := 91) rfl ?_); refine gl_ (some 32) Tryd.func91 #[.pointer (some ⟨g, 0, none⟩), .int .i64 40] ?_; (with_reducible refine (zG_.calls g s0_0 x1001_10 x1002_10 x1003_10 40 false t400 t401 t402 w0 _ ?side1 ?side2 A23.out).mono ?_); (case side1 => exact zJ_); (case side2 => exact belg_ (zi_.ge HI0.out)); rintro e w37 ⟨rfl, hi, hb, hk⟩; refine ⟨_, rfl, ?_⟩; replace HO_3 := AM (Kd.z9_ (Kd.xg_ (zi_.apart (show zi_ w0 _ g s0_0 x1001_10 x1002_10 x1003_10 from zJ_) (ro_ HO_3.out) (by decide)) hk (fun _ h => h.2)) (fun _ h => h.1)); replace HK := AM (kk_ w hk); replace HB := AM hb; replace HI0 := AM hi; (try clear hb); (try clear hk); (try clear hi)))
         go_ret
         exact ⟨_, ri_, ro_ HO_3.out, zJ_, belg_ (zi_.ge HI0.out), kp_⟩
/-! ### z8_: function 13 -/
def z8_.f (k : Nat) (l0 : List Int) : Option ((List (S60))) := (zD_.f k l0).bind fun bt411 => ((ze_.f k bt411.1 bt411.2.1 bt411.2.2.1 bt411.2.2.2).bind fun bt416 => (some bt416.1))
theorem z8_.mono : ∀ a0 k, LeO (z8_.f k a0) (z8_.f (k + 1) a0) := by
 intro a0 k
 unfold z8_.f
 repeat' with_reducible first | exact zD_.mono _ _ | exact ze_.mono _ _ _ _ _ | exact LeO.refl _ | exact LeO.none _ | refine LeO.ite ?_ ?_ | refine LeO.bind ?_ (fun _ => ?_)
theorem z8_.calls (k : Nat) (A0 : Option Addr) (c0 : Nat) (l0 : List Int) (r : List (S60)) (w : World) (hr0 : Kd.C (Kd.int .u8) w A0 l0.length l0) (hc0 : l0.length ≤ c0) (h : z8_.f k l0 = some r) :
 Calls Tryd.prog 13 #[.slice A0 l0.length c0] w fun e w' => ∃ v0_ : Value, e = .returned (v0_) ∧ Kd.R k60 60 w' w.heap.size (fun _ => True) v0_ r ∧ Below w.heap.size w w' := by
 have HR0 := AM hr0
 have HC0 := AM hc0
 clear hr0 hc0
 have HB := AM (Below.refl w.heap.size w)
 have H : ((zD_.f k l0).bind fun bt411 => ((ze_.f k bt411.1 bt411.2.1 bt411.2.2.1 bt411.2.2.2).bind fun bt416 => (some bt416.1))) = some r := h
 clear h
 obtain ⟨⟨t411, t412, t413, t414⟩, A2, H⟩ := OB H
 try dsimp only at H
 replace A2 := AM A2
 obtain ⟨⟨t416, t419, t420, t421⟩, A3, H⟩ := OB H
 try dsimp only at H
 replace A3 := AM A3
 obtain rfl := Option.some.inj H
 go_enter Tryd.func13, Tryd.ntmps13
 go_wp2_with (first | ((with_reducible refine zg_ (f := 47) rfl ?_); refine gl_ (some 4) Tryd.func47 #[.slice A0 l0.length c0] ?_; (with_reducible refine (zD_.calls k _ _ l0 t411 t412 t413 t414 w _ ?side1 ?side2 ?side3 A2.out).mono ?_); (case side1 => exact bel_); (case side2 => exact HR0.out); (case side3 => exact HC0.out); rintro e w4 ⟨g415, rfl, hi, hb, hb2⟩; refine ⟨_, rfl, ?_⟩; replace HB := AM hb; have HI415 := AM hi; (try clear hb); (try clear hb2); (try clear hi)) | ((with_reducible refine zg_ (f := 48) rfl ?_); refine gl_ (some 5) Tryd.func48 #[.pointer (some ⟨g415, 0, none⟩)] ?_; (with_reducible refine (ze_.calls k g415 t411 t412 t413 t414 t416 t419 t420 t421 w _ ?side1 ?side2 A3.out).mono ?_); (case side1 => exact zJ_); (case side2 => exact belg_ (zi_.ge HI415.out)); rintro e w5 ⟨v417, rfl, ho0, hi, hb, hk⟩; refine ⟨_, rfl, ?_⟩; have HO418 := AM (Kd.ya_ ho0 (zf_ (belg_ (zi_.ge HI415.out)))); replace HB := AM hb; replace HI415 := AM hi; (try clear hb); (try clear hk); (try clear hi); (try clear ho0)))
 go_ret
 exact ⟨_, ri_, ro_ HO418.out, belg_ (zi_.ge HI415.out)⟩
/-! ### yi_: function 14 -/
def yi_.f (k : Nat) (l0 : List (S60)) : Option (ByteArray) := (zH_.f k l0).bind fun bt422 => (if bt422.2 = true then (some bt422.1) else (some (⟨#[]⟩ : ByteArray)))
theorem yi_.mono : ∀ a0 k, LeO (yi_.f k a0) (yi_.f (k + 1) a0) := by
 intro a0 k
 unfold yi_.f
 repeat' with_reducible first | exact zH_.mono _ _ | exact LeO.refl _ | exact LeO.none _ | refine LeO.ite ?_ ?_ | refine LeO.bind ?_ (fun _ => ?_)
theorem yi_.calls (k : Nat) (A0 : Option Addr) (c0 : Nat) (l0 : List (S60)) (r : ByteArray) (w : World) (hr0 : Kd.C k60 w A0 l0.length l0) (hc0 : l0.length ≤ c0) (h : yi_.f k l0 = some r) (hL : Hand.LaidG w := by first | exact hL | exact Hand.LaidG.below hL bel_) :
 Calls Tryd.prog 14 #[.slice A0 l0.length c0] w fun e w' => e = .returned (.string r) ∧ Below w.heap.size w w' := by
 have HR0 := AM hr0
 have HC0 := AM hc0
 clear hr0 hc0
 have HB := AM (Below.refl w.heap.size w)
 have H : ((zH_.f k l0).bind fun bt422 => (if bt422.2 = true then (some bt422.1) else (some (⟨#[]⟩ : ByteArray)))) = some r := h
 clear h
 obtain ⟨⟨t422, t423⟩, A2, H⟩ := OB H
 try dsimp only at H
 replace A2 := AM A2
 by_cases c3 : t423 = true
 ·
  subst c3
  rw [if_pos rfl] at H
  obtain rfl := Option.some.inj H
  go_enter Tryd.func14, Tryd.ntmps14
  go_wp2_with (first | ((with_reducible refine zg_ (f := 49) rfl ?_); refine gl_ (some 7) Tryd.func49 #[.slice A0 l0.length c0] ?_; (with_reducible refine (zH_.calls k _ _ l0 t422 true _ ?side1 ?side2 A2.out).mono ?_); (case side1 => repeat (first | exact HR0.out | (with_reducible refine Kd.yo_ ?_ _) | (with_reducible refine Kd.yn_ ?_ _) | (with_reducible refine Kd.yz_ ?_))); (case side2 => exact HC0.out); rintro e w4 ⟨rfl, hb⟩; refine ⟨_, rfl, ?_⟩; replace HB := AM (zc_ bel_ hb); (try clear hb)))
  go_ret
  exact ⟨ri_, bel_⟩
 ·
  replace c3 := Bool.eq_false_iff.mpr c3
  subst c3
  rw [if_neg (show ¬ (false = true) by decide)] at H
  obtain rfl := Option.some.inj H
  go_enter Tryd.func14, Tryd.ntmps14
  go_wp2_with (first | ((with_reducible refine zg_ (f := 49) rfl ?_); refine gl_ (some 7) Tryd.func49 #[.slice A0 l0.length c0] ?_; (with_reducible refine (zH_.calls k _ _ l0 t422 false _ ?side1 ?side2 A2.out).mono ?_); (case side1 => repeat (first | exact HR0.out | (with_reducible refine Kd.yo_ ?_ _) | (with_reducible refine Kd.yn_ ?_ _) | (with_reducible refine Kd.yz_ ?_))); (case side2 => exact HC0.out); rintro e w5 ⟨rfl, hb⟩; refine ⟨_, rfl, ?_⟩; replace HB := AM (zc_ bel_ hb); (try clear hb)))
  go_ret
  exact ⟨ri_, bel_⟩
/-! ### z2_: function 15 -/
def z2_.f (k : Nat) (l0 : List (S60)) : Option (ByteArray) := if (l0.length : Int) > 400 then (some (⟨#[]⟩ : ByteArray)) else ((zp_.f k l0).bind fun bt424 => (if bt424.2 = true then (some bt424.1) else (some (⟨#[]⟩ : ByteArray))))
theorem z2_.mono : ∀ a0 k, LeO (z2_.f k a0) (z2_.f (k + 1) a0) := by
 intro a0 k
 unfold z2_.f
 repeat' with_reducible first | exact zp_.mono _ _ | exact LeO.refl _ | exact LeO.none _ | refine LeO.ite ?_ ?_ | refine LeO.bind ?_ (fun _ => ?_)
theorem z2_.calls (k : Nat) (A0 : Option Addr) (c0 : Nat) (l0 : List (S60)) (r : ByteArray) (w : World) (hr0 : Kd.C k60 w A0 l0.length l0) (hc0 : l0.length ≤ c0) (h : z2_.f k l0 = some r) :
 Calls Tryd.prog 15 #[.slice A0 l0.length c0] w fun e w' => e = .returned (.string r) ∧ Below w.heap.size w w' := by
 have HR0 := AM hr0
 have HC0 := AM hc0
 clear hr0 hc0
 have HB := AM (Below.refl w.heap.size w)
 have H : (if (l0.length : Int) > 400 then (some (⟨#[]⟩ : ByteArray)) else ((zp_.f k l0).bind fun bt424 => (if bt424.2 = true then (some bt424.1) else (some (⟨#[]⟩ : ByteArray))))) = some r := h
 clear h
 by_cases c2 : (l0.length : Int) > 400
 ·
  rw [if_pos c2] at H
  have c2b0 : decide (400 < (l0.length : Int)) = true := decide_eq_true c2
  have c2b1 : decide (400 < l0.length) = true := decide_eq_true (by omega)
  clear c2
  obtain rfl := Option.some.inj H
  go_enter Tryd.func15, Tryd.ntmps15
  go_wp2
  go_ret
  exact ⟨ri_, bel_⟩
 ·
  rw [if_neg c2] at H
  have c2b0 : decide (400 < (l0.length : Int)) = false := decide_eq_false c2
  have c2b1 : decide (400 < l0.length) = false := decide_eq_false (by omega)
  clear c2
  obtain ⟨⟨t424, t425⟩, A3, H⟩ := OB H
  try dsimp only at H
  replace A3 := AM A3
  by_cases c4 : t425 = true
  ·
   subst c4
   rw [if_pos rfl] at H
   obtain rfl := Option.some.inj H
   go_enter Tryd.func15, Tryd.ntmps15
   go_wp2_with (first | ((with_reducible refine zg_ (f := 50) rfl ?_); refine gl_ (some 10) Tryd.func50 #[.slice A0 l0.length c0] ?_; (with_reducible refine (zp_.calls k _ _ l0 t424 true _ ?side1 ?side2 A3.out).mono ?_); (case side1 => repeat (first | exact HR0.out | (with_reducible refine Kd.yo_ ?_ _) | (with_reducible refine Kd.yn_ ?_ _) | (with_reducible refine Kd.yz_ ?_))); (case side2 => exact HC0.out); rintro e w5 ⟨rfl, hb⟩; refine ⟨_, rfl, ?_⟩; replace HB := AM (zc_ bel_ hb); (try clear hb)))
   go_ret
   exact ⟨ri_, bel_⟩
  ·
   replace c4 := Bool.eq_false_iff.mpr c4
   subst c4
   rw [if_neg (show ¬ (false = true) by decide)] at H
   obtain rfl := Option.some.inj H
   go_enter Tryd.func15, Tryd.ntmps15
   go_wp2_with (first | ((with_reducible refine zg_ (f := 50) rfl ?_); refine gl_ (some 10) Tryd.func50 #[.slice A0 l0.length c0] ?_; (with_reducible refine (zp_.calls k _ _ l0 t424 false _ ?side1 ?side2 A3.out).mono ?_); (case side1 => repeat (first | exact HR0.out | (with_reducible refine Kd.yo_ ?_ _) | (with_reducible refine Kd.yn_ ?_ _) | (with_reducible refine Kd.yz_ ?_))); (case side2 => exact HC0.out); rintro e w6 ⟨rfl, hb⟩; refine ⟨_, rfl, ?_⟩; replace HB := AM (zc_ bel_ hb); (try clear hb)))
   go_ret
   exact ⟨ri_, bel_⟩
/-! ### zV_: function 17 -/
def zV_.l0 : Nat → List (S60) → List (S60) → Int → Option (Bool)
 | 0, _, _, _ => none
 | k + 1, x0, x1, x5 => if x5 < (x0.length : Int) then (if 0 ≤ x5 then (if x5 < (x1.length : Int) then (if (!(((zE_ x0 x5).f0) == ((zE_ x1 x5).f0)) || (!((((zE_ x0 x5).f1).toList) == (((zE_ x1 x5).f1).toList)))) = true then (some false) else (zV_.l0 k x0 x1 (wrap64 (x5 + 1)))) else (none)) else (none)) else (some true)
def zV_.f (k : Nat) (l0 : List (S60)) (l1 : List (S60)) : Option (Bool) := if (l0.length : Int) = (l1.length : Int) then (zV_.l0 k l0 l1 0) else (some false)
theorem zV_.mono_l : ∀ k, (∀ y0 y1 y2, LeO (zV_.l0 k y0 y1 y2) (zV_.l0 (k + 1) y0 y1 y2))
 | 0 => fun _ _ _ r h => by simp [zV_.l0] at h
 | k + 1 => by
  have ih0 := zV_.mono_l k
  ·
   intro y0 y1 y2
   unfold zV_.l0
   repeat' with_reducible first | exact ih0 _ _ _ | exact LeO.refl _ | exact LeO.none _ | refine LeO.ite ?_ ?_ | refine LeO.bind ?_ (fun _ => ?_)
theorem zV_.mono : ∀ a0 a1 k, LeO (zV_.f k a0 a1) (zV_.f (k + 1) a0 a1) := by
 intro a0 a1 k
 have ih0 := zV_.mono_l k
 unfold zV_.f
 repeat' with_reducible first | exact ih0 _ _ _ | exact LeO.refl _ | exact LeO.none _ | refine LeO.ite ?_ ?_ | refine LeO.bind ?_ (fun _ => ?_)
theorem zV_.calls (k : Nat) (A0 : Option Addr) (c0 : Nat) (l0 : List (S60)) (A1 : Option Addr) (c1 : Nat) (l1 : List (S60)) (r : Bool) (w : World) (hr0 : Kd.C k60 w A0 l0.length l0) (hc0 : l0.length ≤ c0) (hr1 : Kd.C k60 w A1 l1.length l1) (hc1 : l1.length ≤ c1) (h : zV_.f k l0 l1 = some r) :
 Calls Tryd.prog 17 #[.slice A0 l0.length c0, .slice A1 l1.length c1] w fun e w' => e = .returned (.bool r) ∧ yO_ w w' := by
 have hu60 := Tryd.underlying60
 have HR0 := AM hr0
 have HC0 := AM hc0
 clear hr0 hc0
 have HR1 := AM hr1
 have HC1 := AM hc1
 clear hr1 hc1
 have H : (if (l0.length : Int) = (l1.length : Int) then (zV_.l0 k l0 l1 0) else (some false)) = some r := h
 clear h
 by_cases c3 : (l0.length : Int) = (l1.length : Int)
 ·
  rw [if_pos c3] at H
  have c3b0 : ((l0.length : Int) == (l1.length : Int)) = true := beq_iff_eq.mpr c3
  have c3b1 : ((l0.length : Int) != (l1.length : Int)) = false := bne_eq_false_iff_eq.mpr c3
  have c3b2 : (l0.length == l1.length) = true := by first | simpa using c3 | (simp at c3 ⊢; omega)
  clear c3
  have H' := AM H
  clear H
  go_enter Tryd.func17, Tryd.ntmps17
  go_wp2
  repeat (go_quiet (fail); try go_wp2)
  go_loopg [5] k (fun kq v5 w' => ∃ (x5_1 : Int), v5 = .int .i64 x5_1 ∧ zd_ (zV_.l0 kq l0 l1 x5_1 = some r) ∧ zd_ (kq ≤ k) ∧ yO_ w w')
  case atStart => exact ⟨(0), re_, H', ⟨Nat.le_refl _⟩, dr_⟩
  case round =>
   clear H'
   (try clear c1); (try clear c3b0); (try clear c3b1); (try clear c3b2)
   obtain ⟨x5_1, rfl, HA, HK1, ⟨m1, rfl⟩⟩ := hrel
   cases gk with
   | zero => exact absurd HA.out (by simp [zV_.l0])
   | succ k1 =>
    have H := HA.out
    clear HA
    simp only [zV_.l0] at H
    by_cases c4 : x5_1 < (l0.length : Int)
    ·
     rw [if_pos c4] at H
     have c4b0 : decide (x5_1 < (l0.length : Int)) = true := decide_eq_true c4
     clear c4
     by_cases c5 : 0 ≤ x5_1
     ·
      rw [if_pos c5] at H
      have c5b0 : decide (0 ≤ x5_1) = true := decide_eq_true c5
      clear c5
      by_cases c6 : x5_1 < (l1.length : Int)
      ·
       rw [if_pos c6] at H
       have c6b0 : decide (x5_1 < (l1.length : Int)) = true := decide_eq_true c6
       clear c6
       by_cases c7 : (!(((zE_ l0 x5_1).f0) == ((zE_ l1 x5_1).f0)) || (!((((zE_ l0 x5_1).f1).toList) == (((zE_ l1 x5_1).f1).toList)))) = true
       ·
        rw [if_pos c7] at H
        have c7b0 : (!(((zE_ l0 x5_1).f0) == ((zE_ l1 x5_1).f0)) || (!((((zE_ l0 x5_1).f1).toList) == (((zE_ l1 x5_1).f1).toList)))) = true := c7
        try have c7p : (((zE_ l0 x5_1).f0) = ((zE_ l1 x5_1).f0) ∧ (((zE_ l0 x5_1).f1).toList) = (((zE_ l1 x5_1).f1).toList)) = False := eq_false (fun q_ => by have z_ := c7b0; simp [q_.1, q_.2] at z_)
        clear c7
        obtain rfl := Option.some.inj H
        have p426 : 0 ≤ (x5_1 : Int) := of_decide_eq_true asm_
        have q426 : x5_1 < (l0.length : Int) := of_decide_eq_true asm_
        obtain ⟨ad426, e426, hx426_0, hx426_1⟩ := at_T60 HR0.out x5_1 p426 q426
        cases e426
        replace p426 := eq_true p426
        replace q426 := eq_true q426
        have p427 : 0 ≤ (x5_1 : Int) := of_decide_eq_true asm_
        have q427 : x5_1 < (l1.length : Int) := of_decide_eq_true asm_
        obtain ⟨ad427, e427, hx427_0, hx427_1⟩ := at_T60 HR1.out x5_1 p427 q427
        cases e427
        replace p427 := eq_true p427
        replace q427 := eq_true q427
        go_wp2
        repeat (go_quiet (fail); try go_wp2)
        go_ret
        exact ⟨re_, dr_⟩
       ·
        rw [if_neg c7] at H
        have c7b0 : (!(((zE_ l0 x5_1).f0) == ((zE_ l1 x5_1).f0)) || (!((((zE_ l0 x5_1).f1).toList) == (((zE_ l1 x5_1).f1).toList)))) = false := by simpa using c7
        try have c7p : (((zE_ l0 x5_1).f0) = ((zE_ l1 x5_1).f0) ∧ (((zE_ l0 x5_1).f1).toList) = (((zE_ l1 x5_1).f1).toList)) = True := eq_true (by have z_ := c7b0; simpa [] using z_)
        clear c7
        have H' := AM H
        clear H
        have p426 : 0 ≤ (x5_1 : Int) := of_decide_eq_true asm_
        have q426 : x5_1 < (l0.length : Int) := of_decide_eq_true asm_
        obtain ⟨ad426, e426, hx426_0, hx426_1⟩ := at_T60 HR0.out x5_1 p426 q426
        cases e426
        replace p426 := eq_true p426
        replace q426 := eq_true q426
        have p427 : 0 ≤ (x5_1 : Int) := of_decide_eq_true asm_
        have q427 : x5_1 < (l1.length : Int) := of_decide_eq_true asm_
        obtain ⟨ad427, e427, hx427_0, hx427_1⟩ := at_T60 HR1.out x5_1 p427 q427
        cases e427
        replace p427 := eq_true p427
        replace q427 := eq_true q427
        go_wp2
        repeat (go_quiet (fail); try go_wp2)
        go_roundg k1
        case measure => have := HK1.out; omega
        case rel => exact ⟨(wrap64 (x5_1 + 1)), re_, H', ⟨by have := HK1.out; omega⟩, dr_⟩
      ·
       rw [if_neg c6] at H
       exact absurd H (by simp)
     ·
      rw [if_neg c5] at H
      exact absurd H (by simp)
    ·
     rw [if_neg c4] at H
     have c4b0 : decide (x5_1 < (l0.length : Int)) = false := decide_eq_false c4
     clear c4
     obtain rfl := Option.some.inj H
     go_wp2
     repeat (go_quiet (fail); try go_wp2)
     go_ret
     exact ⟨re_, dr_⟩
 ·
  rw [if_neg c3] at H
  have c3b0 : ((l0.length : Int) == (l1.length : Int)) = false := beq_eq_false_iff_ne.mpr c3
  have c3b1 : ((l0.length : Int) != (l1.length : Int)) = true := bne_iff_ne.mpr c3
  have c3b2 : (l0.length == l1.length) = false := by first | simpa using c3 | (simp at c3 ⊢; omega)
  obtain rfl := Option.some.inj H
  go_enter Tryd.func17, Tryd.ntmps17
  go_wp2
  repeat (go_quiet (fail); try go_wp2)
  go_ret
  exact ⟨re_, dr_⟩
end Go.Proofs.YtfffdndeccipnaaDoor.PFnPack
