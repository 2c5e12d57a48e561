/- Functions of the law FnPack: the print's, with walks of this session's own. No statement is proved here. -/
import Derived.WalkLawsBesides
import Derived.Test.YtfffdndeccipnaaDoorPFnPackx11
import Derived.BigRegion
import Derived.ChangeAlike
import Derived.RegionTactic
namespace Go.Proofs.YtfffdndeccipnaaDoor.PFnPack
open Go.RowKit Go.Proofs.YtfffdndeccipnaaDoorW.PrintWords Go.Proofs.YtfffdndeccipnaaDoorW.PrintLast Go.Proofs.YtfffdndeccipnaaDoorW.PrintMore Go.Proofs.YtfffdndeccipnaaDoor.Reg Go.Proofs.YtfffdndeccipnaaDoor.Aut
attribute [local go_sem] max2_int min2_int max_two min_two y9_ y8_ max_four min_four
set_option linter.unusedVariables false
set_option linter.unusedSimpArgs false
set_option maxHeartbeats 8000000
set_option maxRecDepth 100000
/-! ### zB_: function 86 -/
def zB_.f (k : Nat) (s0_0 : ByteArray) (s0_1 : Int) (s0_2 : Bool) : Option (ByteArray × ByteArray × Int × Bool) := (zK_.f k s0_0 s0_1).bind fun bt275 => (if s0_2 = true then (some ((⟨#[]⟩ : ByteArray), s0_0, s0_1, true)) else (if bt275.2.2 = 0 then (some (bt275.1, s0_0, bt275.2.1, s0_2)) else (some ((⟨#[]⟩ : ByteArray), s0_0, s0_1, true))))
theorem zB_.mono : ∀ a0 a1 a2 k, LeO (zB_.f k a0 a1 a2) (zB_.f (k + 1) a0 a1 a2) := by
 intro a0 a1 a2 k
 unfold zB_.f
 repeat' with_reducible first | exact zK_.mono _ _ _ | exact LeO.refl _ | exact LeO.none _ | refine LeO.ite ?_ ?_ | refine LeO.bind ?_ (fun _ => ?_)
def zB_.T1 : Bool × List (List Nat × List Nat) := (true, [([], []), ([0], [0]), ([1], [1]), ([2], [2]), ([], []), ([4], [4]), ([5], [5]), ([6], [6]), ([3, 7], [3, 7]), ([], []), ([9, 8, 8, 0, 1, 2, 3, 4, 5, 6, 7, 8, 9], [8, 9])])
def zB_.B1 : List Nat := [0, 1, 3, 7, 0, 16, 48, 112, 255, 0, 1023]
theorem zB_.tab1 : rtab .any (opsOf Tryd.f86 1) = zB_.T1 := by kernel_rfl
theorem zB_.bits1 : yR_ zB_.T1.2 zB_.B1 = true := by kernel_rfl
theorem zB_.calls (k : Nat) (g : Nat) (s0_0 : ByteArray) (s0_1 : Int) (s0_2 : Bool) (r1 : ByteArray) (r2 : ByteArray) (r3 : Int) (r4 : Bool) (w0 w : World) (hI : zj_ w0 w g s0_0 s0_1 s0_2) (hB : Below w0.heap.size w0 w) (h : zB_.f k s0_0 s0_1 s0_2 = some (r1, r2, r3, r4)) :
 Calls Tryd.prog 86 #[.pointer (some ⟨g, 0, none⟩)] w fun e w' => e = .returned (.string r1) ∧ zj_ w0 w' g r2 r3 r4 ∧ Below w0.heap.size w0 w' ∧ zw_ w w' g none := by
 have hu138 := Tryd.underlying138
 have HI0 := AM hI
 have HK := AM (zw_.refl w g none)
 have HL := AM hB.size
 clear hI
 have HW0 := AM hB.size
 have HB := AM hB
 clear hB
 have H : ((zK_.f k s0_0 s0_1).bind fun bt275 => (if s0_2 = true then (some ((⟨#[]⟩ : ByteArray), s0_0, s0_1, true)) else (if bt275.2.2 = 0 then (some (bt275.1, s0_0, bt275.2.1, s0_2)) else (some ((⟨#[]⟩ : ByteArray), s0_0, s0_1, true))))) = some (r1, r2, r3, r4) := h
 clear h
 obtain ⟨⟨t275, t276, t277⟩, A2, H⟩ := OB H
 try dsimp only at H
 replace A2 := AM A2
 by_cases c3 : s0_2 = true
 ·
  subst c3
  rw [if_pos rfl] at H
  simp only [Option.some.injEq, Prod.mk.injEq] at H
  obtain ⟨rfl, rfl, rfl, rfl⟩ := H
  go_enter Tryd.func86, Tryd.ntmps86
  try go_wp2
  replace HI0 := AM (zj_.drew HI0.out)
  replace HK := AM (xd_ HK.out)
  replace HB := AM (zF_ HB.out)
  refine yU_ (n := 11) (S := fun w' => w'.cell? ⟨g, 0, none⟩ = some (.string s0_0) ∧ w'.cell? ⟨g, 1, none⟩ = some (.int .i64 s0_1) ∧ w'.cell? ⟨g, 2, none⟩ = some (.bool true)) (ds := []) (Array.replicate 11 false) (by kernel_rfl) rfl rfl ⟨(zR_ HI0.out.1), (zQ_ HI0.out.1), (zP_ HI0.out.1)⟩ (fun hHeld => ?_); refine yx_ zB_.tab1 zB_.bits1 (fun HT_ HW_ => ?_)
  generalize w.drew = w4 at HI0 HK HB hHeld ⊢
  refine pu_ HT_ 0 (some 4) (bA 11 1) ?_
  refine pu_ HT_ 1 (some 5) (bA 11 3) ?_
  refine pu_ HT_ 2 (some 6) (bA 11 7) ?_
  refine pu_ HT_ 4 (some 8) (bA 11 23) ?_
  refine pu_ HT_ 5 (some 9) (bA 11 55) ?_
  refine pu_ HT_ 6 (some 10) (bA 11 119) ?_
  refine ta_ HT_ HW_ 3 (some 7) (bA 11 127) hHeld ?_
  refine ta_ HT_ HW_ 7 (some 11) (bA 11 255) hHeld ?_
  refine join_ (σ := Nat) 1 #[true, true, true, true, true, true, true, true, true, true, false] (fun s_ => [(12, .agg #[.string t275, .int .i64 t276, .int .i64 t277]), (3, .pointer (some ⟨s_, 0, none⟩))]) (fun s_ w' => (w'.cell? ⟨g, 0, none⟩ = some (.string s0_0) ∧ w'.cell? ⟨g, 1, none⟩ = some (.int .i64 s0_1) ∧ w'.cell? ⟨g, 2, none⟩ = some (.bool true)) ∧ (w'.heap[s_]? = some (.cells #[.string (⟨#[]⟩ : ByteArray), .int .i64 0, .int .i64 0] 138 (0, 0))) ∧ (w.heap.size ≤ s_) ∧ (w0.heap.size ≤ s_) ∧ (g ≠ s_) ∧ (s_ ≠ g) ∧ (zj_ w0 w' g s0_0 s0_1 true) ∧ (zw_ w w' g none) ∧ (Below w0.heap.size w0 w')) ?_ ?_
  rotate_left
  ·
   intro hCont
   refine tw_ HT_ 8 9 (some 12) (some 3) (bA 11 511) (bA 11 767) (fun K hK => ?_) (fun K hK => ?_)
   ·
    skip
    refine go1_ Tryd.func121 #[.string s0_0, .int .i64 s0_1] ?_
    with_reducible refine (zK_.calls k s0_0 s0_1 t275 t276 t277 _ A2.out).mono ?_
    rintro e w5 ⟨rfl, hb⟩
    refine ⟨_, rfl, ?_⟩
    replace HK := AM (kb_ w g hb)
    replace HB := AM (zc_ (belg_ (zj_.ge HI0.out)) hb)
    replace HI0 := AM (zj_.below z5_ hb)
    (try clear hb)
    refine hK.out _ _ ⟨(zR_ HI0.out.1), (zQ_ HI0.out.1), (zP_ HI0.out.1)⟩ (fun hHeld => ?_)
    clear hK K
    refine nm_ ?_
    refine on_ HT_ 9 (some 3) (bA 11 1023) (fun K hK => ?_)
    refine bs_ 3 #[.string (⟨#[]⟩ : ByteArray), .int .i64 0, .int .i64 0] 138 ?_
    intro gb278 hg w6 hbox hb
    replace HB := AM (zc_ (belg_ (zj_.ge HI0.out)) hb)
    have BK278 := AM hbox
    have GW278 := AM ((by rw [hg]; exact (z3_ (w := w) (g := g) (row := none) kp_) : w.heap.size ≤ gb278))
    have GE278 := AM ((Nat.le_trans HW0.out (by rw [hg]; exact (z3_ (w := w) (g := g) (row := none) kp_) : w.heap.size ≤ gb278) : w0.heap.size ≤ gb278))
    replace HK := AM (kb_ w g hb)
    have NB0_278 := AM ((by rw [hg]; exact Nat.ne_of_lt (zj_.lt (show zj_ w0 _ g s0_0 s0_1 true from z5_)) : g ≠ gb278))
    have NB278_0 := AM ((by rw [hg]; exact Nat.ne_of_gt (zj_.lt (show zj_ w0 _ g s0_0 s0_1 true from z5_)) : gb278 ≠ g))
    replace HI0 := AM (zj_.below z5_ hb)
    clear hb hbox hg
    refine hK.out _ _ ⟨(zR_ HI0.out.1), (zQ_ HI0.out.1), (zP_ HI0.out.1)⟩ (fun hHeld => ?_)
    clear hK K
    refine nm_ ?_
    exact nmE_ (hCont (gb278) _ ⟨hHeld, (bk_ BK278.out), GW278.out, GE278.out, NB0_278.out, NB278_0.out, z5_, kp_, (belg_ (zj_.ge HI0.out))⟩)
   ·
    skip
    refine bs_ 3 #[.string (⟨#[]⟩ : ByteArray), .int .i64 0, .int .i64 0] 138 ?_
    intro gb278 hg w5 hbox hb
    replace HB := AM (zc_ (belg_ (zj_.ge HI0.out)) hb)
    have BK278 := AM hbox
    have GW278 := AM ((by rw [hg]; exact (z3_ (w := w) (g := g) (row := none) kp_) : w.heap.size ≤ gb278))
    have GE278 := AM ((Nat.le_trans HW0.out (by rw [hg]; exact (z3_ (w := w) (g := g) (row := none) kp_) : w.heap.size ≤ gb278) : w0.heap.size ≤ gb278))
    replace HK := AM (kb_ w g hb)
    have NB0_278 := AM ((by rw [hg]; exact Nat.ne_of_lt (zj_.lt (show zj_ w0 _ g s0_0 s0_1 true from z5_)) : g ≠ gb278))
    have NB278_0 := AM ((by rw [hg]; exact Nat.ne_of_gt (zj_.lt (show zj_ w0 _ g s0_0 s0_1 true from z5_)) : gb278 ≠ g))
    replace HI0 := AM (zj_.below z5_ hb)
    clear hb hbox hg
    refine hK.out _ _ ⟨(zR_ HI0.out.1), (zQ_ HI0.out.1), (zP_ HI0.out.1)⟩ (fun hHeld => ?_)
    clear hK K
    refine nm_ ?_
    refine on_ HT_ 8 (some 12) (bA 11 1023) (fun K hK => ?_)
    refine go1_ Tryd.func121 #[.string s0_0, .int .i64 s0_1] ?_
    with_reducible refine (zK_.calls k s0_0 s0_1 t275 t276 t277 _ A2.out).mono ?_
    rintro e w6 ⟨rfl, hb⟩
    refine ⟨_, rfl, ?_⟩
    replace BK278 := AM (zh_ (g := gb278) (o := .cells #[.string (⟨#[]⟩ : ByteArray), .int .i64 0, .int .i64 0] 138 (0, 0)) (bk_ BK278.out) hb)
    replace HK := AM (kb_ w g hb)
    replace HB := AM (zc_ (belg_ (zj_.ge HI0.out)) hb)
    replace HI0 := AM (zj_.below z5_ hb)
    (try clear hb)
    refine hK.out _ _ ⟨(zR_ HI0.out.1), (zQ_ HI0.out.1), (zP_ HI0.out.1)⟩ (fun hHeld => ?_)
    clear hK K
    refine nm_ ?_
    exact nmE_ (hCont (gb278) _ ⟨hHeld, (bk_ BK278.out), GW278.out, GE278.out, NB0_278.out, NB278_0.out, z5_, kp_, (belg_ (zj_.ge HI0.out))⟩)
  rintro gb278 w7 ⟨hS_, h0_, h1_, h2_, h3_, h4_, h5_, h6_, h7_⟩
  have BK278 : zd_ (w7.heap[gb278]? = some (.cells #[.string (⟨#[]⟩ : ByteArray), .int .i64 0, .int .i64 0] 138 (0, 0))) := ⟨h0_⟩
  have GW278 : zd_ (w.heap.size ≤ gb278) := ⟨h1_⟩
  have GE278 : zd_ (w0.heap.size ≤ gb278) := ⟨h2_⟩
  have NB0_278 : zd_ (g ≠ gb278) := ⟨h3_⟩
  have NB278_0 : zd_ (gb278 ≠ g) := ⟨h4_⟩
  replace HI0 : zd_ (zj_ w0 w7 g s0_0 s0_1 true) := ⟨h5_⟩
  replace HK : zd_ (zw_ w w7 g none) := ⟨h6_⟩
  replace HB : zd_ (Below w0.heap.size w0 w7) := ⟨h7_⟩
  clear h0_ h1_ h2_ h3_ h4_ h5_ h6_ h7_
  have hHeld : w7.cell? ⟨g, 0, none⟩ = some (.string s0_0) ∧ w7.cell? ⟨g, 1, none⟩ = some (.int .i64 s0_1) ∧ w7.cell? ⟨g, 2, none⟩ = some (.bool true) := hS_
  refine nmA_ ?_
  refine on_ HT_ 10 none (bA 11 2047) (fun K hK => ?_)
  have hs8 : w7.cell? ⟨gb278, 0, none⟩ = some (.string (⟨#[]⟩ : ByteArray)) := (zb_ BK278.out 0).trans rfl
  have hfs8 := za_ BK278.out 0
  have hs9 : w7.cell? ⟨gb278, 1, none⟩ = some (.int .i64 0) := (zb_ BK278.out 1).trans rfl
  have hfs9 := za_ BK278.out 1
  have hs10 : w7.cell? ⟨gb278, 2, none⟩ = some (.int .i64 0) := (zb_ BK278.out 2).trans rfl
  have hfs10 := za_ BK278.out 2
  refine sk_ ?_
  refine hK.out _ _ ⟨(by (rw [cell_far, cell_far, cell_far]) <;> first | exact hHeld.1 | exact NB0_278.out), (by (rw [cell_far, cell_far, cell_far]) <;> first | exact hHeld.2.1 | exact NB0_278.out), (by (rw [cell_far, cell_far, cell_far]) <;> first | exact hHeld.2.2 | exact NB0_278.out)⟩ (fun hHeld => ?_)
  clear hK K
  refine dn_ HT_ ?_
  obtain ⟨HGz11, hgz11⟩ := HI0.out
  have hcz11_0 := zR_ HGz11
  have hcz11_1 := zQ_ HGz11
  have hcz11_2 := zP_ HGz11
  have hfz11_0 := za_ HGz11 0
  have hfz11_1 := za_ HGz11 1
  have hfz11_2 := za_ HGz11 2
  clear HGz11 hgz11
  try go_wp2
  go_ret
  exact ⟨ri_, z5_, belg_ (zj_.ge HI0.out), kp_⟩
 ·
  replace c3 := Bool.eq_false_iff.mpr c3
  subst c3
  rw [if_neg (show ¬ (false = true) by decide)] at H
  by_cases c12 : t277 = 0
  ·
   rw [if_pos c12] at H
   have c12b0 : (t277 == 0) = true := beq_iff_eq.mpr c12
   have c12b1 : (t277 != 0) = false := bne_eq_false_iff_eq.mpr c12
   clear c12
   simp only [Option.some.injEq, Prod.mk.injEq] at H
   obtain ⟨rfl, rfl, rfl, rfl⟩ := H
   go_enter Tryd.func86, Tryd.ntmps86
   try go_wp2
   replace HI0 := AM (zj_.drew HI0.out)
   replace HK := AM (xd_ HK.out)
   replace HB := AM (zF_ HB.out)
   refine yU_ (n := 11) (S := fun w' => w'.cell? ⟨g, 0, none⟩ = some (.string s0_0) ∧ w'.cell? ⟨g, 1, none⟩ = some (.int .i64 s0_1) ∧ w'.cell? ⟨g, 2, none⟩ = some (.bool false)) (ds := []) (Array.replicate 11 false) (by kernel_rfl) rfl rfl ⟨(zR_ HI0.out.1), (zQ_ HI0.out.1), (zP_ HI0.out.1)⟩ (fun hHeld => ?_); refine yx_ zB_.tab1 zB_.bits1 (fun HT_ HW_ => ?_)
   generalize w.drew = w13 at HI0 HK HB hHeld ⊢
   refine pu_ HT_ 0 (some 4) (bA 11 1) ?_
   refine pu_ HT_ 1 (some 5) (bA 11 3) ?_
   refine pu_ HT_ 2 (some 6) (bA 11 7) ?_
   refine pu_ HT_ 4 (some 8) (bA 11 23) ?_
   refine pu_ HT_ 5 (some 9) (bA 11 55) ?_
   refine pu_ HT_ 6 (some 10) (bA 11 119) ?_
   refine ta_ HT_ HW_ 3 (some 7) (bA 11 127) hHeld ?_
   refine ta_ HT_ HW_ 7 (some 11) (bA 11 255) hHeld ?_
   refine join_ (σ := Nat) 1 #[true, true, true, true, true, true, true, true, true, true, false] (fun s_ => [(12, .agg #[.string t275, .int .i64 t276, .int .i64 t277]), (3, .pointer (some ⟨s_, 0, none⟩))]) (fun s_ w' => (w'.cell? ⟨g, 0, none⟩ = some (.string s0_0) ∧ w'.cell? ⟨g, 1, none⟩ = some (.int .i64 s0_1) ∧ w'.cell? ⟨g, 2, none⟩ = some (.bool false)) ∧ (w'.heap[s_]? = some (.cells #[.string (⟨#[]⟩ : ByteArray), .int .i64 0, .int .i64 0] 138 (0, 0))) ∧ (w.heap.size ≤ s_) ∧ (w0.heap.size ≤ s_) ∧ (g ≠ s_) ∧ (s_ ≠ g) ∧ (zj_ w0 w' g s0_0 s0_1 false) ∧ (zw_ w w' g none) ∧ (Below w0.heap.size w0 w')) ?_ ?_
   rotate_left
   ·
    intro hCont
    refine tw_ HT_ 8 9 (some 12) (some 3) (bA 11 511) (bA 11 767) (fun K hK => ?_) (fun K hK => ?_)
    ·
     skip
     refine go1_ Tryd.func121 #[.string s0_0, .int .i64 s0_1] ?_
     with_reducible refine (zK_.calls k s0_0 s0_1 t275 t276 t277 _ A2.out).mono ?_
     rintro e w14 ⟨rfl, hb⟩
     refine ⟨_, rfl, ?_⟩
     replace HK := AM (kb_ w g hb)
     replace HB := AM (zc_ (belg_ (zj_.ge HI0.out)) hb)
     replace HI0 := AM (zj_.below z5_ hb)
     (try clear hb)
     refine hK.out _ _ ⟨(zR_ HI0.out.1), (zQ_ HI0.out.1), (zP_ HI0.out.1)⟩ (fun hHeld => ?_)
     clear hK K
     refine nm_ ?_
     refine on_ HT_ 9 (some 3) (bA 11 1023) (fun K hK => ?_)
     refine bs_ 3 #[.string (⟨#[]⟩ : ByteArray), .int .i64 0, .int .i64 0] 138 ?_
     intro gb278 hg w15 hbox hb
     replace HB := AM (zc_ (belg_ (zj_.ge HI0.out)) hb)
     have BK278 := AM hbox
     have GW278 := AM ((by rw [hg]; exact (z3_ (w := w) (g := g) (row := none) kp_) : w.heap.size ≤ gb278))
     have GE278 := AM ((Nat.le_trans HW0.out (by rw [hg]; exact (z3_ (w := w) (g := g) (row := none) kp_) : w.heap.size ≤ gb278) : w0.heap.size ≤ gb278))
     replace HK := AM (kb_ w g hb)
     have NB0_278 := AM ((by rw [hg]; exact Nat.ne_of_lt (zj_.lt (show zj_ w0 _ g s0_0 s0_1 false from z5_)) : g ≠ gb278))
     have NB278_0 := AM ((by rw [hg]; exact Nat.ne_of_gt (zj_.lt (show zj_ w0 _ g s0_0 s0_1 false from z5_)) : gb278 ≠ g))
     replace HI0 := AM (zj_.below z5_ hb)
     clear hb hbox hg
     refine hK.out _ _ ⟨(zR_ HI0.out.1), (zQ_ HI0.out.1), (zP_ HI0.out.1)⟩ (fun hHeld => ?_)
     clear hK K
     refine nm_ ?_
     exact nmE_ (hCont (gb278) _ ⟨hHeld, (bk_ BK278.out), GW278.out, GE278.out, NB0_278.out, NB278_0.out, z5_, kp_, (belg_ (zj_.ge HI0.out))⟩)
    ·
     skip
     refine bs_ 3 #[.string (⟨#[]⟩ : ByteArray), .int .i64 0, .int .i64 0] 138 ?_
     intro gb278 hg w14 hbox hb
     replace HB := AM (zc_ (belg_ (zj_.ge HI0.out)) hb)
     have BK278 := AM hbox
     have GW278 := AM ((by rw [hg]; exact (z3_ (w := w) (g := g) (row := none) kp_) : w.heap.size ≤ gb278))
     have GE278 := AM ((Nat.le_trans HW0.out (by rw [hg]; exact (z3_ (w := w) (g := g) (row := none) kp_) : w.heap.size ≤ gb278) : w0.heap.size ≤ gb278))
     replace HK := AM (kb_ w g hb)
     have NB0_278 := AM ((by rw [hg]; exact Nat.ne_of_lt (zj_.lt (show zj_ w0 _ g s0_0 s0_1 false from z5_)) : g ≠ gb278))
     have NB278_0 := AM ((by rw [hg]; exact Nat.ne_of_gt (zj_.lt (show zj_ w0 _ g s0_0 s0_1 false from z5_)) : gb278 ≠ g))
     replace HI0 := AM (zj_.below z5_ hb)
     clear hb hbox hg
     refine hK.out _ _ ⟨(zR_ HI0.out.1), (zQ_ HI0.out.1), (zP_ HI0.out.1)⟩ (fun hHeld => ?_)
     clear hK K
     refine nm_ ?_
     refine on_ HT_ 8 (some 12) (bA 11 1023) (fun K hK => ?_)
     refine go1_ Tryd.func121 #[.string s0_0, .int .i64 s0_1] ?_
     with_reducible refine (zK_.calls k s0_0 s0_1 t275 t276 t277 _ A2.out).mono ?_
     rintro e w15 ⟨rfl, hb⟩
     refine ⟨_, rfl, ?_⟩
     replace BK278 := AM (zh_ (g := gb278) (o := .cells #[.string (⟨#[]⟩ : ByteArray), .int .i64 0, .int .i64 0] 138 (0, 0)) (bk_ BK278.out) hb)
     replace HK := AM (kb_ w g hb)
     replace HB := AM (zc_ (belg_ (zj_.ge HI0.out)) hb)
     replace HI0 := AM (zj_.below z5_ hb)
     (try clear hb)
     refine hK.out _ _ ⟨(zR_ HI0.out.1), (zQ_ HI0.out.1), (zP_ HI0.out.1)⟩ (fun hHeld => ?_)
     clear hK K
     refine nm_ ?_
     exact nmE_ (hCont (gb278) _ ⟨hHeld, (bk_ BK278.out), GW278.out, GE278.out, NB0_278.out, NB278_0.out, z5_, kp_, (belg_ (zj_.ge HI0.out))⟩)
   rintro gb278 w16 ⟨hS_, h0_, h1_, h2_, h3_, h4_, h5_, h6_, h7_⟩
   have BK278 : zd_ (w16.heap[gb278]? = some (.cells #[.string (⟨#[]⟩ : ByteArray), .int .i64 0, .int .i64 0] 138 (0, 0))) := ⟨h0_⟩
   have GW278 : zd_ (w.heap.size ≤ gb278) := ⟨h1_⟩
   have GE278 : zd_ (w0.heap.size ≤ gb278) := ⟨h2_⟩
   have NB0_278 : zd_ (g ≠ gb278) := ⟨h3_⟩
   have NB278_0 : zd_ (gb278 ≠ g) := ⟨h4_⟩
   replace HI0 : zd_ (zj_ w0 w16 g s0_0 s0_1 false) := ⟨h5_⟩
   replace HK : zd_ (zw_ w w16 g none) := ⟨h6_⟩
   replace HB : zd_ (Below w0.heap.size w0 w16) := ⟨h7_⟩
   clear h0_ h1_ h2_ h3_ h4_ h5_ h6_ h7_
   have hHeld : w16.cell? ⟨g, 0, none⟩ = some (.string s0_0) ∧ w16.cell? ⟨g, 1, none⟩ = some (.int .i64 s0_1) ∧ w16.cell? ⟨g, 2, none⟩ = some (.bool false) := hS_
   refine nmA_ ?_
   refine on_ HT_ 10 none (bA 11 2047) (fun K hK => ?_)
   have hs17 : w16.cell? ⟨gb278, 0, none⟩ = some (.string (⟨#[]⟩ : ByteArray)) := (zb_ BK278.out 0).trans rfl
   have hfs17 := za_ BK278.out 0
   have hs18 : w16.cell? ⟨gb278, 1, none⟩ = some (.int .i64 0) := (zb_ BK278.out 1).trans rfl
   have hfs18 := za_ BK278.out 1
   have hs19 : w16.cell? ⟨gb278, 2, none⟩ = some (.int .i64 0) := (zb_ BK278.out 2).trans rfl
   have hfs19 := za_ BK278.out 2
   refine sk_ ?_
   refine hK.out _ _ ⟨(by (rw [cell_far, cell_far, cell_far]) <;> first | exact hHeld.1 | exact NB0_278.out), (by (rw [cell_far, cell_far, cell_far]) <;> first | exact hHeld.2.1 | exact NB0_278.out), (by (rw [cell_far, cell_far, cell_far]) <;> first | exact hHeld.2.2 | exact NB0_278.out)⟩ (fun hHeld => ?_)
   clear hK K
   refine dn_ HT_ ?_
   obtain ⟨HGz20, hgz20⟩ := HI0.out
   have hcz20_0 := zR_ HGz20
   have hcz20_1 := zQ_ HGz20
   have hcz20_2 := zP_ HGz20
   have hfz20_0 := za_ HGz20 0
   have hfz20_1 := za_ HGz20 1
   have hfz20_2 := za_ HGz20 2
   clear HGz20 hgz20
   have hnb21 := NB278_0.out
   have hnc21 := NB0_278.out
   have hcz22_0 : w16.cell? ⟨gb278, 0, none⟩ = some (.string (⟨#[]⟩ : ByteArray)) := (zb_ BK278.out 0).trans rfl
   have hcz22_1 : w16.cell? ⟨gb278, 1, none⟩ = some (.int .i64 0) := (zb_ BK278.out 1).trans rfl
   have hcz22_2 : w16.cell? ⟨gb278, 2, none⟩ = some (.int .i64 0) := (zb_ BK278.out 2).trans rfl
   have hfz22_0 := za_ BK278.out 0
   have hfz22_1 := za_ BK278.out 1
   have hfz22_2 := za_ BK278.out 2
   try go_wp2
   go_ret
   exact ⟨ri_, z5_, belg_ (zj_.ge HI0.out), kp_⟩
  ·
   rw [if_neg c12] at H
   have c12b0 : (t277 == 0) = false := beq_eq_false_iff_ne.mpr c12
   have c12b1 : (t277 != 0) = true := bne_iff_ne.mpr c12
   simp only [Option.some.injEq, Prod.mk.injEq] at H
   obtain ⟨rfl, rfl, rfl, rfl⟩ := H
   go_enter Tryd.func86, Tryd.ntmps86
   try go_wp2
   replace HI0 := AM (zj_.drew HI0.out)
   replace HK := AM (xd_ HK.out)
   replace HB := AM (zF_ HB.out)
   refine yU_ (n := 11) (S := fun w' => w'.cell? ⟨g, 0, none⟩ = some (.string s0_0) ∧ w'.cell? ⟨g, 1, none⟩ = some (.int .i64 s0_1) ∧ w'.cell? ⟨g, 2, none⟩ = some (.bool false)) (ds := []) (Array.replicate 11 false) (by kernel_rfl) rfl rfl ⟨(zR_ HI0.out.1), (zQ_ HI0.out.1), (zP_ HI0.out.1)⟩ (fun hHeld => ?_); refine yx_ zB_.tab1 zB_.bits1 (fun HT_ HW_ => ?_)
   generalize w.drew = w23 at HI0 HK HB hHeld ⊢
   refine pu_ HT_ 0 (some 4) (bA 11 1) ?_
   refine pu_ HT_ 1 (some 5) (bA 11 3) ?_
   refine pu_ HT_ 2 (some 6) (bA 11 7) ?_
   refine pu_ HT_ 4 (some 8) (bA 11 23) ?_
   refine pu_ HT_ 5 (some 9) (bA 11 55) ?_
   refine pu_ HT_ 6 (some 10) (bA 11 119) ?_
   refine ta_ HT_ HW_ 3 (some 7) (bA 11 127) hHeld ?_
   refine ta_ HT_ HW_ 7 (some 11) (bA 11 255) hHeld ?_
   refine join_ (σ := Nat) 1 #[true, true, true, true, true, true, true, true, true, true, false] (fun s_ => [(12, .agg #[.string t275, .int .i64 t276, .int .i64 t277]), (3, .pointer (some ⟨s_, 0, none⟩))]) (fun s_ w' => (w'.cell? ⟨g, 0, none⟩ = some (.string s0_0) ∧ w'.cell? ⟨g, 1, none⟩ = some (.int .i64 s0_1) ∧ w'.cell? ⟨g, 2, none⟩ = some (.bool false)) ∧ (w'.heap[s_]? = some (.cells #[.string (⟨#[]⟩ : ByteArray), .int .i64 0, .int .i64 0] 138 (0, 0))) ∧ (w.heap.size ≤ s_) ∧ (w0.heap.size ≤ s_) ∧ (g ≠ s_) ∧ (s_ ≠ g) ∧ (zj_ w0 w' g s0_0 s0_1 false) ∧ (zw_ w w' g none) ∧ (Below w0.heap.size w0 w')) ?_ ?_
   rotate_left
   ·
    intro hCont
    refine tw_ HT_ 8 9 (some 12) (some 3) (bA 11 511) (bA 11 767) (fun K hK => ?_) (fun K hK => ?_)
    ·
     skip
     refine go1_ Tryd.func121 #[.string s0_0, .int .i64 s0_1] ?_
     with_reducible refine (zK_.calls k s0_0 s0_1 t275 t276 t277 _ A2.out).mono ?_
     rintro e w24 ⟨rfl, hb⟩
     refine ⟨_, rfl, ?_⟩
     replace HK := AM (kb_ w g hb)
     replace HB := AM (zc_ (belg_ (zj_.ge HI0.out)) hb)
     replace HI0 := AM (zj_.below z5_ hb)
     (try clear hb)
     refine hK.out _ _ ⟨(zR_ HI0.out.1), (zQ_ HI0.out.1), (zP_ HI0.out.1)⟩ (fun hHeld => ?_)
     clear hK K
     refine nm_ ?_
     refine on_ HT_ 9 (some 3) (bA 11 1023) (fun K hK => ?_)
     refine bs_ 3 #[.string (⟨#[]⟩ : ByteArray), .int .i64 0, .int .i64 0] 138 ?_
     intro gb278 hg w25 hbox hb
     replace HB := AM (zc_ (belg_ (zj_.ge HI0.out)) hb)
     have BK278 := AM hbox
     have GW278 := AM ((by rw [hg]; exact (z3_ (w := w) (g := g) (row := none) kp_) : w.heap.size ≤ gb278))
     have GE278 := AM ((Nat.le_trans HW0.out (by rw [hg]; exact (z3_ (w := w) (g := g) (row := none) kp_) : w.heap.size ≤ gb278) : w0.heap.size ≤ gb278))
     replace HK := AM (kb_ w g hb)
     have NB0_278 := AM ((by rw [hg]; exact Nat.ne_of_lt (zj_.lt (show zj_ w0 _ g s0_0 s0_1 false from z5_)) : g ≠ gb278))
     have NB278_0 := AM ((by rw [hg]; exact Nat.ne_of_gt (zj_.lt (show zj_ w0 _ g s0_0 s0_1 false from z5_)) : gb278 ≠ g))
     replace HI0 := AM (zj_.below z5_ hb)
     clear hb hbox hg
     refine hK.out _ _ ⟨(zR_ HI0.out.1), (zQ_ HI0.out.1), (zP_ HI0.out.1)⟩ (fun hHeld => ?_)
     clear hK K
     refine nm_ ?_
     exact nmE_ (hCont (gb278) _ ⟨hHeld, (bk_ BK278.out), GW278.out, GE278.out, NB0_278.out, NB278_0.out, z5_, kp_, (belg_ (zj_.ge HI0.out))⟩)
    ·
     skip
     refine bs_ 3 #[.string (⟨#[]⟩ : ByteArray), .int .i64 0, .int .i64 0] 138 ?_
     intro gb278 hg w24 hbox hb
     replace HB := AM (zc_ (belg_ (zj_.ge HI0.out)) hb)
     have BK278 := AM hbox
     have GW278 := AM ((by rw [hg]; exact (z3_ (w := w) (g := g) (row := none) kp_) : w.heap.size ≤ gb278))
     have GE278 := AM ((Nat.le_trans HW0.out (by rw [hg]; exact (z3_ (w := w) (g := g) (row := none) kp_) : w.heap.size ≤ gb278) : w0.heap.size ≤ gb278))
     replace HK := AM (kb_ w g hb)
     have NB0_278 := AM ((by rw [hg]; exact Nat.ne_of_lt (zj_.lt (show zj_ w0 _ g s0_0 s0_1 false from z5_)) : g ≠ gb278))
     have NB278_0 := AM ((by rw [hg]; exact Nat.ne_of_gt (zj_.lt (show zj_ w0 _ g s0_0 s0_1 false from z5_)) : gb278 ≠ g))
     replace HI0 := AM (zj_.below z5_ hb)
     clear hb hbox hg
     refine hK.out _ _ ⟨(zR_ HI0.out.1), (zQ_ HI0.out.1), (zP_ HI0.out.1)⟩ (fun hHeld => ?_)
     clear hK K
     refine nm_ ?_
     refine on_ HT_ 8 (some 12) (bA 11 1023) (fun K hK => ?_)
     refine go1_ Tryd.func121 #[.string s0_0, .int .i64 s0_1] ?_
     with_reducible refine (zK_.calls k s0_0 s0_1 t275 t276 t277 _ A2.out).mono ?_
     rintro e w25 ⟨rfl, hb⟩
     refine ⟨_, rfl, ?_⟩
     replace BK278 := AM (zh_ (g := gb278) (o := .cells #[.string (⟨#[]⟩ : ByteArray), .int .i64 0, .int .i64 0] 138 (0, 0)) (bk_ BK278.out) hb)
     replace HK := AM (kb_ w g hb)
     replace HB := AM (zc_ (belg_ (zj_.ge HI0.out)) hb)
     replace HI0 := AM (zj_.below z5_ hb)
     (try clear hb)
     refine hK.out _ _ ⟨(zR_ HI0.out.1), (zQ_ HI0.out.1), (zP_ HI0.out.1)⟩ (fun hHeld => ?_)
     clear hK K
     refine nm_ ?_
     exact nmE_ (hCont (gb278) _ ⟨hHeld, (bk_ BK278.out), GW278.out, GE278.out, NB0_278.out, NB278_0.out, z5_, kp_, (belg_ (zj_.ge HI0.out))⟩)
   rintro gb278 w26 ⟨hS_, h0_, h1_, h2_, h3_, h4_, h5_, h6_, h7_⟩
   have BK278 : zd_ (w26.heap[gb278]? = some (.cells #[.string (⟨#[]⟩ : ByteArray), .int .i64 0, .int .i64 0] 138 (0, 0))) := ⟨h0_⟩
   have GW278 : zd_ (w.heap.size ≤ gb278) := ⟨h1_⟩
   have GE278 : zd_ (w0.heap.size ≤ gb278) := ⟨h2_⟩
   have NB0_278 : zd_ (g ≠ gb278) := ⟨h3_⟩
   have NB278_0 : zd_ (gb278 ≠ g) := ⟨h4_⟩
   replace HI0 : zd_ (zj_ w0 w26 g s0_0 s0_1 false) := ⟨h5_⟩
   replace HK : zd_ (zw_ w w26 g none) := ⟨h6_⟩
   replace HB : zd_ (Below w0.heap.size w0 w26) := ⟨h7_⟩
   clear h0_ h1_ h2_ h3_ h4_ h5_ h6_ h7_
   have hHeld : w26.cell? ⟨g, 0, none⟩ = some (.string s0_0) ∧ w26.cell? ⟨g, 1, none⟩ = some (.int .i64 s0_1) ∧ w26.cell? ⟨g, 2, none⟩ = some (.bool false) := hS_
   refine nmA_ ?_
   refine on_ HT_ 10 none (bA 11 2047) (fun K hK => ?_)
   have hs27 : w26.cell? ⟨gb278, 0, none⟩ = some (.string (⟨#[]⟩ : ByteArray)) := (zb_ BK278.out 0).trans rfl
   have hfs27 := za_ BK278.out 0
   have hs28 : w26.cell? ⟨gb278, 1, none⟩ = some (.int .i64 0) := (zb_ BK278.out 1).trans rfl
   have hfs28 := za_ BK278.out 1
   have hs29 : w26.cell? ⟨gb278, 2, none⟩ = some (.int .i64 0) := (zb_ BK278.out 2).trans rfl
   have hfs29 := za_ BK278.out 2
   refine sk_ ?_
   refine hK.out _ _ ⟨(by (rw [cell_far, cell_far, cell_far]) <;> first | exact hHeld.1 | exact NB0_278.out), (by (rw [cell_far, cell_far, cell_far]) <;> first | exact hHeld.2.1 | exact NB0_278.out), (by (rw [cell_far, cell_far, cell_far]) <;> first | exact hHeld.2.2 | exact NB0_278.out)⟩ (fun hHeld => ?_)
   clear hK K
   refine dn_ HT_ ?_
   obtain ⟨HGz30, hgz30⟩ := HI0.out
   have hcz30_0 := zR_ HGz30
   have hcz30_1 := zQ_ HGz30
   have hcz30_2 := zP_ HGz30
   have hfz30_0 := za_ HGz30 0
   have hfz30_1 := za_ HGz30 1
   have hfz30_2 := za_ HGz30 2
   clear HGz30 hgz30
   have hnb31 := NB278_0.out
   have hnc31 := NB0_278.out
   have hcz32_0 : w26.cell? ⟨gb278, 0, none⟩ = some (.string (⟨#[]⟩ : ByteArray)) := (zb_ BK278.out 0).trans rfl
   have hcz32_1 : w26.cell? ⟨gb278, 1, none⟩ = some (.int .i64 0) := (zb_ BK278.out 1).trans rfl
   have hcz32_2 : w26.cell? ⟨gb278, 2, none⟩ = some (.int .i64 0) := (zb_ BK278.out 2).trans rfl
   have hfz32_0 := za_ BK278.out 0
   have hfz32_1 := za_ BK278.out 1
   have hfz32_2 := za_ BK278.out 2
   try go_wp2
   go_ret
   exact ⟨ri_, z5_, belg_ (zj_.ge HI0.out), kp_⟩
/-! ### zn_: function 43 -/
def zn_.j0 : Nat → ByteArray → Bool → ByteArray → Int → Bool → Int → ByteArray → Option (Int × ByteArray × ByteArray × Int × Int × Int × Int × Bool)
 | 0, _, _, _, _, _, _, _ => none
 | k + 1, x10, x43, x282000, x282001, x282002, x299000, x299001 => if x43 = true then (some (0, (⟨#[]⟩ : ByteArray), (⟨#[]⟩ : ByteArray), 0, 0, 0, 0, false)) else ((z6_.f x299001).bind fun t301 => ((z6_.f x299001).bind fun t302 => (some (x299000, x299001, x10, x299000, wrap64 (x282001 - t301), t302, x282001, true))))
def zn_.f (k : Nat) (a0 : ByteArray) (a1 : Int) : Option (Int × ByteArray × ByteArray × Int × Int × Int × Int × Bool) := (yj_.f a0 a1 false 1).bind fun bt282 => ((yj_.f bt282.2.1 bt282.2.2.1 bt282.2.2.2 32).bind fun bt286 => ((zM_.f k bt286.2.1 bt286.2.2.1 bt286.2.2.2).bind fun bt290 => ((zB_.f k bt290.2.1 bt290.2.2.1 bt290.2.2.2).bind fun bt294 => (if bt294.2.2.2 = true then (zn_.j0 k bt286.1 true bt294.2.1 bt294.2.2.1 bt294.2.2.2 bt290.1 bt294.1) else (if bt282.1.toList = ([66] : List UInt8) then ((yq_.f bt290.1 bt294.1).bind fun t299 => (if t299 = true then ((zO_.f k bt290.1 bt294.1).bind fun t300 => (zn_.j0 k bt286.1 (t300.toList != bt286.1.toList) bt294.2.1 bt294.2.2.1 bt294.2.2.2 bt290.1 bt294.1)) else (zn_.j0 k bt286.1 true bt294.2.1 bt294.2.2.1 bt294.2.2.2 bt290.1 bt294.1))) else (zn_.j0 k bt286.1 true bt294.2.1 bt294.2.2.1 bt294.2.2.2 bt290.1 bt294.1))))))
theorem zn_.mono_l : ∀ k, (∀ y0 y1 y2 y3 y4 y5 y6, LeO (zn_.j0 k y0 y1 y2 y3 y4 y5 y6) (zn_.j0 (k + 1) y0 y1 y2 y3 y4 y5 y6))
 | 0 => fun _ _ _ _ _ _ _ r h => by simp [zn_.j0] at h
 | k + 1 => by
  have ih0 := zn_.mono_l k
  ·
   intro y0 y1 y2 y3 y4 y5 y6
   unfold zn_.j0
   repeat' with_reducible first | exact ih0 _ _ _ _ _ _ _ | exact zO_.mono _ _ _ | exact zM_.mono _ _ _ _ | exact zB_.mono _ _ _ _ | exact LeO.refl _ | exact LeO.none _ | refine LeO.ite ?_ ?_ | refine LeO.bind ?_ (fun _ => ?_)
theorem zn_.mono : ∀ a0 a1 k, LeO (zn_.f k a0 a1) (zn_.f (k + 1) a0 a1) := by
 intro a0 a1 k
 have ih0 := zn_.mono_l k
 unfold zn_.f
 repeat' with_reducible first | exact ih0 _ _ _ _ _ _ _ | exact zO_.mono _ _ _ | exact zM_.mono _ _ _ _ | exact zB_.mono _ _ _ _ | exact LeO.refl _ | exact LeO.none _ | refine LeO.ite ?_ ?_ | refine LeO.bind ?_ (fun _ => ?_)
def zn_.T6 : Bool × List (List Nat × List Nat) := (true, [([], []), ([], []), ([], []), ([2], [2]), ([], []), ([4], [4]), ([5], [5]), ([6], [6]), ([], []), ([8], [8]), ([9], [9]), ([7, 10], [7, 10]), ([], []), ([12], [12]), ([13, 10], [13]), ([1, 3, 11, 14], [1, 3, 11, 14]), ([], []), ([16], [16]), ([17], [17]), ([18], [18]), ([0, 14, 0], [0]), ([15, 20, 0, 1, 2, 3, 4, 5, 6, 7, 8, 9, 10, 11, 12, 13, 14, 15, 20], [15]), ([19, 21, 0, 1, 2, 3, 4, 5, 6, 7, 8, 9, 10, 11, 12, 13, 14, 15, 16, 17, 18, 19, 20, 21], [19]), ([22, 0, 1, 2, 3, 4, 5, 6, 7, 8, 9, 10, 11, 12, 13, 14, 15, 16, 17, 18, 19, 20, 21, 22], [])])
def zn_.B6 : List Nat := [0, 0, 0, 4, 0, 16, 48, 112, 0, 256, 768, 2032, 0, 4096, 14080, 32766, 0, 65536, 196608, 458752, 30465, 1114111, 4194303, 8388607]
theorem zn_.tab6 : rtab .any (opsOf Tryd.f43 6) = zn_.T6 := by kernel_rfl
theorem zn_.bits6 : yR_ zn_.T6.2 zn_.B6 = true := by kernel_rfl
theorem zn_.calls (k : Nat) (a0 : ByteArray) (a1 : Int) (r1 : Int) (r2 : ByteArray) (r3 : ByteArray) (r4 : Int) (r5 : Int) (r6 : Int) (r7 : Int) (r8 : Bool) (w : World) (h : zn_.f k a0 a1 = some (r1, r2, r3, r4, r5, r6, r7, r8)) (hL : Hand.LaidG w := by first | exact hL | exact Hand.LaidG.below hL bel_) :
 Calls Tryd.prog 43 #[.string a0, .int .i64 a1] w fun e w' => e = .returned (.tuple #[.agg #[.int .i64 r1, .string r2], .agg #[.string r3, .int .i64 r4, .int .i64 r5, .int .i64 r6], .int .i64 r7, .bool r8]) ∧ Below w.heap.size w w' := by
 have hu60 := Tryd.underlying60
 have hu58 := Tryd.underlying58
 have hu107 := Tryd.underlying107
 have HB := AM (Below.refl w.heap.size w)
 have H : ((yj_.f a0 a1 false 1).bind fun bt282 => ((yj_.f bt282.2.1 bt282.2.2.1 bt282.2.2.2 32).bind fun bt286 => ((zM_.f k bt286.2.1 bt286.2.2.1 bt286.2.2.2).bind fun bt290 => ((zB_.f k bt290.2.1 bt290.2.2.1 bt290.2.2.2).bind fun bt294 => (if bt294.2.2.2 = true then (zn_.j0 k bt286.1 true bt294.2.1 bt294.2.2.1 bt294.2.2.2 bt290.1 bt294.1) else (if bt282.1.toList = ([66] : List UInt8) then ((yq_.f bt290.1 bt294.1).bind fun t299 => (if t299 = true then ((zO_.f k bt290.1 bt294.1).bind fun t300 => (zn_.j0 k bt286.1 (t300.toList != bt286.1.toList) bt294.2.1 bt294.2.2.1 bt294.2.2.2 bt290.1 bt294.1)) else (zn_.j0 k bt286.1 true bt294.2.1 bt294.2.2.1 bt294.2.2.2 bt290.1 bt294.1))) else (zn_.j0 k bt286.1 true bt294.2.1 bt294.2.2.1 bt294.2.2.2 bt290.1 bt294.1))))))) = some (r1, r2, r3, r4, r5, r6, r7, r8) := h
 clear h
 obtain ⟨⟨t282, t283, t284, t285⟩, A3, H⟩ := OB H
 try dsimp only at H
 replace A3 := AM A3
 obtain ⟨⟨t286, t287, t288, t289⟩, A4, H⟩ := OB H
 try dsimp only at H
 replace A4 := AM A4
 obtain ⟨⟨t290, t291, t292, t293⟩, A5, H⟩ := OB H
 try dsimp only at H
 replace A5 := AM A5
 obtain ⟨⟨t294, t295, t296, t297⟩, A6, H⟩ := OB H
 try dsimp only at H
 replace A6 := AM A6
 have HC7 := AM H
 clear H
 go_enter Tryd.func43, Tryd.ntmps43
 go_upto_region 4 with (first | ((with_reducible refine zy_ (N := 4) rfl ?_); refine be_ 4 #[.int .i64 0, .string (⟨#[]⟩ : ByteArray)] 60 ?_; intro gb279 hg w8 hbox hb; have BK279 := AM hbox; have GW279 := AM ((by rw [hg]; exact (zf_ bel_) : w.heap.size ≤ gb279)); have GE279 := AM ((by rw [hg]; exact (zf_ bel_) : w.heap.size ≤ gb279)); replace HB := AM (zc_ bel_ hb); clear hb hbox hg) | ((with_reducible refine zy_ (N := 5) rfl ?_); refine be_ 5 #[.string (⟨#[]⟩ : ByteArray), .int .i64 0, .int .i64 0, .int .i64 0] 58 ?_; intro gb280 hg w9 hbox hb; have BK280 := AM hbox; have GW280 := AM ((by rw [hg]; exact (zf_ bel_) : w.heap.size ≤ gb280)); have GE280 := AM ((by rw [hg]; exact (zf_ bel_) : w.heap.size ≤ gb280)); replace HB := AM (zc_ bel_ hb); have NB279_280 := AM ((by rw [hg]; exact Nat.ne_of_lt (zA_ (g := gb279) (o := .cells #[.int .i64 0, .string (⟨#[]⟩ : ByteArray)] 60 (0, 0)) (bk_ BK279.out)) : gb279 ≠ gb280)); have NB280_279 := AM ((by rw [hg]; exact Nat.ne_of_gt (zA_ (g := gb279) (o := .cells #[.int .i64 0, .string (⟨#[]⟩ : ByteArray)] 60 (0, 0)) (bk_ BK279.out)) : gb280 ≠ gb279)); replace BK279 := AM (zh_ (g := gb279) (o := .cells #[.int .i64 0, .string (⟨#[]⟩ : ByteArray)] 60 (0, 0)) (bk_ BK279.out) hb); clear hb hbox hg) | ((with_reducible refine zy_ (N := 15) rfl ?_); refine be_ 15 #[.string a0, .int .i64 a1, .bool false] 107 ?_; intro gb281 hg w10 hbox hb; have NB279_281 := AM ((by rw [hg]; exact Nat.ne_of_lt (zA_ (g := gb279) (o := .cells #[.int .i64 0, .string (⟨#[]⟩ : ByteArray)] 60 (0, 0)) (bk_ BK279.out)) : gb279 ≠ gb281)); have NB281_279 := AM ((by rw [hg]; exact Nat.ne_of_gt (zA_ (g := gb279) (o := .cells #[.int .i64 0, .string (⟨#[]⟩ : ByteArray)] 60 (0, 0)) (bk_ BK279.out)) : gb281 ≠ gb279)); replace BK279 := AM (zh_ (g := gb279) (o := .cells #[.int .i64 0, .string (⟨#[]⟩ : ByteArray)] 60 (0, 0)) (bk_ BK279.out) hb); have NB280_281 := AM ((by rw [hg]; exact Nat.ne_of_lt (zA_ (g := gb280) (o := .cells #[.string (⟨#[]⟩ : ByteArray), .int .i64 0, .int .i64 0, .int .i64 0] 58 (0, 0)) (bk_ BK280.out)) : gb280 ≠ gb281)); have NB281_280 := AM ((by rw [hg]; exact Nat.ne_of_gt (zA_ (g := gb280) (o := .cells #[.string (⟨#[]⟩ : ByteArray), .int .i64 0, .int .i64 0, .int .i64 0] 58 (0, 0)) (bk_ BK280.out)) : gb281 ≠ gb280)); replace BK280 := AM (zh_ (g := gb280) (o := .cells #[.string (⟨#[]⟩ : ByteArray), .int .i64 0, .int .i64 0, .int .i64 0] 58 (0, 0)) (bk_ BK280.out) hb); have HI281 := AM ((⟨hbox, (by rw [hg]; exact (zf_ bel_) : w.heap.size ≤ gb281)⟩ : zj_ w w10 gb281 a0 a1 false)); replace HB := AM (zc_ bel_ hb); clear hb hbox hg) | ((with_reducible refine zg_ (f := 84) rfl ?_); refine gl_ (some 17) Tryd.func84 #[.pointer (some ⟨gb281, 0, none⟩), .int .i64 1] ?_; (with_reducible refine (yj_.calls gb281 a0 a1 false 1 t282 t283 t284 t285 w _ ?side1 ?side2 A3.out).mono ?_); (case side1 => exact z5_); (case side2 => exact belg_ (zj_.ge HI281.out)); rintro e w11 ⟨rfl, hi, hb, hk⟩; refine ⟨_, rfl, ?_⟩; replace BK279 := AM (zw_.blk hk (g' := gb279) (o := .cells #[.int .i64 0, .string (⟨#[]⟩ : ByteArray)] 60 (0, 0)) (bk_ BK279.out) NB279_281.out (by simp)); replace BK280 := AM (zw_.blk hk (g' := gb280) (o := .cells #[.string (⟨#[]⟩ : ByteArray), .int .i64 0, .int .i64 0, .int .i64 0] 58 (0, 0)) (bk_ BK280.out) NB280_281.out (by simp)); replace HB := AM hb; replace HI281 := AM hi; (try clear hb); (try clear hk); (try clear hi)) | ((with_reducible refine zg_ (f := 84) rfl ?_); refine gl_ (some 19) Tryd.func84 #[.pointer (some ⟨gb281, 0, none⟩), .int .i64 32] ?_; (with_reducible refine (yj_.calls gb281 t283 t284 t285 32 t286 t287 t288 t289 w _ ?side1 ?side2 A4.out).mono ?_); (case side1 => exact z5_); (case side2 => exact belg_ (zj_.ge HI281.out)); rintro e w12 ⟨rfl, hi, hb, hk⟩; refine ⟨_, rfl, ?_⟩; replace BK279 := AM (zw_.blk hk (g' := gb279) (o := .cells #[.int .i64 0, .string (⟨#[]⟩ : ByteArray)] 60 (0, 0)) (bk_ BK279.out) NB279_281.out (by simp)); replace BK280 := AM (zw_.blk hk (g' := gb280) (o := .cells #[.string (⟨#[]⟩ : ByteArray), .int .i64 0, .int .i64 0, .int .i64 0] 58 (0, 0)) (bk_ BK280.out) NB280_281.out (by simp)); replace HB := AM hb; replace HI281 := AM hi; (try clear hb); (try clear hk); (try clear hi)) | ((with_reducible refine zg_ (f := 85) rfl ?_); refine gl_ (some 21) Tryd.func85 #[.pointer (some ⟨gb281, 0, none⟩)] ?_; (with_reducible refine (zM_.calls k gb281 t287 t288 t289 t290 t291 t292 t293 w _ ?side1 ?side2 A5.out).mono ?_); (case side1 => exact z5_); (case side2 => exact belg_ (zj_.ge HI281.out)); rintro e w13 ⟨rfl, hi, hb, hk⟩; refine ⟨_, rfl, ?_⟩; replace BK279 := AM (zw_.blk hk (g' := gb279) (o := .cells #[.int .i64 0, .string (⟨#[]⟩ : ByteArray)] 60 (0, 0)) (bk_ BK279.out) NB279_281.out (by simp)); replace BK280 := AM (zw_.blk hk (g' := gb280) (o := .cells #[.string (⟨#[]⟩ : ByteArray), .int .i64 0, .int .i64 0, .int .i64 0] 58 (0, 0)) (bk_ BK280.out) NB280_281.out (by simp)); replace HB := AM hb; replace HI281 := AM hi; (try clear hb); (try clear hk); (try clear hi)) | ((with_reducible refine zg_ (f := 86) rfl ?_); refine gl_ (some 23) Tryd.func86 #[.pointer (some ⟨gb281, 0, none⟩)] ?_; (with_reducible refine (zB_.calls k gb281 t291 t292 t293 t294 t295 t296 t297 w _ ?side1 ?side2 A6.out).mono ?_); (case side1 => exact z5_); (case side2 => exact belg_ (zj_.ge HI281.out)); rintro e w14 ⟨rfl, hi, hb, hk⟩; refine ⟨_, rfl, ?_⟩; replace BK279 := AM (zw_.blk hk (g' := gb279) (o := .cells #[.int .i64 0, .string (⟨#[]⟩ : ByteArray)] 60 (0, 0)) (bk_ BK279.out) NB279_281.out (by simp)); replace BK280 := AM (zw_.blk hk (g' := gb280) (o := .cells #[.string (⟨#[]⟩ : ByteArray), .int .i64 0, .int .i64 0, .int .i64 0] 58 (0, 0)) (bk_ BK280.out) NB280_281.out (by simp)); replace HB := AM hb; replace HI281 := AM hi; (try clear hb); (try clear hk); (try clear hi)) | ((with_reducible refine zy_ (N := 11) rfl ?_); refine be_ 11 #[.int .i64 0, .string (⟨#[]⟩ : ByteArray)] 60 ?_; intro gb298 hg w15 hbox hb; have BK298 := AM hbox; have GW298 := AM ((by rw [hg]; exact (zf_ (belg_ (zj_.ge HI281.out))) : w.heap.size ≤ gb298)); have GE298 := AM ((by rw [hg]; exact (zf_ (belg_ (zj_.ge HI281.out))) : w.heap.size ≤ gb298)); replace HB := AM (zc_ (belg_ (zj_.ge HI281.out)) hb); have NB279_298 := AM ((by rw [hg]; exact Nat.ne_of_lt (zA_ (g := gb279) (o := .cells #[.int .i64 0, .string (⟨#[]⟩ : ByteArray)] 60 (0, 0)) (bk_ BK279.out)) : gb279 ≠ gb298)); have NB298_279 := AM ((by rw [hg]; exact Nat.ne_of_gt (zA_ (g := gb279) (o := .cells #[.int .i64 0, .string (⟨#[]⟩ : ByteArray)] 60 (0, 0)) (bk_ BK279.out)) : gb298 ≠ gb279)); replace BK279 := AM (zh_ (g := gb279) (o := .cells #[.int .i64 0, .string (⟨#[]⟩ : ByteArray)] 60 (0, 0)) (bk_ BK279.out) hb); have NB280_298 := AM ((by rw [hg]; exact Nat.ne_of_lt (zA_ (g := gb280) (o := .cells #[.string (⟨#[]⟩ : ByteArray), .int .i64 0, .int .i64 0, .int .i64 0] 58 (0, 0)) (bk_ BK280.out)) : gb280 ≠ gb298)); have NB298_280 := AM ((by rw [hg]; exact Nat.ne_of_gt (zA_ (g := gb280) (o := .cells #[.string (⟨#[]⟩ : ByteArray), .int .i64 0, .int .i64 0, .int .i64 0] 58 (0, 0)) (bk_ BK280.out)) : gb298 ≠ gb280)); replace BK280 := AM (zh_ (g := gb280) (o := .cells #[.string (⟨#[]⟩ : ByteArray), .int .i64 0, .int .i64 0, .int .i64 0] 58 (0, 0)) (bk_ BK280.out) hb); have NB281_298 := AM ((by rw [hg]; exact Nat.ne_of_lt (zj_.lt (show zj_ w _ gb281 t295 t296 t297 from z5_)) : gb281 ≠ gb298)); have NB298_281 := AM ((by rw [hg]; exact Nat.ne_of_gt (zj_.lt (show zj_ w _ gb281 t295 t296 t297 from z5_)) : gb298 ≠ gb281)); replace HI281 := AM (zj_.below z5_ hb); clear hb hbox hg; have hnb16 := NB298_279.out; have hnc16 := NB279_298.out; have hnb17 := NB298_280.out; have hnc17 := NB280_298.out; have hnb18 := NB298_281.out; have hnc18 := NB281_298.out; have hcz19_0 : w15.cell? ⟨gb298, 0, none⟩ = some (.int .i64 0) := (zb_ BK298.out 0).trans rfl; have hcz19_1 : w15.cell? ⟨gb298, 1, none⟩ = some (.string (⟨#[]⟩ : ByteArray)) := (zb_ BK298.out 1).trans rfl; have hfz19_0 := za_ BK298.out 0; have hfz19_1 := za_ BK298.out 1))
 (try simp only [Act.put, List.setIfInBounds_toArray, List.set_cons_zero, List.set_cons_succ])
 go_cut [43] (fun v43 wc => ∃ (kq : Nat) (x43_6 : Bool), v43 = .bool x43_6 ∧ zd_ (zn_.j0 kq t286 x43_6 t295 t296 t297 t290 t294 = some (r1, r2, r3, r4, r5, r6, r7, r8)) ∧ zd_ (kq ≤ k) ∧ zd_ (wc.heap[gb279]? = some (.cells #[.int .i64 0, .string (⟨#[]⟩ : ByteArray)] 60 (0, 0))) ∧ zd_ (wc.heap[gb280]? = some (.cells #[.string (⟨#[]⟩ : ByteArray), .int .i64 0, .int .i64 0, .int .i64 0] 58 (0, 0))) ∧ zd_ (wc.heap[gb298]? = some (.cells #[.int .i64 t290, .string t294] 60 (0, 0))) ∧ zd_ (zj_ w wc gb281 t295 t296 t297) ∧ zd_ (Below w.heap.size w wc))
 case first =>
  have H := HC7.out
  clear HC7
  by_cases c20 : t297 = true
  ·
   subst c20
   rw [if_pos rfl] at H
   have H' := AM H
   clear H
   obtain ⟨HGz21, hgz21⟩ := HI281.out
   have hcz21_0 := zR_ HGz21
   have hcz21_1 := zQ_ HGz21
   have hcz21_2 := zP_ HGz21
   have hfz21_0 := za_ HGz21 0
   have hfz21_1 := za_ HGz21 1
   have hfz21_2 := za_ HGz21 2
   clear HGz21 hgz21
   go_wp2
   go_meet
   case rel => exact ⟨_, (true), re_, H', ⟨by first | omega | exact Nat.le_refl _⟩, ⟨bka_⟩, ⟨bka_⟩, ⟨bka_⟩, ⟨z5_⟩, ⟨belg_ (zj_.ge HI281.out)⟩⟩
  ·
   replace c20 := Bool.eq_false_iff.mpr c20
   subst c20
   rw [if_neg (show ¬ (false = true) by decide)] at H
   by_cases c22 : t282.toList = ([66] : List UInt8)
   ·
    rw [if_pos c22] at H
    have c22b0 : (t282.toList == ([66] : List UInt8)) = true := beq_iff_eq.mpr c22
    have c22b1 : (t282.toList != ([66] : List UInt8)) = false := bne_eq_false_iff_eq.mpr c22
    clear c22
    (first | rw [c22b0] | (simp only [i64_w, i32_w]; rw [c22b0]) | skip)
    obtain ⟨t299, A23, H⟩ := OB H
    try dsimp only at H
    replace A23 := AM A23
    by_cases c24 : t299 = true
    ·
     subst c24
     rw [if_pos rfl] at H
     obtain ⟨t300, A25, H⟩ := OB H
     try dsimp only at H
     replace A25 := AM A25
     have H' := AM H
     clear H
     obtain ⟨HGz26, hgz26⟩ := HI281.out
     have hcz26_0 := zR_ HGz26
     have hcz26_1 := zQ_ HGz26
     have hcz26_2 := zP_ HGz26
     have hfz26_0 := za_ HGz26 0
     have hfz26_1 := za_ HGz26 1
     have hfz26_2 := za_ HGz26 2
     clear HGz26 hgz26
     have hnb27 := NB298_279.out
     have hnc27 := NB279_298.out
     have hnb28 := NB298_280.out
     have hnc28 := NB280_298.out
     have hnb29 := NB298_281.out
     have hnc29 := NB281_298.out
     have hcz30_0 : w15.cell? ⟨gb298, 0, none⟩ = some (.int .i64 0) := (zb_ BK298.out 0).trans rfl
     have hcz30_1 : w15.cell? ⟨gb298, 1, none⟩ = some (.string (⟨#[]⟩ : ByteArray)) := (zb_ BK298.out 1).trans rfl
     have hfz30_0 := za_ BK298.out 0
     have hfz30_1 := za_ BK298.out 1
     go_wp2_with (first | (go_at_call 87; (with_reducible refine (yq_.calls t290 t294 true _ A23.out).mono ?_); rintro e w31 ⟨rfl, hb⟩; have n0_ := AM (zh_ (g := gb279) (o := .cells #[.int .i64 0, .string (⟨#[]⟩ : ByteArray)] 60 (0, 0)) bka_ hb); have n1_ := AM (zh_ (g := gb280) (o := .cells #[.string (⟨#[]⟩ : ByteArray), .int .i64 0, .int .i64 0, .int .i64 0] 58 (0, 0)) bka_ hb); have n2_ := AM (zj_.below (show zj_ w ((w15.setCell ⟨gb298, 0, none⟩ (.int .i64 t290)).setCell ⟨gb298, 1, none⟩ (.string t294)) gb281 t295 t296 false from z5_) hb); have n3_ := AM (zh_ (g := gb298) (o := .cells #[.int .i64 t290, .string t294] 60 (0, 0)) bka_ hb); have n4_ := AM (zc_ (belg_ (zj_.ge HI281.out)) hb); clear BK279; clear BK280; clear HI281; clear BK298; clear HB; have BK279 := n0_; have BK280 := n1_; have HI281 := n2_; have BK298 := n3_; have HB := n4_; clear n0_ n1_ n2_ n3_ n4_; (try clear hb); have hcz32_0 : w31.cell? ⟨gb298, 0, none⟩ = some (.int .i64 t290) := (zb_ BK298.out 0).trans rfl; have hcz32_1 : w31.cell? ⟨gb298, 1, none⟩ = some (.string t294) := (zb_ BK298.out 1).trans rfl; have hfz32_0 := za_ BK298.out 0; have hfz32_1 := za_ BK298.out 1) | (go_at_call 88; (with_reducible refine (zO_.calls k t290 t294 t300 _ A25.out).mono ?_); rintro e w33 ⟨rfl, hb⟩; replace BK279 := AM (zh_ (g := gb279) (o := .cells #[.int .i64 0, .string (⟨#[]⟩ : ByteArray)] 60 (0, 0)) (bk_ BK279.out) hb); replace BK280 := AM (zh_ (g := gb280) (o := .cells #[.string (⟨#[]⟩ : ByteArray), .int .i64 0, .int .i64 0, .int .i64 0] 58 (0, 0)) (bk_ BK280.out) hb); replace BK298 := AM (zh_ (g := gb298) (o := .cells #[.int .i64 t290, .string t294] 60 (0, 0)) (bk_ BK298.out) hb); replace HB := AM (zc_ (belg_ (zj_.ge HI281.out)) hb); replace HI281 := AM (zj_.below z5_ hb); (try clear hb)))
     go_meet
     case rel => exact ⟨_, ((t300.toList != t286.toList)), re_, H', ⟨by first | omega | exact Nat.le_refl _⟩, ⟨bk_ BK279.out⟩, ⟨bk_ BK280.out⟩, ⟨bk_ BK298.out⟩, ⟨z5_⟩, ⟨belg_ (zj_.ge HI281.out)⟩⟩
    ·
     replace c24 := Bool.eq_false_iff.mpr c24
     subst c24
     rw [if_neg (show ¬ (false = true) by decide)] at H
     have H' := AM H
     clear H
     obtain ⟨HGz34, hgz34⟩ := HI281.out
     have hcz34_0 := zR_ HGz34
     have hcz34_1 := zQ_ HGz34
     have hcz34_2 := zP_ HGz34
     have hfz34_0 := za_ HGz34 0
     have hfz34_1 := za_ HGz34 1
     have hfz34_2 := za_ HGz34 2
     clear HGz34 hgz34
     have hnb35 := NB298_279.out
     have hnc35 := NB279_298.out
     have hnb36 := NB298_280.out
     have hnc36 := NB280_298.out
     have hnb37 := NB298_281.out
     have hnc37 := NB281_298.out
     have hcz38_0 : w15.cell? ⟨gb298, 0, none⟩ = some (.int .i64 0) := (zb_ BK298.out 0).trans rfl
     have hcz38_1 : w15.cell? ⟨gb298, 1, none⟩ = some (.string (⟨#[]⟩ : ByteArray)) := (zb_ BK298.out 1).trans rfl
     have hfz38_0 := za_ BK298.out 0
     have hfz38_1 := za_ BK298.out 1
     go_wp2_with (first | (go_at_call 87; (with_reducible refine (yq_.calls t290 t294 false _ A23.out).mono ?_); rintro e w39 ⟨rfl, hb⟩; have n0_ := AM (zh_ (g := gb279) (o := .cells #[.int .i64 0, .string (⟨#[]⟩ : ByteArray)] 60 (0, 0)) bka_ hb); have n1_ := AM (zh_ (g := gb280) (o := .cells #[.string (⟨#[]⟩ : ByteArray), .int .i64 0, .int .i64 0, .int .i64 0] 58 (0, 0)) bka_ hb); have n2_ := AM (zj_.below (show zj_ w ((w15.setCell ⟨gb298, 0, none⟩ (.int .i64 t290)).setCell ⟨gb298, 1, none⟩ (.string t294)) gb281 t295 t296 false from z5_) hb); have n3_ := AM (zh_ (g := gb298) (o := .cells #[.int .i64 t290, .string t294] 60 (0, 0)) bka_ hb); have n4_ := AM (zc_ (belg_ (zj_.ge HI281.out)) hb); clear BK279; clear BK280; clear HI281; clear BK298; clear HB; have BK279 := n0_; have BK280 := n1_; have HI281 := n2_; have BK298 := n3_; have HB := n4_; clear n0_ n1_ n2_ n3_ n4_; (try clear hb)))
     go_meet
     case rel => exact ⟨_, (true), re_, H', ⟨by first | omega | exact Nat.le_refl _⟩, ⟨bk_ BK279.out⟩, ⟨bk_ BK280.out⟩, ⟨bk_ BK298.out⟩, ⟨z5_⟩, ⟨belg_ (zj_.ge HI281.out)⟩⟩
   ·
    rw [if_neg c22] at H
    have c22b0 : (t282.toList == ([66] : List UInt8)) = false := beq_eq_false_iff_ne.mpr c22
    have c22b1 : (t282.toList != ([66] : List UInt8)) = true := bne_iff_ne.mpr c22
    (first | rw [c22b0] | (simp only [i64_w, i32_w]; rw [c22b0]) | skip)
    have H' := AM H
    clear H
    obtain ⟨HGz40, hgz40⟩ := HI281.out
    have hcz40_0 := zR_ HGz40
    have hcz40_1 := zQ_ HGz40
    have hcz40_2 := zP_ HGz40
    have hfz40_0 := za_ HGz40 0
    have hfz40_1 := za_ HGz40 1
    have hfz40_2 := za_ HGz40 2
    clear HGz40 hgz40
    go_wp2
    go_meet
    case rel => exact ⟨_, (true), re_, H', ⟨by first | omega | exact Nat.le_refl _⟩, ⟨bka_⟩, ⟨bka_⟩, ⟨bka_⟩, ⟨z5_⟩, ⟨belg_ (zj_.ge HI281.out)⟩⟩
 case rest =>
  clear HC7
  (try clear c20); (try clear c22); (try clear c22b0); (try clear c22b1); (try clear c24); (try clear hcz19_0); (try clear hcz19_1); (try clear hcz21_0); (try clear hcz21_1); (try clear hcz21_2); (try clear hcz26_0); (try clear hcz26_1); (try clear hcz26_2); (try clear hcz30_0); (try clear hcz30_1); (try clear hcz32_0); (try clear hcz32_1); (try clear hcz34_0); (try clear hcz34_1); (try clear hcz34_2); (try clear hcz38_0); (try clear hcz38_1); (try clear hcz40_0); (try clear hcz40_1); (try clear hcz40_2); (try clear hfz19_0); (try clear hfz19_1); (try clear hfz21_0); (try clear hfz21_1); (try clear hfz21_2); (try clear hfz26_0); (try clear hfz26_1); (try clear hfz26_2); (try clear hfz30_0); (try clear hfz30_1); (try clear hfz32_0); (try clear hfz32_1); (try clear hfz34_0); (try clear hfz34_1); (try clear hfz34_2); (try clear hfz38_0); (try clear hfz38_1); (try clear hfz40_0); (try clear hfz40_1); (try clear hfz40_2)
  obtain ⟨kq, x43_6, rfl, HA, HJ6, BK279, BK280, BK298, HI281, HB⟩ := hcut
  cases kq with
  | zero => exact absurd HA.out (by simp [zn_.j0])
  | succ kj6 =>
   have H := HA.out
   clear HA
   simp only [zn_.j0] at H
   by_cases c41 : x43_6 = true
   ·
    subst c41
    rw [if_pos rfl] at H
    simp only [Option.some.injEq, Prod.mk.injEq] at H
    obtain ⟨rfl, rfl, rfl, rfl, rfl, rfl, rfl, rfl⟩ := H
    have hnb42 := NB279_280.out
    have hnc42 := NB280_279.out
    have hnb43 := NB279_298.out
    have hnc43 := NB298_279.out
    have hnb44 := NB279_281.out
    have hnc44 := NB281_279.out
    have hcz45_0 : wc.cell? ⟨gb279, 0, none⟩ = some (.int .i64 0) := (zb_ BK279.out 0).trans rfl
    have hcz45_1 : wc.cell? ⟨gb279, 1, none⟩ = some (.string (⟨#[]⟩ : ByteArray)) := (zb_ BK279.out 1).trans rfl
    have hfz45_0 := za_ BK279.out 0
    have hfz45_1 := za_ BK279.out 1
    have hnb46 := NB280_298.out
    have hnc46 := NB298_280.out
    have hnb47 := NB280_281.out
    have hnc47 := NB281_280.out
    have hcz48_0 : wc.cell? ⟨gb280, 0, none⟩ = some (.string (⟨#[]⟩ : ByteArray)) := (zb_ BK280.out 0).trans rfl
    have hcz48_1 : wc.cell? ⟨gb280, 1, none⟩ = some (.int .i64 0) := (zb_ BK280.out 1).trans rfl
    have hcz48_2 : wc.cell? ⟨gb280, 2, none⟩ = some (.int .i64 0) := (zb_ BK280.out 2).trans rfl
    have hcz48_3 : wc.cell? ⟨gb280, 3, none⟩ = some (.int .i64 0) := (zb_ BK280.out 3).trans rfl
    have hfz48_0 := za_ BK280.out 0
    have hfz48_1 := za_ BK280.out 1
    have hfz48_2 := za_ BK280.out 2
    have hfz48_3 := za_ BK280.out 3
    go_wp2
    refine bodyPost_ret (yN_ (rs := [.cell 4 60, .cell 5 58, .tmp 6, .tmp 7]) rfl (by simp) (.cell gb279 60 #[.int .i64 0, .string (⟨#[]⟩ : ByteArray)] (0, 0) _ rfl bka_ Tryd.underlying60 rfl (by kernel_rfl) (.cell gb280 58 #[.string (⟨#[]⟩ : ByteArray), .int .i64 0, .int .i64 0, .int .i64 0] (0, 0) _ rfl bka_ Tryd.underlying58 rfl (by kernel_rfl) (.tmp (.tmp .nil))))) rfl ?_
    exact ⟨ri_, belg_ (zj_.ge HI281.out)⟩
   ·
    replace c41 := Bool.eq_false_iff.mpr c41
    subst c41
    rw [if_neg (show ¬ (false = true) by decide)] at H
    obtain ⟨t301, A49, H⟩ := OB H
    try dsimp only at H
    replace A49 := AM A49
    obtain ⟨t302, A50, H⟩ := OB H
    try dsimp only at H
    replace A50 := AM A50
    simp only [Option.some.injEq, Prod.mk.injEq] at H
    obtain ⟨rfl, rfl, rfl, rfl, rfl, rfl, rfl, rfl⟩ := H
    try go_wp2
    replace BK279 := AM (zN_ BK279.out)
    replace BK280 := AM (zN_ BK280.out)
    replace BK298 := AM (zN_ BK298.out)
    replace HI281 := AM (zj_.drew HI281.out)
    replace HB := AM (zF_ HB.out)
    refine yU_ (n := 24) (S := fun w' => w'.cell? ⟨gb298, 0, none⟩ = some (.int .i64 t290) ∧ w'.cell? ⟨gb298, 1, none⟩ = some (.string t294) ∧ w'.cell? ⟨gb281, 0, none⟩ = some (.string t295) ∧ w'.cell? ⟨gb281, 1, none⟩ = some (.int .i64 t296) ∧ w'.cell? ⟨gb281, 2, none⟩ = some (.bool t297)) (ds := []) (Array.replicate 24 false) (by kernel_rfl) rfl rfl ⟨(zb_ BK298.out 0).trans rfl, (zb_ BK298.out 1).trans rfl, (zR_ HI281.out.1), (zQ_ HI281.out.1), (zP_ HI281.out.1)⟩ (fun hHeld => ?_); refine yx_ zn_.tab6 zn_.bits6 (fun HT_ HW_ => ?_)
    generalize wc.drew = w51 at BK279 BK280 BK298 HI281 HB hHeld ⊢
    refine pu_ HT_ 1 (some 47) (bA 24 2) ?_
    refine pu_ HT_ 2 (some 48) (bA 24 6) ?_
    refine pu_ HT_ 4 (some 50) (bA 24 22) ?_
    refine pu_ HT_ 5 (some 51) (bA 24 54) ?_
    refine pu_ HT_ 6 (some 52) (bA 24 118) ?_
    refine pu_ HT_ 8 (some 54) (bA 24 374) ?_
    refine pu_ HT_ 12 (some 58) (bA 24 4470) ?_
    refine pu_ HT_ 16 (some 62) (bA 24 70006) ?_
    refine pu_ HT_ 17 (some 63) (bA 24 201078) ?_
    refine pu_ HT_ 18 (some 64) (bA 24 463222) ?_
    refine ta_ HT_ HW_ 0 (some 46) (bA 24 463223) hHeld ?_
    refine ta_ HT_ HW_ 3 (some 49) (bA 24 463231) hHeld ?_
    refine ta_ HT_ HW_ 7 (some 53) (bA 24 463359) hHeld ?_
    refine ta_ HT_ HW_ 9 (some 55) (bA 24 463871) hHeld ?_
    refine ta_ HT_ HW_ 13 (some 59) (bA 24 472063) hHeld ?_
    refine ta_ HT_ HW_ 19 (some 65) (bA 24 996351) hHeld ?_
    refine on_ HT_ 10 (some 56) (bA 24 997375) (fun K hK => ?_)
    refine go1_ Tryd.func42 #[.string t294] ?_
    with_reducible refine (z6_.calls t294 t301 _ A49.out).mono ?_
    rintro e w' ⟨rfl, ⟨nd, rfl⟩⟩
    refine ⟨_, rfl, ?_⟩
    refine hK.out _ _ ⟨(zb_ BK298.out 0).trans rfl, (zb_ BK298.out 1).trans rfl, (zR_ HI281.out.1), (zQ_ HI281.out.1), (zP_ HI281.out.1)⟩ (fun hHeld => ?_)
    clear hK K
    refine nm_ ?_
    refine pu_ HT_ 11 (some 57) (bA 24 999423) ?_
    refine on_ HT_ 14 (some 60) (bA 24 1015807) (fun K hK => ?_)
    refine go1_ Tryd.func42 #[.string t294] ?_
    with_reducible refine (z6_.calls t294 t302 _ A50.out).mono ?_
    rintro e w' ⟨rfl, ⟨nd, rfl⟩⟩
    refine ⟨_, rfl, ?_⟩
    refine hK.out _ _ ⟨(zb_ BK298.out 0).trans rfl, (zb_ BK298.out 1).trans rfl, (zR_ HI281.out.1), (zQ_ HI281.out.1), (zP_ HI281.out.1)⟩ (fun hHeld => ?_)
    clear hK K
    refine nm_ ?_
    refine pu_ HT_ 15 (some 61) (bA 24 1048575) ?_
    refine on_ HT_ 20 none (bA 24 2097151) (fun K hK => ?_)
    have hs52 : w51.cell? ⟨gb279, 0, none⟩ = some (.int .i64 0) := (zb_ BK279.out 0).trans rfl
    have hfs52 := za_ BK279.out 0
    have hns52_1 := NB280_279.out
    have hns52_2 := NB298_279.out
    have hms52_1 := NB279_280.out
    have hms52_2 := NB279_298.out
    have hs53 : w51.cell? ⟨gb279, 1, none⟩ = some (.string (⟨#[]⟩ : ByteArray)) := (zb_ BK279.out 1).trans rfl
    have hfs53 := za_ BK279.out 1
    have hns53_1 := NB280_279.out
    have hns53_2 := NB298_279.out
    have hms53_1 := NB279_280.out
    have hms53_2 := NB279_298.out
    refine sk_ ?_
    refine hK.out _ _ ⟨(by (rw [cell_far, cell_far]) <;> first | exact hHeld.1 | exact NB298_279.out), (by (rw [cell_far, cell_far]) <;> first | exact hHeld.2.1 | exact NB298_279.out), (by (rw [cell_far, cell_far]) <;> first | exact hHeld.2.2.1 | exact NB281_279.out), (by (rw [cell_far, cell_far]) <;> first | exact hHeld.2.2.2.1 | exact NB281_279.out), (by (rw [cell_far, cell_far]) <;> first | exact hHeld.2.2.2.2 | exact NB281_279.out)⟩ (fun hHeld => ?_)
    clear hK K
    refine on_ HT_ 21 none (bA 24 4194303) (fun K hK => ?_)
    have hs54 : w51.cell? ⟨gb280, 0, none⟩ = some (.string (⟨#[]⟩ : ByteArray)) := (zb_ BK280.out 0).trans rfl
    have hfs54 := za_ BK280.out 0
    have hns54_0 := NB279_280.out
    have hns54_2 := NB298_280.out
    have hms54_0 := NB280_279.out
    have hms54_2 := NB280_298.out
    have hs55 : w51.cell? ⟨gb280, 1, none⟩ = some (.int .i64 0) := (zb_ BK280.out 1).trans rfl
    have hfs55 := za_ BK280.out 1
    have hns55_0 := NB279_280.out
    have hns55_2 := NB298_280.out
    have hms55_0 := NB280_279.out
    have hms55_2 := NB280_298.out
    have hs56 : w51.cell? ⟨gb280, 2, none⟩ = some (.int .i64 0) := (zb_ BK280.out 2).trans rfl
    have hfs56 := za_ BK280.out 2
    have hns56_0 := NB279_280.out
    have hns56_2 := NB298_280.out
    have hms56_0 := NB280_279.out
    have hms56_2 := NB280_298.out
    have hs57 : w51.cell? ⟨gb280, 3, none⟩ = some (.int .i64 0) := (zb_ BK280.out 3).trans rfl
    have hfs57 := za_ BK280.out 3
    have hns57_0 := NB279_280.out
    have hns57_2 := NB298_280.out
    have hms57_0 := NB280_279.out
    have hms57_2 := NB280_298.out
    refine sk_ ?_
    refine hK.out _ _ ⟨(by (rw [cell_far, cell_far, cell_far, cell_far]) <;> first | exact hHeld.1 | exact NB298_280.out), (by (rw [cell_far, cell_far, cell_far, cell_far]) <;> first | exact hHeld.2.1 | exact NB298_280.out), (by (rw [cell_far, cell_far, cell_far, cell_far]) <;> first | exact hHeld.2.2.1 | exact NB281_280.out), (by (rw [cell_far, cell_far, cell_far, cell_far]) <;> first | exact hHeld.2.2.2.1 | exact NB281_280.out), (by (rw [cell_far, cell_far, cell_far, cell_far]) <;> first | exact hHeld.2.2.2.2 | exact NB281_280.out)⟩ (fun hHeld => ?_)
    clear hK K
    refine pu_ HT_ 22 (some 6) (bA 24 8388607) ?_
    refine pu_ HT_ 23 (some 7) (bA 24 16777215) ?_
    refine dn_ HT_ ?_
    try go_wp2
    refine bodyPost_ret (yN_ (rs := [.cell 4 60, .cell 5 58, .tmp 6, .tmp 7]) rfl (by simp) (.cell gb279 60 #[.int .i64 t290, .string t294] (0, 0) _ rfl bka_ Tryd.underlying60 rfl (by kernel_rfl) (.cell gb280 58 #[.string t286, .int .i64 t290, .int .i64 (wrap64 (t296 - t301)), .int .i64 t302] (0, 0) _ rfl bka_ Tryd.underlying58 rfl (by kernel_rfl) (.tmp (.tmp .nil))))) rfl ?_
    exact ⟨ri_, belg_ (zj_.ge HI281.out)⟩
/-! ### zv_: function 9 -/
def zv_.l0 : Nat → ByteArray → List (S60) → Int → Option ((List (S60)) × Int × Int)
 | 0, _, _, _ => none
 | k + 1, x0, x3, x4 => (z6_.f x0).bind fun t305 => (if x4 < t305 then ((zn_.f k x0 x4).bind fun bt306 => (if bt306.2.2.2.2.2.2.2 = true then (if x3.length < 5864062014805 then (zv_.l0 k x0 (x3 ++ [(⟨bt306.1, bt306.2.1⟩ : S60)]) bt306.2.2.2.2.2.2.1) else (none)) else (some (([] : List (S60)), x4, 3)))) else ((z4_.f k x3).bind fun t319 => (if t319 = true then (some (x3, 0, 0)) else (some (([] : List (S60)), 0, 1)))))
def zv_.f (k : Nat) (a0 : ByteArray) : Option ((List (S60)) × Int × Int) := (xa_.f a0).bind fun t304 => (if t304 = true then (some (([] : List (S60)), 0, 2)) else (zv_.l0 k a0 ([] : List (S60)) 0))
theorem zv_.mono_l : ∀ k, (∀ y0 y1 y2, LeO (zv_.l0 k y0 y1 y2) (zv_.l0 (k + 1) y0 y1 y2))
 | 0 => fun _ _ _ r h => by simp [zv_.l0] at h
 | k + 1 => by
  have ih0 := zv_.mono_l k
  ·
   intro y0 y1 y2
   unfold zv_.l0
   repeat' with_reducible first | exact ih0 _ _ _ | exact z4_.mono _ _ | exact zn_.mono _ _ _ | exact LeO.refl _ | exact LeO.none _ | refine LeO.ite ?_ ?_ | refine LeO.bind ?_ (fun _ => ?_)
theorem zv_.mono : ∀ a0 k, LeO (zv_.f k a0) (zv_.f (k + 1) a0) := by
 intro a0 k
 have ih0 := zv_.mono_l k
 unfold zv_.f
 repeat' with_reducible first | exact ih0 _ _ _ | exact z4_.mono _ _ | exact zn_.mono _ _ _ | exact LeO.refl _ | exact LeO.none _ | refine LeO.ite ?_ ?_ | refine LeO.bind ?_ (fun _ => ?_)
theorem zv_.calls (k : Nat) (a0 : ByteArray) (r1 : List (S60)) (r2 : Int) (r3 : Int) (w : World) (h : zv_.f k a0 = some (r1, r2, r3)) (hL : Hand.LaidG w := by first | exact hL | exact Hand.LaidG.below hL bel_) :
 Calls Tryd.prog 9 #[.string a0] w fun e w' => ∃ v0_ : Value, e = .returned (.agg #[v0_, .int .i64 r2, .int .i64 r3]) ∧ Kd.R k60 60 w' w.heap.size (fun _ => True) v0_ r1 ∧ Below w.heap.size w w' := by
 have hu24 := Tryd.underlying24
 have hu60 := Tryd.underlying60
 have hu58 := Tryd.underlying58
 have HB := AM (Below.refl w.heap.size w)
 have H : ((xa_.f a0).bind fun t304 => (if t304 = true then (some (([] : List (S60)), 0, 2)) else (zv_.l0 k a0 ([] : List (S60)) 0))) = some (r1, r2, r3) := h
 clear h
 obtain ⟨t304, A2, H⟩ := OB H
 try dsimp only at H
 replace A2 := AM A2
 by_cases c3 : t304 = true
 ·
  subst c3
  rw [if_pos rfl] at H
  simp only [Option.some.injEq, Prod.mk.injEq] at H
  obtain ⟨rfl, rfl, rfl⟩ := H
  go_enter Tryd.func9, Tryd.ntmps9
  go_wp2_with (first | ((with_reducible refine zy_ (N := 2) rfl ?_); refine be_ 2 #[.slice none 0 0, .int .i64 0, .int .i64 0] 24 ?_; intro gb303 hg w4 hbox hb; have BK303 := AM hbox; have GW303 := AM ((by rw [hg]; exact (zf_ bel_) : w.heap.size ≤ gb303)); have GE303 := AM ((by rw [hg]; exact (zf_ bel_) : w.heap.size ≤ gb303)); replace HB := AM (zc_ bel_ hb); clear hb hbox hg) | ((with_reducible refine zg_ (f := 41) rfl ?_); refine gl_ (some 10) Tryd.func41 #[.string a0] ?_; (with_reducible refine (xa_.calls a0 true _ A2.out).mono ?_); rintro e w' ⟨rfl, ⟨nd, rfl⟩⟩; refine ⟨_, rfl, ?_⟩; (try (rw [y5_ w4]; generalize hq_ : World.drewN w4 _ = w4; replace BK303 : zd_ (w4.heap[gb303]? = some (.cells #[.slice none 0 0, .int .i64 0, .int .i64 0] 24 (0, 0))) := ⟨by rw [← hq_]; exact (bk_ BK303.out)⟩; replace HB : zd_ (Below w.heap.size w w4) := ⟨by rw [← hq_]; exact bel_⟩; clear hq_)); have hcz5_0 : w4.cell? ⟨gb303, 0, none⟩ = some (.slice none 0 0) := (zb_ BK303.out 0).trans rfl; have hcz5_1 : w4.cell? ⟨gb303, 1, none⟩ = some (.int .i64 0) := (zb_ BK303.out 1).trans rfl; have hcz5_2 : w4.cell? ⟨gb303, 2, none⟩ = some (.int .i64 0) := (zb_ BK303.out 2).trans rfl; have hfz5_0 := za_ BK303.out 0; have hfz5_1 := za_ BK303.out 1; have hfz5_2 := za_ BK303.out 2))
  refine bodyPost_ret (results_cell_row rfl _ _ gb303 24 #[.slice none 0 0, .int .i64 0, .int .i64 2] (0, 0) _ rfl bka_ Tryd.underlying24 rfl (by kernel_rfl)) rfl ?_
  exact ⟨_, ri_, by first | exact Kd.R_nil _ _ _ _ _ | exact Kd.N_nil _ _ _ _ _ | exact Kd.V_nil _ _ _ _ _ | exact Kd.Q_nil _ _ _ _ _ | exact Kd.S_nil _ _ _ _ _, bel_⟩
 ·
  replace c3 := Bool.eq_false_iff.mpr c3
  subst c3
  rw [if_neg (show ¬ (false = true) by decide)] at H
  have H' := AM H
  clear H
  go_enter Tryd.func9, Tryd.ntmps9
  go_wp2_with (first | ((with_reducible refine zy_ (N := 2) rfl ?_); refine be_ 2 #[.slice none 0 0, .int .i64 0, .int .i64 0] 24 ?_; intro gb303 hg w6 hbox hb; have BK303 := AM hbox; have GW303 := AM ((by rw [hg]; exact (zf_ bel_) : w.heap.size ≤ gb303)); have GE303 := AM ((by rw [hg]; exact (zf_ bel_) : w.heap.size ≤ gb303)); replace HB := AM (zc_ bel_ hb); clear hb hbox hg) | ((with_reducible refine zg_ (f := 41) rfl ?_); refine gl_ (some 10) Tryd.func41 #[.string a0] ?_; (with_reducible refine (xa_.calls a0 false _ A2.out).mono ?_); rintro e w' ⟨rfl, ⟨nd, rfl⟩⟩; refine ⟨_, rfl, ?_⟩))
  go_loopg [3, 4] k (fun kq v3 v4 w' => ∃ (x3_1 : List (S60)) (x4_1 : Int) (x304001_1 : Int) (x304002_1 : Int), v4 = .int .i64 x4_1 ∧ zd_ (zv_.l0 kq a0 x3_1 x4_1 = some (r1, r2, r3)) ∧ zd_ (kq ≤ k) ∧ zd_ (Kd.R k60 60 w' w.heap.size (fun _ => True) v3 x3_1) ∧ zd_ (w'.heap[gb303]? = some (.cells #[(.slice none 0 0), .int .i64 x304001_1, .int .i64 x304002_1] 24 (0, 0))) ∧ zd_ (Below w.heap.size w w'))
  case atStart => exact ⟨(([] : List (S60))), (0), (0), (0), re_, H', ⟨Nat.le_refl _⟩, ⟨by first | exact Kd.R_nil _ _ _ _ _ | exact Kd.N_nil _ _ _ _ _ | exact Kd.V_nil _ _ _ _ _ | exact Kd.Q_nil _ _ _ _ _ | exact Kd.S_nil _ _ _ _ _⟩, ⟨bk_ BK303.out⟩, ⟨bel_⟩⟩
  case round =>
   clear H'
   (try clear c3); (try clear hcz5_0); (try clear hcz5_1); (try clear hcz5_2); (try clear hfz5_0); (try clear hfz5_1); (try clear hfz5_2)
   obtain ⟨x3_1, x4_1, x304001_1, x304002_1, rfl, HA, HK1, HO_3, BK303, HB⟩ := hrel
   cases gk with
   | zero => exact absurd HA.out (by simp [zv_.l0])
   | succ k1 =>
    have H := HA.out
    clear HA
    simp only [zv_.l0] at H
    obtain ⟨t305, A7, H⟩ := OB H
    try dsimp only at H
    replace A7 := AM A7
    by_cases c8 : x4_1 < t305
    ·
     rw [if_pos c8] at H
     have c8b0 : decide (x4_1 < t305) = true := decide_eq_true c8
     clear c8
     obtain ⟨⟨t306, t307, t308, t309, t310, t311, t312, t313⟩, A9, H⟩ := OB H
     try dsimp only at H
     replace A9 := AM A9
     by_cases c10 : t313 = true
     ·
      subst c10
      rw [if_pos rfl] at H
      by_cases c11 : x3_1.length < 5864062014805
      ·
       rw [if_pos c11] at H
       have LMc11 := AM c11
       clear c11
       obtain ⟨y316, hy316⟩ : ∃ y_ : List (S60), y_ = (x3_1 ++ [(⟨t306, t307⟩ : S60)]) := ⟨_, rfl⟩
       replace H : (zv_.l0 k1 a0 y316 t312) = some (r1, r2, r3) := hy_ hy316 H
       have Ny316 := AM hy316
       clear hy316
       have H' := AM H
       clear H
       go_wp2_with (first | ((with_reducible refine zg_ (f := 42) rfl ?_); refine gl_ (some 14) Tryd.func42 #[.string a0] ?_; (with_reducible refine (z6_.calls a0 t305 _ A7.out).mono ?_); rintro e w' ⟨rfl, ⟨nd, rfl⟩⟩; refine ⟨_, rfl, ?_⟩; (try (rw [y5_ wr]; generalize hq_ : World.drewN wr _ = wr; replace HO_3 : zd_ (Kd.R k60 60 wr w.heap.size (fun _ => True) u3 x3_1) := ⟨by rw [← hq_]; exact (ro_ HO_3.out)⟩; replace BK303 : zd_ (wr.heap[gb303]? = some (.cells #[.slice none 0 0, .int .i64 x304001_1, .int .i64 x304002_1] 24 (0, 0))) := ⟨by rw [← hq_]; exact (bk_ BK303.out)⟩; replace HB : zd_ (Below w.heap.size w wr) := ⟨by rw [← hq_]; exact bel_⟩; clear hq_))) | ((with_reducible refine zg_ (f := 43) rfl ?_); refine gl_ (some 19) Tryd.func43 #[.string a0, .int .i64 x4_1] ?_; (with_reducible refine (zn_.calls k1 a0 x4_1 t306 t307 t308 t309 t310 t311 t312 true _ A9.out).mono ?_); rintro e w12 ⟨rfl, hb⟩; refine ⟨_, rfl, ?_⟩; replace HO_3 := AM (Kd.zX_ (ro_ HO_3.out) hb); replace BK303 := AM (zh_ (g := gb303) (o := .cells #[.slice none 0 0, .int .i64 x304001_1, .int .i64 x304002_1] 24 (0, 0)) (bk_ BK303.out) hb); replace HB := AM (zc_ bel_ hb); (try clear hb)) | ((with_reducible refine zy_ (N := 5) rfl ?_); refine be_ 5 #[.int .i64 0, .string (⟨#[]⟩ : ByteArray)] 60 ?_; intro gb314 hg w13 hbox hb; replace HO_3 := AM (Kd.zX_ (Kd.R_elderB (ro_ HO_3.out) gb314 (Nat.le_of_eq hg.symm)) hb); have BK314 := AM hbox; have GW314 := AM ((by rw [hg]; exact (zf_ bel_) : w.heap.size ≤ gb314)); have GE314 := AM ((by rw [hg]; exact (zf_ bel_) : w.heap.size ≤ gb314)); replace HB := AM (zc_ bel_ hb); have NB303_314 := AM ((by rw [hg]; exact Nat.ne_of_lt (zA_ (g := gb303) (o := .cells #[.slice none 0 0, .int .i64 x304001_1, .int .i64 x304002_1] 24 (0, 0)) (bk_ BK303.out)) : gb303 ≠ gb314)); have NB314_303 := AM ((by rw [hg]; exact Nat.ne_of_gt (zA_ (g := gb303) (o := .cells #[.slice none 0 0, .int .i64 x304001_1, .int .i64 x304002_1] 24 (0, 0)) (bk_ BK303.out)) : gb314 ≠ gb303)); replace BK303 := AM (zh_ (g := gb303) (o := .cells #[.slice none 0 0, .int .i64 x304001_1, .int .i64 x304002_1] 24 (0, 0)) (bk_ BK303.out) hb); clear hb hbox hg) | ((with_reducible refine zy_ (N := 6) rfl ?_); refine be_ 6 #[.string (⟨#[]⟩ : ByteArray), .int .i64 0, .int .i64 0, .int .i64 0] 58 ?_; intro gb315 hg w14 hbox hb; replace HO_3 := AM (Kd.zX_ (ro_ HO_3.out) hb); have BK315 := AM hbox; have GW315 := AM ((by rw [hg]; exact (zf_ bel_) : w.heap.size ≤ gb315)); have GE315 := AM ((by rw [hg]; exact (zf_ bel_) : w.heap.size ≤ gb315)); replace HB := AM (zc_ bel_ hb); have NB303_315 := AM ((by rw [hg]; exact Nat.ne_of_lt (zA_ (g := gb303) (o := .cells #[.slice none 0 0, .int .i64 x304001_1, .int .i64 x304002_1] 24 (0, 0)) (bk_ BK303.out)) : gb303 ≠ gb315)); have NB315_303 := AM ((by rw [hg]; exact Nat.ne_of_gt (zA_ (g := gb303) (o := .cells #[.slice none 0 0, .int .i64 x304001_1, .int .i64 x304002_1] 24 (0, 0)) (bk_ BK303.out)) : gb315 ≠ gb303)); replace BK303 := AM (zh_ (g := gb303) (o := .cells #[.slice none 0 0, .int .i64 x304001_1, .int .i64 x304002_1] 24 (0, 0)) (bk_ BK303.out) hb); have NB314_315 := AM ((by rw [hg]; exact Nat.ne_of_lt (zA_ (g := gb314) (o := .cells #[.int .i64 0, .string (⟨#[]⟩ : ByteArray)] 60 (0, 0)) (bk_ BK314.out)) : gb314 ≠ gb315)); have NB315_314 := AM ((by rw [hg]; exact Nat.ne_of_gt (zA_ (g := gb314) (o := .cells #[.int .i64 0, .string (⟨#[]⟩ : ByteArray)] 60 (0, 0)) (bk_ BK314.out)) : gb315 ≠ gb314)); replace BK314 := AM (zh_ (g := gb314) (o := .cells #[.int .i64 0, .string (⟨#[]⟩ : ByteArray)] 60 (0, 0)) (bk_ BK314.out) hb); clear hb hbox hg; have hnb15 := NB314_303.out; have hnc15 := NB303_314.out; have hnb16 := NB314_315.out; have hnc16 := NB315_314.out; have hcz17_0 : w14.cell? ⟨gb314, 0, none⟩ = some (.int .i64 0) := (zb_ BK314.out 0).trans rfl; have hcz17_1 : w14.cell? ⟨gb314, 1, none⟩ = some (.string (⟨#[]⟩ : ByteArray)) := (zb_ BK314.out 1).trans rfl; have hfz17_0 := za_ BK314.out 0; have hfz17_1 := za_ BK314.out 1; have hnb18 := NB315_303.out; have hnc18 := NB303_315.out; have hcz19_0 : w14.cell? ⟨gb315, 0, none⟩ = some (.string (⟨#[]⟩ : ByteArray)) := (zb_ BK315.out 0).trans rfl; have hcz19_1 : w14.cell? ⟨gb315, 1, none⟩ = some (.int .i64 0) := (zb_ BK315.out 1).trans rfl; have hcz19_2 : w14.cell? ⟨gb315, 2, none⟩ = some (.int .i64 0) := (zb_ BK315.out 2).trans rfl; have hcz19_3 : w14.cell? ⟨gb315, 3, none⟩ = some (.int .i64 0) := (zb_ BK315.out 3).trans rfl; have hfz19_0 := za_ BK315.out 0; have hfz19_1 := za_ BK315.out 1; have hfz19_2 := za_ BK315.out 2; have hfz19_3 := za_ BK315.out 3) | ((with_reducible refine ye_ (b := .append) (xs := #[.tmp 28, .tmp 30]) rfl ?_); at_builtin; refine Kd.y7_ k60 (w0 := w) w.heap.size rfl (.tmp 28) (.tmp 30) 22 60 (.agg #[(.int .i64 0), (.string ⟨#[]⟩)]) 24 rfl Tryd.underlying22 info60 rfl (by decide) (by omega) u3 x3_1 (⟨t306, t307⟩ : S60) [.int .i64 t306, .string t307] (fun k_ => k_ ≠ gb314) (fun _ => False) rfl (by first | (go_simp; done) | (go_simp; rfl)) ?aP (fun _ hk => hk.elim) ?aF ?aO ?aB ?aS ?aL ?_; (case aP => exact k60_mkM _ _ _ (⟨t306, t307⟩ : S60)); (case aB => exact bel_); (case aF => exact (fun k_ hk => Kd.freshB (g := gb314) (o := .cells #[.int .i64 t306, .string t307] 60 (0, 0)) bka_ k_ hk)); (case aO => exact (by (with_reducible repeat (first | apply Kd.yv_ | apply Kd.yt_ | apply Kd.yI_)); exact Kd.z9_ (Kd.R_far (p := ⟨gb315, 3, none⟩) (Kd.R_far (p := ⟨gb315, 2, none⟩) (Kd.R_far (p := ⟨gb315, 1, none⟩) (Kd.R_far (p := ⟨gb315, 0, none⟩) (Kd.R_far (p := ⟨gb314, 1, none⟩) (Kd.R_far (p := ⟨gb314, 0, none⟩) (Kd.yB_ (Kd.z9_ HO_3.out (fun k_ hk => (⟨hk, hk.2⟩ : _ ∧ k_ ≠ gb314))) BK315.out (by decide)) (fun _ hk => hk.1.2) (.int .i64 t306)) (fun _ hk => hk.1.2) (.string t307)) (fun _ hk => hk.2) (.string t308)) (fun _ hk => hk.2) (.int .i64 t309)) (fun _ hk => hk.2) (.int .i64 t310)) (fun _ hk => hk.2) (.int .i64 t311)) (fun _ hk => hk.1.1.2))); (case aS => exact (zf_ bel_)); (case aL => have := LMc11.out; omega); intro v317 w20 ho hb hg hat; rw [← Ny316.out] at ho; have n0_ := AM (yu_ (g := gb303) (o := .cells #[.slice none 0 0, .int .i64 x304001_1, .int .i64 x304002_1] 24 (0, 0)) bka_ hg (Kd.R_ne HO_3.out BK303.out (by decide))); have n1_ := AM (yu_ (g := gb314) (o := .cells #[.int .i64 t306, .string t307] 60 (0, 0)) bka_ hg (Kd.R_away HO_3.out (fun _ hk => hk.2))); have n2_ := AM (yu_ (g := gb315) (o := .cells #[.string t308, .int .i64 t309, .int .i64 t310, .int .i64 t311] 58 (0, 0)) bka_ hg (Kd.R_ne HO_3.out BK315.out (by decide))); have n3_ := AM hb; have n4_ := AM ho; clear BK303; clear BK314; clear BK315; clear HB; clear HO_3; have BK303 := n0_; have BK314 := n1_; have BK315 := n2_; have HB := n3_; have HO318 := n4_; clear n0_ n1_ n2_ n3_ n4_; clear ho hb hg hat))
       go_roundg k1
       case measure => have := HK1.out; omega
       case rel => exact ⟨(y316), (t312), (x304001_1), (x304002_1), re_, H', ⟨by have := HK1.out; omega⟩, ⟨by (with_reducible repeat (first | apply Kd.yv_ | apply Kd.yt_ | apply Kd.yI_)); exact Kd.z9_ HO318.out (fun _ hk => trivial)⟩, ⟨bk_ BK303.out⟩, ⟨bel_⟩⟩
      ·
       rw [if_neg c11] at H
       exact absurd H (by simp)
     ·
      replace c10 := Bool.eq_false_iff.mpr c10
      subst c10
      rw [if_neg (show ¬ (false = true) by decide)] at H
      simp only [Option.some.injEq, Prod.mk.injEq] at H
      obtain ⟨rfl, rfl, rfl⟩ := H
      go_wp2_with (first | ((with_reducible refine zg_ (f := 42) rfl ?_); refine gl_ (some 14) Tryd.func42 #[.string a0] ?_; (with_reducible refine (z6_.calls a0 t305 _ A7.out).mono ?_); rintro e w' ⟨rfl, ⟨nd, rfl⟩⟩; refine ⟨_, rfl, ?_⟩; (try (rw [y5_ wr]; generalize hq_ : World.drewN wr _ = wr; replace HO_3 : zd_ (Kd.R k60 60 wr w.heap.size (fun _ => True) u3 x3_1) := ⟨by rw [← hq_]; exact (ro_ HO_3.out)⟩; replace BK303 : zd_ (wr.heap[gb303]? = some (.cells #[.slice none 0 0, .int .i64 x304001_1, .int .i64 x304002_1] 24 (0, 0))) := ⟨by rw [← hq_]; exact (bk_ BK303.out)⟩; replace HB : zd_ (Below w.heap.size w wr) := ⟨by rw [← hq_]; exact bel_⟩; clear hq_))) | ((with_reducible refine zg_ (f := 43) rfl ?_); refine gl_ (some 19) Tryd.func43 #[.string a0, .int .i64 x4_1] ?_; (with_reducible refine (zn_.calls k1 a0 x4_1 t306 t307 t308 t309 t310 t311 t312 false _ A9.out).mono ?_); rintro e w21 ⟨rfl, hb⟩; refine ⟨_, rfl, ?_⟩; replace HO_3 := AM (Kd.zX_ (ro_ HO_3.out) hb); replace BK303 := AM (zh_ (g := gb303) (o := .cells #[.slice none 0 0, .int .i64 x304001_1, .int .i64 x304002_1] 24 (0, 0)) (bk_ BK303.out) hb); replace HB := AM (zc_ bel_ hb); (try clear hb); (try clear hk)) | ((with_reducible refine zy_ (N := 5) rfl ?_); refine be_ 5 #[.int .i64 0, .string (⟨#[]⟩ : ByteArray)] 60 ?_; intro gb314 hg w22 hbox hb; replace HO_3 := AM (Kd.zX_ (Kd.R_elderB (ro_ HO_3.out) gb314 (Nat.le_of_eq hg.symm)) hb); have BK314 := AM hbox; have GW314 := AM ((by rw [hg]; exact (zf_ bel_) : w.heap.size ≤ gb314)); have GE314 := AM ((by rw [hg]; exact (zf_ bel_) : w.heap.size ≤ gb314)); replace HB := AM (zc_ bel_ hb); have NB303_314 := AM ((by rw [hg]; exact Nat.ne_of_lt (zA_ (g := gb303) (o := .cells #[.slice none 0 0, .int .i64 x304001_1, .int .i64 x304002_1] 24 (0, 0)) (bk_ BK303.out)) : gb303 ≠ gb314)); have NB314_303 := AM ((by rw [hg]; exact Nat.ne_of_gt (zA_ (g := gb303) (o := .cells #[.slice none 0 0, .int .i64 x304001_1, .int .i64 x304002_1] 24 (0, 0)) (bk_ BK303.out)) : gb314 ≠ gb303)); replace BK303 := AM (zh_ (g := gb303) (o := .cells #[.slice none 0 0, .int .i64 x304001_1, .int .i64 x304002_1] 24 (0, 0)) (bk_ BK303.out) hb); clear hb hbox hg) | ((with_reducible refine zy_ (N := 6) rfl ?_); refine be_ 6 #[.string (⟨#[]⟩ : ByteArray), .int .i64 0, .int .i64 0, .int .i64 0] 58 ?_; intro gb315 hg w23 hbox hb; replace HO_3 := AM (Kd.zX_ (ro_ HO_3.out) hb); have BK315 := AM hbox; have GW315 := AM ((by rw [hg]; exact (zf_ bel_) : w.heap.size ≤ gb315)); have GE315 := AM ((by rw [hg]; exact (zf_ bel_) : w.heap.size ≤ gb315)); replace HB := AM (zc_ bel_ hb); have NB303_315 := AM ((by rw [hg]; exact Nat.ne_of_lt (zA_ (g := gb303) (o := .cells #[.slice none 0 0, .int .i64 x304001_1, .int .i64 x304002_1] 24 (0, 0)) (bk_ BK303.out)) : gb303 ≠ gb315)); have NB315_303 := AM ((by rw [hg]; exact Nat.ne_of_gt (zA_ (g := gb303) (o := .cells #[.slice none 0 0, .int .i64 x304001_1, .int .i64 x304002_1] 24 (0, 0)) (bk_ BK303.out)) : gb315 ≠ gb303)); replace BK303 := AM (zh_ (g := gb303) (o := .cells #[.slice none 0 0, .int .i64 x304001_1, .int .i64 x304002_1] 24 (0, 0)) (bk_ BK303.out) hb); have NB314_315 := AM ((by rw [hg]; exact Nat.ne_of_lt (zA_ (g := gb314) (o := .cells #[.int .i64 0, .string (⟨#[]⟩ : ByteArray)] 60 (0, 0)) (bk_ BK314.out)) : gb314 ≠ gb315)); have NB315_314 := AM ((by rw [hg]; exact Nat.ne_of_gt (zA_ (g := gb314) (o := .cells #[.int .i64 0, .string (⟨#[]⟩ : ByteArray)] 60 (0, 0)) (bk_ BK314.out)) : gb315 ≠ gb314)); replace BK314 := AM (zh_ (g := gb314) (o := .cells #[.int .i64 0, .string (⟨#[]⟩ : ByteArray)] 60 (0, 0)) (bk_ BK314.out) hb); clear hb hbox hg; have hnb24 := NB314_303.out; have hnc24 := NB303_314.out; have hnb25 := NB314_315.out; have hnc25 := NB315_314.out; have hcz26_0 : w23.cell? ⟨gb314, 0, none⟩ = some (.int .i64 0) := (zb_ BK314.out 0).trans rfl; have hcz26_1 : w23.cell? ⟨gb314, 1, none⟩ = some (.string (⟨#[]⟩ : ByteArray)) := (zb_ BK314.out 1).trans rfl; have hfz26_0 := za_ BK314.out 0; have hfz26_1 := za_ BK314.out 1; have hnb27 := NB315_303.out; have hnc27 := NB303_315.out; have hcz28_0 : w23.cell? ⟨gb315, 0, none⟩ = some (.string (⟨#[]⟩ : ByteArray)) := (zb_ BK315.out 0).trans rfl; have hcz28_1 : w23.cell? ⟨gb315, 1, none⟩ = some (.int .i64 0) := (zb_ BK315.out 1).trans rfl; have hcz28_2 : w23.cell? ⟨gb315, 2, none⟩ = some (.int .i64 0) := (zb_ BK315.out 2).trans rfl; have hcz28_3 : w23.cell? ⟨gb315, 3, none⟩ = some (.int .i64 0) := (zb_ BK315.out 3).trans rfl; have hfz28_0 := za_ BK315.out 0; have hfz28_1 := za_ BK315.out 1; have hfz28_2 := za_ BK315.out 2; have hfz28_3 := za_ BK315.out 3; have hcz29_0 : w23.cell? ⟨gb303, 0, none⟩ = some (.slice none 0 0) := (zb_ BK303.out 0).trans rfl; have hcz29_1 : w23.cell? ⟨gb303, 1, none⟩ = some (.int .i64 x304001_1) := (zb_ BK303.out 1).trans rfl; have hcz29_2 : w23.cell? ⟨gb303, 2, none⟩ = some (.int .i64 x304002_1) := (zb_ BK303.out 2).trans rfl; have hfz29_0 := za_ BK303.out 0; have hfz29_1 := za_ BK303.out 1; have hfz29_2 := za_ BK303.out 2))
      refine bodyPost_ret (results_cell_row rfl _ _ gb303 24 #[.slice none 0 0, .int .i64 x4_1, .int .i64 3] (0, 0) _ rfl bka_ Tryd.underlying24 rfl (by kernel_rfl)) rfl ?_
      exact ⟨_, ri_, by first | exact Kd.R_nil _ _ _ _ _ | exact Kd.N_nil _ _ _ _ _ | exact Kd.V_nil _ _ _ _ _ | exact Kd.Q_nil _ _ _ _ _ | exact Kd.S_nil _ _ _ _ _, bel_⟩
    ·
     rw [if_neg c8] at H
     have c8b0 : decide (x4_1 < t305) = false := decide_eq_false c8
     clear c8
     obtain ⟨t319, A30, H⟩ := OB H
     try dsimp only at H
     replace A30 := AM A30
     by_cases c31 : t319 = true
     ·
      subst c31
      rw [if_pos rfl] at H
      simp only [Option.some.injEq, Prod.mk.injEq] at H
      obtain ⟨rfl, rfl, rfl⟩ := H
      go_wp2_with (first | ((with_reducible refine zg_ (f := 42) rfl ?_); refine gl_ (some 14) Tryd.func42 #[.string a0] ?_; (with_reducible refine (z6_.calls a0 t305 _ A7.out).mono ?_); rintro e w' ⟨rfl, ⟨nd, rfl⟩⟩; refine ⟨_, rfl, ?_⟩; (try (rw [y5_ wr]; generalize hq_ : World.drewN wr _ = wr; replace HO_3 : zd_ (Kd.R k60 60 wr w.heap.size (fun _ => True) u3 x3_1) := ⟨by rw [← hq_]; exact (ro_ HO_3.out)⟩; replace BK303 : zd_ (wr.heap[gb303]? = some (.cells #[.slice none 0 0, .int .i64 x304001_1, .int .i64 x304002_1] 24 (0, 0))) := ⟨by rw [← hq_]; exact (bk_ BK303.out)⟩; replace HB : zd_ (Below w.heap.size w wr) := ⟨by rw [← hq_]; exact bel_⟩; clear hq_)); obtain ⟨Ao32, co32, eo32⟩ := Kd.yg_ HO_3.out; subst eo32) | ((with_reducible refine zg_ (f := 16) rfl ?_); refine gl_ (some 34) Tryd.func16 #[.slice Ao32 x3_1.length co32] ?_; (with_reducible refine (z4_.calls k1 _ _ x3_1 true _ ?side1 ?side2 A30.out).mono ?_); (case side1 => repeat (first | exact (Kd.zY_ HO_3.out).2.2 | (with_reducible refine Kd.yo_ ?_ _) | (with_reducible refine Kd.yn_ ?_ _) | (with_reducible refine Kd.yz_ ?_))); (case side2 => exact (Kd.zY_ HO_3.out).2.1); rintro e w33 ⟨rfl, hb⟩; refine ⟨_, rfl, ?_⟩; replace HO_3 := AM (Kd.zX_ (ro_ HO_3.out) hb); replace BK303 := AM (zh_ (g := gb303) (o := .cells #[.slice none 0 0, .int .i64 x304001_1, .int .i64 x304002_1] 24 (0, 0)) (bk_ BK303.out) hb); replace HB := AM (zc_ bel_ hb); (try clear hb); have hcz34_0 : w33.cell? ⟨gb303, 0, none⟩ = some (.slice none 0 0) := (zb_ BK303.out 0).trans rfl; have hcz34_1 : w33.cell? ⟨gb303, 1, none⟩ = some (.int .i64 x304001_1) := (zb_ BK303.out 1).trans rfl; have hcz34_2 : w33.cell? ⟨gb303, 2, none⟩ = some (.int .i64 x304002_1) := (zb_ BK303.out 2).trans rfl; have hfz34_0 := za_ BK303.out 0; have hfz34_1 := za_ BK303.out 1; have hfz34_2 := za_ BK303.out 2))
      refine bodyPost_ret (results_cell_row rfl _ _ gb303 24 #[.slice Ao32 x3_1.length co32, .int .i64 0, .int .i64 0] (0, 0) _ rfl bka_ Tryd.underlying24 rfl (by kernel_rfl)) rfl ?_
      exact ⟨_, ri_, by (with_reducible repeat (first | apply Kd.yv_ | apply Kd.yt_ | apply Kd.yI_)); exact Kd.z9_ (Kd.R_far (p := ⟨gb303, 2, none⟩) (Kd.R_far (p := ⟨gb303, 1, none⟩) (Kd.R_far (p := ⟨gb303, 0, none⟩) (Kd.yB_ HO_3.out BK303.out (by decide)) (fun _ hk => hk.2) (.slice Ao32 x3_1.length co32)) (fun _ hk => hk.2) (.int .i64 0)) (fun _ hk => hk.2) (.int .i64 0)) (fun _ hk => trivial), bel_⟩
     ·
      replace c31 := Bool.eq_false_iff.mpr c31
      subst c31
      rw [if_neg (show ¬ (false = true) by decide)] at H
      simp only [Option.some.injEq, Prod.mk.injEq] at H
      obtain ⟨rfl, rfl, rfl⟩ := H
      go_wp2_with (first | ((with_reducible refine zg_ (f := 42) rfl ?_); refine gl_ (some 14) Tryd.func42 #[.string a0] ?_; (with_reducible refine (z6_.calls a0 t305 _ A7.out).mono ?_); rintro e w' ⟨rfl, ⟨nd, rfl⟩⟩; refine ⟨_, rfl, ?_⟩; (try (rw [y5_ wr]; generalize hq_ : World.drewN wr _ = wr; replace HO_3 : zd_ (Kd.R k60 60 wr w.heap.size (fun _ => True) u3 x3_1) := ⟨by rw [← hq_]; exact (ro_ HO_3.out)⟩; replace BK303 : zd_ (wr.heap[gb303]? = some (.cells #[.slice none 0 0, .int .i64 x304001_1, .int .i64 x304002_1] 24 (0, 0))) := ⟨by rw [← hq_]; exact (bk_ BK303.out)⟩; replace HB : zd_ (Below w.heap.size w wr) := ⟨by rw [← hq_]; exact bel_⟩; clear hq_)); obtain ⟨Ao35, co35, eo35⟩ := Kd.yg_ HO_3.out; subst eo35) | ((with_reducible refine zg_ (f := 16) rfl ?_); refine gl_ (some 34) Tryd.func16 #[.slice Ao35 x3_1.length co35] ?_; (with_reducible refine (z4_.calls k1 _ _ x3_1 false _ ?side1 ?side2 A30.out).mono ?_); (case side1 => repeat (first | exact (Kd.zY_ HO_3.out).2.2 | (with_reducible refine Kd.yo_ ?_ _) | (with_reducible refine Kd.yn_ ?_ _) | (with_reducible refine Kd.yz_ ?_))); (case side2 => exact (Kd.zY_ HO_3.out).2.1); rintro e w36 ⟨rfl, hb⟩; refine ⟨_, rfl, ?_⟩; replace HO_3 := AM (Kd.zX_ (ro_ HO_3.out) hb); replace BK303 := AM (zh_ (g := gb303) (o := .cells #[.slice none 0 0, .int .i64 x304001_1, .int .i64 x304002_1] 24 (0, 0)) (bk_ BK303.out) hb); replace HB := AM (zc_ bel_ hb); (try clear hb); (try clear hk); have hcz37_0 : w36.cell? ⟨gb303, 0, none⟩ = some (.slice none 0 0) := (zb_ BK303.out 0).trans rfl; have hcz37_1 : w36.cell? ⟨gb303, 1, none⟩ = some (.int .i64 x304001_1) := (zb_ BK303.out 1).trans rfl; have hcz37_2 : w36.cell? ⟨gb303, 2, none⟩ = some (.int .i64 x304002_1) := (zb_ BK303.out 2).trans rfl; have hfz37_0 := za_ BK303.out 0; have hfz37_1 := za_ BK303.out 1; have hfz37_2 := za_ BK303.out 2))
      refine bodyPost_ret (results_cell_row rfl _ _ gb303 24 #[.slice none 0 0, .int .i64 0, .int .i64 1] (0, 0) _ rfl bka_ Tryd.underlying24 rfl (by kernel_rfl)) rfl ?_
      exact ⟨_, ri_, by first | exact Kd.R_nil _ _ _ _ _ | exact Kd.N_nil _ _ _ _ _ | exact Kd.V_nil _ _ _ _ _ | exact Kd.Q_nil _ _ _ _ _ | exact Kd.S_nil _ _ _ _ _, bel_⟩
/-- A state of type 113 at block g of W; what its slices lead to came in by w0. -/
def zi_ (w0 W : World) (g : Nat) (f0 : List Int) (f1 : Int) (f2 : Int) (f3 : Int) : Prop := ∃ A0 c0, W.heap[g]? = some (.cells #[.slice A0 f0.length c0, .int .i64 f1, .int .u64 f2, .int .i64 f3] 113 (0, 0)) ∧ w0.heap.size ≤ g ∧ Kd.C (Kd.int .u8) w0 A0 f0.length f0
theorem zi_.grown {w0 W : World} {g : Nat} {f0 : List Int} {f1 : Int} {f2 : Int} {f3 : Int} {W1 : World} {row : Option Nat} (h : zi_ w0 W g f0 f1 f2 f3) (hw : W.grownBy W1 row) (hne : some g ≠ row) : zi_ w0 W1 g f0 f1 f2 f3 := by
 obtain ⟨A0, c0, hb, hg, hr0⟩ := h
 exact ⟨A0, c0, yu_ hb hw hne, hg, hr0⟩
theorem zi_.own_neN {w0 W : World} {g : Nat} {f0 : List Int} {f1 : Int} {f2 : Int} {f3 : Int} {α : Type} {d : Kd α} {e : Nat} {base : Nat} {ok : Nat → Prop} {v : Value} {xs : List α} (h : zi_ w0 W g f0 f1 f2 f3) (ho : Kd.N d e W base ok v xs) (ht : e ≠ 113) : some g ≠ v.ownBlock := by
 obtain ⟨A0, c0, hb, hg, hr0⟩ := h
 exact Kd.N_ne ho hb ht
theorem zi_.fresh {w0 W : World} {g : Nat} {f0 : List Int} {f1 : Int} {f2 : Int} {f3 : Int} (h : zi_ w0 W g f0 f1 f2 f3) : ∀ k, W.heap.size ≤ k → k ≠ g := by
 obtain ⟨A0, c0, hb, hg, hr0⟩ := h
 exact Kd.freshB hb
theorem zi_.kept {w0 W : World} {g : Nat} {f0 : List Int} {f1 : Int} {f2 : Int} {f3 : Int} {W1 : World} {S : Nat → Prop} (h : zi_ w0 W g f0 f1 f2 f3) (hk : Kept W W1 S) (hne : ¬ S g) : zi_ w0 W1 g f0 f1 f2 f3 := by
 obtain ⟨A0, c0, hb, hg, hr0⟩ := h
 exact ⟨A0, c0, blk_kept hb hk hne, hg, hr0⟩
theorem zi_.below {w0 W : World} {g : Nat} {f0 : List Int} {f1 : Int} {f2 : Int} {f3 : Int} {W1 : World} (h : zi_ w0 W g f0 f1 f2 f3) (hw : Below W.heap.size W W1) : zi_ w0 W1 g f0 f1 f2 f3 := h.grown (grown_of_below hw none) (by simp)
theorem zi_.alloc {w0 W : World} {g : Nat} {f0 : List Int} {f1 : Int} {f2 : Int} {f3 : Int} (h : zi_ w0 W g f0 f1 f2 f3) (o : Obj) : zi_ w0 (W.alloc o) g f0 f1 f2 f3 := h.below (ym_ (Below.refl _ _) o)
theorem zi_.drewN {w0 W : World} {g : Nat} {f0 : List Int} {f1 : Int} {f2 : Int} {f3 : Int} (h : zi_ w0 W g f0 f1 f2 f3) (m : Nat) : zi_ w0 (W.drewN m) g f0 f1 f2 f3 := h
theorem zi_.drew {w0 W : World} {g : Nat} {f0 : List Int} {f1 : Int} {f2 : Int} {f3 : Int} (h : zi_ w0 W g f0 f1 f2 f3) : zi_ w0 W.drew g f0 f1 f2 f3 := h
theorem zi_.at_ {w0 W : World} {g : Nat} {f0 : List Int} {f1 : Int} {f2 : Int} {f3 : Int} {w' : World} {m : Nat} (hq : W.drewN m = w') (h : zi_ w0 W g f0 f1 f2 f3) : zi_ w0 w' g f0 f1 f2 f3 := by subst hq; exact zi_.drewN h m
theorem zi_.apart {w0 W : World} {g : Nat} {f0 : List Int} {f1 : Int} {f2 : Int} {f3 : Int} {α : Type} {d : Kd α} {e : Nat} {base : Nat} {ok : Nat → Prop} {v : Value} {xs : List α} (h : zi_ w0 W g f0 f1 f2 f3) (ho : d.R e W base ok v xs) (ht : ∀ q, q ∈ e :: d.E → q ≠ 113) : d.R e W base (fun k => ok k ∧ k ≠ g) v xs := by
 obtain ⟨A0, c0, hb, hg, hr0⟩ := h
 exact Kd.yB_ ho hb ht
theorem zi_.own_ne {w0 W : World} {g : Nat} {f0 : List Int} {f1 : Int} {f2 : Int} {f3 : Int} {α : Type} {d : Kd α} {e : Nat} {base : Nat} {ok : Nat → Prop} {v : Value} {xs : List α} (h : zi_ w0 W g f0 f1 f2 f3) (ho : d.R e W base ok v xs) (ht : e ≠ 113) : some g ≠ v.ownBlock := by
 obtain ⟨A0, c0, hb, hg, hr0⟩ := h
 exact Kd.R_ne ho hb ht
theorem zi_.apartQ {w0 W : World} {g : Nat} {f0 : List Int} {f1 : Int} {f2 : Int} {f3 : Int} {α : Type} {d : Kd α} {e : Nat} {base : Nat} {ok : Nat → Prop} {v : Value} {xs : List α} (h : zi_ w0 W g f0 f1 f2 f3) (ho : d.Q e W base ok v xs) (ht : ∀ q, q ∈ e :: d.E → q ≠ 113) : d.Q e W base (fun k => ok k ∧ k ≠ g) v xs := by
 obtain ⟨A0, c0, hb, hg, hr0⟩ := h
 exact Kd.Q_types ho hb ht
theorem zi_.own_neQ {w0 W : World} {g : Nat} {f0 : List Int} {f1 : Int} {f2 : Int} {f3 : Int} {α : Type} {d : Kd α} {e : Nat} {base : Nat} {ok : Nat → Prop} {v : Value} {xs : List α} (h : zi_ w0 W g f0 f1 f2 f3) (ho : d.Q e W base ok v xs) (ht : e ≠ 113) : some g ≠ v.ownBlock := by
 obtain ⟨A0, c0, hb, hg, hr0⟩ := h
 exact Kd.Q_ne ho hb ht
theorem zi_.apartS {w0 W : World} {g : Nat} {f0 : List Int} {f1 : Int} {f2 : Int} {f3 : Int} {α : Type} {d : Kd α} {e : Nat} {base : Nat} {ok : Nat → Prop} {v : Value} {xs : List α} (h : zi_ w0 W g f0 f1 f2 f3) (ho : d.S e W base ok v xs) (ht : ∀ q, q ∈ e :: d.E → q ≠ 113) : d.S e W base (fun k => ok k ∧ k ≠ g) v xs := by
 obtain ⟨A0, c0, hb, hg, hr0⟩ := h
 exact Kd.S_types ho hb ht
theorem zi_.own_neS {w0 W : World} {g : Nat} {f0 : List Int} {f1 : Int} {f2 : Int} {f3 : Int} {α : Type} {d : Kd α} {e : Nat} {base : Nat} {ok : Nat → Prop} {v : Value} {xs : List α} (h : zi_ w0 W g f0 f1 f2 f3) (ho : d.S e W base ok v xs) (ht : e ≠ 113) : some g ≠ v.ownBlock := by
 obtain ⟨A0, c0, hb, hg, hr0⟩ := h
 exact Kd.S_ne ho hb ht
theorem zi_.lt {w0 W : World} {g : Nat} {f0 : List Int} {f1 : Int} {f2 : Int} {f3 : Int} (h : zi_ w0 W g f0 f1 f2 f3) : g < W.heap.size := by
 obtain ⟨A0, c0, hb, hg, hr0⟩ := h
 exact zA_ hb
theorem zi_.ge {w0 W : World} {g : Nat} {f0 : List Int} {f1 : Int} {f2 : Int} {f3 : Int} (h : zi_ w0 W g f0 f1 f2 f3) : w0.heap.size ≤ g := by
 obtain ⟨A0, c0, hb, hg, hr0⟩ := h
 exact hg
theorem zi_.ne_blk {w0 W : World} {g : Nat} {f0 : List Int} {f1 : Int} {f2 : Int} {f3 : Int} {a : Nat} {cs : Array Value} {t : TypeId} {fr : Nat × Nat} (h : zi_ w0 W g f0 f1 f2 f3) (hb2 : W.heap[a]? = some (.cells cs t fr)) (ht : t ≠ 113) : g ≠ a := by
 obtain ⟨A0, c0, hb, hg, hr0⟩ := h
 rintro rfl
 rw [hb] at hb2
 injection hb2 with hb2
 injection hb2 with _ ht2
 exact ht ht2.symm
theorem zi_.far {w0 W : World} {g : Nat} {f0 : List Int} {f1 : Int} {f2 : Int} {f3 : Int} {p : Addr} (h : zi_ w0 W g f0 f1 f2 f3) (hne : g ≠ p.block) (u : Value) : zi_ w0 (W.setCell p u) g f0 f1 f2 f3 := by
 obtain ⟨A0, c0, hb, hg, hr0⟩ := h
 exact ⟨A0, c0, blk_far hb hne u, hg, hr0⟩
theorem cellS113_0 {W : World} {g : Nat} {A0 : Option Addr} {c0 : Nat} {f0 : List Int} {f1 : Int} {f2 : Int} {f3 : Int} (h : W.heap[g]? = some (.cells #[.slice A0 f0.length c0, .int .i64 f1, .int .u64 f2, .int .i64 f3] 113 (0, 0))) : W.cell? ⟨g, 0, none⟩ = some (.slice A0 f0.length c0) := (zb_ h 0).trans rfl
theorem cellS113_1 {W : World} {g : Nat} {A0 : Option Addr} {c0 : Nat} {f0 : List Int} {f1 : Int} {f2 : Int} {f3 : Int} (h : W.heap[g]? = some (.cells #[.slice A0 f0.length c0, .int .i64 f1, .int .u64 f2, .int .i64 f3] 113 (0, 0))) : W.cell? ⟨g, 1, none⟩ = some (.int .i64 f1) := (zb_ h 1).trans rfl
theorem zi_.set_1 {w0 W : World} {g : Nat} {f0 : List Int} {f1 : Int} {f2 : Int} {f3 : Int} (h : zi_ w0 W g f0 f1 f2 f3) (x : Int) : zi_ w0 (W.setCell ⟨g, 1, none⟩ (.int .i64 x)) g f0 x f2 f3 := by
 obtain ⟨A0, c0, hb, hg, hr0⟩ := h
 exact ⟨A0, c0, by simpa using blk_set hb 1 (.int .i64 x), hg, hr0⟩
theorem y6_ {W : World} {g : Nat} {A0 : Option Addr} {c0 : Nat} {f0 : List Int} {f1 : Int} {f2 : Int} {f3 : Int} (h : W.heap[g]? = some (.cells #[.slice A0 f0.length c0, .int .i64 f1, .int .u64 f2, .int .i64 f3] 113 (0, 0))) : W.cell? ⟨g, 2, none⟩ = some (.int .u64 f2) := (zb_ h 2).trans rfl
theorem zi_.set_2 {w0 W : World} {g : Nat} {f0 : List Int} {f1 : Int} {f2 : Int} {f3 : Int} (h : zi_ w0 W g f0 f1 f2 f3) (x : Int) : zi_ w0 (W.setCell ⟨g, 2, none⟩ (.int .u64 x)) g f0 f1 x f3 := by
 obtain ⟨A0, c0, hb, hg, hr0⟩ := h
 exact ⟨A0, c0, by simpa using blk_set hb 2 (.int .u64 x), hg, hr0⟩
theorem cellS113_3 {W : World} {g : Nat} {A0 : Option Addr} {c0 : Nat} {f0 : List Int} {f1 : Int} {f2 : Int} {f3 : Int} (h : W.heap[g]? = some (.cells #[.slice A0 f0.length c0, .int .i64 f1, .int .u64 f2, .int .i64 f3] 113 (0, 0))) : W.cell? ⟨g, 3, none⟩ = some (.int .i64 f3) := (zb_ h 3).trans rfl
theorem zi_.set_3 {w0 W : World} {g : Nat} {f0 : List Int} {f1 : Int} {f2 : Int} {f3 : Int} (h : zi_ w0 W g f0 f1 f2 f3) (x : Int) : zi_ w0 (W.setCell ⟨g, 3, none⟩ (.int .i64 x)) g f0 f1 f2 x := by
 obtain ⟨A0, c0, hb, hg, hr0⟩ := h
 exact ⟨A0, c0, by simpa using blk_set hb 3 (.int .i64 x), hg, hr0⟩
theorem zi_.new (w0 W : World) (A0 : Option Addr) (c0 : Nat) (f0 : List Int) (f1 : Int) (f2 : Int) (f3 : Int) (hB : Below w0.heap.size w0 W) (hr0 : Kd.C (Kd.int .u8) w0 A0 f0.length f0) : zi_ w0 (W.alloc (.cells #[.slice A0 f0.length c0, .int .i64 f1, .int .u64 f2, .int .i64 f3] 113)) W.heap.size f0 f1 f2 f3 := ⟨A0, c0, by simpa using heap_alloc_new W _, hB.size, hr0⟩
/-! ### zD_: function 47 -/
theorem zi_.farA {w0 W : World} {g : Nat} {f0 : List Int} {f1 : Int} {f2 : Int} {f3 : Int} {p : Addr} {u : Value} (hne : zd_ (g ≠ p.block)) (h : zi_ w0 W g f0 f1 f2 f3) : zi_ w0 (W.setCell p u) g f0 f1 f2 f3 := zi_.far h hne.out u
theorem zJ_ {w0 W : World} {g : Nat} {f0 : List Int} {f1 : Int} {f2 : Int} {f3 : Int} (h : zi_ w0 W g f0 f1 f2 f3 := by repeat (first | (with_reducible first | (refine zd_.out ?_; assumption) | apply zi_.alloc | apply zi_.drewN | apply zi_.drew | (apply zi_.farA; assumption) | apply zi_.set_1 | apply zi_.set_2 | apply zi_.set_3) | (refine zd_.out ?_; assumption))) : zi_ w0 W g f0 f1 f2 f3 := h
def zD_.l0 : Nat → List Int → Int → List Int → Int → Int → Int → Option (List Int × Int × Int × Int)
 | 0, _, _, _, _, _, _ => none
 | k + 1, x0, x4, x321000, x321001, x321002, x321003 => if x4 < (x0.length : Int) then (if x4 < 64 then (if 0 ≤ x4 then (zD_.l0 k x0 (wrap64 (x4 + 1)) x321000 x321001 (IntKind.u64.wrap ((Go.bits .xor .u64 x321002 (IntKind.u64.wrap (rd x0 x4))) * 1099511628211)) x321003) else (none)) else (if (wrap64 ((x0.length : Int) / 20)) > 12 then (some (x321000, x321001, x321002, 12)) else (some (x321000, x321001, x321002, wrap64 ((x0.length : Int) / 20))))) else (if (wrap64 ((x0.length : Int) / 20)) > 12 then (some (x321000, x321001, x321002, 12)) else (some (x321000, x321001, x321002, wrap64 ((x0.length : Int) / 20))))
def zD_.f (k : Nat) (l0 : List Int) : Option (List Int × Int × Int × Int) := zD_.l0 k l0 0 l0 0 88172645463325252 0
theorem zD_.mono_l : ∀ k, (∀ y0 y1 y2 y3 y4 y5, LeO (zD_.l0 k y0 y1 y2 y3 y4 y5) (zD_.l0 (k + 1) y0 y1 y2 y3 y4 y5))
 | 0 => fun _ _ _ _ _ _ r h => by simp [zD_.l0] at h
 | k + 1 => by
  have ih0 := zD_.mono_l k
  ·
   intro y0 y1 y2 y3 y4 y5
   unfold zD_.l0
   repeat' with_reducible first | exact ih0 _ _ _ _ _ _ | exact LeO.refl _ | exact LeO.none _ | refine LeO.ite ?_ ?_ | refine LeO.bind ?_ (fun _ => ?_)
theorem zD_.mono : ∀ a0 k, LeO (zD_.f k a0) (zD_.f (k + 1) a0) := by
 intro a0 k
 have ih0 := zD_.mono_l k
 unfold zD_.f
 repeat' with_reducible first | exact ih0 _ _ _ _ _ _ | exact LeO.refl _ | exact LeO.none _ | refine LeO.ite ?_ ?_ | refine LeO.bind ?_ (fun _ => ?_)
theorem zD_.calls (k : Nat) (A0 : Option Addr) (c0 : Nat) (l0 : List Int) (r1 : List Int) (r2 : Int) (r3 : Int) (r4 : Int) (w0 w : World) (hB : Below w0.heap.size w0 w) (hr0 : Kd.C (Kd.int .u8) w0 A0 l0.length l0) (hc0 : l0.length ≤ c0) (h : zD_.f k l0 = some (r1, r2, r3, r4)) :
 Calls Tryd.prog 47 #[.slice A0 l0.length c0] w fun e w' => ∃ g_ : Nat, e = .returned (.pointer (some ⟨g_, 0, none⟩)) ∧ zi_ w0 w' g_ r1 r2 r3 r4 ∧ Below w0.heap.size w0 w' ∧ Below w.heap.size w w' := by
 have hu := Tryd.underlying113
 have HR0 := AM hr0
 have HC0 := AM hc0
 have HW0 := AM hB.size
 have hI := zi_.new w0 w A0 c0 l0 0 88172645463325252 0 hB hr0
 have HI0 := AM hI
 have HB0 := AM (hB.alloc hB.size (Obj.cells #[.slice A0 l0.length c0, .int .i64 0, .int .u64 88172645463325252, .int .i64 0] 113))
 have HV0 := AM ((Below.refl w.heap.size w).alloc (Nat.le_refl _) (Obj.cells #[.slice A0 l0.length c0, .int .i64 0, .int .u64 88172645463325252, .int .i64 0] 113))
 have H' := AM (show zD_.l0 k l0 0 l0 0 88172645463325252 0 = some (r1, r2, r3, r4) from h)
 clear hB hr0 hc0 hI h
 go_enter Tryd.func47, Tryd.ntmps47
 go_wp2
 generalize hq : World.alloc w _ = w1 at HI0 HB0 HV0 ⊢
 revert HI0
 generalize hgg : w.heap.size = g
 intro HI0
 have HE := AM (show w.heap.size ≤ g by omega)
 clear hq hgg
 go_loopg [4] k (fun kq v4 w' => ∃ (x m : Int), v4 = .int .i64 x ∧ zd_ (zD_.l0 kq l0 x l0 0 m 0 = some (r1, r2, r3, r4)) ∧ zd_ (kq ≤ k) ∧ zd_ (zi_ w0 w' g l0 0 m 0) ∧ zd_ (Below w0.heap.size w0 w') ∧ zd_ (Below w.heap.size w w'))
 case atStart => exact ⟨0, 88172645463325252, rfl, H', ⟨Nat.le_refl _⟩, HI0, HB0, HV0⟩
 case round =>
  clear H' HI0 HB0 HV0
  obtain ⟨x, m, rfl, HA, HK1, HI, HB, HV⟩ := hrel
  cases gk with
  | zero => exact absurd HA.out (by simp [zD_.l0])
  | succ k1 =>
   have H := HA.out
   clear HA
   simp only [zD_.l0] at H
   obtain ⟨A1, cc, hb, hge, hr⟩ := HI.out
   have hx0 := cellS113_0 hb
   have hx2 := y6_ hb
   have hx3 := cellS113_3 hb
   have hf2 := za_ hb 2
   have hf3 := za_ hb 3
   clear hb hge hr
   have stop : (if (wrap64 ((l0.length : Int) / 20)) > 12 then (some (l0, (0 : Int), m, (12 : Int))) else (some (l0, 0, m, wrap64 ((l0.length : Int) / 20)))) = some (r1, r2, r3, r4) → (12 < wrap64 ((l0.length : Int) / 20) ∧ l0 = r1 ∧ 0 = r2 ∧ m = r3 ∧ 12 = r4) ∨ (¬ 12 < wrap64 ((l0.length : Int) / 20) ∧ l0 = r1 ∧ 0 = r2 ∧ m = r3 ∧ wrap64 ((l0.length : Int) / 20) = r4) := by
    intro q
    by_cases c : 12 < wrap64 ((l0.length : Int) / 20)
    ·
     rw [if_pos c] at q
     simp only [Option.some.injEq, Prod.mk.injEq] at q
     exact .inl ⟨c, q⟩
    ·
     rw [if_neg c] at q
     simp only [Option.some.injEq, Prod.mk.injEq] at q
     exact .inr ⟨c, q⟩
   by_cases c3 : x < (l0.length : Int)
   ·
    rw [if_pos c3] at H
    by_cases c4 : x < 64
    ·
     rw [if_pos c4] at H
     by_cases c5 : 0 ≤ x
     ·
      rw [if_pos c5] at H
      obtain ⟨ad, rfl, hxe⟩ := Kd.at_int HR0.out x c5 c3
      replace hxe := cellG HB.out (grow_refl _) hxe
      have H' := AM H
      have c3b0 : decide (x < (l0.length : Int)) = true := decide_eq_true c3
      have c3b1 := eq_true c3
      have c4b0 : decide (x < 64) = true := decide_eq_true c4
      have c5b0 := eq_true c5
      clear H c3 c4 c5 stop hx0 hx3 hf3
      go_wp2
      go_region
      generalize hq : World.drew _ = wn
      have HIn := AM (show zi_ w0 wn g l0 0 (IntKind.u64.wrap ((Go.bits .xor .u64 m (IntKind.u64.wrap (rd l0 x))) * 1099511628211)) 0 by rw [← hq]; exact zi_.set_2 HI.out _)
      have HBn := AM (show Below w0.heap.size w0 wn by rw [← hq]; (repeat refine zF_ ?_); exact yf_ HB.out HI.out.ge)
      have HVn := AM (show Below w.heap.size w wn by rw [← hq]; (repeat refine zF_ ?_); exact yf_ HV.out HE.out)
      clear hq hx2 hf2 hxe HI HB HV
      go_wp2
      go_roundg k1
      case measure => have := HK1.out; omega
      case rel => exact ⟨wrap64 (x + 1), _, re_, H', ⟨by have := HK1.out; omega⟩, HIn, HBn, HVn⟩
     ·
      rw [if_neg c5] at H
      cases H
    ·
     rw [if_neg c4] at H
     have c3b0 : decide (x < (l0.length : Int)) = true := decide_eq_true c3
     have c4b0 : decide (x < 64) = false := decide_eq_false c4
     clear c3 c4
     rcases stop H with ⟨c6, rfl, rfl, rfl, rfl⟩ | ⟨c6, rfl, rfl, rfl, rfl⟩
     ·
      have c6b : decide (12 < wrap64 ((l0.length : Int) / 20)) = true := decide_eq_true c6
      clear H stop c6 hx0 hx2 hf2
      go_wp2
      go_ret
      exact ⟨g, rfl, zi_.set_3 (zi_.set_3 HI.out _) _, yf_ (yf_ HB.out HI.out.ge) HI.out.ge, yf_ (yf_ HV.out HE.out) HE.out⟩
     ·
      have c6b : decide (12 < wrap64 ((l0.length : Int) / 20)) = false := decide_eq_false c6
      clear H stop c6 hx0 hx2 hf2
      go_wp2
      go_ret
      exact ⟨g, rfl, zi_.set_3 HI.out _, yf_ HB.out HI.out.ge, yf_ HV.out HE.out⟩
   ·
    rw [if_neg c3] at H
    have c3b0 : decide (x < (l0.length : Int)) = false := decide_eq_false c3
    clear c3
    rcases stop H with ⟨c6, rfl, rfl, rfl, rfl⟩ | ⟨c6, rfl, rfl, rfl, rfl⟩
    ·
     have c6b : decide (12 < wrap64 ((l0.length : Int) / 20)) = true := decide_eq_true c6
     clear H stop c6 hx0 hx2 hf2
     go_wp2
     go_ret
     exact ⟨g, rfl, zi_.set_3 (zi_.set_3 HI.out _) _, yf_ (yf_ HB.out HI.out.ge) HI.out.ge, yf_ (yf_ HV.out HE.out) HE.out⟩
    ·
     have c6b : decide (12 < wrap64 ((l0.length : Int) / 20)) = false := decide_eq_false c6
     clear H stop c6 hx0 hx2 hf2
     go_wp2
     go_ret
     exact ⟨g, rfl, zi_.set_3 HI.out _, yf_ HB.out HI.out.ge, yf_ HV.out HE.out⟩
/-! ### zs_: function 53 -/
def zs_.f (s0_0 : List Int) (s0_1 : Int) (s0_2 : Int) (s0_3 : Int) (a1 : Int) : Option (Int × Int × Int × Int) := if a1 ≤ 1 then (some (0, s0_1, s0_2, s0_3)) else (if s0_1 < (s0_0.length : Int) then (if 0 ≤ s0_1 then (if (IntKind.u64.wrap (a1)) = 0 then (none) else (some (wrap64 (Int.tmod (IntKind.u64.wrap ((IntKind.u64.wrap (rd s0_0 s0_1)) + ((Go.bits .xor .u64 (Go.bits .xor .u64 (Go.bits .xor .u64 s0_2 (IntKind.u64.wrap (s0_2 * 8192))) ((Go.bits .xor .u64 s0_2 (IntKind.u64.wrap (s0_2 * 8192))) / 128)) (IntKind.u64.wrap ((Go.bits .xor .u64 (Go.bits .xor .u64 s0_2 (IntKind.u64.wrap (s0_2 * 8192))) ((Go.bits .xor .u64 s0_2 (IntKind.u64.wrap (s0_2 * 8192))) / 128)) * 131072))) / 1048576))) (IntKind.u64.wrap (a1))), wrap64 (s0_1 + 1), Go.bits .xor .u64 (Go.bits .xor .u64 (Go.bits .xor .u64 s0_2 (IntKind.u64.wrap (s0_2 * 8192))) ((Go.bits .xor .u64 s0_2 (IntKind.u64.wrap (s0_2 * 8192))) / 128)) (IntKind.u64.wrap ((Go.bits .xor .u64 (Go.bits .xor .u64 s0_2 (IntKind.u64.wrap (s0_2 * 8192))) ((Go.bits .xor .u64 s0_2 (IntKind.u64.wrap (s0_2 * 8192))) / 128)) * 131072)), s0_3))) else (none)) else (if (IntKind.u64.wrap (a1)) = 0 then (none) else (some (wrap64 (Int.tmod (IntKind.u64.wrap (0 + ((Go.bits .xor .u64 (Go.bits .xor .u64 (Go.bits .xor .u64 s0_2 (IntKind.u64.wrap (s0_2 * 8192))) ((Go.bits .xor .u64 s0_2 (IntKind.u64.wrap (s0_2 * 8192))) / 128)) (IntKind.u64.wrap ((Go.bits .xor .u64 (Go.bits .xor .u64 s0_2 (IntKind.u64.wrap (s0_2 * 8192))) ((Go.bits .xor .u64 s0_2 (IntKind.u64.wrap (s0_2 * 8192))) / 128)) * 131072))) / 1048576))) (IntKind.u64.wrap (a1))), s0_1, Go.bits .xor .u64 (Go.bits .xor .u64 (Go.bits .xor .u64 s0_2 (IntKind.u64.wrap (s0_2 * 8192))) ((Go.bits .xor .u64 s0_2 (IntKind.u64.wrap (s0_2 * 8192))) / 128)) (IntKind.u64.wrap ((Go.bits .xor .u64 (Go.bits .xor .u64 s0_2 (IntKind.u64.wrap (s0_2 * 8192))) ((Go.bits .xor .u64 s0_2 (IntKind.u64.wrap (s0_2 * 8192))) / 128)) * 131072)), s0_3))))
theorem zs_.calls (g : Nat) (s0_0 : List Int) (s0_1 : Int) (s0_2 : Int) (s0_3 : Int) (a1 : Int) (r1 : Int) (r2 : Int) (r3 : Int) (r4 : Int) (w0 w : World) (hI : zi_ w0 w g s0_0 s0_1 s0_2 s0_3) (hB : Below w0.heap.size w0 w) (h : zs_.f s0_0 s0_1 s0_2 s0_3 a1 = some (r1, r2, r3, r4)) :
 Calls Tryd.prog 53 #[.pointer (some ⟨g, 0, none⟩), .int .i64 a1] w fun e w' => e = .returned (.int .i64 r1) ∧ zi_ w0 w' g s0_0 r2 r3 r4 ∧ Below w0.heap.size w0 w' ∧ zw_ w w' g none := by
 have hu := Tryd.underlying113
 unfold zs_.f at h
 by_cases c3 : a1 ≤ 1
 ·
  rw [if_pos c3] at h
  simp only [Option.some.injEq, Prod.mk.injEq] at h
  obtain ⟨rfl, rfl, rfl, rfl⟩ := h
  have c3b0 : decide (a1 ≤ 1) = true := decide_eq_true c3
  have HI := AM hI
  have HB := AM hB
  clear hI hB c3
  go_enter Tryd.func53, Tryd.ntmps53
  go_wp2
  go_ret
  exact ⟨rfl, HI.out, HB.out, zw_.refl w g none⟩
 rw [if_neg c3] at h
 have c3b0 : decide (a1 ≤ 1) = false := decide_eq_false c3
 obtain ⟨m1, hm1⟩ : ∃ m, Go.bits .xor .u64 s0_2 (IntKind.u64.wrap (s0_2 * 8192)) = m := ⟨_, rfl⟩
 obtain ⟨m2, hm2⟩ : ∃ m, Go.bits .xor .u64 m1 (m1 / 128) = m := ⟨_, rfl⟩
 obtain ⟨m3, hm3⟩ : ∃ m, Go.bits .xor .u64 m2 (IntKind.u64.wrap (m2 * 131072)) = m := ⟨_, rfl⟩
 simp only [hm1, hm2, hm3] at h
 clear c3
 have fin : ∀ (v x : Int), (if IntKind.u64.wrap a1 = 0 then none else some (wrap64 ((IntKind.u64.wrap (v + m3 / 1048576)).tmod (IntKind.u64.wrap a1)), x, m3, s0_3)) = some (r1, r2, r3, r4) → IntKind.u64.wrap a1 ≠ 0 ∧ wrap64 ((IntKind.u64.wrap (v + m3 / 1048576)).tmod (IntKind.u64.wrap a1)) = r1 ∧ m3 = r3 ∧ s0_3 = r4 := by
  intro v x q
  by_cases c : IntKind.u64.wrap a1 = 0
  · rw [if_pos c] at q; cases q
  ·
   rw [if_neg c] at q
   simp only [Option.some.injEq, Prod.mk.injEq] at q
   exact ⟨c, q.1, q.2.2.1, q.2.2.2⟩
 by_cases c4 : s0_1 < (s0_0.length : Int)
 ·
  rw [if_pos c4] at h
  by_cases c5 : 0 ≤ s0_1
  ·
   rw [if_pos c5] at h
   obtain rfl : wrap64 (s0_1 + 1) = r2 := by
    split at h
    · cases h
    ·
     simp only [Option.some.injEq, Prod.mk.injEq] at h
     exact h.2.1
   obtain ⟨cn, rfl, rfl, rfl⟩ := fin _ _ h
   have c4b0 : decide (s0_1 < (s0_0.length : Int)) = true := decide_eq_true c4
   obtain ⟨A0, cc, hb, hge, hr⟩ := hI
   obtain ⟨ad, rfl, hxe⟩ := Kd.at_int hr s0_1 c5 c4
   replace hxe := cellG hB (grow_refl _) hxe
   have hx0 := cellS113_0 hb
   have hx1 := cellS113_1 hb
   have hf1 := za_ hb 1
   have HI := AM (show zi_ w0 w g s0_0 s0_1 s0_2 s0_3 from ⟨_, cc, hb, hge, hr⟩)
   have HB := AM hB
   have HK := AM (zw_.refl w g none)
   have CN := AM cn
   have M1 := AM hm1
   have M2 := AM hm2
   have M3 := AM hm3
   have c4p := eq_true c4
   have c5p := eq_true c5
   clear hb hr hge h hB c4 c5 fin cn hm1 hm2 hm3
   go_enter Tryd.func53, Tryd.ntmps53
   go_wp2
   go_region
   go_wp2
   go_region
   go_wp2
   generalize hq : World.setCell _ _ _ = wz
   have HIz := AM (show zi_ w0 wz g s0_0 (wrap64 (s0_1 + 1)) s0_2 s0_3 by rw [← hq]; exact zi_.set_1 HI.out _)
   have HBz := AM (show Below w0.heap.size w0 wz by rw [← hq]; exact yf_ HB.out HI.out.ge)
   have HKz := AM (show zw_ w wz g none by rw [← hq]; exact zw_.set_ HK.out 1 _)
   clear hq hx0 hx1 hxe hf1 HI HB HK
   obtain ⟨hx2, hf2⟩ : wz.cell? ⟨g, 2, none⟩ = some (.int .u64 s0_2) ∧ wz.frozen? ⟨g, 2, none⟩ = false := by obtain ⟨_, _, hb, _⟩ := HIz.out; exact ⟨y6_ hb, za_ hb 2⟩
   go_wp2
   go_region
   rw [M1.out]
   generalize hq : World.drew _ = w1
   have HI1 := AM (show zi_ w0 w1 g s0_0 (wrap64 (s0_1 + 1)) m1 s0_3 by rw [← hq]; exact zi_.set_2 HIz.out m1)
   have HB1 := AM (show Below w0.heap.size w0 w1 by rw [← hq]; (repeat refine zF_ ?_); exact yf_ HBz.out HIz.out.ge)
   have HK1 := AM (show zw_ w w1 g none by rw [← hq]; exact zw_.set_ HKz.out 2 _)
   clear hq hx2 hf2 HIz HBz HKz
   obtain ⟨hx2, hf2⟩ : w1.cell? ⟨g, 2, none⟩ = some (.int .u64 m1) ∧ w1.frozen? ⟨g, 2, none⟩ = false := by obtain ⟨_, _, hb, _⟩ := HI1.out; exact ⟨y6_ hb, za_ hb 2⟩
   go_wp2
   go_region
   rw [M2.out]
   generalize hq : World.drew _ = w2
   have HI2 := AM (show zi_ w0 w2 g s0_0 (wrap64 (s0_1 + 1)) m2 s0_3 by rw [← hq]; exact zi_.set_2 HI1.out m2)
   have HB2 := AM (show Below w0.heap.size w0 w2 by rw [← hq]; (repeat refine zF_ ?_); exact yf_ HB1.out HI1.out.ge)
   have HK2 := AM (show zw_ w w2 g none by rw [← hq]; exact zw_.set_ HK1.out 2 _)
   clear hq hx2 hf2 HI1 HB1 HK1
   obtain ⟨hx2, hf2⟩ : w2.cell? ⟨g, 2, none⟩ = some (.int .u64 m2) ∧ w2.frozen? ⟨g, 2, none⟩ = false := by obtain ⟨_, _, hb, _⟩ := HI2.out; exact ⟨y6_ hb, za_ hb 2⟩
   go_wp2
   go_region
   rw [M3.out]
   generalize hq : World.drew _ = w3
   have HI3 := AM (show zi_ w0 w3 g s0_0 (wrap64 (s0_1 + 1)) m3 s0_3 by rw [← hq]; exact zi_.set_2 HI2.out m3)
   have HB3 := AM (show Below w0.heap.size w0 w3 by rw [← hq]; (repeat refine zF_ ?_); exact yf_ HB2.out HI2.out.ge)
   have HK3 := AM (show zw_ w w3 g none by rw [← hq]; exact zw_.set_ HK2.out 2 _)
   clear hq hx2 hf2 HI2 HB2 HK2
   obtain ⟨hx2, hf2⟩ : w3.cell? ⟨g, 2, none⟩ = some (.int .u64 m3) ∧ w3.frozen? ⟨g, 2, none⟩ = false := by obtain ⟨_, _, hb, _⟩ := HI3.out; exact ⟨y6_ hb, za_ hb 2⟩
   have cn := CN.out
   go_wp2
   go_ret
   exact ⟨(by first | rfl | (simp; done)), HI3.out, HB3.out, HK3.out⟩
  ·
   rw [if_neg c5] at h
   cases h
 ·
  rw [if_neg c4] at h
  obtain rfl : s0_1 = r2 := by
   split at h
   · cases h
   ·
    simp only [Option.some.injEq, Prod.mk.injEq] at h
    exact h.2.1
  obtain ⟨cn, rfl, rfl, rfl⟩ := fin _ _ h
  have c4b0 : decide (s0_1 < (s0_0.length : Int)) = false := decide_eq_false c4
  obtain ⟨A0, cc, hb, hge, hr⟩ := hI
  have hx0 := cellS113_0 hb
  have hx1 := cellS113_1 hb
  have hx2 := y6_ hb
  have hf2 := za_ hb 2
  have HIz := AM (show zi_ w0 w g s0_0 s0_1 s0_2 s0_3 from ⟨A0, cc, hb, hge, hr⟩)
  have HBz := AM hB
  have HKz := AM (zw_.refl w g none)
  have CN := AM cn
  have M1 := AM hm1
  have M2 := AM hm2
  have M3 := AM hm3
  clear hb hr hge h hB c4 fin cn hm1 hm2 hm3
  go_enter Tryd.func53, Tryd.ntmps53
  go_wp2
  go_region
  go_wp2
  go_region
  rw [M1.out]
  generalize hq : World.drew _ = w1
  have HI1 := AM (show zi_ w0 w1 g s0_0 (s0_1) m1 s0_3 by rw [← hq]; exact zi_.set_2 HIz.out m1)
  have HB1 := AM (show Below w0.heap.size w0 w1 by rw [← hq]; (repeat refine zF_ ?_); exact yf_ HBz.out HIz.out.ge)
  have HK1 := AM (show zw_ w w1 g none by rw [← hq]; exact zw_.set_ HKz.out 2 _)
  clear hq hx2 hf2 HIz HBz HKz
  obtain ⟨hx2, hf2⟩ : w1.cell? ⟨g, 2, none⟩ = some (.int .u64 m1) ∧ w1.frozen? ⟨g, 2, none⟩ = false := by obtain ⟨_, _, hb, _⟩ := HI1.out; exact ⟨y6_ hb, za_ hb 2⟩
  go_wp2
  go_region
  rw [M2.out]
  generalize hq : World.drew _ = w2
  have HI2 := AM (show zi_ w0 w2 g s0_0 (s0_1) m2 s0_3 by rw [← hq]; exact zi_.set_2 HI1.out m2)
  have HB2 := AM (show Below w0.heap.size w0 w2 by rw [← hq]; (repeat refine zF_ ?_); exact yf_ HB1.out HI1.out.ge)
  have HK2 := AM (show zw_ w w2 g none by rw [← hq]; exact zw_.set_ HK1.out 2 _)
  clear hq hx2 hf2 HI1 HB1 HK1
  obtain ⟨hx2, hf2⟩ : w2.cell? ⟨g, 2, none⟩ = some (.int .u64 m2) ∧ w2.frozen? ⟨g, 2, none⟩ = false := by obtain ⟨_, _, hb, _⟩ := HI2.out; exact ⟨y6_ hb, za_ hb 2⟩
  go_wp2
  go_region
  rw [M3.out]
  generalize hq : World.drew _ = w3
  have HI3 := AM (show zi_ w0 w3 g s0_0 (s0_1) m3 s0_3 by rw [← hq]; exact zi_.set_2 HI2.out m3)
  have HB3 := AM (show Below w0.heap.size w0 w3 by rw [← hq]; (repeat refine zF_ ?_); exact yf_ HB2.out HI2.out.ge)
  have HK3 := AM (show zw_ w w3 g none by rw [← hq]; exact zw_.set_ HK2.out 2 _)
  clear hq hx2 hf2 HI2 HB2 HK2
  obtain ⟨hx2, hf2⟩ : w3.cell? ⟨g, 2, none⟩ = some (.int .u64 m3) ∧ w3.frozen? ⟨g, 2, none⟩ = false := by obtain ⟨_, _, hb, _⟩ := HI3.out; exact ⟨y6_ hb, za_ hb 2⟩
  have cn := CN.out
  go_wp2
  go_ret
  exact ⟨(by first | rfl | (simp; done)), HI3.out, HB3.out, HK3.out⟩
end Go.Proofs.YtfffdndeccipnaaDoor.PFnPack
