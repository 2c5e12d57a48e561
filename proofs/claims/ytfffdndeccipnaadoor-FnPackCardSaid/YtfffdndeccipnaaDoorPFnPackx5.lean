/- Functions of the law FnPack: the print's, with walks of this session's own. No statement is proved here. -/
import Derived.WalkLawsBesides
import Derived.Test.YtfffdndeccipnaaDoorPFnPackx4
namespace Go.Proofs.YtfffdndeccipnaaDoor.PFnPack
open Go.RowKit Go.Proofs.YtfffdndeccipnaaDoorW.PrintWords Go.Proofs.YtfffdndeccipnaaDoorW.PrintLast Go.Proofs.YtfffdndeccipnaaDoorW.PrintMore Go.Proofs.YtfffdndeccipnaaDoor.Reg Go.Proofs.YtfffdndeccipnaaDoor.Aut
attribute [local go_sem] max2_int min2_int max_two min_two y9_ y8_ max_four min_four
set_option linter.unusedVariables false
set_option linter.unusedSimpArgs false
set_option maxHeartbeats 8000000
set_option maxRecDepth 100000
/-! ### zm_: function 39 -/
mutual
def zm_.j0 : Nat → ByteArray → Int → Bool → Int → ByteArray → Option (ByteArray × Int × Int × Int × Int × ByteArray × Int × Bool)
 | 0, _, _, _, _, _ => none
 | k + 1, x0, x1, x24, x179000, x179001 => if x24 = true then (some ((⟨#[]⟩ : ByteArray), 0, 0, 0, x179000, x179001, 0, false)) else ((zl_.f k x0 (wrap64 (x1 + 33))).bind fun bt179 => (if bt179.2.2 = 0 then (if bt179.1 = 1 then (zm_.j1 k x0 x1 false x179000 x179001 bt179.1 bt179.2.1 bt179.2.2) else (zm_.j1 k x0 x1 (bt179.1 != 2) x179000 x179001 bt179.1 bt179.2.1 bt179.2.2)) else (zm_.j1 k x0 x1 true x179000 x179001 bt179.1 bt179.2.1 bt179.2.2)))
def zm_.j1 : Nat → ByteArray → Int → Bool → Int → ByteArray → Int → Int → Int → Option (ByteArray × Int × Int × Int × Int × ByteArray × Int × Bool)
 | 0, _, _, _, _, _, _, _, _ => none
 | k + 1, x0, x1, x43, x179000, x179001, x183000, x183001, x183002 => if x43 = true then (some ((⟨#[]⟩ : ByteArray), 0, 0, 0, x179000, x179001, 0, false)) else ((zl_.f k x0 x183001).bind fun bt183 => (if bt183.2.2 = 0 then (if bt183.1 < 0 then (some ((⟨#[]⟩ : ByteArray), 0, 0, 0, x179000, x179001, 0, false)) else (if bt183.1 > 2000 then (some ((⟨#[]⟩ : ByteArray), 0, 0, 0, x179000, x179001, 0, false)) else (if bt183.2.1 > (wrap64 ((x0.size : Int) - bt183.1)) then (some ((⟨#[]⟩ : ByteArray), 0, 0, 0, x179000, x179001, 0, false)) else (if 0 ≤ (wrap64 (x1 + 1)) then (if (wrap64 (x1 + 1)) ≤ (wrap64 (x1 + 33)) then (if (wrap64 (x1 + 33)) ≤ (x0.size : Int) then (if 0 ≤ bt183.2.1 then (if bt183.2.1 ≤ (wrap64 (bt183.2.1 + bt183.1)) then (if (wrap64 (bt183.2.1 + bt183.1)) ≤ (x0.size : Int) then ((zT_.f k x183000 (x0.extract (bt183.2.1 : Int).toNat ((wrap64 (bt183.2.1 + bt183.1)) : Int).toNat)).bind fun t189 => (some (x0.extract ((wrap64 (x1 + 1)) : Int).toNat ((wrap64 (x1 + 33)) : Int).toNat, x183000, bt183.2.1, bt183.1, x183000, x0.extract (bt183.2.1 : Int).toNat ((wrap64 (bt183.2.1 + bt183.1)) : Int).toNat, wrap64 (bt183.2.1 + bt183.1), (t189.toList == (x0.extract ((wrap64 (x1 + 1)) : Int).toNat ((wrap64 (x1 + 33)) : Int).toNat).toList)))) else (none)) else (none)) else (none)) else (none)) else (none)) else (none))))) else (some ((⟨#[]⟩ : ByteArray), 0, 0, 0, x179000, x179001, 0, false))))
end
def zm_.f (k : Nat) (a0 : ByteArray) (a1 : Int) : Option (ByteArray × Int × Int × Int × Int × ByteArray × Int × Bool) := if (wrap64 (a1 + 33)) > (a0.size : Int) then (zm_.j0 k a0 a1 true 0 (⟨#[]⟩ : ByteArray)) else (if 0 ≤ a1 then (if a1 < (a0.size : Int) then (zm_.j0 k a0 a1 ((bt a0 a1) != 66) 0 (⟨#[]⟩ : ByteArray)) else (none)) else (none))
theorem zm_.mono_l : ∀ k, (∀ y0 y1 y2 y3 y4, LeO (zm_.j0 k y0 y1 y2 y3 y4) (zm_.j0 (k + 1) y0 y1 y2 y3 y4)) ∧ (∀ y0 y1 y2 y3 y4 y5 y6 y7, LeO (zm_.j1 k y0 y1 y2 y3 y4 y5 y6 y7) (zm_.j1 (k + 1) y0 y1 y2 y3 y4 y5 y6 y7))
 | 0 => ⟨fun _ _ _ _ _ r h => by simp [zm_.j0] at h, fun _ _ _ _ _ _ _ _ r h => by simp [zm_.j1] at h⟩
 | k + 1 => by
  obtain ⟨ih0, ih1⟩ := zm_.mono_l k
  refine ⟨?_, ?_⟩
  ·
   intro y0 y1 y2 y3 y4
   unfold zm_.j0
   repeat' with_reducible first | exact ih0 _ _ _ _ _ | exact ih1 _ _ _ _ _ _ _ _ | exact zT_.mono _ _ _ | exact zl_.mono _ _ _ | exact LeO.refl _ | exact LeO.none _ | refine LeO.ite ?_ ?_ | refine LeO.bind ?_ (fun _ => ?_)
  ·
   intro y0 y1 y2 y3 y4 y5 y6 y7
   unfold zm_.j1
   repeat' with_reducible first | exact ih0 _ _ _ _ _ | exact ih1 _ _ _ _ _ _ _ _ | exact zT_.mono _ _ _ | exact zl_.mono _ _ _ | exact LeO.refl _ | exact LeO.none _ | refine LeO.ite ?_ ?_ | refine LeO.bind ?_ (fun _ => ?_)
theorem zm_.mono : ∀ a0 a1 k, LeO (zm_.f k a0 a1) (zm_.f (k + 1) a0 a1) := by
 intro a0 a1 k
 obtain ⟨ih0, ih1⟩ := zm_.mono_l k
 unfold zm_.f
 repeat' with_reducible first | exact ih0 _ _ _ _ _ | exact ih1 _ _ _ _ _ _ _ _ | exact zT_.mono _ _ _ | exact zl_.mono _ _ _ | exact LeO.refl _ | exact LeO.none _ | refine LeO.ite ?_ ?_ | refine LeO.bind ?_ (fun _ => ?_)
def zm_.T10 : Bool × List (List Nat × List Nat) := (true, [([], []), ([], []), ([1], [1]), ([], []), ([3], [3]), ([0, 2, 4], [0, 2, 4]), ([], []), ([6], [6]), ([], []), ([8], [8]), ([], []), ([10], [10]), ([5, 7, 9, 11], [5, 7, 9, 11]), ([], []), ([13, 12, 0, 1, 2, 3, 4, 5, 6, 7, 8, 9, 10, 11, 12, 13], [12, 13])])
def zm_.B10 : List Nat := [0, 0, 2, 0, 8, 31, 0, 64, 0, 256, 0, 1024, 4095, 0, 16383]
theorem zm_.tab10 : rtab .any (opsOf Tryd.f39 10) = zm_.T10 := by kernel_rfl
theorem zm_.bits10 : yR_ zm_.T10.2 zm_.B10 = true := by kernel_rfl
def zm_.T11 : Bool × List (List Nat × List Nat) := (true, [([], []), ([0], [0]), ([], []), ([], []), ([3], [3]), ([], []), ([5], [5]), ([], []), ([7], [7]), ([6, 8], [6, 8]), ([2, 4, 9], [2, 4, 9]), ([1, 10], [1, 10]), ([], []), ([12, 11, 0, 1, 2, 3, 4, 5, 6, 7, 8, 9, 10, 11, 12], [11, 12])])
def zm_.B11 : List Nat := [0, 1, 0, 0, 8, 0, 32, 0, 128, 480, 1020, 2047, 0, 8191]
theorem zm_.tab11 : rtab .any (opsOf Tryd.f39 11) = zm_.T11 := by kernel_rfl
theorem zm_.bits11 : yR_ zm_.T11.2 zm_.B11 = true := by kernel_rfl
def zm_.T12 : Bool × List (List Nat × List Nat) := (true, [([], []), ([], []), ([], []), ([2], [2]), ([], []), ([4], [4]), ([3, 5], [3, 5]), ([], []), ([7], [7]), ([], []), ([9], [9]), ([8, 10], [8, 10]), ([0, 8, 0], [0]), ([1, 12, 0, 1, 12], [1]), ([6, 13, 0, 1, 2, 3, 4, 5, 6, 12, 13], [6]), ([11, 14, 0, 1, 2, 3, 4, 5, 6, 7, 8, 9, 10, 11, 12, 13, 14], [11])])
def zm_.B12 : List Nat := [0, 0, 0, 4, 0, 16, 60, 0, 128, 0, 512, 1920, 385, 4483, 12799, 32767]
theorem zm_.tab12 : rtab .any (opsOf Tryd.f39 12) = zm_.T12 := by kernel_rfl
theorem zm_.bits12 : yR_ zm_.T12.2 zm_.B12 = true := by kernel_rfl
theorem zm_.calls (k : Nat) (a0 : ByteArray) (a1 : Int) (r1 : ByteArray) (r2 : Int) (r3 : Int) (r4 : Int) (r5 : Int) (r6 : ByteArray) (r7 : Int) (r8 : Bool) (w : World) (h : zm_.f k a0 a1 = some (r1, r2, r3, r4, r5, r6, r7, r8)) :
 Calls Tryd.prog 39 #[.string a0, .int .i64 a1] w fun e w' => e = .returned (.tuple #[.agg #[.string r1, .int .i64 r2, .int .i64 r3, .int .i64 r4], .agg #[.int .i64 r5, .string r6], .int .i64 r7, .bool r8]) ∧ Below w.heap.size w w' := by
 have hu58 := Tryd.underlying58
 have hu60 := Tryd.underlying60
 have hu102 := Tryd.underlying102
 have HB := AM (Below.refl w.heap.size w)
 have H : (if (wrap64 (a1 + 33)) > (a0.size : Int) then (zm_.j0 k a0 a1 true 0 (⟨#[]⟩ : ByteArray)) else (if 0 ≤ a1 then (if a1 < (a0.size : Int) then (zm_.j0 k a0 a1 ((bt a0 a1) != 66) 0 (⟨#[]⟩ : ByteArray)) else (none)) else (none))) = some (r1, r2, r3, r4, r5, r6, r7, r8) := h
 clear h
 have HC3 := AM H
 clear H
 go_enter Tryd.func39, Tryd.ntmps39
 go_upto_region 2 with (first | ((with_reducible refine zy_ (N := 4) rfl ?_); (try (refine yh_ (by rfl) ?_; dsimp only)); refine be_ 4 #[.string (⟨#[]⟩ : ByteArray), .int .i64 0, .int .i64 0, .int .i64 0] 58 ?_; intro gb176 hg w4 hbox hb; have BK176 := AM hbox; have GW176 := AM ((by rw [hg]; exact (zf_ bel_) : w.heap.size ≤ gb176)); have GE176 := AM ((by rw [hg]; exact (zf_ bel_) : w.heap.size ≤ gb176)); replace HB := AM (zc_ bel_ hb); clear hb hbox hg) | ((with_reducible refine zy_ (N := 5) rfl ?_); (try (refine yh_ (by rfl) ?_; dsimp only)); refine be_ 5 #[.int .i64 0, .string (⟨#[]⟩ : ByteArray)] 60 ?_; intro gb177 hg w5 hbox hb; have BK177 := AM hbox; have GW177 := AM ((by rw [hg]; exact (zf_ bel_) : w.heap.size ≤ gb177)); have GE177 := AM ((by rw [hg]; exact (zf_ bel_) : w.heap.size ≤ gb177)); replace HB := AM (zc_ bel_ hb); have NB176_177 := AM ((by rw [hg]; exact Nat.ne_of_lt (zA_ (g := gb176) (o := .cells #[.string (⟨#[]⟩ : ByteArray), .int .i64 0, .int .i64 0, .int .i64 0] 58 (0, 0)) (bk_ BK176.out)) : gb176 ≠ gb177)); have NB177_176 := AM ((by rw [hg]; exact Nat.ne_of_gt (zA_ (g := gb176) (o := .cells #[.string (⟨#[]⟩ : ByteArray), .int .i64 0, .int .i64 0, .int .i64 0] 58 (0, 0)) (bk_ BK176.out)) : gb177 ≠ gb176)); replace BK176 := AM (zh_ (g := gb176) (o := .cells #[.string (⟨#[]⟩ : ByteArray), .int .i64 0, .int .i64 0, .int .i64 0] 58 (0, 0)) (bk_ BK176.out) hb); clear hb hbox hg) | ((with_reducible refine zy_ (N := 8) rfl ?_); (try (refine yh_ (by rfl) ?_; dsimp only)); refine be_ 8 #[.int .i64 0, .string (⟨#[]⟩ : ByteArray)] 60 ?_; intro gb178 hg w6 hbox hb; have BK178 := AM hbox; have GW178 := AM ((by rw [hg]; exact (zf_ bel_) : w.heap.size ≤ gb178)); have GE178 := AM ((by rw [hg]; exact (zf_ bel_) : w.heap.size ≤ gb178)); replace HB := AM (zc_ bel_ hb); have NB176_178 := AM ((by rw [hg]; exact Nat.ne_of_lt (zA_ (g := gb176) (o := .cells #[.string (⟨#[]⟩ : ByteArray), .int .i64 0, .int .i64 0, .int .i64 0] 58 (0, 0)) (bk_ BK176.out)) : gb176 ≠ gb178)); have NB178_176 := AM ((by rw [hg]; exact Nat.ne_of_gt (zA_ (g := gb176) (o := .cells #[.string (⟨#[]⟩ : ByteArray), .int .i64 0, .int .i64 0, .int .i64 0] 58 (0, 0)) (bk_ BK176.out)) : gb178 ≠ gb176)); replace BK176 := AM (zh_ (g := gb176) (o := .cells #[.string (⟨#[]⟩ : ByteArray), .int .i64 0, .int .i64 0, .int .i64 0] 58 (0, 0)) (bk_ BK176.out) hb); have NB177_178 := AM ((by rw [hg]; exact Nat.ne_of_lt (zA_ (g := gb177) (o := .cells #[.int .i64 0, .string (⟨#[]⟩ : ByteArray)] 60 (0, 0)) (bk_ BK177.out)) : gb177 ≠ gb178)); have NB178_177 := AM ((by rw [hg]; exact Nat.ne_of_gt (zA_ (g := gb177) (o := .cells #[.int .i64 0, .string (⟨#[]⟩ : ByteArray)] 60 (0, 0)) (bk_ BK177.out)) : gb178 ≠ gb177)); replace BK177 := AM (zh_ (g := gb177) (o := .cells #[.int .i64 0, .string (⟨#[]⟩ : ByteArray)] 60 (0, 0)) (bk_ BK177.out) hb); clear hb hbox hg; have hnb7 := NB178_176.out; have hnc7 := NB176_178.out; have hnb8 := NB178_177.out; have hnc8 := NB177_178.out; have hcz9_0 : w6.cell? ⟨gb178, 0, none⟩ = some (.int .i64 0) := (zb_ BK178.out 0).trans rfl; have hcz9_1 : w6.cell? ⟨gb178, 1, none⟩ = some (.string (⟨#[]⟩ : ByteArray)) := (zb_ BK178.out 1).trans rfl; have hfz9_0 := za_ BK178.out 0; have hfz9_1 := za_ BK178.out 1))
 (try simp only [Act.put, List.setIfInBounds_toArray, List.set_cons_zero, List.set_cons_succ])
 go_cut [24] (fun v24 wc => ∃ (kq : Nat) (x24_2 : Bool), v24 = .bool x24_2 ∧ zd_ (zm_.j0 kq a0 a1 x24_2 0 (⟨#[]⟩ : ByteArray) = some (r1, r2, r3, r4, r5, r6, r7, r8)) ∧ zd_ (kq ≤ k) ∧ zd_ (wc.heap[gb176]? = some (.cells #[.string (⟨#[]⟩ : ByteArray), .int .i64 0, .int .i64 0, .int .i64 0] 58 (0, 0))) ∧ zd_ (wc.heap[gb177]? = some (.cells #[.int .i64 0, .string (⟨#[]⟩ : ByteArray)] 60 (0, 0))) ∧ zd_ (wc.heap[gb178]? = some (.cells #[.int .i64 0, .string (⟨#[]⟩ : ByteArray)] 60 (0, 0))) ∧ zd_ (Below w.heap.size w wc))
 case first =>
  have H := HC3.out
  clear HC3
  by_cases c10 : (wrap64 (a1 + 33)) > (a0.size : Int)
  ·
   rw [if_pos c10] at H
   have c10b0 : decide ((a0.size : Int) < (wrap64 (a1 + 33))) = true := decide_eq_true c10
   try have c10b9 : (decide ((a0.size : Int) < ((a1 + 33)))) = true := (by have hw0 : wrap64 (a1 + 33) = a1 + 33 := (by unfold wrap64; omega); have z_ := c10b0; simp only [hw0] at z_; exact z_)
   clear c10
   (first | rw [c10b0] | (simp only [i64_w, i32_w]; rw [c10b0]) | skip)
   have H' := AM H
   clear H
   go_wp2
   go_meet
   case rel => exact ⟨_, (true), re_, H', ⟨by first | omega | exact Nat.le_refl _⟩, ⟨bka_⟩, ⟨bka_⟩, ⟨bka_⟩, ⟨bel_⟩⟩
  ·
   rw [if_neg c10] at H
   have c10b0 : decide ((a0.size : Int) < (wrap64 (a1 + 33))) = false := decide_eq_false c10
   try have c10b9 : (decide ((a0.size : Int) < ((a1 + 33)))) = false := (by have hw0 : wrap64 (a1 + 33) = a1 + 33 := (by unfold wrap64; omega); have z_ := c10b0; simp only [hw0] at z_; exact z_)
   clear c10
   (first | rw [c10b0] | (simp only [i64_w, i32_w]; rw [c10b0]) | skip)
   by_cases c11 : 0 ≤ a1
   ·
    rw [if_pos c11] at H
    have c11b0 : decide (0 ≤ a1) = true := decide_eq_true c11
    clear c11
    by_cases c12 : a1 < (a0.size : Int)
    ·
     rw [if_pos c12] at H
     have c12b0 : decide (a1 < (a0.size : Int)) = true := decide_eq_true c12
     clear c12
     have H' := AM H
     clear H
     have p13 : 0 ≤ (a1 : Int) := of_decide_eq_true asm_
     have q13 : a1 < (a0.size : Int) := of_decide_eq_true asm_
     have hx13 := bt_at a0 a1
     replace p13 := eq_true p13
     replace q13 := eq_true q13
     go_wp2
     go_meet
     case rel => exact ⟨_, (((bt a0 a1) != 66)), re_, H', ⟨by first | omega | exact Nat.le_refl _⟩, ⟨bka_⟩, ⟨bka_⟩, ⟨bka_⟩, ⟨bel_⟩⟩
    ·
     rw [if_neg c12] at H
     exact absurd H (by simp)
   ·
    rw [if_neg c11] at H
    exact absurd H (by simp)
 case rest =>
  clear HC3
  (try clear c10b0); (try clear c11); (try clear c11b0); (try clear c12); (try clear c12b0); (try clear p13); (try clear q13); (try clear hx13); (try clear hcz9_0); (try clear hcz9_1); (try clear hfz9_0); (try clear hfz9_1)
  obtain ⟨kq, x24_2, rfl, HA, HJ2, BK176, BK177, BK178, HB⟩ := hcut
  cases kq with
  | zero => exact absurd HA.out (by simp [zm_.j0])
  | succ kj2 =>
   have H := HA.out
   clear HA
   simp only [zm_.j0] at H
   by_cases c14 : x24_2 = true
   ·
    subst c14
    rw [if_pos rfl] at H
    simp only [Option.some.injEq, Prod.mk.injEq] at H
    obtain ⟨rfl, rfl, rfl, rfl, rfl, rfl, rfl, rfl⟩ := H
    try go_wp2
    replace BK176 := AM (zN_ BK176.out)
    replace BK177 := AM (zN_ BK177.out)
    replace BK178 := AM (zN_ BK178.out)
    replace HB := AM (zF_ HB.out)
    refine yU_ (n := 6) (S := fun w' => w'.cell? ⟨gb178, 0, none⟩ = some (.int .i64 0) ∧ w'.cell? ⟨gb178, 1, none⟩ = some (.string (⟨#[]⟩ : ByteArray))) (ds := []) #[false, false, false, false, false, false] (by kernel_rfl) rfl rfl ⟨(zb_ BK178.out 0).trans rfl, (zb_ BK178.out 1).trans rfl⟩ (fun hHeld => ?_)
    generalize wc.drew = w15 at BK176 BK177 BK178 HB hHeld ⊢
    refine pure_ (i := 0) (N := some 25) (v := ?_) (a' := ?_) #[true, false, false, false, false, false] rfl rfl (by kernel_rfl) (fun _ _ _ h => h) (Or.inl ⟨by rfl, ?_⟩) ?_ ?_
    rotate_left
    ·
     intro w'
     go_simp
     with_reducible rfl
    rotate_left
    ·
     simp only [Act.put, List.setIfInBounds_toArray, List.set_cons_zero, List.set_cons_succ, i64_w, i32_w]
     rfl
    refine take_ (i := 1) (N := some 26) (v := ?_) (a' := ?_) #[true, true, false, false, false, false] rfl rfl (by kernel_rfl) (fun _ _ _ h => h) (Or.inl ⟨by rfl, ?_⟩) hHeld ?_ ?_
    rotate_left
    ·
     rintro w' ⟨s0, s1⟩
     go_simp
     with_reducible rfl
    rotate_left
    ·
     simp only [Act.put, List.setIfInBounds_toArray, List.set_cons_zero, List.set_cons_succ, i64_w, i32_w]
     rfl
    refine one_ (i := 2) (N := none) #[true, true, true, false, false, false] rfl rfl (by kernel_rfl) (by decide) (fun K hK => ?_)
    have hs16 : w15.cell? ⟨gb176, 0, none⟩ = some (.string (⟨#[]⟩ : ByteArray)) := (zb_ BK176.out 0).trans rfl
    have hfs16 := za_ BK176.out 0
    have hns16_1 := NB177_176.out
    have hns16_2 := NB178_176.out
    have hms16_1 := NB176_177.out
    have hms16_2 := NB176_178.out
    have hs17 : w15.cell? ⟨gb176, 1, none⟩ = some (.int .i64 0) := (zb_ BK176.out 1).trans rfl
    have hfs17 := za_ BK176.out 1
    have hns17_1 := NB177_176.out
    have hns17_2 := NB178_176.out
    have hms17_1 := NB176_177.out
    have hms17_2 := NB176_178.out
    have hs18 : w15.cell? ⟨gb176, 2, none⟩ = some (.int .i64 0) := (zb_ BK176.out 2).trans rfl
    have hfs18 := za_ BK176.out 2
    have hns18_1 := NB177_176.out
    have hns18_2 := NB178_176.out
    have hms18_1 := NB176_177.out
    have hms18_2 := NB176_178.out
    have hs19 : w15.cell? ⟨gb176, 3, none⟩ = some (.int .i64 0) := (zb_ BK176.out 3).trans rfl
    have hfs19 := za_ BK176.out 3
    have hns19_1 := NB177_176.out
    have hns19_2 := NB178_176.out
    have hms19_1 := NB176_177.out
    have hms19_2 := NB176_178.out
    refine sk_ ?_
    refine hK.out _ _ ⟨(by (rw [cell_far, cell_far, cell_far, cell_far]) <;> first | exact hHeld.1 | exact NB178_176.out), (by (rw [cell_far, cell_far, cell_far, cell_far]) <;> first | exact hHeld.2 | exact NB178_176.out)⟩ (fun hHeld => ?_)
    clear hK K
    refine one_ (i := 3) (N := none) #[true, true, true, true, false, false] rfl rfl (by kernel_rfl) (by decide) (fun K hK => ?_)
    have hs20 : w15.cell? ⟨gb177, 0, none⟩ = some (.int .i64 0) := (zb_ BK177.out 0).trans rfl
    have hfs20 := za_ BK177.out 0
    have hns20_0 := NB176_177.out
    have hns20_2 := NB178_177.out
    have hms20_0 := NB177_176.out
    have hms20_2 := NB177_178.out
    have hs21 : w15.cell? ⟨gb177, 1, none⟩ = some (.string (⟨#[]⟩ : ByteArray)) := (zb_ BK177.out 1).trans rfl
    have hfs21 := za_ BK177.out 1
    have hns21_0 := NB176_177.out
    have hns21_2 := NB178_177.out
    have hms21_0 := NB177_176.out
    have hms21_2 := NB177_178.out
    refine sk_ ?_
    refine hK.out _ _ ⟨(by (rw [cell_far, cell_far]) <;> first | exact hHeld.1 | exact NB178_177.out), (by (rw [cell_far, cell_far]) <;> first | exact hHeld.2 | exact NB178_177.out)⟩ (fun hHeld => ?_)
    clear hK K
    refine pure_ (i := 4) (N := some 6) (v := ?_) (a' := ?_) #[true, true, true, true, true, false] rfl rfl (by kernel_rfl) (fun _ _ _ h => h) (Or.inl ⟨by rfl, ?_⟩) ?_ ?_
    rotate_left
    ·
     intro w'
     go_simp
     with_reducible rfl
    rotate_left
    ·
     simp only [Act.put, List.setIfInBounds_toArray, List.set_cons_zero, List.set_cons_succ, i64_w, i32_w]
     rfl
    refine pure_ (i := 5) (N := some 7) (v := ?_) (a' := ?_) #[true, true, true, true, true, true] rfl rfl (by kernel_rfl) (fun _ _ _ h => h) (Or.inl ⟨by rfl, ?_⟩) ?_ ?_
    rotate_left
    ·
     intro w'
     go_simp
     with_reducible rfl
    rotate_left
    ·
     simp only [Act.put, List.setIfInBounds_toArray, List.set_cons_zero, List.set_cons_succ, i64_w, i32_w]
     rfl
    refine done_ (by kernel_rfl) ?_
    try go_wp2
    refine bodyPost_ret (yN_ (rs := [.cell 4 58, .cell 5 60, .tmp 6, .tmp 7]) rfl (by simp) (.cell gb176 58 #[.string (⟨#[]⟩ : ByteArray), .int .i64 0, .int .i64 0, .int .i64 0] (0, 0) _ rfl bka_ Tryd.underlying58 rfl (by kernel_rfl) (.cell gb177 60 #[.int .i64 0, .string (⟨#[]⟩ : ByteArray)] (0, 0) _ rfl bka_ Tryd.underlying60 rfl (by kernel_rfl) (.tmp (.tmp .nil))))) rfl ?_
    exact ⟨ri_, bel_⟩
   ·
    replace c14 := Bool.eq_false_iff.mpr c14
    subst c14
    rw [if_neg (show ¬ (false = true) by decide)] at H
    obtain ⟨⟨t179, t180, t181⟩, A22, H⟩ := OB H
    try dsimp only at H
    replace A22 := AM A22
    have HC23 := AM H
    clear H
    go_upto_region 5 with (first | ((with_reducible refine zg_ (f := 82) rfl ?_); refine gl_ (some 30) Tryd.func82 #[.string a0, .int .i64 (wrap64 (a1 + 33))] ?_; (with_reducible refine (zl_.calls kj2 a0 (wrap64 (a1 + 33)) t179 t180 t181 _ A22.out).mono ?_); rintro e w24 ⟨rfl, hb⟩; refine ⟨_, rfl, ?_⟩; replace BK176 := AM (zh_ (g := gb176) (o := .cells #[.string (⟨#[]⟩ : ByteArray), .int .i64 0, .int .i64 0, .int .i64 0] 58 (0, 0)) (bk_ BK176.out) hb); replace BK177 := AM (zh_ (g := gb177) (o := .cells #[.int .i64 0, .string (⟨#[]⟩ : ByteArray)] 60 (0, 0)) (bk_ BK177.out) hb); replace BK178 := AM (zh_ (g := gb178) (o := .cells #[.int .i64 0, .string (⟨#[]⟩ : ByteArray)] 60 (0, 0)) (bk_ BK178.out) hb); replace HB := AM (zc_ bel_ hb); (try clear hb)) | ((with_reducible refine zy_ (N := 9) rfl ?_); (try (refine yh_ (by rfl) ?_; dsimp only)); refine be_ 9 #[.int .i64 0, .int .i64 0, .int .i64 0] 102 ?_; intro gb182 hg w25 hbox hb; have BK182 := AM hbox; have GW182 := AM ((by rw [hg]; exact (zf_ bel_) : w.heap.size ≤ gb182)); have GE182 := AM ((by rw [hg]; exact (zf_ bel_) : w.heap.size ≤ gb182)); replace HB := AM (zc_ bel_ hb); have NB176_182 := AM ((by rw [hg]; exact Nat.ne_of_lt (zA_ (g := gb176) (o := .cells #[.string (⟨#[]⟩ : ByteArray), .int .i64 0, .int .i64 0, .int .i64 0] 58 (0, 0)) (bk_ BK176.out)) : gb176 ≠ gb182)); have NB182_176 := AM ((by rw [hg]; exact Nat.ne_of_gt (zA_ (g := gb176) (o := .cells #[.string (⟨#[]⟩ : ByteArray), .int .i64 0, .int .i64 0, .int .i64 0] 58 (0, 0)) (bk_ BK176.out)) : gb182 ≠ gb176)); replace BK176 := AM (zh_ (g := gb176) (o := .cells #[.string (⟨#[]⟩ : ByteArray), .int .i64 0, .int .i64 0, .int .i64 0] 58 (0, 0)) (bk_ BK176.out) hb); have NB177_182 := AM ((by rw [hg]; exact Nat.ne_of_lt (zA_ (g := gb177) (o := .cells #[.int .i64 0, .string (⟨#[]⟩ : ByteArray)] 60 (0, 0)) (bk_ BK177.out)) : gb177 ≠ gb182)); have NB182_177 := AM ((by rw [hg]; exact Nat.ne_of_gt (zA_ (g := gb177) (o := .cells #[.int .i64 0, .string (⟨#[]⟩ : ByteArray)] 60 (0, 0)) (bk_ BK177.out)) : gb182 ≠ gb177)); replace BK177 := AM (zh_ (g := gb177) (o := .cells #[.int .i64 0, .string (⟨#[]⟩ : ByteArray)] 60 (0, 0)) (bk_ BK177.out) hb); have NB178_182 := AM ((by rw [hg]; exact Nat.ne_of_lt (zA_ (g := gb178) (o := .cells #[.int .i64 0, .string (⟨#[]⟩ : ByteArray)] 60 (0, 0)) (bk_ BK178.out)) : gb178 ≠ gb182)); have NB182_178 := AM ((by rw [hg]; exact Nat.ne_of_gt (zA_ (g := gb178) (o := .cells #[.int .i64 0, .string (⟨#[]⟩ : ByteArray)] 60 (0, 0)) (bk_ BK178.out)) : gb182 ≠ gb178)); replace BK178 := AM (zh_ (g := gb178) (o := .cells #[.int .i64 0, .string (⟨#[]⟩ : ByteArray)] 60 (0, 0)) (bk_ BK178.out) hb); clear hb hbox hg; have hnb26 := NB182_176.out; have hnc26 := NB176_182.out; have hnb27 := NB182_177.out; have hnc27 := NB177_182.out; have hnb28 := NB182_178.out; have hnc28 := NB178_182.out; have hcz29_0 : w25.cell? ⟨gb182, 0, none⟩ = some (.int .i64 0) := (zb_ BK182.out 0).trans rfl; have hcz29_1 : w25.cell? ⟨gb182, 1, none⟩ = some (.int .i64 0) := (zb_ BK182.out 1).trans rfl; have hcz29_2 : w25.cell? ⟨gb182, 2, none⟩ = some (.int .i64 0) := (zb_ BK182.out 2).trans rfl; have hfz29_0 := za_ BK182.out 0; have hfz29_1 := za_ BK182.out 1; have hfz29_2 := za_ BK182.out 2))
    (try simp only [Act.put, List.setIfInBounds_toArray, List.set_cons_zero, List.set_cons_succ])
    go_cut [43] (fun v43 wc => ∃ (kq : Nat) (x43_22 : Bool), v43 = .bool x43_22 ∧ zd_ (zm_.j1 kq a0 a1 x43_22 0 (⟨#[]⟩ : ByteArray) t179 t180 t181 = some (r1, r2, r3, r4, r5, r6, r7, r8)) ∧ zd_ (kq ≤ kj2) ∧ zd_ (wc.heap[gb176]? = some (.cells #[.string (⟨#[]⟩ : ByteArray), .int .i64 0, .int .i64 0, .int .i64 0] 58 (0, 0))) ∧ zd_ (wc.heap[gb177]? = some (.cells #[.int .i64 0, .string (⟨#[]⟩ : ByteArray)] 60 (0, 0))) ∧ zd_ (wc.heap[gb178]? = some (.cells #[.int .i64 0, .string (⟨#[]⟩ : ByteArray)] 60 (0, 0))) ∧ zd_ (wc.heap[gb182]? = some (.cells #[.int .i64 t179, .int .i64 t180, .int .i64 t181] 102 (0, 0))) ∧ zd_ (Below w.heap.size w wc))
    case first =>
     have H := HC23.out
     clear HC23
     by_cases c30 : t181 = 0
     ·
      rw [if_pos c30] at H
      have c30b0 : (t181 == 0) = true := beq_iff_eq.mpr c30
      have c30b1 : (t181 != 0) = false := bne_eq_false_iff_eq.mpr c30
      clear c30
      (first | rw [c30b0] | (simp only [i64_w, i32_w]; rw [c30b0]) | skip)
      by_cases c31 : t179 = 1
      ·
       rw [if_pos c31] at H
       have c31b0 : (t179 == 1) = true := beq_iff_eq.mpr c31
       have c31b1 : (t179 != 1) = false := bne_eq_false_iff_eq.mpr c31
       clear c31
       have H' := AM H
       clear H
       have hnb32 := NB182_176.out
       have hnc32 := NB176_182.out
       have hnb33 := NB182_177.out
       have hnc33 := NB177_182.out
       have hnb34 := NB182_178.out
       have hnc34 := NB178_182.out
       have hcz35_0 : w25.cell? ⟨gb182, 0, none⟩ = some (.int .i64 0) := (zb_ BK182.out 0).trans rfl
       have hcz35_1 : w25.cell? ⟨gb182, 1, none⟩ = some (.int .i64 0) := (zb_ BK182.out 1).trans rfl
       have hcz35_2 : w25.cell? ⟨gb182, 2, none⟩ = some (.int .i64 0) := (zb_ BK182.out 2).trans rfl
       have hfz35_0 := za_ BK182.out 0
       have hfz35_1 := za_ BK182.out 1
       have hfz35_2 := za_ BK182.out 2
       go_wp2
       go_meet
       case rel => exact ⟨_, (false), re_, H', ⟨by have := HJ2.out; first | omega | exact Nat.le_refl _⟩, ⟨bka_⟩, ⟨bka_⟩, ⟨bka_⟩, ⟨bka_⟩, ⟨bel_⟩⟩
      ·
       rw [if_neg c31] at H
       have c31b0 : (t179 == 1) = false := beq_eq_false_iff_ne.mpr c31
       have c31b1 : (t179 != 1) = true := bne_iff_ne.mpr c31
       have H' := AM H
       clear H
       have hnb36 := NB182_176.out
       have hnc36 := NB176_182.out
       have hnb37 := NB182_177.out
       have hnc37 := NB177_182.out
       have hnb38 := NB182_178.out
       have hnc38 := NB178_182.out
       have hcz39_0 : w25.cell? ⟨gb182, 0, none⟩ = some (.int .i64 0) := (zb_ BK182.out 0).trans rfl
       have hcz39_1 : w25.cell? ⟨gb182, 1, none⟩ = some (.int .i64 0) := (zb_ BK182.out 1).trans rfl
       have hcz39_2 : w25.cell? ⟨gb182, 2, none⟩ = some (.int .i64 0) := (zb_ BK182.out 2).trans rfl
       have hfz39_0 := za_ BK182.out 0
       have hfz39_1 := za_ BK182.out 1
       have hfz39_2 := za_ BK182.out 2
       go_wp2
       go_meet
       case rel => exact ⟨_, ((t179 != 2)), re_, H', ⟨by have := HJ2.out; first | omega | exact Nat.le_refl _⟩, ⟨bka_⟩, ⟨bka_⟩, ⟨bka_⟩, ⟨bka_⟩, ⟨bel_⟩⟩
     ·
      rw [if_neg c30] at H
      have c30b0 : (t181 == 0) = false := beq_eq_false_iff_ne.mpr c30
      have c30b1 : (t181 != 0) = true := bne_iff_ne.mpr c30
      (first | rw [c30b0] | (simp only [i64_w, i32_w]; rw [c30b0]) | skip)
      have H' := AM H
      clear H
      have hnb40 := NB182_176.out
      have hnc40 := NB176_182.out
      have hnb41 := NB182_177.out
      have hnc41 := NB177_182.out
      have hnb42 := NB182_178.out
      have hnc42 := NB178_182.out
      have hcz43_0 : w25.cell? ⟨gb182, 0, none⟩ = some (.int .i64 0) := (zb_ BK182.out 0).trans rfl
      have hcz43_1 : w25.cell? ⟨gb182, 1, none⟩ = some (.int .i64 0) := (zb_ BK182.out 1).trans rfl
      have hcz43_2 : w25.cell? ⟨gb182, 2, none⟩ = some (.int .i64 0) := (zb_ BK182.out 2).trans rfl
      have hfz43_0 := za_ BK182.out 0
      have hfz43_1 := za_ BK182.out 1
      have hfz43_2 := za_ BK182.out 2
      go_wp2
      go_meet
      case rel => exact ⟨_, (true), re_, H', ⟨by have := HJ2.out; first | omega | exact Nat.le_refl _⟩, ⟨bka_⟩, ⟨bka_⟩, ⟨bka_⟩, ⟨bka_⟩, ⟨bel_⟩⟩
    case rest =>
     clear HC23
     (try clear c14); (try clear c30); (try clear c30b0); (try clear c30b1); (try clear c31); (try clear c31b0); (try clear c31b1); (try clear hcz29_0); (try clear hcz29_1); (try clear hcz29_2); (try clear hcz35_0); (try clear hcz35_1); (try clear hcz35_2); (try clear hcz39_0); (try clear hcz39_1); (try clear hcz39_2); (try clear hcz43_0); (try clear hcz43_1); (try clear hcz43_2); (try clear hfz29_0); (try clear hfz29_1); (try clear hfz29_2); (try clear hfz35_0); (try clear hfz35_1); (try clear hfz35_2); (try clear hfz39_0); (try clear hfz39_1); (try clear hfz39_2); (try clear hfz43_0); (try clear hfz43_1); (try clear hfz43_2)
     obtain ⟨kq, x43_22, rfl, HA, HJ22, BK176, BK177, BK178, BK182, HB⟩ := hcut
     cases kq with
     | zero => exact absurd HA.out (by simp [zm_.j1])
     | succ kj22 =>
      have H := HA.out
      clear HA
      simp only [zm_.j1] at H
      by_cases c44 : x43_22 = true
      ·
       subst c44
       rw [if_pos rfl] at H
       simp only [Option.some.injEq, Prod.mk.injEq] at H
       obtain ⟨rfl, rfl, rfl, rfl, rfl, rfl, rfl, rfl⟩ := H
       try go_wp2
       replace BK176 := AM (zN_ BK176.out)
       replace BK177 := AM (zN_ BK177.out)
       replace BK178 := AM (zN_ BK178.out)
       replace BK182 := AM (zN_ BK182.out)
       replace HB := AM (zF_ HB.out)
       refine yU_ (n := 6) (S := fun w' => w'.cell? ⟨gb178, 0, none⟩ = some (.int .i64 0) ∧ w'.cell? ⟨gb178, 1, none⟩ = some (.string (⟨#[]⟩ : ByteArray))) (ds := []) #[false, false, false, false, false, false] (by kernel_rfl) rfl rfl ⟨(zb_ BK178.out 0).trans rfl, (zb_ BK178.out 1).trans rfl⟩ (fun hHeld => ?_)
       generalize wc.drew = w45 at BK176 BK177 BK178 BK182 HB hHeld ⊢
       refine pure_ (i := 0) (N := some 44) (v := ?_) (a' := ?_) #[true, false, false, false, false, false] rfl rfl (by kernel_rfl) (fun _ _ _ h => h) (Or.inl ⟨by rfl, ?_⟩) ?_ ?_
       rotate_left
       ·
        intro w'
        go_simp
        with_reducible rfl
       rotate_left
       ·
        simp only [Act.put, List.setIfInBounds_toArray, List.set_cons_zero, List.set_cons_succ, i64_w, i32_w]
        rfl
       refine take_ (i := 1) (N := some 45) (v := ?_) (a' := ?_) #[true, true, false, false, false, false] rfl rfl (by kernel_rfl) (fun _ _ _ h => h) (Or.inl ⟨by rfl, ?_⟩) hHeld ?_ ?_
       rotate_left
       ·
        rintro w' ⟨s0, s1⟩
        go_simp
        with_reducible rfl
       rotate_left
       ·
        simp only [Act.put, List.setIfInBounds_toArray, List.set_cons_zero, List.set_cons_succ, i64_w, i32_w]
        rfl
       refine one_ (i := 2) (N := none) #[true, true, true, false, false, false] rfl rfl (by kernel_rfl) (by decide) (fun K hK => ?_)
       have hs46 : w45.cell? ⟨gb176, 0, none⟩ = some (.string (⟨#[]⟩ : ByteArray)) := (zb_ BK176.out 0).trans rfl
       have hfs46 := za_ BK176.out 0
       have hns46_1 := NB177_176.out
       have hns46_2 := NB178_176.out
       have hns46_3 := NB182_176.out
       have hms46_1 := NB176_177.out
       have hms46_2 := NB176_178.out
       have hms46_3 := NB176_182.out
       have hs47 : w45.cell? ⟨gb176, 1, none⟩ = some (.int .i64 0) := (zb_ BK176.out 1).trans rfl
       have hfs47 := za_ BK176.out 1
       have hns47_1 := NB177_176.out
       have hns47_2 := NB178_176.out
       have hns47_3 := NB182_176.out
       have hms47_1 := NB176_177.out
       have hms47_2 := NB176_178.out
       have hms47_3 := NB176_182.out
       have hs48 : w45.cell? ⟨gb176, 2, none⟩ = some (.int .i64 0) := (zb_ BK176.out 2).trans rfl
       have hfs48 := za_ BK176.out 2
       have hns48_1 := NB177_176.out
       have hns48_2 := NB178_176.out
       have hns48_3 := NB182_176.out
       have hms48_1 := NB176_177.out
       have hms48_2 := NB176_178.out
       have hms48_3 := NB176_182.out
       have hs49 : w45.cell? ⟨gb176, 3, none⟩ = some (.int .i64 0) := (zb_ BK176.out 3).trans rfl
       have hfs49 := za_ BK176.out 3
       have hns49_1 := NB177_176.out
       have hns49_2 := NB178_176.out
       have hns49_3 := NB182_176.out
       have hms49_1 := NB176_177.out
       have hms49_2 := NB176_178.out
       have hms49_3 := NB176_182.out
       refine sk_ ?_
       refine hK.out _ _ ⟨(by (rw [cell_far, cell_far, cell_far, cell_far]) <;> first | exact hHeld.1 | exact NB178_176.out), (by (rw [cell_far, cell_far, cell_far, cell_far]) <;> first | exact hHeld.2 | exact NB178_176.out)⟩ (fun hHeld => ?_)
       clear hK K
       refine one_ (i := 3) (N := none) #[true, true, true, true, false, false] rfl rfl (by kernel_rfl) (by decide) (fun K hK => ?_)
       have hs50 : w45.cell? ⟨gb177, 0, none⟩ = some (.int .i64 0) := (zb_ BK177.out 0).trans rfl
       have hfs50 := za_ BK177.out 0
       have hns50_0 := NB176_177.out
       have hns50_2 := NB178_177.out
       have hns50_3 := NB182_177.out
       have hms50_0 := NB177_176.out
       have hms50_2 := NB177_178.out
       have hms50_3 := NB177_182.out
       have hs51 : w45.cell? ⟨gb177, 1, none⟩ = some (.string (⟨#[]⟩ : ByteArray)) := (zb_ BK177.out 1).trans rfl
       have hfs51 := za_ BK177.out 1
       have hns51_0 := NB176_177.out
       have hns51_2 := NB178_177.out
       have hns51_3 := NB182_177.out
       have hms51_0 := NB177_176.out
       have hms51_2 := NB177_178.out
       have hms51_3 := NB177_182.out
       refine sk_ ?_
       refine hK.out _ _ ⟨(by (rw [cell_far, cell_far]) <;> first | exact hHeld.1 | exact NB178_177.out), (by (rw [cell_far, cell_far]) <;> first | exact hHeld.2 | exact NB178_177.out)⟩ (fun hHeld => ?_)
       clear hK K
       refine pure_ (i := 4) (N := some 6) (v := ?_) (a' := ?_) #[true, true, true, true, true, false] rfl rfl (by kernel_rfl) (fun _ _ _ h => h) (Or.inl ⟨by rfl, ?_⟩) ?_ ?_
       rotate_left
       ·
        intro w'
        go_simp
        with_reducible rfl
       rotate_left
       ·
        simp only [Act.put, List.setIfInBounds_toArray, List.set_cons_zero, List.set_cons_succ, i64_w, i32_w]
        rfl
       refine pure_ (i := 5) (N := some 7) (v := ?_) (a' := ?_) #[true, true, true, true, true, true] rfl rfl (by kernel_rfl) (fun _ _ _ h => h) (Or.inl ⟨by rfl, ?_⟩) ?_ ?_
       rotate_left
       ·
        intro w'
        go_simp
        with_reducible rfl
       rotate_left
       ·
        simp only [Act.put, List.setIfInBounds_toArray, List.set_cons_zero, List.set_cons_succ, i64_w, i32_w]
        rfl
       refine done_ (by kernel_rfl) ?_
       try go_wp2
       refine bodyPost_ret (yN_ (rs := [.cell 4 58, .cell 5 60, .tmp 6, .tmp 7]) rfl (by simp) (.cell gb176 58 #[.string (⟨#[]⟩ : ByteArray), .int .i64 0, .int .i64 0, .int .i64 0] (0, 0) _ rfl bka_ Tryd.underlying58 rfl (by kernel_rfl) (.cell gb177 60 #[.int .i64 0, .string (⟨#[]⟩ : ByteArray)] (0, 0) _ rfl bka_ Tryd.underlying60 rfl (by kernel_rfl) (.tmp (.tmp .nil))))) rfl ?_
       exact ⟨ri_, bel_⟩
      ·
       replace c44 := Bool.eq_false_iff.mpr c44
       subst c44
       rw [if_neg (show ¬ (false = true) by decide)] at H
       obtain ⟨⟨t183, t184, t185⟩, A52, H⟩ := OB H
       try dsimp only at H
       replace A52 := AM A52
       by_cases c53 : t185 = 0
       ·
        rw [if_pos c53] at H
        have c53b0 : (t185 == 0) = true := beq_iff_eq.mpr c53
        have c53b1 : (t185 != 0) = false := bne_eq_false_iff_eq.mpr c53
        clear c53
        by_cases c54 : t183 < 0
        ·
         rw [if_pos c54] at H
         have c54b0 : decide (t183 < 0) = true := decide_eq_true c54
         clear c54
         simp only [Option.some.injEq, Prod.mk.injEq] at H
         obtain ⟨rfl, rfl, rfl, rfl, rfl, rfl, rfl, rfl⟩ := H
         have hnb55 := NB182_176.out
         have hnc55 := NB176_182.out
         have hnb56 := NB182_177.out
         have hnc56 := NB177_182.out
         have hnb57 := NB182_178.out
         have hnc57 := NB178_182.out
         have hcz58_0 : wc.cell? ⟨gb182, 0, none⟩ = some (.int .i64 t179) := (zb_ BK182.out 0).trans rfl
         have hcz58_1 : wc.cell? ⟨gb182, 1, none⟩ = some (.int .i64 t180) := (zb_ BK182.out 1).trans rfl
         have hcz58_2 : wc.cell? ⟨gb182, 2, none⟩ = some (.int .i64 t181) := (zb_ BK182.out 2).trans rfl
         have hfz58_0 := za_ BK182.out 0
         have hfz58_1 := za_ BK182.out 1
         have hfz58_2 := za_ BK182.out 2
         try go_wp2_with (first | ((with_reducible refine zg_ (f := 82) rfl ?_); refine gl_ (some 49) Tryd.func82 #[.string a0, .int .i64 t180] ?_; (with_reducible refine (zl_.calls kj22 a0 t180 t183 t184 t185 _ A52.out).mono ?_); rintro e w59 ⟨rfl, hb⟩; refine ⟨_, rfl, ?_⟩; replace BK176 := AM (zh_ (g := gb176) (o := .cells #[.string (⟨#[]⟩ : ByteArray), .int .i64 0, .int .i64 0, .int .i64 0] 58 (0, 0)) (bk_ BK176.out) hb); replace BK177 := AM (zh_ (g := gb177) (o := .cells #[.int .i64 0, .string (⟨#[]⟩ : ByteArray)] 60 (0, 0)) (bk_ BK177.out) hb); replace BK178 := AM (zh_ (g := gb178) (o := .cells #[.int .i64 0, .string (⟨#[]⟩ : ByteArray)] 60 (0, 0)) (bk_ BK178.out) hb); replace BK182 := AM (zh_ (g := gb182) (o := .cells #[.int .i64 t179, .int .i64 t180, .int .i64 t181] 102 (0, 0)) (bk_ BK182.out) hb); replace HB := AM (zc_ bel_ hb); (try clear hb)) | ((with_reducible refine zy_ (N := 10) rfl ?_); (try (refine yh_ (by rfl) ?_; dsimp only)); refine be_ 10 #[.int .i64 0, .int .i64 0, .int .i64 0] 102 ?_; intro gb186 hg w60 hbox hb; have BK186 := AM hbox; have GW186 := AM ((by rw [hg]; exact (zf_ bel_) : w.heap.size ≤ gb186)); have GE186 := AM ((by rw [hg]; exact (zf_ bel_) : w.heap.size ≤ gb186)); replace HB := AM (zc_ bel_ hb); have NB176_186 := AM ((by rw [hg]; exact Nat.ne_of_lt (zA_ (g := gb176) (o := .cells #[.string (⟨#[]⟩ : ByteArray), .int .i64 0, .int .i64 0, .int .i64 0] 58 (0, 0)) (bk_ BK176.out)) : gb176 ≠ gb186)); have NB186_176 := AM ((by rw [hg]; exact Nat.ne_of_gt (zA_ (g := gb176) (o := .cells #[.string (⟨#[]⟩ : ByteArray), .int .i64 0, .int .i64 0, .int .i64 0] 58 (0, 0)) (bk_ BK176.out)) : gb186 ≠ gb176)); replace BK176 := AM (zh_ (g := gb176) (o := .cells #[.string (⟨#[]⟩ : ByteArray), .int .i64 0, .int .i64 0, .int .i64 0] 58 (0, 0)) (bk_ BK176.out) hb); have NB177_186 := AM ((by rw [hg]; exact Nat.ne_of_lt (zA_ (g := gb177) (o := .cells #[.int .i64 0, .string (⟨#[]⟩ : ByteArray)] 60 (0, 0)) (bk_ BK177.out)) : gb177 ≠ gb186)); have NB186_177 := AM ((by rw [hg]; exact Nat.ne_of_gt (zA_ (g := gb177) (o := .cells #[.int .i64 0, .string (⟨#[]⟩ : ByteArray)] 60 (0, 0)) (bk_ BK177.out)) : gb186 ≠ gb177)); replace BK177 := AM (zh_ (g := gb177) (o := .cells #[.int .i64 0, .string (⟨#[]⟩ : ByteArray)] 60 (0, 0)) (bk_ BK177.out) hb); have NB178_186 := AM ((by rw [hg]; exact Nat.ne_of_lt (zA_ (g := gb178) (o := .cells #[.int .i64 0, .string (⟨#[]⟩ : ByteArray)] 60 (0, 0)) (bk_ BK178.out)) : gb178 ≠ gb186)); have NB186_178 := AM ((by rw [hg]; exact Nat.ne_of_gt (zA_ (g := gb178) (o := .cells #[.int .i64 0, .string (⟨#[]⟩ : ByteArray)] 60 (0, 0)) (bk_ BK178.out)) : gb186 ≠ gb178)); replace BK178 := AM (zh_ (g := gb178) (o := .cells #[.int .i64 0, .string (⟨#[]⟩ : ByteArray)] 60 (0, 0)) (bk_ BK178.out) hb); have NB182_186 := AM ((by rw [hg]; exact Nat.ne_of_lt (zA_ (g := gb182) (o := .cells #[.int .i64 t179, .int .i64 t180, .int .i64 t181] 102 (0, 0)) (bk_ BK182.out)) : gb182 ≠ gb186)); have NB186_182 := AM ((by rw [hg]; exact Nat.ne_of_gt (zA_ (g := gb182) (o := .cells #[.int .i64 t179, .int .i64 t180, .int .i64 t181] 102 (0, 0)) (bk_ BK182.out)) : gb186 ≠ gb182)); replace BK182 := AM (zh_ (g := gb182) (o := .cells #[.int .i64 t179, .int .i64 t180, .int .i64 t181] 102 (0, 0)) (bk_ BK182.out) hb); clear hb hbox hg; have hnb61 := NB186_176.out; have hnc61 := NB176_186.out; have hnb62 := NB186_177.out; have hnc62 := NB177_186.out; have hnb63 := NB186_178.out; have hnc63 := NB178_186.out; have hnb64 := NB186_182.out; have hnc64 := NB182_186.out; have hcz65_0 : w60.cell? ⟨gb186, 0, none⟩ = some (.int .i64 0) := (zb_ BK186.out 0).trans rfl; have hcz65_1 : w60.cell? ⟨gb186, 1, none⟩ = some (.int .i64 0) := (zb_ BK186.out 1).trans rfl; have hcz65_2 : w60.cell? ⟨gb186, 2, none⟩ = some (.int .i64 0) := (zb_ BK186.out 2).trans rfl; have hfz65_0 := za_ BK186.out 0; have hfz65_1 := za_ BK186.out 1; have hfz65_2 := za_ BK186.out 2))
         have n0_ : zd_ ((((w60.setCell ⟨gb186, 0, none⟩ (.int .i64 t183)).setCell ⟨gb186, 1, none⟩ (.int .i64 t184)).setCell ⟨gb186, 2, none⟩ (.int .i64 t185)).heap[gb176]? = some (.cells #[.string (⟨#[]⟩ : ByteArray), .int .i64 0, .int .i64 0, .int .i64 0] 58 (0, 0))) := ⟨bka_⟩
         have n1_ : zd_ ((((w60.setCell ⟨gb186, 0, none⟩ (.int .i64 t183)).setCell ⟨gb186, 1, none⟩ (.int .i64 t184)).setCell ⟨gb186, 2, none⟩ (.int .i64 t185)).heap[gb177]? = some (.cells #[.int .i64 0, .string (⟨#[]⟩ : ByteArray)] 60 (0, 0))) := ⟨bka_⟩
         have n2_ : zd_ ((((w60.setCell ⟨gb186, 0, none⟩ (.int .i64 t183)).setCell ⟨gb186, 1, none⟩ (.int .i64 t184)).setCell ⟨gb186, 2, none⟩ (.int .i64 t185)).heap[gb178]? = some (.cells #[.int .i64 0, .string (⟨#[]⟩ : ByteArray)] 60 (0, 0))) := ⟨bka_⟩
         have n3_ : zd_ ((((w60.setCell ⟨gb186, 0, none⟩ (.int .i64 t183)).setCell ⟨gb186, 1, none⟩ (.int .i64 t184)).setCell ⟨gb186, 2, none⟩ (.int .i64 t185)).heap[gb182]? = some (.cells #[.int .i64 t179, .int .i64 t180, .int .i64 t181] 102 (0, 0))) := ⟨bka_⟩
         have n4_ : zd_ ((((w60.setCell ⟨gb186, 0, none⟩ (.int .i64 t183)).setCell ⟨gb186, 1, none⟩ (.int .i64 t184)).setCell ⟨gb186, 2, none⟩ (.int .i64 t185)).heap[gb186]? = some (.cells #[.int .i64 t183, .int .i64 t184, .int .i64 t185] 102 (0, 0))) := ⟨bka_⟩
         have n5_ : zd_ (Below w.heap.size w (((w60.setCell ⟨gb186, 0, none⟩ (.int .i64 t183)).setCell ⟨gb186, 1, none⟩ (.int .i64 t184)).setCell ⟨gb186, 2, none⟩ (.int .i64 t185))) := ⟨bel_⟩
         (try clear BK176); (try clear BK177); (try clear BK178); (try clear BK182); (try clear BK186); (try clear HB)
         generalize (((w60.setCell ⟨gb186, 0, none⟩ (.int .i64 t183)).setCell ⟨gb186, 1, none⟩ (.int .i64 t184)).setCell ⟨gb186, 2, none⟩ (.int .i64 t185)) = w66 at n0_ n1_ n2_ n3_ n4_ n5_ ⊢
         have BK176 := n0_
         have BK177 := n1_
         have BK178 := n2_
         have BK182 := n3_
         have BK186 := n4_
         have HB := n5_
         clear n0_ n1_ n2_ n3_ n4_ n5_
         replace BK176 := AM (zN_ BK176.out)
         replace BK177 := AM (zN_ BK177.out)
         replace BK178 := AM (zN_ BK178.out)
         replace BK182 := AM (zN_ BK182.out)
         replace BK186 := AM (zN_ BK186.out)
         replace HB := AM (zF_ HB.out)
         refine yU_ (n := 6) (S := fun w' => w'.cell? ⟨gb178, 0, none⟩ = some (.int .i64 0) ∧ w'.cell? ⟨gb178, 1, none⟩ = some (.string (⟨#[]⟩ : ByteArray))) (ds := []) #[false, false, false, false, false, false] (by kernel_rfl) rfl rfl ⟨(zb_ BK178.out 0).trans rfl, (zb_ BK178.out 1).trans rfl⟩ (fun hHeld => ?_)
         generalize w66.drew = w67 at BK176 BK177 BK178 BK182 BK186 HB hHeld ⊢
         refine pure_ (i := 0) (N := some 73) (v := ?_) (a' := ?_) #[true, false, false, false, false, false] rfl rfl (by kernel_rfl) (fun _ _ _ h => h) (Or.inl ⟨by rfl, ?_⟩) ?_ ?_
         rotate_left
         ·
          intro w'
          go_simp
          with_reducible rfl
         rotate_left
         ·
          simp only [Act.put, List.setIfInBounds_toArray, List.set_cons_zero, List.set_cons_succ, i64_w, i32_w]
          rfl
         refine take_ (i := 1) (N := some 74) (v := ?_) (a' := ?_) #[true, true, false, false, false, false] rfl rfl (by kernel_rfl) (fun _ _ _ h => h) (Or.inl ⟨by rfl, ?_⟩) hHeld ?_ ?_
         rotate_left
         ·
          rintro w' ⟨s0, s1⟩
          go_simp
          with_reducible rfl
         rotate_left
         ·
          simp only [Act.put, List.setIfInBounds_toArray, List.set_cons_zero, List.set_cons_succ, i64_w, i32_w]
          rfl
         refine one_ (i := 2) (N := none) #[true, true, true, false, false, false] rfl rfl (by kernel_rfl) (by decide) (fun K hK => ?_)
         have hs68 : w67.cell? ⟨gb176, 0, none⟩ = some (.string (⟨#[]⟩ : ByteArray)) := (zb_ BK176.out 0).trans rfl
         have hfs68 := za_ BK176.out 0
         have hns68_1 := NB177_176.out
         have hns68_2 := NB178_176.out
         have hns68_3 := NB182_176.out
         have hns68_4 := NB186_176.out
         have hms68_1 := NB176_177.out
         have hms68_2 := NB176_178.out
         have hms68_3 := NB176_182.out
         have hms68_4 := NB176_186.out
         have hs69 : w67.cell? ⟨gb176, 1, none⟩ = some (.int .i64 0) := (zb_ BK176.out 1).trans rfl
         have hfs69 := za_ BK176.out 1
         have hns69_1 := NB177_176.out
         have hns69_2 := NB178_176.out
         have hns69_3 := NB182_176.out
         have hns69_4 := NB186_176.out
         have hms69_1 := NB176_177.out
         have hms69_2 := NB176_178.out
         have hms69_3 := NB176_182.out
         have hms69_4 := NB176_186.out
         have hs70 : w67.cell? ⟨gb176, 2, none⟩ = some (.int .i64 0) := (zb_ BK176.out 2).trans rfl
         have hfs70 := za_ BK176.out 2
         have hns70_1 := NB177_176.out
         have hns70_2 := NB178_176.out
         have hns70_3 := NB182_176.out
         have hns70_4 := NB186_176.out
         have hms70_1 := NB176_177.out
         have hms70_2 := NB176_178.out
         have hms70_3 := NB176_182.out
         have hms70_4 := NB176_186.out
         have hs71 : w67.cell? ⟨gb176, 3, none⟩ = some (.int .i64 0) := (zb_ BK176.out 3).trans rfl
         have hfs71 := za_ BK176.out 3
         have hns71_1 := NB177_176.out
         have hns71_2 := NB178_176.out
         have hns71_3 := NB182_176.out
         have hns71_4 := NB186_176.out
         have hms71_1 := NB176_177.out
         have hms71_2 := NB176_178.out
         have hms71_3 := NB176_182.out
         have hms71_4 := NB176_186.out
         refine sk_ ?_
         refine hK.out _ _ ⟨(by (rw [cell_far, cell_far, cell_far, cell_far]) <;> first | exact hHeld.1 | exact NB178_176.out), (by (rw [cell_far, cell_far, cell_far, cell_far]) <;> first | exact hHeld.2 | exact NB178_176.out)⟩ (fun hHeld => ?_)
         clear hK K
         refine one_ (i := 3) (N := none) #[true, true, true, true, false, false] rfl rfl (by kernel_rfl) (by decide) (fun K hK => ?_)
         have hs72 : w67.cell? ⟨gb177, 0, none⟩ = some (.int .i64 0) := (zb_ BK177.out 0).trans rfl
         have hfs72 := za_ BK177.out 0
         have hns72_0 := NB176_177.out
         have hns72_2 := NB178_177.out
         have hns72_3 := NB182_177.out
         have hns72_4 := NB186_177.out
         have hms72_0 := NB177_176.out
         have hms72_2 := NB177_178.out
         have hms72_3 := NB177_182.out
         have hms72_4 := NB177_186.out
         have hs73 : w67.cell? ⟨gb177, 1, none⟩ = some (.string (⟨#[]⟩ : ByteArray)) := (zb_ BK177.out 1).trans rfl
         have hfs73 := za_ BK177.out 1
         have hns73_0 := NB176_177.out
         have hns73_2 := NB178_177.out
         have hns73_3 := NB182_177.out
         have hns73_4 := NB186_177.out
         have hms73_0 := NB177_176.out
         have hms73_2 := NB177_178.out
         have hms73_3 := NB177_182.out
         have hms73_4 := NB177_186.out
         refine sk_ ?_
         refine hK.out _ _ ⟨(by (rw [cell_far, cell_far]) <;> first | exact hHeld.1 | exact NB178_177.out), (by (rw [cell_far, cell_far]) <;> first | exact hHeld.2 | exact NB178_177.out)⟩ (fun hHeld => ?_)
         clear hK K
         refine pure_ (i := 4) (N := some 6) (v := ?_) (a' := ?_) #[true, true, true, true, true, false] rfl rfl (by kernel_rfl) (fun _ _ _ h => h) (Or.inl ⟨by rfl, ?_⟩) ?_ ?_
         rotate_left
         ·
          intro w'
          go_simp
          with_reducible rfl
         rotate_left
         ·
          simp only [Act.put, List.setIfInBounds_toArray, List.set_cons_zero, List.set_cons_succ, i64_w, i32_w]
          rfl
         refine pure_ (i := 5) (N := some 7) (v := ?_) (a' := ?_) #[true, true, true, true, true, true] rfl rfl (by kernel_rfl) (fun _ _ _ h => h) (Or.inl ⟨by rfl, ?_⟩) ?_ ?_
         rotate_left
         ·
          intro w'
          go_simp
          with_reducible rfl
         rotate_left
         ·
          simp only [Act.put, List.setIfInBounds_toArray, List.set_cons_zero, List.set_cons_succ, i64_w, i32_w]
          rfl
         refine done_ (by kernel_rfl) ?_
         try go_wp2
         refine bodyPost_ret (yN_ (rs := [.cell 4 58, .cell 5 60, .tmp 6, .tmp 7]) rfl (by simp) (.cell gb176 58 #[.string (⟨#[]⟩ : ByteArray), .int .i64 0, .int .i64 0, .int .i64 0] (0, 0) _ rfl bka_ Tryd.underlying58 rfl (by kernel_rfl) (.cell gb177 60 #[.int .i64 0, .string (⟨#[]⟩ : ByteArray)] (0, 0) _ rfl bka_ Tryd.underlying60 rfl (by kernel_rfl) (.tmp (.tmp .nil))))) rfl ?_
         exact ⟨ri_, bel_⟩
        ·
         rw [if_neg c54] at H
         have c54b0 : decide (t183 < 0) = false := decide_eq_false c54
         clear c54
         by_cases c74 : t183 > 2000
         ·
          rw [if_pos c74] at H
          have c74b0 : decide (2000 < t183) = true := decide_eq_true c74
          clear c74
          simp only [Option.some.injEq, Prod.mk.injEq] at H
          obtain ⟨rfl, rfl, rfl, rfl, rfl, rfl, rfl, rfl⟩ := H
          have hnb75 := NB182_176.out
          have hnc75 := NB176_182.out
          have hnb76 := NB182_177.out
          have hnc76 := NB177_182.out
          have hnb77 := NB182_178.out
          have hnc77 := NB178_182.out
          have hcz78_0 : wc.cell? ⟨gb182, 0, none⟩ = some (.int .i64 t179) := (zb_ BK182.out 0).trans rfl
          have hcz78_1 : wc.cell? ⟨gb182, 1, none⟩ = some (.int .i64 t180) := (zb_ BK182.out 1).trans rfl
          have hcz78_2 : wc.cell? ⟨gb182, 2, none⟩ = some (.int .i64 t181) := (zb_ BK182.out 2).trans rfl
          have hfz78_0 := za_ BK182.out 0
          have hfz78_1 := za_ BK182.out 1
          have hfz78_2 := za_ BK182.out 2
          try go_wp2_with (first | ((with_reducible refine zg_ (f := 82) rfl ?_); refine gl_ (some 49) Tryd.func82 #[.string a0, .int .i64 t180] ?_; (with_reducible refine (zl_.calls kj22 a0 t180 t183 t184 t185 _ A52.out).mono ?_); rintro e w79 ⟨rfl, hb⟩; refine ⟨_, rfl, ?_⟩; replace BK176 := AM (zh_ (g := gb176) (o := .cells #[.string (⟨#[]⟩ : ByteArray), .int .i64 0, .int .i64 0, .int .i64 0] 58 (0, 0)) (bk_ BK176.out) hb); replace BK177 := AM (zh_ (g := gb177) (o := .cells #[.int .i64 0, .string (⟨#[]⟩ : ByteArray)] 60 (0, 0)) (bk_ BK177.out) hb); replace BK178 := AM (zh_ (g := gb178) (o := .cells #[.int .i64 0, .string (⟨#[]⟩ : ByteArray)] 60 (0, 0)) (bk_ BK178.out) hb); replace BK182 := AM (zh_ (g := gb182) (o := .cells #[.int .i64 t179, .int .i64 t180, .int .i64 t181] 102 (0, 0)) (bk_ BK182.out) hb); replace HB := AM (zc_ bel_ hb); (try clear hb)) | ((with_reducible refine zy_ (N := 10) rfl ?_); (try (refine yh_ (by rfl) ?_; dsimp only)); refine be_ 10 #[.int .i64 0, .int .i64 0, .int .i64 0] 102 ?_; intro gb186 hg w80 hbox hb; have BK186 := AM hbox; have GW186 := AM ((by rw [hg]; exact (zf_ bel_) : w.heap.size ≤ gb186)); have GE186 := AM ((by rw [hg]; exact (zf_ bel_) : w.heap.size ≤ gb186)); replace HB := AM (zc_ bel_ hb); have NB176_186 := AM ((by rw [hg]; exact Nat.ne_of_lt (zA_ (g := gb176) (o := .cells #[.string (⟨#[]⟩ : ByteArray), .int .i64 0, .int .i64 0, .int .i64 0] 58 (0, 0)) (bk_ BK176.out)) : gb176 ≠ gb186)); have NB186_176 := AM ((by rw [hg]; exact Nat.ne_of_gt (zA_ (g := gb176) (o := .cells #[.string (⟨#[]⟩ : ByteArray), .int .i64 0, .int .i64 0, .int .i64 0] 58 (0, 0)) (bk_ BK176.out)) : gb186 ≠ gb176)); replace BK176 := AM (zh_ (g := gb176) (o := .cells #[.string (⟨#[]⟩ : ByteArray), .int .i64 0, .int .i64 0, .int .i64 0] 58 (0, 0)) (bk_ BK176.out) hb); have NB177_186 := AM ((by rw [hg]; exact Nat.ne_of_lt (zA_ (g := gb177) (o := .cells #[.int .i64 0, .string (⟨#[]⟩ : ByteArray)] 60 (0, 0)) (bk_ BK177.out)) : gb177 ≠ gb186)); have NB186_177 := AM ((by rw [hg]; exact Nat.ne_of_gt (zA_ (g := gb177) (o := .cells #[.int .i64 0, .string (⟨#[]⟩ : ByteArray)] 60 (0, 0)) (bk_ BK177.out)) : gb186 ≠ gb177)); replace BK177 := AM (zh_ (g := gb177) (o := .cells #[.int .i64 0, .string (⟨#[]⟩ : ByteArray)] 60 (0, 0)) (bk_ BK177.out) hb); have NB178_186 := AM ((by rw [hg]; exact Nat.ne_of_lt (zA_ (g := gb178) (o := .cells #[.int .i64 0, .string (⟨#[]⟩ : ByteArray)] 60 (0, 0)) (bk_ BK178.out)) : gb178 ≠ gb186)); have NB186_178 := AM ((by rw [hg]; exact Nat.ne_of_gt (zA_ (g := gb178) (o := .cells #[.int .i64 0, .string (⟨#[]⟩ : ByteArray)] 60 (0, 0)) (bk_ BK178.out)) : gb186 ≠ gb178)); replace BK178 := AM (zh_ (g := gb178) (o := .cells #[.int .i64 0, .string (⟨#[]⟩ : ByteArray)] 60 (0, 0)) (bk_ BK178.out) hb); have NB182_186 := AM ((by rw [hg]; exact Nat.ne_of_lt (zA_ (g := gb182) (o := .cells #[.int .i64 t179, .int .i64 t180, .int .i64 t181] 102 (0, 0)) (bk_ BK182.out)) : gb182 ≠ gb186)); have NB186_182 := AM ((by rw [hg]; exact Nat.ne_of_gt (zA_ (g := gb182) (o := .cells #[.int .i64 t179, .int .i64 t180, .int .i64 t181] 102 (0, 0)) (bk_ BK182.out)) : gb186 ≠ gb182)); replace BK182 := AM (zh_ (g := gb182) (o := .cells #[.int .i64 t179, .int .i64 t180, .int .i64 t181] 102 (0, 0)) (bk_ BK182.out) hb); clear hb hbox hg; have hnb81 := NB186_176.out; have hnc81 := NB176_186.out; have hnb82 := NB186_177.out; have hnc82 := NB177_186.out; have hnb83 := NB186_178.out; have hnc83 := NB178_186.out; have hnb84 := NB186_182.out; have hnc84 := NB182_186.out; have hcz85_0 : w80.cell? ⟨gb186, 0, none⟩ = some (.int .i64 0) := (zb_ BK186.out 0).trans rfl; have hcz85_1 : w80.cell? ⟨gb186, 1, none⟩ = some (.int .i64 0) := (zb_ BK186.out 1).trans rfl; have hcz85_2 : w80.cell? ⟨gb186, 2, none⟩ = some (.int .i64 0) := (zb_ BK186.out 2).trans rfl; have hfz85_0 := za_ BK186.out 0; have hfz85_1 := za_ BK186.out 1; have hfz85_2 := za_ BK186.out 2))
          have n0_ : zd_ ((((w80.setCell ⟨gb186, 0, none⟩ (.int .i64 t183)).setCell ⟨gb186, 1, none⟩ (.int .i64 t184)).setCell ⟨gb186, 2, none⟩ (.int .i64 t185)).heap[gb176]? = some (.cells #[.string (⟨#[]⟩ : ByteArray), .int .i64 0, .int .i64 0, .int .i64 0] 58 (0, 0))) := ⟨bka_⟩
          have n1_ : zd_ ((((w80.setCell ⟨gb186, 0, none⟩ (.int .i64 t183)).setCell ⟨gb186, 1, none⟩ (.int .i64 t184)).setCell ⟨gb186, 2, none⟩ (.int .i64 t185)).heap[gb177]? = some (.cells #[.int .i64 0, .string (⟨#[]⟩ : ByteArray)] 60 (0, 0))) := ⟨bka_⟩
          have n2_ : zd_ ((((w80.setCell ⟨gb186, 0, none⟩ (.int .i64 t183)).setCell ⟨gb186, 1, none⟩ (.int .i64 t184)).setCell ⟨gb186, 2, none⟩ (.int .i64 t185)).heap[gb178]? = some (.cells #[.int .i64 0, .string (⟨#[]⟩ : ByteArray)] 60 (0, 0))) := ⟨bka_⟩
          have n3_ : zd_ ((((w80.setCell ⟨gb186, 0, none⟩ (.int .i64 t183)).setCell ⟨gb186, 1, none⟩ (.int .i64 t184)).setCell ⟨gb186, 2, none⟩ (.int .i64 t185)).heap[gb182]? = some (.cells #[.int .i64 t179, .int .i64 t180, .int .i64 t181] 102 (0, 0))) := ⟨bka_⟩
          have n4_ : zd_ ((((w80.setCell ⟨gb186, 0, none⟩ (.int .i64 t183)).setCell ⟨gb186, 1, none⟩ (.int .i64 t184)).setCell ⟨gb186, 2, none⟩ (.int .i64 t185)).heap[gb186]? = some (.cells #[.int .i64 t183, .int .i64 t184, .int .i64 t185] 102 (0, 0))) := ⟨bka_⟩
          have n5_ : zd_ (Below w.heap.size w (((w80.setCell ⟨gb186, 0, none⟩ (.int .i64 t183)).setCell ⟨gb186, 1, none⟩ (.int .i64 t184)).setCell ⟨gb186, 2, none⟩ (.int .i64 t185))) := ⟨bel_⟩
          (try clear BK176); (try clear BK177); (try clear BK178); (try clear BK182); (try clear BK186); (try clear HB)
          generalize (((w80.setCell ⟨gb186, 0, none⟩ (.int .i64 t183)).setCell ⟨gb186, 1, none⟩ (.int .i64 t184)).setCell ⟨gb186, 2, none⟩ (.int .i64 t185)) = w86 at n0_ n1_ n2_ n3_ n4_ n5_ ⊢
          have BK176 := n0_
          have BK177 := n1_
          have BK178 := n2_
          have BK182 := n3_
          have BK186 := n4_
          have HB := n5_
          clear n0_ n1_ n2_ n3_ n4_ n5_
          replace BK176 := AM (zN_ BK176.out)
          replace BK177 := AM (zN_ BK177.out)
          replace BK178 := AM (zN_ BK178.out)
          replace BK182 := AM (zN_ BK182.out)
          replace BK186 := AM (zN_ BK186.out)
          replace HB := AM (zF_ HB.out)
          refine yU_ (n := 6) (S := fun w' => w'.cell? ⟨gb178, 0, none⟩ = some (.int .i64 0) ∧ w'.cell? ⟨gb178, 1, none⟩ = some (.string (⟨#[]⟩ : ByteArray))) (ds := []) #[false, false, false, false, false, false] (by kernel_rfl) rfl rfl ⟨(zb_ BK178.out 0).trans rfl, (zb_ BK178.out 1).trans rfl⟩ (fun hHeld => ?_)
          generalize w86.drew = w87 at BK176 BK177 BK178 BK182 BK186 HB hHeld ⊢
          refine pure_ (i := 0) (N := some 73) (v := ?_) (a' := ?_) #[true, false, false, false, false, false] rfl rfl (by kernel_rfl) (fun _ _ _ h => h) (Or.inl ⟨by rfl, ?_⟩) ?_ ?_
          rotate_left
          ·
           intro w'
           go_simp
           with_reducible rfl
          rotate_left
          ·
           simp only [Act.put, List.setIfInBounds_toArray, List.set_cons_zero, List.set_cons_succ, i64_w, i32_w]
           rfl
          refine take_ (i := 1) (N := some 74) (v := ?_) (a' := ?_) #[true, true, false, false, false, false] rfl rfl (by kernel_rfl) (fun _ _ _ h => h) (Or.inl ⟨by rfl, ?_⟩) hHeld ?_ ?_
          rotate_left
          ·
           rintro w' ⟨s0, s1⟩
           go_simp
           with_reducible rfl
          rotate_left
          ·
           simp only [Act.put, List.setIfInBounds_toArray, List.set_cons_zero, List.set_cons_succ, i64_w, i32_w]
           rfl
          refine one_ (i := 2) (N := none) #[true, true, true, false, false, false] rfl rfl (by kernel_rfl) (by decide) (fun K hK => ?_)
          have hs88 : w87.cell? ⟨gb176, 0, none⟩ = some (.string (⟨#[]⟩ : ByteArray)) := (zb_ BK176.out 0).trans rfl
          have hfs88 := za_ BK176.out 0
          have hns88_1 := NB177_176.out
          have hns88_2 := NB178_176.out
          have hns88_3 := NB182_176.out
          have hns88_4 := NB186_176.out
          have hms88_1 := NB176_177.out
          have hms88_2 := NB176_178.out
          have hms88_3 := NB176_182.out
          have hms88_4 := NB176_186.out
          have hs89 : w87.cell? ⟨gb176, 1, none⟩ = some (.int .i64 0) := (zb_ BK176.out 1).trans rfl
          have hfs89 := za_ BK176.out 1
          have hns89_1 := NB177_176.out
          have hns89_2 := NB178_176.out
          have hns89_3 := NB182_176.out
          have hns89_4 := NB186_176.out
          have hms89_1 := NB176_177.out
          have hms89_2 := NB176_178.out
          have hms89_3 := NB176_182.out
          have hms89_4 := NB176_186.out
          have hs90 : w87.cell? ⟨gb176, 2, none⟩ = some (.int .i64 0) := (zb_ BK176.out 2).trans rfl
          have hfs90 := za_ BK176.out 2
          have hns90_1 := NB177_176.out
          have hns90_2 := NB178_176.out
          have hns90_3 := NB182_176.out
          have hns90_4 := NB186_176.out
          have hms90_1 := NB176_177.out
          have hms90_2 := NB176_178.out
          have hms90_3 := NB176_182.out
          have hms90_4 := NB176_186.out
          have hs91 : w87.cell? ⟨gb176, 3, none⟩ = some (.int .i64 0) := (zb_ BK176.out 3).trans rfl
          have hfs91 := za_ BK176.out 3
          have hns91_1 := NB177_176.out
          have hns91_2 := NB178_176.out
          have hns91_3 := NB182_176.out
          have hns91_4 := NB186_176.out
          have hms91_1 := NB176_177.out
          have hms91_2 := NB176_178.out
          have hms91_3 := NB176_182.out
          have hms91_4 := NB176_186.out
          refine sk_ ?_
          refine hK.out _ _ ⟨(by (rw [cell_far, cell_far, cell_far, cell_far]) <;> first | exact hHeld.1 | exact NB178_176.out), (by (rw [cell_far, cell_far, cell_far, cell_far]) <;> first | exact hHeld.2 | exact NB178_176.out)⟩ (fun hHeld => ?_)
          clear hK K
          refine one_ (i := 3) (N := none) #[true, true, true, true, false, false] rfl rfl (by kernel_rfl) (by decide) (fun K hK => ?_)
          have hs92 : w87.cell? ⟨gb177, 0, none⟩ = some (.int .i64 0) := (zb_ BK177.out 0).trans rfl
          have hfs92 := za_ BK177.out 0
          have hns92_0 := NB176_177.out
          have hns92_2 := NB178_177.out
          have hns92_3 := NB182_177.out
          have hns92_4 := NB186_177.out
          have hms92_0 := NB177_176.out
          have hms92_2 := NB177_178.out
          have hms92_3 := NB177_182.out
          have hms92_4 := NB177_186.out
          have hs93 : w87.cell? ⟨gb177, 1, none⟩ = some (.string (⟨#[]⟩ : ByteArray)) := (zb_ BK177.out 1).trans rfl
          have hfs93 := za_ BK177.out 1
          have hns93_0 := NB176_177.out
          have hns93_2 := NB178_177.out
          have hns93_3 := NB182_177.out
          have hns93_4 := NB186_177.out
          have hms93_0 := NB177_176.out
          have hms93_2 := NB177_178.out
          have hms93_3 := NB177_182.out
          have hms93_4 := NB177_186.out
          refine sk_ ?_
          refine hK.out _ _ ⟨(by (rw [cell_far, cell_far]) <;> first | exact hHeld.1 | exact NB178_177.out), (by (rw [cell_far, cell_far]) <;> first | exact hHeld.2 | exact NB178_177.out)⟩ (fun hHeld => ?_)
          clear hK K
          refine pure_ (i := 4) (N := some 6) (v := ?_) (a' := ?_) #[true, true, true, true, true, false] rfl rfl (by kernel_rfl) (fun _ _ _ h => h) (Or.inl ⟨by rfl, ?_⟩) ?_ ?_
          rotate_left
          ·
           intro w'
           go_simp
           with_reducible rfl
          rotate_left
          ·
           simp only [Act.put, List.setIfInBounds_toArray, List.set_cons_zero, List.set_cons_succ, i64_w, i32_w]
           rfl
          refine pure_ (i := 5) (N := some 7) (v := ?_) (a' := ?_) #[true, true, true, true, true, true] rfl rfl (by kernel_rfl) (fun _ _ _ h => h) (Or.inl ⟨by rfl, ?_⟩) ?_ ?_
          rotate_left
          ·
           intro w'
           go_simp
           with_reducible rfl
          rotate_left
          ·
           simp only [Act.put, List.setIfInBounds_toArray, List.set_cons_zero, List.set_cons_succ, i64_w, i32_w]
           rfl
          refine done_ (by kernel_rfl) ?_
          try go_wp2
          refine bodyPost_ret (yN_ (rs := [.cell 4 58, .cell 5 60, .tmp 6, .tmp 7]) rfl (by simp) (.cell gb176 58 #[.string (⟨#[]⟩ : ByteArray), .int .i64 0, .int .i64 0, .int .i64 0] (0, 0) _ rfl bka_ Tryd.underlying58 rfl (by kernel_rfl) (.cell gb177 60 #[.int .i64 0, .string (⟨#[]⟩ : ByteArray)] (0, 0) _ rfl bka_ Tryd.underlying60 rfl (by kernel_rfl) (.tmp (.tmp .nil))))) rfl ?_
          exact ⟨ri_, bel_⟩
         ·
          rw [if_neg c74] at H
          have c74b0 : decide (2000 < t183) = false := decide_eq_false c74
          clear c74
          by_cases c94 : t184 > (wrap64 ((a0.size : Int) - t183))
          ·
           rw [if_pos c94] at H
           have c94b0 : decide ((wrap64 ((a0.size : Int) - t183)) < t184) = true := decide_eq_true c94
           try have c94b9 : (decide ((((a0.size : Int) - t183)) < t184)) = true := (by have hw0 : wrap64 ((a0.size : Int) - t183) = (a0.size : Int) - t183 := (by unfold wrap64; omega); have z_ := c94b0; simp only [hw0] at z_; exact z_)
           clear c94
           simp only [Option.some.injEq, Prod.mk.injEq] at H
           obtain ⟨rfl, rfl, rfl, rfl, rfl, rfl, rfl, rfl⟩ := H
           have hnb95 := NB182_176.out
           have hnc95 := NB176_182.out
           have hnb96 := NB182_177.out
           have hnc96 := NB177_182.out
           have hnb97 := NB182_178.out
           have hnc97 := NB178_182.out
           have hcz98_0 : wc.cell? ⟨gb182, 0, none⟩ = some (.int .i64 t179) := (zb_ BK182.out 0).trans rfl
           have hcz98_1 : wc.cell? ⟨gb182, 1, none⟩ = some (.int .i64 t180) := (zb_ BK182.out 1).trans rfl
           have hcz98_2 : wc.cell? ⟨gb182, 2, none⟩ = some (.int .i64 t181) := (zb_ BK182.out 2).trans rfl
           have hfz98_0 := za_ BK182.out 0
           have hfz98_1 := za_ BK182.out 1
           have hfz98_2 := za_ BK182.out 2
           try go_wp2_with (first | ((with_reducible refine zg_ (f := 82) rfl ?_); refine gl_ (some 49) Tryd.func82 #[.string a0, .int .i64 t180] ?_; (with_reducible refine (zl_.calls kj22 a0 t180 t183 t184 t185 _ A52.out).mono ?_); rintro e w99 ⟨rfl, hb⟩; refine ⟨_, rfl, ?_⟩; replace BK176 := AM (zh_ (g := gb176) (o := .cells #[.string (⟨#[]⟩ : ByteArray), .int .i64 0, .int .i64 0, .int .i64 0] 58 (0, 0)) (bk_ BK176.out) hb); replace BK177 := AM (zh_ (g := gb177) (o := .cells #[.int .i64 0, .string (⟨#[]⟩ : ByteArray)] 60 (0, 0)) (bk_ BK177.out) hb); replace BK178 := AM (zh_ (g := gb178) (o := .cells #[.int .i64 0, .string (⟨#[]⟩ : ByteArray)] 60 (0, 0)) (bk_ BK178.out) hb); replace BK182 := AM (zh_ (g := gb182) (o := .cells #[.int .i64 t179, .int .i64 t180, .int .i64 t181] 102 (0, 0)) (bk_ BK182.out) hb); replace HB := AM (zc_ bel_ hb); (try clear hb)) | ((with_reducible refine zy_ (N := 10) rfl ?_); (try (refine yh_ (by rfl) ?_; dsimp only)); refine be_ 10 #[.int .i64 0, .int .i64 0, .int .i64 0] 102 ?_; intro gb186 hg w100 hbox hb; have BK186 := AM hbox; have GW186 := AM ((by rw [hg]; exact (zf_ bel_) : w.heap.size ≤ gb186)); have GE186 := AM ((by rw [hg]; exact (zf_ bel_) : w.heap.size ≤ gb186)); replace HB := AM (zc_ bel_ hb); have NB176_186 := AM ((by rw [hg]; exact Nat.ne_of_lt (zA_ (g := gb176) (o := .cells #[.string (⟨#[]⟩ : ByteArray), .int .i64 0, .int .i64 0, .int .i64 0] 58 (0, 0)) (bk_ BK176.out)) : gb176 ≠ gb186)); have NB186_176 := AM ((by rw [hg]; exact Nat.ne_of_gt (zA_ (g := gb176) (o := .cells #[.string (⟨#[]⟩ : ByteArray), .int .i64 0, .int .i64 0, .int .i64 0] 58 (0, 0)) (bk_ BK176.out)) : gb186 ≠ gb176)); replace BK176 := AM (zh_ (g := gb176) (o := .cells #[.string (⟨#[]⟩ : ByteArray), .int .i64 0, .int .i64 0, .int .i64 0] 58 (0, 0)) (bk_ BK176.out) hb); have NB177_186 := AM ((by rw [hg]; exact Nat.ne_of_lt (zA_ (g := gb177) (o := .cells #[.int .i64 0, .string (⟨#[]⟩ : ByteArray)] 60 (0, 0)) (bk_ BK177.out)) : gb177 ≠ gb186)); have NB186_177 := AM ((by rw [hg]; exact Nat.ne_of_gt (zA_ (g := gb177) (o := .cells #[.int .i64 0, .string (⟨#[]⟩ : ByteArray)] 60 (0, 0)) (bk_ BK177.out)) : gb186 ≠ gb177)); replace BK177 := AM (zh_ (g := gb177) (o := .cells #[.int .i64 0, .string (⟨#[]⟩ : ByteArray)] 60 (0, 0)) (bk_ BK177.out) hb); have NB178_186 := AM ((by rw [hg]; exact Nat.ne_of_lt (zA_ (g := gb178) (o := .cells #[.int .i64 0, .string (⟨#[]⟩ : ByteArray)] 60 (0, 0)) (bk_ BK178.out)) : gb178 ≠ gb186)); have NB186_178 := AM ((by rw [hg]; exact Nat.ne_of_gt (zA_ (g := gb178) (o := .cells #[.int .i64 0, .string (⟨#[]⟩ : ByteArray)] 60 (0, 0)) (bk_ BK178.out)) : gb186 ≠ gb178)); replace BK178 := AM (zh_ (g := gb178) (o := .cells #[.int .i64 0, .string (⟨#[]⟩ : ByteArray)] 60 (0, 0)) (bk_ BK178.out) hb); have NB182_186 := AM ((by rw [hg]; exact Nat.ne_of_lt (zA_ (g := gb182) (o := .cells #[.int .i64 t179, .int .i64 t180, .int .i64 t181] 102 (0, 0)) (bk_ BK182.out)) : gb182 ≠ gb186)); have NB186_182 := AM ((by rw [hg]; exact Nat.ne_of_gt (zA_ (g := gb182) (o := .cells #[.int .i64 t179, .int .i64 t180, .int .i64 t181] 102 (0, 0)) (bk_ BK182.out)) : gb186 ≠ gb182)); replace BK182 := AM (zh_ (g := gb182) (o := .cells #[.int .i64 t179, .int .i64 t180, .int .i64 t181] 102 (0, 0)) (bk_ BK182.out) hb); clear hb hbox hg; have hnb101 := NB186_176.out; have hnc101 := NB176_186.out; have hnb102 := NB186_177.out; have hnc102 := NB177_186.out; have hnb103 := NB186_178.out; have hnc103 := NB178_186.out; have hnb104 := NB186_182.out; have hnc104 := NB182_186.out; have hcz105_0 : w100.cell? ⟨gb186, 0, none⟩ = some (.int .i64 0) := (zb_ BK186.out 0).trans rfl; have hcz105_1 : w100.cell? ⟨gb186, 1, none⟩ = some (.int .i64 0) := (zb_ BK186.out 1).trans rfl; have hcz105_2 : w100.cell? ⟨gb186, 2, none⟩ = some (.int .i64 0) := (zb_ BK186.out 2).trans rfl; have hfz105_0 := za_ BK186.out 0; have hfz105_1 := za_ BK186.out 1; have hfz105_2 := za_ BK186.out 2))
           have n0_ : zd_ ((((w100.setCell ⟨gb186, 0, none⟩ (.int .i64 t183)).setCell ⟨gb186, 1, none⟩ (.int .i64 t184)).setCell ⟨gb186, 2, none⟩ (.int .i64 t185)).heap[gb176]? = some (.cells #[.string (⟨#[]⟩ : ByteArray), .int .i64 0, .int .i64 0, .int .i64 0] 58 (0, 0))) := ⟨bka_⟩
           have n1_ : zd_ ((((w100.setCell ⟨gb186, 0, none⟩ (.int .i64 t183)).setCell ⟨gb186, 1, none⟩ (.int .i64 t184)).setCell ⟨gb186, 2, none⟩ (.int .i64 t185)).heap[gb177]? = some (.cells #[.int .i64 0, .string (⟨#[]⟩ : ByteArray)] 60 (0, 0))) := ⟨bka_⟩
           have n2_ : zd_ ((((w100.setCell ⟨gb186, 0, none⟩ (.int .i64 t183)).setCell ⟨gb186, 1, none⟩ (.int .i64 t184)).setCell ⟨gb186, 2, none⟩ (.int .i64 t185)).heap[gb178]? = some (.cells #[.int .i64 0, .string (⟨#[]⟩ : ByteArray)] 60 (0, 0))) := ⟨bka_⟩
           have n3_ : zd_ ((((w100.setCell ⟨gb186, 0, none⟩ (.int .i64 t183)).setCell ⟨gb186, 1, none⟩ (.int .i64 t184)).setCell ⟨gb186, 2, none⟩ (.int .i64 t185)).heap[gb182]? = some (.cells #[.int .i64 t179, .int .i64 t180, .int .i64 t181] 102 (0, 0))) := ⟨bka_⟩
           have n4_ : zd_ ((((w100.setCell ⟨gb186, 0, none⟩ (.int .i64 t183)).setCell ⟨gb186, 1, none⟩ (.int .i64 t184)).setCell ⟨gb186, 2, none⟩ (.int .i64 t185)).heap[gb186]? = some (.cells #[.int .i64 t183, .int .i64 t184, .int .i64 t185] 102 (0, 0))) := ⟨bka_⟩
           have n5_ : zd_ (Below w.heap.size w (((w100.setCell ⟨gb186, 0, none⟩ (.int .i64 t183)).setCell ⟨gb186, 1, none⟩ (.int .i64 t184)).setCell ⟨gb186, 2, none⟩ (.int .i64 t185))) := ⟨bel_⟩
           (try clear BK176); (try clear BK177); (try clear BK178); (try clear BK182); (try clear BK186); (try clear HB)
           generalize (((w100.setCell ⟨gb186, 0, none⟩ (.int .i64 t183)).setCell ⟨gb186, 1, none⟩ (.int .i64 t184)).setCell ⟨gb186, 2, none⟩ (.int .i64 t185)) = w106 at n0_ n1_ n2_ n3_ n4_ n5_ ⊢
           have BK176 := n0_
           have BK177 := n1_
           have BK178 := n2_
           have BK182 := n3_
           have BK186 := n4_
           have HB := n5_
           clear n0_ n1_ n2_ n3_ n4_ n5_
           replace BK176 := AM (zN_ BK176.out)
           replace BK177 := AM (zN_ BK177.out)
           replace BK178 := AM (zN_ BK178.out)
           replace BK182 := AM (zN_ BK182.out)
           replace BK186 := AM (zN_ BK186.out)
           replace HB := AM (zF_ HB.out)
           refine yU_ (n := 6) (S := fun w' => w'.cell? ⟨gb178, 0, none⟩ = some (.int .i64 0) ∧ w'.cell? ⟨gb178, 1, none⟩ = some (.string (⟨#[]⟩ : ByteArray))) (ds := []) #[false, false, false, false, false, false] (by kernel_rfl) rfl rfl ⟨(zb_ BK178.out 0).trans rfl, (zb_ BK178.out 1).trans rfl⟩ (fun hHeld => ?_)
           generalize w106.drew = w107 at BK176 BK177 BK178 BK182 BK186 HB hHeld ⊢
           refine pure_ (i := 0) (N := some 73) (v := ?_) (a' := ?_) #[true, false, false, false, false, false] rfl rfl (by kernel_rfl) (fun _ _ _ h => h) (Or.inl ⟨by rfl, ?_⟩) ?_ ?_
           rotate_left
           ·
            intro w'
            go_simp
            with_reducible rfl
           rotate_left
           ·
            simp only [Act.put, List.setIfInBounds_toArray, List.set_cons_zero, List.set_cons_succ, i64_w, i32_w]
            rfl
           refine take_ (i := 1) (N := some 74) (v := ?_) (a' := ?_) #[true, true, false, false, false, false] rfl rfl (by kernel_rfl) (fun _ _ _ h => h) (Or.inl ⟨by rfl, ?_⟩) hHeld ?_ ?_
           rotate_left
           ·
            rintro w' ⟨s0, s1⟩
            go_simp
            with_reducible rfl
           rotate_left
           ·
            simp only [Act.put, List.setIfInBounds_toArray, List.set_cons_zero, List.set_cons_succ, i64_w, i32_w]
            rfl
           refine one_ (i := 2) (N := none) #[true, true, true, false, false, false] rfl rfl (by kernel_rfl) (by decide) (fun K hK => ?_)
           have hs108 : w107.cell? ⟨gb176, 0, none⟩ = some (.string (⟨#[]⟩ : ByteArray)) := (zb_ BK176.out 0).trans rfl
           have hfs108 := za_ BK176.out 0
           have hns108_1 := NB177_176.out
           have hns108_2 := NB178_176.out
           have hns108_3 := NB182_176.out
           have hns108_4 := NB186_176.out
           have hms108_1 := NB176_177.out
           have hms108_2 := NB176_178.out
           have hms108_3 := NB176_182.out
           have hms108_4 := NB176_186.out
           have hs109 : w107.cell? ⟨gb176, 1, none⟩ = some (.int .i64 0) := (zb_ BK176.out 1).trans rfl
           have hfs109 := za_ BK176.out 1
           have hns109_1 := NB177_176.out
           have hns109_2 := NB178_176.out
           have hns109_3 := NB182_176.out
           have hns109_4 := NB186_176.out
           have hms109_1 := NB176_177.out
           have hms109_2 := NB176_178.out
           have hms109_3 := NB176_182.out
           have hms109_4 := NB176_186.out
           have hs110 : w107.cell? ⟨gb176, 2, none⟩ = some (.int .i64 0) := (zb_ BK176.out 2).trans rfl
           have hfs110 := za_ BK176.out 2
           have hns110_1 := NB177_176.out
           have hns110_2 := NB178_176.out
           have hns110_3 := NB182_176.out
           have hns110_4 := NB186_176.out
           have hms110_1 := NB176_177.out
           have hms110_2 := NB176_178.out
           have hms110_3 := NB176_182.out
           have hms110_4 := NB176_186.out
           have hs111 : w107.cell? ⟨gb176, 3, none⟩ = some (.int .i64 0) := (zb_ BK176.out 3).trans rfl
           have hfs111 := za_ BK176.out 3
           have hns111_1 := NB177_176.out
           have hns111_2 := NB178_176.out
           have hns111_3 := NB182_176.out
           have hns111_4 := NB186_176.out
           have hms111_1 := NB176_177.out
           have hms111_2 := NB176_178.out
           have hms111_3 := NB176_182.out
           have hms111_4 := NB176_186.out
           refine sk_ ?_
           refine hK.out _ _ ⟨(by (rw [cell_far, cell_far, cell_far, cell_far]) <;> first | exact hHeld.1 | exact NB178_176.out), (by (rw [cell_far, cell_far, cell_far, cell_far]) <;> first | exact hHeld.2 | exact NB178_176.out)⟩ (fun hHeld => ?_)
           clear hK K
           refine one_ (i := 3) (N := none) #[true, true, true, true, false, false] rfl rfl (by kernel_rfl) (by decide) (fun K hK => ?_)
           have hs112 : w107.cell? ⟨gb177, 0, none⟩ = some (.int .i64 0) := (zb_ BK177.out 0).trans rfl
           have hfs112 := za_ BK177.out 0
           have hns112_0 := NB176_177.out
           have hns112_2 := NB178_177.out
           have hns112_3 := NB182_177.out
           have hns112_4 := NB186_177.out
           have hms112_0 := NB177_176.out
           have hms112_2 := NB177_178.out
           have hms112_3 := NB177_182.out
           have hms112_4 := NB177_186.out
           have hs113 : w107.cell? ⟨gb177, 1, none⟩ = some (.string (⟨#[]⟩ : ByteArray)) := (zb_ BK177.out 1).trans rfl
           have hfs113 := za_ BK177.out 1
           have hns113_0 := NB176_177.out
           have hns113_2 := NB178_177.out
           have hns113_3 := NB182_177.out
           have hns113_4 := NB186_177.out
           have hms113_0 := NB177_176.out
           have hms113_2 := NB177_178.out
           have hms113_3 := NB177_182.out
           have hms113_4 := NB177_186.out
           refine sk_ ?_
           refine hK.out _ _ ⟨(by (rw [cell_far, cell_far]) <;> first | exact hHeld.1 | exact NB178_177.out), (by (rw [cell_far, cell_far]) <;> first | exact hHeld.2 | exact NB178_177.out)⟩ (fun hHeld => ?_)
           clear hK K
           refine pure_ (i := 4) (N := some 6) (v := ?_) (a' := ?_) #[true, true, true, true, true, false] rfl rfl (by kernel_rfl) (fun _ _ _ h => h) (Or.inl ⟨by rfl, ?_⟩) ?_ ?_
           rotate_left
           ·
            intro w'
            go_simp
            with_reducible rfl
           rotate_left
           ·
            simp only [Act.put, List.setIfInBounds_toArray, List.set_cons_zero, List.set_cons_succ, i64_w, i32_w]
            rfl
           refine pure_ (i := 5) (N := some 7) (v := ?_) (a' := ?_) #[true, true, true, true, true, true] rfl rfl (by kernel_rfl) (fun _ _ _ h => h) (Or.inl ⟨by rfl, ?_⟩) ?_ ?_
           rotate_left
           ·
            intro w'
            go_simp
            with_reducible rfl
           rotate_left
           ·
            simp only [Act.put, List.setIfInBounds_toArray, List.set_cons_zero, List.set_cons_succ, i64_w, i32_w]
            rfl
           refine done_ (by kernel_rfl) ?_
           try go_wp2
           refine bodyPost_ret (yN_ (rs := [.cell 4 58, .cell 5 60, .tmp 6, .tmp 7]) rfl (by simp) (.cell gb176 58 #[.string (⟨#[]⟩ : ByteArray), .int .i64 0, .int .i64 0, .int .i64 0] (0, 0) _ rfl bka_ Tryd.underlying58 rfl (by kernel_rfl) (.cell gb177 60 #[.int .i64 0, .string (⟨#[]⟩ : ByteArray)] (0, 0) _ rfl bka_ Tryd.underlying60 rfl (by kernel_rfl) (.tmp (.tmp .nil))))) rfl ?_
           exact ⟨ri_, bel_⟩
          ·
           rw [if_neg c94] at H
           have c94b0 : decide ((wrap64 ((a0.size : Int) - t183)) < t184) = false := decide_eq_false c94
           try have c94b9 : (decide ((((a0.size : Int) - t183)) < t184)) = false := (by have hw0 : wrap64 ((a0.size : Int) - t183) = (a0.size : Int) - t183 := (by unfold wrap64; omega); have z_ := c94b0; simp only [hw0] at z_; exact z_)
           clear c94
           obtain ⟨ji114, hji114⟩ : ∃ j_ : Int, (wrap64 (a1 + 1)) = j_ := ⟨_, rfl⟩
           replace H : (if 0 ≤ (ji114) then (if (ji114) ≤ (wrap64 (a1 + 33)) then (if (wrap64 (a1 + 33)) ≤ (a0.size : Int) then (if 0 ≤ t184 then (if t184 ≤ (wrap64 (t184 + t183)) then (if (wrap64 (t184 + t183)) ≤ (a0.size : Int) then ((zT_.f kj22 t179 (a0.extract (t184 : Int).toNat ((wrap64 (t184 + t183)) : Int).toNat)).bind fun t189 => (some (a0.extract ((ji114) : Int).toNat ((wrap64 (a1 + 33)) : Int).toNat, t179, t184, t183, t179, a0.extract (t184 : Int).toNat ((wrap64 (t184 + t183)) : Int).toNat, wrap64 (t184 + t183), (t189.toList == (a0.extract ((ji114) : Int).toNat ((wrap64 (a1 + 33)) : Int).toNat).toList)))) else (none)) else (none)) else (none)) else (none)) else (none)) else (none)) = some (r1, r2, r3, r4, r5, r6, r7, r8) := by first | (rw [hji114] at H; exact H) | (simp only [hji114] at H ⊢; exact H)
           (try rw [hji114] at A52)
           have hji114w : (IntKind.i64.wrap (a1 + 1)) = ji114 := (i64_w _).trans hji114
           by_cases c115 : 0 ≤ (ji114)
           ·
            rw [if_pos c115] at H
            have c115b0 := eq_true c115
            have c115b1 : decide (0 ≤ (ji114)) = true := decide_eq_true c115
            clear c115
            by_cases c116 : (ji114) ≤ (wrap64 (a1 + 33))
            ·
             rw [if_pos c116] at H
             have c116b0 := eq_true c116
             have c116b1 : decide ((ji114) ≤ (wrap64 (a1 + 33))) = true := decide_eq_true c116
             by_cases c117 : (wrap64 (a1 + 33)) ≤ (a0.size : Int)
             ·
              rw [if_pos c117] at H
              have c117b0 := eq_true c117
              have c117b1 : decide ((wrap64 (a1 + 33)) ≤ (a0.size : Int)) = true := decide_eq_true c117
              by_cases c118 : 0 ≤ t184
              ·
               rw [if_pos c118] at H
               have c118b0 := eq_true c118
               have c118b1 : decide (0 ≤ t184) = true := decide_eq_true c118
               clear c118
               by_cases c119 : t184 ≤ (wrap64 (t184 + t183))
               ·
                rw [if_pos c119] at H
                have c119b0 := eq_true c119
                have c119b1 : decide (t184 ≤ (wrap64 (t184 + t183))) = true := decide_eq_true c119
                by_cases c120 : (wrap64 (t184 + t183)) ≤ (a0.size : Int)
                ·
                 rw [if_pos c120] at H
                 have c120b0 := eq_true c120
                 have c120b1 : decide ((wrap64 (t184 + t183)) ≤ (a0.size : Int)) = true := decide_eq_true c120
                 obtain ⟨t189, A121, H⟩ := OB H
                 try dsimp only at H
                 replace A121 := AM A121
                 simp only [Option.some.injEq, Prod.mk.injEq] at H
                 obtain ⟨rfl, rfl, rfl, rfl, rfl, rfl, rfl, rfl⟩ := H
                 have hnb122 := NB182_176.out
                 have hnc122 := NB176_182.out
                 have hnb123 := NB182_177.out
                 have hnc123 := NB177_182.out
                 have hnb124 := NB182_178.out
                 have hnc124 := NB178_182.out
                 have hcz125_0 : wc.cell? ⟨gb182, 0, none⟩ = some (.int .i64 t179) := (zb_ BK182.out 0).trans rfl
                 have hcz125_1 : wc.cell? ⟨gb182, 1, none⟩ = some (.int .i64 t180) := (zb_ BK182.out 1).trans rfl
                 have hcz125_2 : wc.cell? ⟨gb182, 2, none⟩ = some (.int .i64 t181) := (zb_ BK182.out 2).trans rfl
                 have hfz125_0 := za_ BK182.out 0
                 have hfz125_1 := za_ BK182.out 1
                 have hfz125_2 := za_ BK182.out 2
                 try go_wp2_with (first | ((with_reducible refine zg_ (f := 82) rfl ?_); refine gl_ (some 49) Tryd.func82 #[.string a0, .int .i64 t180] ?_; (with_reducible refine (zl_.calls kj22 a0 t180 t183 t184 t185 _ A52.out).mono ?_); rintro e w126 ⟨rfl, hb⟩; refine ⟨_, rfl, ?_⟩; replace BK176 := AM (zh_ (g := gb176) (o := .cells #[.string (⟨#[]⟩ : ByteArray), .int .i64 0, .int .i64 0, .int .i64 0] 58 (0, 0)) (bk_ BK176.out) hb); replace BK177 := AM (zh_ (g := gb177) (o := .cells #[.int .i64 0, .string (⟨#[]⟩ : ByteArray)] 60 (0, 0)) (bk_ BK177.out) hb); replace BK178 := AM (zh_ (g := gb178) (o := .cells #[.int .i64 0, .string (⟨#[]⟩ : ByteArray)] 60 (0, 0)) (bk_ BK178.out) hb); replace BK182 := AM (zh_ (g := gb182) (o := .cells #[.int .i64 t179, .int .i64 t180, .int .i64 t181] 102 (0, 0)) (bk_ BK182.out) hb); replace HB := AM (zc_ bel_ hb); (try clear hb)) | ((with_reducible refine zy_ (N := 10) rfl ?_); (try (refine yh_ (by rfl) ?_; dsimp only)); refine be_ 10 #[.int .i64 0, .int .i64 0, .int .i64 0] 102 ?_; intro gb186 hg w127 hbox hb; have BK186 := AM hbox; have GW186 := AM ((by rw [hg]; exact (zf_ bel_) : w.heap.size ≤ gb186)); have GE186 := AM ((by rw [hg]; exact (zf_ bel_) : w.heap.size ≤ gb186)); replace HB := AM (zc_ bel_ hb); have NB176_186 := AM ((by rw [hg]; exact Nat.ne_of_lt (zA_ (g := gb176) (o := .cells #[.string (⟨#[]⟩ : ByteArray), .int .i64 0, .int .i64 0, .int .i64 0] 58 (0, 0)) (bk_ BK176.out)) : gb176 ≠ gb186)); have NB186_176 := AM ((by rw [hg]; exact Nat.ne_of_gt (zA_ (g := gb176) (o := .cells #[.string (⟨#[]⟩ : ByteArray), .int .i64 0, .int .i64 0, .int .i64 0] 58 (0, 0)) (bk_ BK176.out)) : gb186 ≠ gb176)); replace BK176 := AM (zh_ (g := gb176) (o := .cells #[.string (⟨#[]⟩ : ByteArray), .int .i64 0, .int .i64 0, .int .i64 0] 58 (0, 0)) (bk_ BK176.out) hb); have NB177_186 := AM ((by rw [hg]; exact Nat.ne_of_lt (zA_ (g := gb177) (o := .cells #[.int .i64 0, .string (⟨#[]⟩ : ByteArray)] 60 (0, 0)) (bk_ BK177.out)) : gb177 ≠ gb186)); have NB186_177 := AM ((by rw [hg]; exact Nat.ne_of_gt (zA_ (g := gb177) (o := .cells #[.int .i64 0, .string (⟨#[]⟩ : ByteArray)] 60 (0, 0)) (bk_ BK177.out)) : gb186 ≠ gb177)); replace BK177 := AM (zh_ (g := gb177) (o := .cells #[.int .i64 0, .string (⟨#[]⟩ : ByteArray)] 60 (0, 0)) (bk_ BK177.out) hb); have NB178_186 := AM ((by rw [hg]; exact Nat.ne_of_lt (zA_ (g := gb178) (o := .cells #[.int .i64 0, .string (⟨#[]⟩ : ByteArray)] 60 (0, 0)) (bk_ BK178.out)) : gb178 ≠ gb186)); have NB186_178 := AM ((by rw [hg]; exact Nat.ne_of_gt (zA_ (g := gb178) (o := .cells #[.int .i64 0, .string (⟨#[]⟩ : ByteArray)] 60 (0, 0)) (bk_ BK178.out)) : gb186 ≠ gb178)); replace BK178 := AM (zh_ (g := gb178) (o := .cells #[.int .i64 0, .string (⟨#[]⟩ : ByteArray)] 60 (0, 0)) (bk_ BK178.out) hb); have NB182_186 := AM ((by rw [hg]; exact Nat.ne_of_lt (zA_ (g := gb182) (o := .cells #[.int .i64 t179, .int .i64 t180, .int .i64 t181] 102 (0, 0)) (bk_ BK182.out)) : gb182 ≠ gb186)); have NB186_182 := AM ((by rw [hg]; exact Nat.ne_of_gt (zA_ (g := gb182) (o := .cells #[.int .i64 t179, .int .i64 t180, .int .i64 t181] 102 (0, 0)) (bk_ BK182.out)) : gb186 ≠ gb182)); replace BK182 := AM (zh_ (g := gb182) (o := .cells #[.int .i64 t179, .int .i64 t180, .int .i64 t181] 102 (0, 0)) (bk_ BK182.out) hb); clear hb hbox hg; have hnb128 := NB186_176.out; have hnc128 := NB176_186.out; have hnb129 := NB186_177.out; have hnc129 := NB177_186.out; have hnb130 := NB186_178.out; have hnc130 := NB178_186.out; have hnb131 := NB186_182.out; have hnc131 := NB182_186.out; have hcz132_0 : w127.cell? ⟨gb186, 0, none⟩ = some (.int .i64 0) := (zb_ BK186.out 0).trans rfl; have hcz132_1 : w127.cell? ⟨gb186, 1, none⟩ = some (.int .i64 0) := (zb_ BK186.out 1).trans rfl; have hcz132_2 : w127.cell? ⟨gb186, 2, none⟩ = some (.int .i64 0) := (zb_ BK186.out 2).trans rfl; have hfz132_0 := za_ BK186.out 0; have hfz132_1 := za_ BK186.out 1; have hfz132_2 := za_ BK186.out 2))
                 have n0_ : zd_ ((((w127.setCell ⟨gb186, 0, none⟩ (.int .i64 t183)).setCell ⟨gb186, 1, none⟩ (.int .i64 t184)).setCell ⟨gb186, 2, none⟩ (.int .i64 t185)).heap[gb176]? = some (.cells #[.string (⟨#[]⟩ : ByteArray), .int .i64 0, .int .i64 0, .int .i64 0] 58 (0, 0))) := ⟨bka_⟩
                 have n1_ : zd_ ((((w127.setCell ⟨gb186, 0, none⟩ (.int .i64 t183)).setCell ⟨gb186, 1, none⟩ (.int .i64 t184)).setCell ⟨gb186, 2, none⟩ (.int .i64 t185)).heap[gb177]? = some (.cells #[.int .i64 0, .string (⟨#[]⟩ : ByteArray)] 60 (0, 0))) := ⟨bka_⟩
                 have n2_ : zd_ ((((w127.setCell ⟨gb186, 0, none⟩ (.int .i64 t183)).setCell ⟨gb186, 1, none⟩ (.int .i64 t184)).setCell ⟨gb186, 2, none⟩ (.int .i64 t185)).heap[gb178]? = some (.cells #[.int .i64 0, .string (⟨#[]⟩ : ByteArray)] 60 (0, 0))) := ⟨bka_⟩
                 have n3_ : zd_ ((((w127.setCell ⟨gb186, 0, none⟩ (.int .i64 t183)).setCell ⟨gb186, 1, none⟩ (.int .i64 t184)).setCell ⟨gb186, 2, none⟩ (.int .i64 t185)).heap[gb182]? = some (.cells #[.int .i64 t179, .int .i64 t180, .int .i64 t181] 102 (0, 0))) := ⟨bka_⟩
                 have n4_ : zd_ ((((w127.setCell ⟨gb186, 0, none⟩ (.int .i64 t183)).setCell ⟨gb186, 1, none⟩ (.int .i64 t184)).setCell ⟨gb186, 2, none⟩ (.int .i64 t185)).heap[gb186]? = some (.cells #[.int .i64 t183, .int .i64 t184, .int .i64 t185] 102 (0, 0))) := ⟨bka_⟩
                 have n5_ : zd_ (Below w.heap.size w (((w127.setCell ⟨gb186, 0, none⟩ (.int .i64 t183)).setCell ⟨gb186, 1, none⟩ (.int .i64 t184)).setCell ⟨gb186, 2, none⟩ (.int .i64 t185))) := ⟨bel_⟩
                 (try clear BK176); (try clear BK177); (try clear BK178); (try clear BK182); (try clear BK186); (try clear HB)
                 generalize (((w127.setCell ⟨gb186, 0, none⟩ (.int .i64 t183)).setCell ⟨gb186, 1, none⟩ (.int .i64 t184)).setCell ⟨gb186, 2, none⟩ (.int .i64 t185)) = w133 at n0_ n1_ n2_ n3_ n4_ n5_ ⊢
                 have BK176 := n0_
                 have BK177 := n1_
                 have BK178 := n2_
                 have BK182 := n3_
                 have BK186 := n4_
                 have HB := n5_
                 clear n0_ n1_ n2_ n3_ n4_ n5_
                 replace BK176 := AM (zN_ BK176.out)
                 replace BK177 := AM (zN_ BK177.out)
                 replace BK178 := AM (zN_ BK178.out)
                 replace BK182 := AM (zN_ BK182.out)
                 replace BK186 := AM (zN_ BK186.out)
                 replace HB := AM (zF_ HB.out)
                 refine yU_ (n := 15) (S := fun w' => w'.cell? ⟨gb182, 0, none⟩ = some (.int .i64 t179) ∧ w'.cell? ⟨gb182, 1, none⟩ = some (.int .i64 t180) ∧ w'.cell? ⟨gb182, 2, none⟩ = some (.int .i64 t181) ∧ w'.cell? ⟨gb186, 0, none⟩ = some (.int .i64 t183) ∧ w'.cell? ⟨gb186, 1, none⟩ = some (.int .i64 t184) ∧ w'.cell? ⟨gb186, 2, none⟩ = some (.int .i64 t185)) (ds := []) (Array.replicate 15 false) (by kernel_rfl) rfl rfl ⟨(zb_ BK182.out 0).trans rfl, (zb_ BK182.out 1).trans rfl, (zb_ BK182.out 2).trans rfl, (zb_ BK186.out 0).trans rfl, (zb_ BK186.out 1).trans rfl, (zb_ BK186.out 2).trans rfl⟩ (fun hHeld => ?_); refine yx_ zm_.tab10 zm_.bits10 (fun HT_ HW_ => ?_)
                 generalize w133.drew = w134 at BK176 BK177 BK178 BK182 BK186 HB hHeld ⊢
                 refine pu_ HT_ 0 (some 75) (bA 15 1) ?_
                 refine pu_ HT_ 1 (some 76) (bA 15 3) ?_
                 refine pu_ HT_ 2 (some 77) (bA 15 7) ?_
                 refine pu_ HT_ 3 (some 78) (bA 15 15) ?_
                 refine pu_ HT_ 4 (some 79) (bA 15 31) ?_
                 refine pu_ HT_ 5 (some 80) (bA 15 63) ?_
                 refine pu_ HT_ 6 (some 81) (bA 15 127) ?_
                 refine pu_ HT_ 8 (some 83) (bA 15 383) ?_
                 refine pu_ HT_ 10 (some 85) (bA 15 1407) ?_
                 refine ta_ HT_ HW_ 7 (some 82) (bA 15 1535) hHeld ?_
                 refine ta_ HT_ HW_ 9 (some 84) (bA 15 2047) hHeld ?_
                 refine ta_ HT_ HW_ 11 (some 86) (bA 15 4095) hHeld ?_
                 refine pu_ HT_ 12 (some 87) (bA 15 8191) ?_
                 refine on_ HT_ 13 (some 11) (bA 15 16383) (fun K hK => ?_)
                 refine bs_ 11 #[.string (⟨#[]⟩ : ByteArray), .int .i64 0, .int .i64 0, .int .i64 0] 58 ?_
                 intro gb187 hg w135 hbox hb
                 have BK187 := AM hbox
                 have GW187 := AM ((by rw [hg]; exact (zf_ bel_) : w.heap.size ≤ gb187))
                 have GE187 := AM ((by rw [hg]; exact (zf_ bel_) : w.heap.size ≤ gb187))
                 replace HB := AM (zc_ bel_ hb)
                 have NB176_187 := AM ((by rw [hg]; exact Nat.ne_of_lt (zA_ (g := gb176) (o := .cells #[.string (⟨#[]⟩ : ByteArray), .int .i64 0, .int .i64 0, .int .i64 0] 58 (0, 0)) (bk_ BK176.out)) : gb176 ≠ gb187))
                 have NB187_176 := AM ((by rw [hg]; exact Nat.ne_of_gt (zA_ (g := gb176) (o := .cells #[.string (⟨#[]⟩ : ByteArray), .int .i64 0, .int .i64 0, .int .i64 0] 58 (0, 0)) (bk_ BK176.out)) : gb187 ≠ gb176))
                 replace BK176 := AM (zh_ (g := gb176) (o := .cells #[.string (⟨#[]⟩ : ByteArray), .int .i64 0, .int .i64 0, .int .i64 0] 58 (0, 0)) (bk_ BK176.out) hb)
                 have NB177_187 := AM ((by rw [hg]; exact Nat.ne_of_lt (zA_ (g := gb177) (o := .cells #[.int .i64 0, .string (⟨#[]⟩ : ByteArray)] 60 (0, 0)) (bk_ BK177.out)) : gb177 ≠ gb187))
                 have NB187_177 := AM ((by rw [hg]; exact Nat.ne_of_gt (zA_ (g := gb177) (o := .cells #[.int .i64 0, .string (⟨#[]⟩ : ByteArray)] 60 (0, 0)) (bk_ BK177.out)) : gb187 ≠ gb177))
                 replace BK177 := AM (zh_ (g := gb177) (o := .cells #[.int .i64 0, .string (⟨#[]⟩ : ByteArray)] 60 (0, 0)) (bk_ BK177.out) hb)
                 have NB178_187 := AM ((by rw [hg]; exact Nat.ne_of_lt (zA_ (g := gb178) (o := .cells #[.int .i64 0, .string (⟨#[]⟩ : ByteArray)] 60 (0, 0)) (bk_ BK178.out)) : gb178 ≠ gb187))
                 have NB187_178 := AM ((by rw [hg]; exact Nat.ne_of_gt (zA_ (g := gb178) (o := .cells #[.int .i64 0, .string (⟨#[]⟩ : ByteArray)] 60 (0, 0)) (bk_ BK178.out)) : gb187 ≠ gb178))
                 replace BK178 := AM (zh_ (g := gb178) (o := .cells #[.int .i64 0, .string (⟨#[]⟩ : ByteArray)] 60 (0, 0)) (bk_ BK178.out) hb)
                 have NB182_187 := AM ((by rw [hg]; exact Nat.ne_of_lt (zA_ (g := gb182) (o := .cells #[.int .i64 t179, .int .i64 t180, .int .i64 t181] 102 (0, 0)) (bk_ BK182.out)) : gb182 ≠ gb187))
                 have NB187_182 := AM ((by rw [hg]; exact Nat.ne_of_gt (zA_ (g := gb182) (o := .cells #[.int .i64 t179, .int .i64 t180, .int .i64 t181] 102 (0, 0)) (bk_ BK182.out)) : gb187 ≠ gb182))
                 replace BK182 := AM (zh_ (g := gb182) (o := .cells #[.int .i64 t179, .int .i64 t180, .int .i64 t181] 102 (0, 0)) (bk_ BK182.out) hb)
                 have NB186_187 := AM ((by rw [hg]; exact Nat.ne_of_lt (zA_ (g := gb186) (o := .cells #[.int .i64 t183, .int .i64 t184, .int .i64 t185] 102 (0, 0)) (bk_ BK186.out)) : gb186 ≠ gb187))
                 have NB187_186 := AM ((by rw [hg]; exact Nat.ne_of_gt (zA_ (g := gb186) (o := .cells #[.int .i64 t183, .int .i64 t184, .int .i64 t185] 102 (0, 0)) (bk_ BK186.out)) : gb187 ≠ gb186))
                 replace BK186 := AM (zh_ (g := gb186) (o := .cells #[.int .i64 t183, .int .i64 t184, .int .i64 t185] 102 (0, 0)) (bk_ BK186.out) hb)
                 clear hb hbox hg
                 refine hK.out _ _ ⟨(zb_ BK182.out 0).trans rfl, (zb_ BK182.out 1).trans rfl, (zb_ BK182.out 2).trans rfl, (zb_ BK186.out 0).trans rfl, (zb_ BK186.out 1).trans rfl, (zb_ BK186.out 2).trans rfl⟩ (fun hHeld => ?_)
                 clear hK K
                 refine nm_ ?_
                 refine on_ HT_ 14 none (bA 15 32767) (fun K hK => ?_)
                 have hs136 : w135.cell? ⟨gb187, 0, none⟩ = some (.string (⟨#[]⟩ : ByteArray)) := (zb_ BK187.out 0).trans rfl
                 have hfs136 := za_ BK187.out 0
                 have hns136_0 := NB176_187.out
                 have hns136_1 := NB177_187.out
                 have hns136_2 := NB178_187.out
                 have hns136_3 := NB182_187.out
                 have hns136_4 := NB186_187.out
                 have hms136_0 := NB187_176.out
                 have hms136_1 := NB187_177.out
                 have hms136_2 := NB187_178.out
                 have hms136_3 := NB187_182.out
                 have hms136_4 := NB187_186.out
                 have hs137 : w135.cell? ⟨gb187, 1, none⟩ = some (.int .i64 0) := (zb_ BK187.out 1).trans rfl
                 have hfs137 := za_ BK187.out 1
                 have hns137_0 := NB176_187.out
                 have hns137_1 := NB177_187.out
                 have hns137_2 := NB178_187.out
                 have hns137_3 := NB182_187.out
                 have hns137_4 := NB186_187.out
                 have hms137_0 := NB187_176.out
                 have hms137_1 := NB187_177.out
                 have hms137_2 := NB187_178.out
                 have hms137_3 := NB187_182.out
                 have hms137_4 := NB187_186.out
                 have hs138 : w135.cell? ⟨gb187, 2, none⟩ = some (.int .i64 0) := (zb_ BK187.out 2).trans rfl
                 have hfs138 := za_ BK187.out 2
                 have hns138_0 := NB176_187.out
                 have hns138_1 := NB177_187.out
                 have hns138_2 := NB178_187.out
                 have hns138_3 := NB182_187.out
                 have hns138_4 := NB186_187.out
                 have hms138_0 := NB187_176.out
                 have hms138_1 := NB187_177.out
                 have hms138_2 := NB187_178.out
                 have hms138_3 := NB187_182.out
                 have hms138_4 := NB187_186.out
                 have hs139 : w135.cell? ⟨gb187, 3, none⟩ = some (.int .i64 0) := (zb_ BK187.out 3).trans rfl
                 have hfs139 := za_ BK187.out 3
                 have hns139_0 := NB176_187.out
                 have hns139_1 := NB177_187.out
                 have hns139_2 := NB178_187.out
                 have hns139_3 := NB182_187.out
                 have hns139_4 := NB186_187.out
                 have hms139_0 := NB187_176.out
                 have hms139_1 := NB187_177.out
                 have hms139_2 := NB187_178.out
                 have hms139_3 := NB187_182.out
                 have hms139_4 := NB187_186.out
                 refine sk_ ?_
                 refine hK.out _ _ ⟨(by (rw [cell_far, cell_far, cell_far, cell_far]) <;> first | exact hHeld.1 | exact NB182_187.out), (by (rw [cell_far, cell_far, cell_far, cell_far]) <;> first | exact hHeld.2.1 | exact NB182_187.out), (by (rw [cell_far, cell_far, cell_far, cell_far]) <;> first | exact hHeld.2.2.1 | exact NB182_187.out), (by (rw [cell_far, cell_far, cell_far, cell_far]) <;> first | exact hHeld.2.2.2.1 | exact NB186_187.out), (by (rw [cell_far, cell_far, cell_far, cell_far]) <;> first | exact hHeld.2.2.2.2.1 | exact NB186_187.out), (by (rw [cell_far, cell_far, cell_far, cell_far]) <;> first | exact hHeld.2.2.2.2.2 | exact NB186_187.out)⟩ (fun hHeld => ?_)
                 clear hK K
                 refine dn_ HT_ ?_
                 try go_wp2
                 have n0_ : zd_ (((((w135.setCell ⟨gb187, 0, none⟩ (.string (a0.extract ((ji114) : Int).toNat ((wrap64 (a1 + 33)) : Int).toNat))).setCell ⟨gb187, 1, none⟩ (.int .i64 t179)).setCell ⟨gb187, 2, none⟩ (.int .i64 t184)).setCell ⟨gb187, 3, none⟩ (.int .i64 t183)).heap[gb176]? = some (.cells #[.string (⟨#[]⟩ : ByteArray), .int .i64 0, .int .i64 0, .int .i64 0] 58 (0, 0))) := ⟨bka_⟩
                 have n1_ : zd_ (((((w135.setCell ⟨gb187, 0, none⟩ (.string (a0.extract ((ji114) : Int).toNat ((wrap64 (a1 + 33)) : Int).toNat))).setCell ⟨gb187, 1, none⟩ (.int .i64 t179)).setCell ⟨gb187, 2, none⟩ (.int .i64 t184)).setCell ⟨gb187, 3, none⟩ (.int .i64 t183)).heap[gb177]? = some (.cells #[.int .i64 0, .string (⟨#[]⟩ : ByteArray)] 60 (0, 0))) := ⟨bka_⟩
                 have n2_ : zd_ (((((w135.setCell ⟨gb187, 0, none⟩ (.string (a0.extract ((ji114) : Int).toNat ((wrap64 (a1 + 33)) : Int).toNat))).setCell ⟨gb187, 1, none⟩ (.int .i64 t179)).setCell ⟨gb187, 2, none⟩ (.int .i64 t184)).setCell ⟨gb187, 3, none⟩ (.int .i64 t183)).heap[gb178]? = some (.cells #[.int .i64 0, .string (⟨#[]⟩ : ByteArray)] 60 (0, 0))) := ⟨bka_⟩
                 have n3_ : zd_ (((((w135.setCell ⟨gb187, 0, none⟩ (.string (a0.extract ((ji114) : Int).toNat ((wrap64 (a1 + 33)) : Int).toNat))).setCell ⟨gb187, 1, none⟩ (.int .i64 t179)).setCell ⟨gb187, 2, none⟩ (.int .i64 t184)).setCell ⟨gb187, 3, none⟩ (.int .i64 t183)).heap[gb182]? = some (.cells #[.int .i64 t179, .int .i64 t180, .int .i64 t181] 102 (0, 0))) := ⟨bka_⟩
                 have n4_ : zd_ (((((w135.setCell ⟨gb187, 0, none⟩ (.string (a0.extract ((ji114) : Int).toNat ((wrap64 (a1 + 33)) : Int).toNat))).setCell ⟨gb187, 1, none⟩ (.int .i64 t179)).setCell ⟨gb187, 2, none⟩ (.int .i64 t184)).setCell ⟨gb187, 3, none⟩ (.int .i64 t183)).heap[gb186]? = some (.cells #[.int .i64 t183, .int .i64 t184, .int .i64 t185] 102 (0, 0))) := ⟨bka_⟩
                 have n5_ : zd_ (((((w135.setCell ⟨gb187, 0, none⟩ (.string (a0.extract ((ji114) : Int).toNat ((wrap64 (a1 + 33)) : Int).toNat))).setCell ⟨gb187, 1, none⟩ (.int .i64 t179)).setCell ⟨gb187, 2, none⟩ (.int .i64 t184)).setCell ⟨gb187, 3, none⟩ (.int .i64 t183)).heap[gb187]? = some (.cells #[.string (a0.extract ((ji114) : Int).toNat ((wrap64 (a1 + 33)) : Int).toNat), .int .i64 t179, .int .i64 t184, .int .i64 t183] 58 (0, 0))) := ⟨bka_⟩
                 have n6_ : zd_ (Below w.heap.size w ((((w135.setCell ⟨gb187, 0, none⟩ (.string (a0.extract ((ji114) : Int).toNat ((wrap64 (a1 + 33)) : Int).toNat))).setCell ⟨gb187, 1, none⟩ (.int .i64 t179)).setCell ⟨gb187, 2, none⟩ (.int .i64 t184)).setCell ⟨gb187, 3, none⟩ (.int .i64 t183))) := ⟨bel_⟩
                 (try clear BK176); (try clear BK177); (try clear BK178); (try clear BK182); (try clear BK186); (try clear BK187); (try clear HB)
                 generalize ((((w135.setCell ⟨gb187, 0, none⟩ (.string (a0.extract ((ji114) : Int).toNat ((wrap64 (a1 + 33)) : Int).toNat))).setCell ⟨gb187, 1, none⟩ (.int .i64 t179)).setCell ⟨gb187, 2, none⟩ (.int .i64 t184)).setCell ⟨gb187, 3, none⟩ (.int .i64 t183)) = w140 at n0_ n1_ n2_ n3_ n4_ n5_ n6_ ⊢
                 have BK176 := n0_
                 have BK177 := n1_
                 have BK178 := n2_
                 have BK182 := n3_
                 have BK186 := n4_
                 have BK187 := n5_
                 have HB := n6_
                 clear n0_ n1_ n2_ n3_ n4_ n5_ n6_
                 replace BK176 := AM (zN_ BK176.out)
                 replace BK177 := AM (zN_ BK177.out)
                 replace BK178 := AM (zN_ BK178.out)
                 replace BK182 := AM (zN_ BK182.out)
                 replace BK186 := AM (zN_ BK186.out)
                 replace BK187 := AM (zN_ BK187.out)
                 replace HB := AM (zF_ HB.out)
                 refine yU_ (n := 14) (S := fun w' => w'.cell? ⟨gb182, 0, none⟩ = some (.int .i64 t179) ∧ w'.cell? ⟨gb182, 1, none⟩ = some (.int .i64 t180) ∧ w'.cell? ⟨gb182, 2, none⟩ = some (.int .i64 t181) ∧ w'.cell? ⟨gb186, 0, none⟩ = some (.int .i64 t183) ∧ w'.cell? ⟨gb186, 1, none⟩ = some (.int .i64 t184) ∧ w'.cell? ⟨gb186, 2, none⟩ = some (.int .i64 t185)) (ds := []) (Array.replicate 14 false) (by kernel_rfl) rfl rfl ⟨(zb_ BK182.out 0).trans rfl, (zb_ BK182.out 1).trans rfl, (zb_ BK182.out 2).trans rfl, (zb_ BK186.out 0).trans rfl, (zb_ BK186.out 1).trans rfl, (zb_ BK186.out 2).trans rfl⟩ (fun hHeld => ?_); refine yx_ zm_.tab11 zm_.bits11 (fun HT_ HW_ => ?_)
                 generalize w140.drew = w141 at BK176 BK177 BK178 BK182 BK186 BK187 HB hHeld ⊢
                 refine pu_ HT_ 0 (some 88) (bA 14 1) ?_
                 refine pu_ HT_ 2 (some 90) (bA 14 5) ?_
                 refine pu_ HT_ 3 (some 91) (bA 14 13) ?_
                 refine pu_ HT_ 5 (some 93) (bA 14 45) ?_
                 refine pu_ HT_ 7 (some 95) (bA 14 173) ?_
                 refine ta_ HT_ HW_ 1 (some 89) (bA 14 175) hHeld ?_
                 refine ta_ HT_ HW_ 4 (some 92) (bA 14 191) hHeld ?_
                 refine ta_ HT_ HW_ 6 (some 94) (bA 14 255) hHeld ?_
                 refine ta_ HT_ HW_ 8 (some 96) (bA 14 511) hHeld ?_
                 refine pu_ HT_ 9 (some 97) (bA 14 1023) ?_
                 refine pu_ HT_ 10 (some 98) (bA 14 2047) ?_
                 refine pu_ HT_ 11 (some 99) (bA 14 4095) ?_
                 refine on_ HT_ 12 (some 12) (bA 14 8191) (fun K hK => ?_)
                 refine bs_ 12 #[.int .i64 0, .string (⟨#[]⟩ : ByteArray)] 60 ?_
                 intro gb188 hg w142 hbox hb
                 have BK188 := AM hbox
                 have GW188 := AM ((by rw [hg]; exact (zf_ bel_) : w.heap.size ≤ gb188))
                 have GE188 := AM ((by rw [hg]; exact (zf_ bel_) : w.heap.size ≤ gb188))
                 replace HB := AM (zc_ bel_ hb)
                 have NB176_188 := AM ((by rw [hg]; exact Nat.ne_of_lt (zA_ (g := gb176) (o := .cells #[.string (⟨#[]⟩ : ByteArray), .int .i64 0, .int .i64 0, .int .i64 0] 58 (0, 0)) (bk_ BK176.out)) : gb176 ≠ gb188))
                 have NB188_176 := AM ((by rw [hg]; exact Nat.ne_of_gt (zA_ (g := gb176) (o := .cells #[.string (⟨#[]⟩ : ByteArray), .int .i64 0, .int .i64 0, .int .i64 0] 58 (0, 0)) (bk_ BK176.out)) : gb188 ≠ gb176))
                 replace BK176 := AM (zh_ (g := gb176) (o := .cells #[.string (⟨#[]⟩ : ByteArray), .int .i64 0, .int .i64 0, .int .i64 0] 58 (0, 0)) (bk_ BK176.out) hb)
                 have NB177_188 := AM ((by rw [hg]; exact Nat.ne_of_lt (zA_ (g := gb177) (o := .cells #[.int .i64 0, .string (⟨#[]⟩ : ByteArray)] 60 (0, 0)) (bk_ BK177.out)) : gb177 ≠ gb188))
                 have NB188_177 := AM ((by rw [hg]; exact Nat.ne_of_gt (zA_ (g := gb177) (o := .cells #[.int .i64 0, .string (⟨#[]⟩ : ByteArray)] 60 (0, 0)) (bk_ BK177.out)) : gb188 ≠ gb177))
                 replace BK177 := AM (zh_ (g := gb177) (o := .cells #[.int .i64 0, .string (⟨#[]⟩ : ByteArray)] 60 (0, 0)) (bk_ BK177.out) hb)
                 have NB178_188 := AM ((by rw [hg]; exact Nat.ne_of_lt (zA_ (g := gb178) (o := .cells #[.int .i64 0, .string (⟨#[]⟩ : ByteArray)] 60 (0, 0)) (bk_ BK178.out)) : gb178 ≠ gb188))
                 have NB188_178 := AM ((by rw [hg]; exact Nat.ne_of_gt (zA_ (g := gb178) (o := .cells #[.int .i64 0, .string (⟨#[]⟩ : ByteArray)] 60 (0, 0)) (bk_ BK178.out)) : gb188 ≠ gb178))
                 replace BK178 := AM (zh_ (g := gb178) (o := .cells #[.int .i64 0, .string (⟨#[]⟩ : ByteArray)] 60 (0, 0)) (bk_ BK178.out) hb)
                 have NB182_188 := AM ((by rw [hg]; exact Nat.ne_of_lt (zA_ (g := gb182) (o := .cells #[.int .i64 t179, .int .i64 t180, .int .i64 t181] 102 (0, 0)) (bk_ BK182.out)) : gb182 ≠ gb188))
                 have NB188_182 := AM ((by rw [hg]; exact Nat.ne_of_gt (zA_ (g := gb182) (o := .cells #[.int .i64 t179, .int .i64 t180, .int .i64 t181] 102 (0, 0)) (bk_ BK182.out)) : gb188 ≠ gb182))
                 replace BK182 := AM (zh_ (g := gb182) (o := .cells #[.int .i64 t179, .int .i64 t180, .int .i64 t181] 102 (0, 0)) (bk_ BK182.out) hb)
                 have NB186_188 := AM ((by rw [hg]; exact Nat.ne_of_lt (zA_ (g := gb186) (o := .cells #[.int .i64 t183, .int .i64 t184, .int .i64 t185] 102 (0, 0)) (bk_ BK186.out)) : gb186 ≠ gb188))
                 have NB188_186 := AM ((by rw [hg]; exact Nat.ne_of_gt (zA_ (g := gb186) (o := .cells #[.int .i64 t183, .int .i64 t184, .int .i64 t185] 102 (0, 0)) (bk_ BK186.out)) : gb188 ≠ gb186))
                 replace BK186 := AM (zh_ (g := gb186) (o := .cells #[.int .i64 t183, .int .i64 t184, .int .i64 t185] 102 (0, 0)) (bk_ BK186.out) hb)
                 have NB187_188 := AM ((by rw [hg]; exact Nat.ne_of_lt (zA_ (g := gb187) (o := .cells #[.string (a0.extract ((ji114) : Int).toNat ((wrap64 (a1 + 33)) : Int).toNat), .int .i64 t179, .int .i64 t184, .int .i64 t183] 58 (0, 0)) (bk_ BK187.out)) : gb187 ≠ gb188))
                 have NB188_187 := AM ((by rw [hg]; exact Nat.ne_of_gt (zA_ (g := gb187) (o := .cells #[.string (a0.extract ((ji114) : Int).toNat ((wrap64 (a1 + 33)) : Int).toNat), .int .i64 t179, .int .i64 t184, .int .i64 t183] 58 (0, 0)) (bk_ BK187.out)) : gb188 ≠ gb187))
                 replace BK187 := AM (zh_ (g := gb187) (o := .cells #[.string (a0.extract ((ji114) : Int).toNat ((wrap64 (a1 + 33)) : Int).toNat), .int .i64 t179, .int .i64 t184, .int .i64 t183] 58 (0, 0)) (bk_ BK187.out) hb)
                 clear hb hbox hg
                 refine hK.out _ _ ⟨(zb_ BK182.out 0).trans rfl, (zb_ BK182.out 1).trans rfl, (zb_ BK182.out 2).trans rfl, (zb_ BK186.out 0).trans rfl, (zb_ BK186.out 1).trans rfl, (zb_ BK186.out 2).trans rfl⟩ (fun hHeld => ?_)
                 clear hK K
                 refine nm_ ?_
                 refine on_ HT_ 13 none (bA 14 16383) (fun K hK => ?_)
                 have hs143 : w142.cell? ⟨gb188, 0, none⟩ = some (.int .i64 0) := (zb_ BK188.out 0).trans rfl
                 have hfs143 := za_ BK188.out 0
                 have hns143_0 := NB176_188.out
                 have hns143_1 := NB177_188.out
                 have hns143_2 := NB178_188.out
                 have hns143_3 := NB182_188.out
                 have hns143_4 := NB186_188.out
                 have hns143_5 := NB187_188.out
                 have hms143_0 := NB188_176.out
                 have hms143_1 := NB188_177.out
                 have hms143_2 := NB188_178.out
                 have hms143_3 := NB188_182.out
                 have hms143_4 := NB188_186.out
                 have hms143_5 := NB188_187.out
                 have hs144 : w142.cell? ⟨gb188, 1, none⟩ = some (.string (⟨#[]⟩ : ByteArray)) := (zb_ BK188.out 1).trans rfl
                 have hfs144 := za_ BK188.out 1
                 have hns144_0 := NB176_188.out
                 have hns144_1 := NB177_188.out
                 have hns144_2 := NB178_188.out
                 have hns144_3 := NB182_188.out
                 have hns144_4 := NB186_188.out
                 have hns144_5 := NB187_188.out
                 have hms144_0 := NB188_176.out
                 have hms144_1 := NB188_177.out
                 have hms144_2 := NB188_178.out
                 have hms144_3 := NB188_182.out
                 have hms144_4 := NB188_186.out
                 have hms144_5 := NB188_187.out
                 refine sk_ ?_
                 refine hK.out _ _ ⟨(by (rw [cell_far, cell_far]) <;> first | exact hHeld.1 | exact NB182_188.out), (by (rw [cell_far, cell_far]) <;> first | exact hHeld.2.1 | exact NB182_188.out), (by (rw [cell_far, cell_far]) <;> first | exact hHeld.2.2.1 | exact NB182_188.out), (by (rw [cell_far, cell_far]) <;> first | exact hHeld.2.2.2.1 | exact NB186_188.out), (by (rw [cell_far, cell_far]) <;> first | exact hHeld.2.2.2.2.1 | exact NB186_188.out), (by (rw [cell_far, cell_far]) <;> first | exact hHeld.2.2.2.2.2 | exact NB186_188.out)⟩ (fun hHeld => ?_)
                 clear hK K
                 refine dn_ HT_ ?_
                 try go_wp2
                 have n0_ : zd_ (((w142.setCell ⟨gb188, 0, none⟩ (.int .i64 t179)).setCell ⟨gb188, 1, none⟩ (.string (a0.extract (t184 : Int).toNat ((wrap64 (t184 + t183)) : Int).toNat))).heap[gb176]? = some (.cells #[.string (⟨#[]⟩ : ByteArray), .int .i64 0, .int .i64 0, .int .i64 0] 58 (0, 0))) := ⟨bka_⟩
                 have n1_ : zd_ (((w142.setCell ⟨gb188, 0, none⟩ (.int .i64 t179)).setCell ⟨gb188, 1, none⟩ (.string (a0.extract (t184 : Int).toNat ((wrap64 (t184 + t183)) : Int).toNat))).heap[gb177]? = some (.cells #[.int .i64 0, .string (⟨#[]⟩ : ByteArray)] 60 (0, 0))) := ⟨bka_⟩
                 have n2_ : zd_ (((w142.setCell ⟨gb188, 0, none⟩ (.int .i64 t179)).setCell ⟨gb188, 1, none⟩ (.string (a0.extract (t184 : Int).toNat ((wrap64 (t184 + t183)) : Int).toNat))).heap[gb178]? = some (.cells #[.int .i64 0, .string (⟨#[]⟩ : ByteArray)] 60 (0, 0))) := ⟨bka_⟩
                 have n3_ : zd_ (((w142.setCell ⟨gb188, 0, none⟩ (.int .i64 t179)).setCell ⟨gb188, 1, none⟩ (.string (a0.extract (t184 : Int).toNat ((wrap64 (t184 + t183)) : Int).toNat))).heap[gb182]? = some (.cells #[.int .i64 t179, .int .i64 t180, .int .i64 t181] 102 (0, 0))) := ⟨bka_⟩
                 have n4_ : zd_ (((w142.setCell ⟨gb188, 0, none⟩ (.int .i64 t179)).setCell ⟨gb188, 1, none⟩ (.string (a0.extract (t184 : Int).toNat ((wrap64 (t184 + t183)) : Int).toNat))).heap[gb186]? = some (.cells #[.int .i64 t183, .int .i64 t184, .int .i64 t185] 102 (0, 0))) := ⟨bka_⟩
                 have n5_ : zd_ (((w142.setCell ⟨gb188, 0, none⟩ (.int .i64 t179)).setCell ⟨gb188, 1, none⟩ (.string (a0.extract (t184 : Int).toNat ((wrap64 (t184 + t183)) : Int).toNat))).heap[gb187]? = some (.cells #[.string (a0.extract ((ji114) : Int).toNat ((wrap64 (a1 + 33)) : Int).toNat), .int .i64 t179, .int .i64 t184, .int .i64 t183] 58 (0, 0))) := ⟨bka_⟩
                 have n6_ : zd_ (((w142.setCell ⟨gb188, 0, none⟩ (.int .i64 t179)).setCell ⟨gb188, 1, none⟩ (.string (a0.extract (t184 : Int).toNat ((wrap64 (t184 + t183)) : Int).toNat))).heap[gb188]? = some (.cells #[.int .i64 t179, .string (a0.extract (t184 : Int).toNat ((wrap64 (t184 + t183)) : Int).toNat)] 60 (0, 0))) := ⟨bka_⟩
                 have n7_ : zd_ (Below w.heap.size w ((w142.setCell ⟨gb188, 0, none⟩ (.int .i64 t179)).setCell ⟨gb188, 1, none⟩ (.string (a0.extract (t184 : Int).toNat ((wrap64 (t184 + t183)) : Int).toNat)))) := ⟨bel_⟩
                 (try clear BK176); (try clear BK177); (try clear BK178); (try clear BK182); (try clear BK186); (try clear BK187); (try clear BK188); (try clear HB)
                 generalize ((w142.setCell ⟨gb188, 0, none⟩ (.int .i64 t179)).setCell ⟨gb188, 1, none⟩ (.string (a0.extract (t184 : Int).toNat ((wrap64 (t184 + t183)) : Int).toNat))) = w145 at n0_ n1_ n2_ n3_ n4_ n5_ n6_ n7_ ⊢
                 have BK176 := n0_
                 have BK177 := n1_
                 have BK178 := n2_
                 have BK182 := n3_
                 have BK186 := n4_
                 have BK187 := n5_
                 have BK188 := n6_
                 have HB := n7_
                 clear n0_ n1_ n2_ n3_ n4_ n5_ n6_ n7_
                 replace BK176 := AM (zN_ BK176.out)
                 replace BK177 := AM (zN_ BK177.out)
                 replace BK178 := AM (zN_ BK178.out)
                 replace BK182 := AM (zN_ BK182.out)
                 replace BK186 := AM (zN_ BK186.out)
                 replace BK187 := AM (zN_ BK187.out)
                 replace BK188 := AM (zN_ BK188.out)
                 replace HB := AM (zF_ HB.out)
                 refine yU_ (n := 16) (S := fun w' => w'.cell? ⟨gb187, 0, none⟩ = some (.string (a0.extract ((ji114) : Int).toNat ((wrap64 (a1 + 33)) : Int).toNat)) ∧ w'.cell? ⟨gb187, 1, none⟩ = some (.int .i64 t179) ∧ w'.cell? ⟨gb187, 2, none⟩ = some (.int .i64 t184) ∧ w'.cell? ⟨gb187, 3, none⟩ = some (.int .i64 t183) ∧ w'.cell? ⟨gb188, 0, none⟩ = some (.int .i64 t179) ∧ w'.cell? ⟨gb188, 1, none⟩ = some (.string (a0.extract (t184 : Int).toNat ((wrap64 (t184 + t183)) : Int).toNat)) ∧ w'.cell? ⟨gb186, 0, none⟩ = some (.int .i64 t183) ∧ w'.cell? ⟨gb186, 1, none⟩ = some (.int .i64 t184) ∧ w'.cell? ⟨gb186, 2, none⟩ = some (.int .i64 t185)) (ds := []) (Array.replicate 16 false) (by kernel_rfl) rfl rfl ⟨(zb_ BK187.out 0).trans rfl, (zb_ BK187.out 1).trans rfl, (zb_ BK187.out 2).trans rfl, (zb_ BK187.out 3).trans rfl, (zb_ BK188.out 0).trans rfl, (zb_ BK188.out 1).trans rfl, (zb_ BK186.out 0).trans rfl, (zb_ BK186.out 1).trans rfl, (zb_ BK186.out 2).trans rfl⟩ (fun hHeld => ?_); refine yx_ zm_.tab12 zm_.bits12 (fun HT_ HW_ => ?_)
                 generalize w145.drew = w146 at BK176 BK177 BK178 BK182 BK186 BK187 BK188 HB hHeld ⊢
                 refine pu_ HT_ 2 (some 102) (bA 16 4) ?_
                 refine pu_ HT_ 4 (some 104) (bA 16 20) ?_
                 refine pu_ HT_ 9 (some 109) (bA 16 532) ?_
                 refine ta_ HT_ HW_ 0 (some 100) (bA 16 533) hHeld ?_
                 refine ta_ HT_ HW_ 1 (some 101) (bA 16 535) hHeld ?_
                 refine ta_ HT_ HW_ 3 (some 103) (bA 16 543) hHeld ?_
                 refine ta_ HT_ HW_ 5 (some 105) (bA 16 575) hHeld ?_
                 refine pu_ HT_ 6 (some 106) (bA 16 639) ?_
                 refine ta_ HT_ HW_ 7 (some 107) (bA 16 767) hHeld ?_
                 refine ta_ HT_ HW_ 10 (some 110) (bA 16 1791) hHeld ?_
                 refine on_ HT_ 8 (some 108) (bA 16 2047) (fun K hK => ?_)
                 refine go1_ Tryd.func83 #[.agg #[.int .i64 t179, .string (a0.extract (t184 : Int).toNat ((wrap64 (t184 + t183)) : Int).toNat)]] ?_
                 with_reducible refine (zT_.calls kj22 t179 (a0.extract (t184 : Int).toNat ((wrap64 (t184 + t183)) : Int).toNat) t189 _ A121.out).mono ?_
                 rintro e w147 ⟨rfl, hb⟩
                 refine ⟨_, rfl, ?_⟩
                 replace BK176 := AM (zh_ (g := gb176) (o := .cells #[.string (⟨#[]⟩ : ByteArray), .int .i64 0, .int .i64 0, .int .i64 0] 58 (0, 0)) (bk_ BK176.out) hb)
                 replace BK177 := AM (zh_ (g := gb177) (o := .cells #[.int .i64 0, .string (⟨#[]⟩ : ByteArray)] 60 (0, 0)) (bk_ BK177.out) hb)
                 replace BK178 := AM (zh_ (g := gb178) (o := .cells #[.int .i64 0, .string (⟨#[]⟩ : ByteArray)] 60 (0, 0)) (bk_ BK178.out) hb)
                 replace BK182 := AM (zh_ (g := gb182) (o := .cells #[.int .i64 t179, .int .i64 t180, .int .i64 t181] 102 (0, 0)) (bk_ BK182.out) hb)
                 replace BK186 := AM (zh_ (g := gb186) (o := .cells #[.int .i64 t183, .int .i64 t184, .int .i64 t185] 102 (0, 0)) (bk_ BK186.out) hb)
                 replace BK187 := AM (zh_ (g := gb187) (o := .cells #[.string (a0.extract ((ji114) : Int).toNat ((wrap64 (a1 + 33)) : Int).toNat), .int .i64 t179, .int .i64 t184, .int .i64 t183] 58 (0, 0)) (bk_ BK187.out) hb)
                 replace BK188 := AM (zh_ (g := gb188) (o := .cells #[.int .i64 t179, .string (a0.extract (t184 : Int).toNat ((wrap64 (t184 + t183)) : Int).toNat)] 60 (0, 0)) (bk_ BK188.out) hb)
                 replace HB := AM (zc_ bel_ hb)
                 (try clear hb)
                 refine hK.out _ _ ⟨(zb_ BK187.out 0).trans rfl, (zb_ BK187.out 1).trans rfl, (zb_ BK187.out 2).trans rfl, (zb_ BK187.out 3).trans rfl, (zb_ BK188.out 0).trans rfl, (zb_ BK188.out 1).trans rfl, (zb_ BK186.out 0).trans rfl, (zb_ BK186.out 1).trans rfl, (zb_ BK186.out 2).trans rfl⟩ (fun hHeld => ?_)
                 clear hK K
                 refine nm_ ?_
                 refine pu_ HT_ 11 (some 111) (bA 16 4095) ?_
                 refine on_ HT_ 12 none (bA 16 8191) (fun K hK => ?_)
                 have hs148 : w147.cell? ⟨gb176, 0, none⟩ = some (.string (⟨#[]⟩ : ByteArray)) := (zb_ BK176.out 0).trans rfl
                 have hfs148 := za_ BK176.out 0
                 have hns148_1 := NB177_176.out
                 have hns148_2 := NB178_176.out
                 have hns148_3 := NB182_176.out
                 have hns148_4 := NB186_176.out
                 have hns148_5 := NB187_176.out
                 have hns148_6 := NB188_176.out
                 have hms148_1 := NB176_177.out
                 have hms148_2 := NB176_178.out
                 have hms148_3 := NB176_182.out
                 have hms148_4 := NB176_186.out
                 have hms148_5 := NB176_187.out
                 have hms148_6 := NB176_188.out
                 have hs149 : w147.cell? ⟨gb176, 1, none⟩ = some (.int .i64 0) := (zb_ BK176.out 1).trans rfl
                 have hfs149 := za_ BK176.out 1
                 have hns149_1 := NB177_176.out
                 have hns149_2 := NB178_176.out
                 have hns149_3 := NB182_176.out
                 have hns149_4 := NB186_176.out
                 have hns149_5 := NB187_176.out
                 have hns149_6 := NB188_176.out
                 have hms149_1 := NB176_177.out
                 have hms149_2 := NB176_178.out
                 have hms149_3 := NB176_182.out
                 have hms149_4 := NB176_186.out
                 have hms149_5 := NB176_187.out
                 have hms149_6 := NB176_188.out
                 have hs150 : w147.cell? ⟨gb176, 2, none⟩ = some (.int .i64 0) := (zb_ BK176.out 2).trans rfl
                 have hfs150 := za_ BK176.out 2
                 have hns150_1 := NB177_176.out
                 have hns150_2 := NB178_176.out
                 have hns150_3 := NB182_176.out
                 have hns150_4 := NB186_176.out
                 have hns150_5 := NB187_176.out
                 have hns150_6 := NB188_176.out
                 have hms150_1 := NB176_177.out
                 have hms150_2 := NB176_178.out
                 have hms150_3 := NB176_182.out
                 have hms150_4 := NB176_186.out
                 have hms150_5 := NB176_187.out
                 have hms150_6 := NB176_188.out
                 have hs151 : w147.cell? ⟨gb176, 3, none⟩ = some (.int .i64 0) := (zb_ BK176.out 3).trans rfl
                 have hfs151 := za_ BK176.out 3
                 have hns151_1 := NB177_176.out
                 have hns151_2 := NB178_176.out
                 have hns151_3 := NB182_176.out
                 have hns151_4 := NB186_176.out
                 have hns151_5 := NB187_176.out
                 have hns151_6 := NB188_176.out
                 have hms151_1 := NB176_177.out
                 have hms151_2 := NB176_178.out
                 have hms151_3 := NB176_182.out
                 have hms151_4 := NB176_186.out
                 have hms151_5 := NB176_187.out
                 have hms151_6 := NB176_188.out
                 refine sk_ ?_
                 refine hK.out _ _ ⟨(by (rw [cell_far, cell_far, cell_far, cell_far]) <;> first | exact hHeld.1 | exact NB187_176.out), (by (rw [cell_far, cell_far, cell_far, cell_far]) <;> first | exact hHeld.2.1 | exact NB187_176.out), (by (rw [cell_far, cell_far, cell_far, cell_far]) <;> first | exact hHeld.2.2.1 | exact NB187_176.out), (by (rw [cell_far, cell_far, cell_far, cell_far]) <;> first | exact hHeld.2.2.2.1 | exact NB187_176.out), (by (rw [cell_far, cell_far, cell_far, cell_far]) <;> first | exact hHeld.2.2.2.2.1 | exact NB188_176.out), (by (rw [cell_far, cell_far, cell_far, cell_far]) <;> first | exact hHeld.2.2.2.2.2.1 | exact NB188_176.out), (by (rw [cell_far, cell_far, cell_far, cell_far]) <;> first | exact hHeld.2.2.2.2.2.2.1 | exact NB186_176.out), (by (rw [cell_far, cell_far, cell_far, cell_far]) <;> first | exact hHeld.2.2.2.2.2.2.2.1 | exact NB186_176.out), (by (rw [cell_far, cell_far, cell_far, cell_far]) <;> first | exact hHeld.2.2.2.2.2.2.2.2 | exact NB186_176.out)⟩ (fun hHeld => ?_)
                 clear hK K
                 refine on_ HT_ 13 none (bA 16 16383) (fun K hK => ?_)
                 have hs152 : w147.cell? ⟨gb177, 0, none⟩ = some (.int .i64 0) := (zb_ BK177.out 0).trans rfl
                 have hfs152 := za_ BK177.out 0
                 have hns152_0 := NB176_177.out
                 have hns152_2 := NB178_177.out
                 have hns152_3 := NB182_177.out
                 have hns152_4 := NB186_177.out
                 have hns152_5 := NB187_177.out
                 have hns152_6 := NB188_177.out
                 have hms152_0 := NB177_176.out
                 have hms152_2 := NB177_178.out
                 have hms152_3 := NB177_182.out
                 have hms152_4 := NB177_186.out
                 have hms152_5 := NB177_187.out
                 have hms152_6 := NB177_188.out
                 have hs153 : w147.cell? ⟨gb177, 1, none⟩ = some (.string (⟨#[]⟩ : ByteArray)) := (zb_ BK177.out 1).trans rfl
                 have hfs153 := za_ BK177.out 1
                 have hns153_0 := NB176_177.out
                 have hns153_2 := NB178_177.out
                 have hns153_3 := NB182_177.out
                 have hns153_4 := NB186_177.out
                 have hns153_5 := NB187_177.out
                 have hns153_6 := NB188_177.out
                 have hms153_0 := NB177_176.out
                 have hms153_2 := NB177_178.out
                 have hms153_3 := NB177_182.out
                 have hms153_4 := NB177_186.out
                 have hms153_5 := NB177_187.out
                 have hms153_6 := NB177_188.out
                 refine sk_ ?_
                 refine hK.out _ _ ⟨(by (rw [cell_far, cell_far]) <;> first | exact hHeld.1 | exact NB187_177.out), (by (rw [cell_far, cell_far]) <;> first | exact hHeld.2.1 | exact NB187_177.out), (by (rw [cell_far, cell_far]) <;> first | exact hHeld.2.2.1 | exact NB187_177.out), (by (rw [cell_far, cell_far]) <;> first | exact hHeld.2.2.2.1 | exact NB187_177.out), (by (rw [cell_far, cell_far]) <;> first | exact hHeld.2.2.2.2.1 | exact NB188_177.out), (by (rw [cell_far, cell_far]) <;> first | exact hHeld.2.2.2.2.2.1 | exact NB188_177.out), (by (rw [cell_far, cell_far]) <;> first | exact hHeld.2.2.2.2.2.2.1 | exact NB186_177.out), (by (rw [cell_far, cell_far]) <;> first | exact hHeld.2.2.2.2.2.2.2.1 | exact NB186_177.out), (by (rw [cell_far, cell_far]) <;> first | exact hHeld.2.2.2.2.2.2.2.2 | exact NB186_177.out)⟩ (fun hHeld => ?_)
                 clear hK K
                 refine pu_ HT_ 14 (some 6) (bA 16 32767) ?_
                 refine pu_ HT_ 15 (some 7) (bA 16 65535) ?_
                 refine dn_ HT_ ?_
                 try go_wp2
                 refine bodyPost_ret (yN_ (rs := [.cell 4 58, .cell 5 60, .tmp 6, .tmp 7]) rfl (by simp) (.cell gb176 58 #[.string (a0.extract ((ji114) : Int).toNat ((wrap64 (a1 + 33)) : Int).toNat), .int .i64 t179, .int .i64 t184, .int .i64 t183] (0, 0) _ rfl bka_ Tryd.underlying58 rfl (by kernel_rfl) (.cell gb177 60 #[.int .i64 t179, .string (a0.extract (t184 : Int).toNat ((wrap64 (t184 + t183)) : Int).toNat)] (0, 0) _ rfl bka_ Tryd.underlying60 rfl (by kernel_rfl) (.tmp (.tmp .nil))))) rfl ?_
                 exact ⟨by first | rfl | (simp [yd_, yc_] <;> rfl) | (simp only [← hji114]; first | rfl | (simp [yd_, yc_] <;> rfl)) | (simp [*, yd_, yc_] <;> rfl), bel_⟩
                ·
                 rw [if_neg c120] at H
                 exact absurd H (by simp)
               ·
                rw [if_neg c119] at H
                exact absurd H (by simp)
              ·
               rw [if_neg c118] at H
               exact absurd H (by simp)
             ·
              rw [if_neg c117] at H
              exact absurd H (by simp)
            ·
             rw [if_neg c116] at H
             exact absurd H (by simp)
           ·
            rw [if_neg c115] at H
            exact absurd H (by simp)
       ·
        rw [if_neg c53] at H
        have c53b0 : (t185 == 0) = false := beq_eq_false_iff_ne.mpr c53
        have c53b1 : (t185 != 0) = true := bne_iff_ne.mpr c53
        simp only [Option.some.injEq, Prod.mk.injEq] at H
        obtain ⟨rfl, rfl, rfl, rfl, rfl, rfl, rfl, rfl⟩ := H
        have hnb154 := NB182_176.out
        have hnc154 := NB176_182.out
        have hnb155 := NB182_177.out
        have hnc155 := NB177_182.out
        have hnb156 := NB182_178.out
        have hnc156 := NB178_182.out
        have hcz157_0 : wc.cell? ⟨gb182, 0, none⟩ = some (.int .i64 t179) := (zb_ BK182.out 0).trans rfl
        have hcz157_1 : wc.cell? ⟨gb182, 1, none⟩ = some (.int .i64 t180) := (zb_ BK182.out 1).trans rfl
        have hcz157_2 : wc.cell? ⟨gb182, 2, none⟩ = some (.int .i64 t181) := (zb_ BK182.out 2).trans rfl
        have hfz157_0 := za_ BK182.out 0
        have hfz157_1 := za_ BK182.out 1
        have hfz157_2 := za_ BK182.out 2
        try go_wp2_with (first | ((with_reducible refine zg_ (f := 82) rfl ?_); refine gl_ (some 49) Tryd.func82 #[.string a0, .int .i64 t180] ?_; (with_reducible refine (zl_.calls kj22 a0 t180 t183 t184 t185 _ A52.out).mono ?_); rintro e w158 ⟨rfl, hb⟩; refine ⟨_, rfl, ?_⟩; replace BK176 := AM (zh_ (g := gb176) (o := .cells #[.string (⟨#[]⟩ : ByteArray), .int .i64 0, .int .i64 0, .int .i64 0] 58 (0, 0)) (bk_ BK176.out) hb); replace BK177 := AM (zh_ (g := gb177) (o := .cells #[.int .i64 0, .string (⟨#[]⟩ : ByteArray)] 60 (0, 0)) (bk_ BK177.out) hb); replace BK178 := AM (zh_ (g := gb178) (o := .cells #[.int .i64 0, .string (⟨#[]⟩ : ByteArray)] 60 (0, 0)) (bk_ BK178.out) hb); replace BK182 := AM (zh_ (g := gb182) (o := .cells #[.int .i64 t179, .int .i64 t180, .int .i64 t181] 102 (0, 0)) (bk_ BK182.out) hb); replace HB := AM (zc_ bel_ hb); (try clear hb)) | ((with_reducible refine zy_ (N := 10) rfl ?_); (try (refine yh_ (by rfl) ?_; dsimp only)); refine be_ 10 #[.int .i64 0, .int .i64 0, .int .i64 0] 102 ?_; intro gb186 hg w159 hbox hb; have BK186 := AM hbox; have GW186 := AM ((by rw [hg]; exact (zf_ bel_) : w.heap.size ≤ gb186)); have GE186 := AM ((by rw [hg]; exact (zf_ bel_) : w.heap.size ≤ gb186)); replace HB := AM (zc_ bel_ hb); have NB176_186 := AM ((by rw [hg]; exact Nat.ne_of_lt (zA_ (g := gb176) (o := .cells #[.string (⟨#[]⟩ : ByteArray), .int .i64 0, .int .i64 0, .int .i64 0] 58 (0, 0)) (bk_ BK176.out)) : gb176 ≠ gb186)); have NB186_176 := AM ((by rw [hg]; exact Nat.ne_of_gt (zA_ (g := gb176) (o := .cells #[.string (⟨#[]⟩ : ByteArray), .int .i64 0, .int .i64 0, .int .i64 0] 58 (0, 0)) (bk_ BK176.out)) : gb186 ≠ gb176)); replace BK176 := AM (zh_ (g := gb176) (o := .cells #[.string (⟨#[]⟩ : ByteArray), .int .i64 0, .int .i64 0, .int .i64 0] 58 (0, 0)) (bk_ BK176.out) hb); have NB177_186 := AM ((by rw [hg]; exact Nat.ne_of_lt (zA_ (g := gb177) (o := .cells #[.int .i64 0, .string (⟨#[]⟩ : ByteArray)] 60 (0, 0)) (bk_ BK177.out)) : gb177 ≠ gb186)); have NB186_177 := AM ((by rw [hg]; exact Nat.ne_of_gt (zA_ (g := gb177) (o := .cells #[.int .i64 0, .string (⟨#[]⟩ : ByteArray)] 60 (0, 0)) (bk_ BK177.out)) : gb186 ≠ gb177)); replace BK177 := AM (zh_ (g := gb177) (o := .cells #[.int .i64 0, .string (⟨#[]⟩ : ByteArray)] 60 (0, 0)) (bk_ BK177.out) hb); have NB178_186 := AM ((by rw [hg]; exact Nat.ne_of_lt (zA_ (g := gb178) (o := .cells #[.int .i64 0, .string (⟨#[]⟩ : ByteArray)] 60 (0, 0)) (bk_ BK178.out)) : gb178 ≠ gb186)); have NB186_178 := AM ((by rw [hg]; exact Nat.ne_of_gt (zA_ (g := gb178) (o := .cells #[.int .i64 0, .string (⟨#[]⟩ : ByteArray)] 60 (0, 0)) (bk_ BK178.out)) : gb186 ≠ gb178)); replace BK178 := AM (zh_ (g := gb178) (o := .cells #[.int .i64 0, .string (⟨#[]⟩ : ByteArray)] 60 (0, 0)) (bk_ BK178.out) hb); have NB182_186 := AM ((by rw [hg]; exact Nat.ne_of_lt (zA_ (g := gb182) (o := .cells #[.int .i64 t179, .int .i64 t180, .int .i64 t181] 102 (0, 0)) (bk_ BK182.out)) : gb182 ≠ gb186)); have NB186_182 := AM ((by rw [hg]; exact Nat.ne_of_gt (zA_ (g := gb182) (o := .cells #[.int .i64 t179, .int .i64 t180, .int .i64 t181] 102 (0, 0)) (bk_ BK182.out)) : gb186 ≠ gb182)); replace BK182 := AM (zh_ (g := gb182) (o := .cells #[.int .i64 t179, .int .i64 t180, .int .i64 t181] 102 (0, 0)) (bk_ BK182.out) hb); clear hb hbox hg; have hnb160 := NB186_176.out; have hnc160 := NB176_186.out; have hnb161 := NB186_177.out; have hnc161 := NB177_186.out; have hnb162 := NB186_178.out; have hnc162 := NB178_186.out; have hnb163 := NB186_182.out; have hnc163 := NB182_186.out; have hcz164_0 : w159.cell? ⟨gb186, 0, none⟩ = some (.int .i64 0) := (zb_ BK186.out 0).trans rfl; have hcz164_1 : w159.cell? ⟨gb186, 1, none⟩ = some (.int .i64 0) := (zb_ BK186.out 1).trans rfl; have hcz164_2 : w159.cell? ⟨gb186, 2, none⟩ = some (.int .i64 0) := (zb_ BK186.out 2).trans rfl; have hfz164_0 := za_ BK186.out 0; have hfz164_1 := za_ BK186.out 1; have hfz164_2 := za_ BK186.out 2))
        have n0_ : zd_ ((((w159.setCell ⟨gb186, 0, none⟩ (.int .i64 t183)).setCell ⟨gb186, 1, none⟩ (.int .i64 t184)).setCell ⟨gb186, 2, none⟩ (.int .i64 t185)).heap[gb176]? = some (.cells #[.string (⟨#[]⟩ : ByteArray), .int .i64 0, .int .i64 0, .int .i64 0] 58 (0, 0))) := ⟨bka_⟩
        have n1_ : zd_ ((((w159.setCell ⟨gb186, 0, none⟩ (.int .i64 t183)).setCell ⟨gb186, 1, none⟩ (.int .i64 t184)).setCell ⟨gb186, 2, none⟩ (.int .i64 t185)).heap[gb177]? = some (.cells #[.int .i64 0, .string (⟨#[]⟩ : ByteArray)] 60 (0, 0))) := ⟨bka_⟩
        have n2_ : zd_ ((((w159.setCell ⟨gb186, 0, none⟩ (.int .i64 t183)).setCell ⟨gb186, 1, none⟩ (.int .i64 t184)).setCell ⟨gb186, 2, none⟩ (.int .i64 t185)).heap[gb178]? = some (.cells #[.int .i64 0, .string (⟨#[]⟩ : ByteArray)] 60 (0, 0))) := ⟨bka_⟩
        have n3_ : zd_ ((((w159.setCell ⟨gb186, 0, none⟩ (.int .i64 t183)).setCell ⟨gb186, 1, none⟩ (.int .i64 t184)).setCell ⟨gb186, 2, none⟩ (.int .i64 t185)).heap[gb182]? = some (.cells #[.int .i64 t179, .int .i64 t180, .int .i64 t181] 102 (0, 0))) := ⟨bka_⟩
        have n4_ : zd_ ((((w159.setCell ⟨gb186, 0, none⟩ (.int .i64 t183)).setCell ⟨gb186, 1, none⟩ (.int .i64 t184)).setCell ⟨gb186, 2, none⟩ (.int .i64 t185)).heap[gb186]? = some (.cells #[.int .i64 t183, .int .i64 t184, .int .i64 t185] 102 (0, 0))) := ⟨bka_⟩
        have n5_ : zd_ (Below w.heap.size w (((w159.setCell ⟨gb186, 0, none⟩ (.int .i64 t183)).setCell ⟨gb186, 1, none⟩ (.int .i64 t184)).setCell ⟨gb186, 2, none⟩ (.int .i64 t185))) := ⟨bel_⟩
        (try clear BK176); (try clear BK177); (try clear BK178); (try clear BK182); (try clear BK186); (try clear HB)
        generalize (((w159.setCell ⟨gb186, 0, none⟩ (.int .i64 t183)).setCell ⟨gb186, 1, none⟩ (.int .i64 t184)).setCell ⟨gb186, 2, none⟩ (.int .i64 t185)) = w165 at n0_ n1_ n2_ n3_ n4_ n5_ ⊢
        have BK176 := n0_
        have BK177 := n1_
        have BK178 := n2_
        have BK182 := n3_
        have BK186 := n4_
        have HB := n5_
        clear n0_ n1_ n2_ n3_ n4_ n5_
        replace BK176 := AM (zN_ BK176.out)
        replace BK177 := AM (zN_ BK177.out)
        replace BK178 := AM (zN_ BK178.out)
        replace BK182 := AM (zN_ BK182.out)
        replace BK186 := AM (zN_ BK186.out)
        replace HB := AM (zF_ HB.out)
        refine yU_ (n := 6) (S := fun w' => w'.cell? ⟨gb178, 0, none⟩ = some (.int .i64 0) ∧ w'.cell? ⟨gb178, 1, none⟩ = some (.string (⟨#[]⟩ : ByteArray))) (ds := []) #[false, false, false, false, false, false] (by kernel_rfl) rfl rfl ⟨(zb_ BK178.out 0).trans rfl, (zb_ BK178.out 1).trans rfl⟩ (fun hHeld => ?_)
        generalize w165.drew = w166 at BK176 BK177 BK178 BK182 BK186 HB hHeld ⊢
        refine pure_ (i := 0) (N := some 73) (v := ?_) (a' := ?_) #[true, false, false, false, false, false] rfl rfl (by kernel_rfl) (fun _ _ _ h => h) (Or.inl ⟨by rfl, ?_⟩) ?_ ?_
        rotate_left
        ·
         intro w'
         go_simp
         with_reducible rfl
        rotate_left
        ·
         simp only [Act.put, List.setIfInBounds_toArray, List.set_cons_zero, List.set_cons_succ, i64_w, i32_w]
         rfl
        refine take_ (i := 1) (N := some 74) (v := ?_) (a' := ?_) #[true, true, false, false, false, false] rfl rfl (by kernel_rfl) (fun _ _ _ h => h) (Or.inl ⟨by rfl, ?_⟩) hHeld ?_ ?_
        rotate_left
        ·
         rintro w' ⟨s0, s1⟩
         go_simp
         with_reducible rfl
        rotate_left
        ·
         simp only [Act.put, List.setIfInBounds_toArray, List.set_cons_zero, List.set_cons_succ, i64_w, i32_w]
         rfl
        refine one_ (i := 2) (N := none) #[true, true, true, false, false, false] rfl rfl (by kernel_rfl) (by decide) (fun K hK => ?_)
        have hs167 : w166.cell? ⟨gb176, 0, none⟩ = some (.string (⟨#[]⟩ : ByteArray)) := (zb_ BK176.out 0).trans rfl
        have hfs167 := za_ BK176.out 0
        have hns167_1 := NB177_176.out
        have hns167_2 := NB178_176.out
        have hns167_3 := NB182_176.out
        have hns167_4 := NB186_176.out
        have hms167_1 := NB176_177.out
        have hms167_2 := NB176_178.out
        have hms167_3 := NB176_182.out
        have hms167_4 := NB176_186.out
        have hs168 : w166.cell? ⟨gb176, 1, none⟩ = some (.int .i64 0) := (zb_ BK176.out 1).trans rfl
        have hfs168 := za_ BK176.out 1
        have hns168_1 := NB177_176.out
        have hns168_2 := NB178_176.out
        have hns168_3 := NB182_176.out
        have hns168_4 := NB186_176.out
        have hms168_1 := NB176_177.out
        have hms168_2 := NB176_178.out
        have hms168_3 := NB176_182.out
        have hms168_4 := NB176_186.out
        have hs169 : w166.cell? ⟨gb176, 2, none⟩ = some (.int .i64 0) := (zb_ BK176.out 2).trans rfl
        have hfs169 := za_ BK176.out 2
        have hns169_1 := NB177_176.out
        have hns169_2 := NB178_176.out
        have hns169_3 := NB182_176.out
        have hns169_4 := NB186_176.out
        have hms169_1 := NB176_177.out
        have hms169_2 := NB176_178.out
        have hms169_3 := NB176_182.out
        have hms169_4 := NB176_186.out
        have hs170 : w166.cell? ⟨gb176, 3, none⟩ = some (.int .i64 0) := (zb_ BK176.out 3).trans rfl
        have hfs170 := za_ BK176.out 3
        have hns170_1 := NB177_176.out
        have hns170_2 := NB178_176.out
        have hns170_3 := NB182_176.out
        have hns170_4 := NB186_176.out
        have hms170_1 := NB176_177.out
        have hms170_2 := NB176_178.out
        have hms170_3 := NB176_182.out
        have hms170_4 := NB176_186.out
        refine sk_ ?_
        refine hK.out _ _ ⟨(by (rw [cell_far, cell_far, cell_far, cell_far]) <;> first | exact hHeld.1 | exact NB178_176.out), (by (rw [cell_far, cell_far, cell_far, cell_far]) <;> first | exact hHeld.2 | exact NB178_176.out)⟩ (fun hHeld => ?_)
        clear hK K
        refine one_ (i := 3) (N := none) #[true, true, true, true, false, false] rfl rfl (by kernel_rfl) (by decide) (fun K hK => ?_)
        have hs171 : w166.cell? ⟨gb177, 0, none⟩ = some (.int .i64 0) := (zb_ BK177.out 0).trans rfl
        have hfs171 := za_ BK177.out 0
        have hns171_0 := NB176_177.out
        have hns171_2 := NB178_177.out
        have hns171_3 := NB182_177.out
        have hns171_4 := NB186_177.out
        have hms171_0 := NB177_176.out
        have hms171_2 := NB177_178.out
        have hms171_3 := NB177_182.out
        have hms171_4 := NB177_186.out
        have hs172 : w166.cell? ⟨gb177, 1, none⟩ = some (.string (⟨#[]⟩ : ByteArray)) := (zb_ BK177.out 1).trans rfl
        have hfs172 := za_ BK177.out 1
        have hns172_0 := NB176_177.out
        have hns172_2 := NB178_177.out
        have hns172_3 := NB182_177.out
        have hns172_4 := NB186_177.out
        have hms172_0 := NB177_176.out
        have hms172_2 := NB177_178.out
        have hms172_3 := NB177_182.out
        have hms172_4 := NB177_186.out
        refine sk_ ?_
        refine hK.out _ _ ⟨(by (rw [cell_far, cell_far]) <;> first | exact hHeld.1 | exact NB178_177.out), (by (rw [cell_far, cell_far]) <;> first | exact hHeld.2 | exact NB178_177.out)⟩ (fun hHeld => ?_)
        clear hK K
        refine pure_ (i := 4) (N := some 6) (v := ?_) (a' := ?_) #[true, true, true, true, true, false] rfl rfl (by kernel_rfl) (fun _ _ _ h => h) (Or.inl ⟨by rfl, ?_⟩) ?_ ?_
        rotate_left
        ·
         intro w'
         go_simp
         with_reducible rfl
        rotate_left
        ·
         simp only [Act.put, List.setIfInBounds_toArray, List.set_cons_zero, List.set_cons_succ, i64_w, i32_w]
         rfl
        refine pure_ (i := 5) (N := some 7) (v := ?_) (a' := ?_) #[true, true, true, true, true, true] rfl rfl (by kernel_rfl) (fun _ _ _ h => h) (Or.inl ⟨by rfl, ?_⟩) ?_ ?_
        rotate_left
        ·
         intro w'
         go_simp
         with_reducible rfl
        rotate_left
        ·
         simp only [Act.put, List.setIfInBounds_toArray, List.set_cons_zero, List.set_cons_succ, i64_w, i32_w]
         rfl
        refine done_ (by kernel_rfl) ?_
        try go_wp2
        refine bodyPost_ret (yN_ (rs := [.cell 4 58, .cell 5 60, .tmp 6, .tmp 7]) rfl (by simp) (.cell gb176 58 #[.string (⟨#[]⟩ : ByteArray), .int .i64 0, .int .i64 0, .int .i64 0] (0, 0) _ rfl bka_ Tryd.underlying58 rfl (by kernel_rfl) (.cell gb177 60 #[.int .i64 0, .string (⟨#[]⟩ : ByteArray)] (0, 0) _ rfl bka_ Tryd.underlying60 rfl (by kernel_rfl) (.tmp (.tmp .nil))))) rfl ?_
        exact ⟨ri_, bel_⟩
end Go.Proofs.YtfffdndeccipnaaDoor.PFnPack
