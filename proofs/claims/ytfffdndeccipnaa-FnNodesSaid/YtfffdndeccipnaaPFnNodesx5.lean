/- Functions of the law FnNodes: the print's, with walks of this session's own. No statement is proved here. -/
import Derived.WalkLawsBesides
import Derived.Test.YtfffdndeccipnaaPFnNodesx4
namespace Go.Proofs.Ytfffdndeccipnaa.PFnNodes
open Go.RowKit Go.Proofs.YtfffdndeccipnaaW.PrintWords Go.Proofs.YtfffdndeccipnaaW.PrintLast Go.Proofs.YtfffdndeccipnaaW.PrintMore Go.Proofs.Ytfffdndeccipnaa.Reg Go.Proofs.Ytfffdndeccipnaa.Aut
attribute [local go_sem] xE_ xC_ max_two min_two xn_ xm_ xD_ xB_
set_option linter.unusedVariables false
set_option linter.unusedSimpArgs false
set_option maxHeartbeats 8000000
set_option maxRecDepth 100000
/-! ### zc_: function 53 -/
mutual
def zc_.l0 : Nat → List (S97) → Int → List Int → Int → Int → Int → Option ((List (S97)) × Int × Int × Int)
 | 0, _, _, _, _, _, _ => none
 | k + 1, x3, x4, x1000, x1001, x1002, x1003 => if x4 < 4 then ((zK_.f x1000 x1001 x1002 x1003 2).bind fun bt181 => (if bt181.1 = true then (zc_.l0 k x3 (wrap64 (x4 + 1)) x1000 bt181.2.1 bt181.2.2.1 bt181.2.2.2) else ((some (([(⟨#[97]⟩ : ByteArray), (⟨#[98, 45, 50]⟩ : ByteArray), (⟨#[99]⟩ : ByteArray), (⟨#[100, 100]⟩ : ByteArray)] : List ByteArray) : List ByteArray)).bind fun y185 => (if 0 ≤ x4 then (if x4 < (y185.length : Int) then ((zK_.f x1000 bt181.2.1 bt181.2.2.1 bt181.2.2.2 3).bind fun bt189 => (if bt189.1 = true then ((yz_.f k (rdOf ByteArray.empty y185 x4)).bind fun t194 => (zc_.j2 k x3 x4 x1000 bt189.2.1 bt189.2.2.1 bt189.2.2.2 (rdOf ByteArray.empty y185 x4) bt189.1 0 (([t194] : List ByteArray)))) else ((zI_.f x1000 bt189.2.1 bt189.2.2.1 bt189.2.2.2 1501).bind fun bt198 => ((zI_.f x1000 bt198.2.1 bt198.2.2.1 bt198.2.2.2 3).bind fun bt202 => (zc_.l1 k x3 x4 bt202.1 x1000 bt202.2.1 bt202.2.2.1 bt202.2.2.2 (rdOf ByteArray.empty y185 x4) bt189.1 bt198.1 ([] : List ByteArray)))))) else (none)) else (none))))) else (some (x3, x1001, x1002, x1003))
def zc_.j2 : Nat → List (S97) → Int → List Int → Int → Int → Int → ByteArray → Bool → Int → List ByteArray → Option ((List (S97)) × Int × Int × Int)
 | 0, _, _, _, _, _, _, _, _, _, _ => none
 | k + 1, x3, x4, x1000, x1001, x1002, x1003, x194000, x194001, x194002, x194003 => (zK_.f x1000 x1001 x1002 x1003 25).bind fun bt211 => (if bt211.1 = true then ((zI_.f x1000 bt211.2.1 bt211.2.2.1 bt211.2.2.2 3).bind fun bt215 => (if bt215.1 = 0 then ((some (([(-1), 1501, 1] : List Int) : List Int)).bind fun y219 => ((zI_.f x1000 bt215.2.1 bt215.2.2.1 bt215.2.2.2 3).bind fun bt222 => (if 0 ≤ bt222.1 then (if bt222.1 < (y219.length : Int) then (if x3.length < 2513169434916 then (zc_.l0 k (x3 ++ [(⟨x194000, x194001, rd y219 bt222.1, x194003⟩ : S97)]) (wrap64 (x4 + 1)) x1000 bt222.2.1 bt222.2.2.1 bt222.2.2.2) else (none)) else (none)) else (none)))) else (if bt215.1 = 1 then (if x194003.length < 8796093022208 then (if x3.length < 2513169434916 then (zc_.l0 k (x3 ++ [(⟨x194000, x194001, x194002, (x194003 ++ [(⟨#[115, 104, 111, 114, 116]⟩ : ByteArray)])⟩ : S97)]) (wrap64 (x4 + 1)) x1000 bt215.2.1 bt215.2.2.1 bt215.2.2.2) else (none)) else (none)) else ((yR_.f x1000 bt215.2.1 bt215.2.2.1 bt215.2.2.2 (([(⟨#[]⟩ : ByteArray), (⟨#[97]⟩ : ByteArray), (⟨#[65]⟩ : ByteArray)] : List ByteArray))).bind fun bt239 => (if x3.length < 2513169434916 then (zc_.l0 k (x3 ++ [(⟨bt239.1, x194001, x194002, x194003⟩ : S97)]) (wrap64 (x4 + 1)) x1000 bt239.2.1 bt239.2.2.1 bt239.2.2.2) else (none)))))) else (if x3.length < 2513169434916 then (zc_.l0 k (x3 ++ [(⟨x194000, x194001, x194002, x194003⟩ : S97)]) (wrap64 (x4 + 1)) x1000 bt211.2.1 bt211.2.2.1 bt211.2.2.2) else (none)))
def zc_.l1 : Nat → List (S97) → Int → Int → List Int → Int → Int → Int → ByteArray → Bool → Int → List ByteArray → Option ((List (S97)) × Int × Int × Int)
 | 0, _, _, _, _, _, _, _, _, _, _, _ => none
 | k + 1, x3, x4, x6, x1000, x1001, x1002, x1003, x194000, x194001, x194002, x194003 => if x6 > 0 then ((z5_.f k x6).bind fun t206 => ((yz_.f k t206).bind fun t207 => (if x194003.length < 8796093022208 then (zc_.l1 k x3 x4 (wrap64 (x6 - 1)) x1000 x1001 x1002 x1003 x194000 x194001 x194002 (x194003 ++ [t207])) else (none)))) else (zc_.j2 k x3 x4 x1000 x1001 x1002 x1003 x194000 x194001 x194002 x194003)
end
def zc_.f (k : Nat) (s0_0 : List Int) (s0_1 : Int) (s0_2 : Int) (s0_3 : Int) : Option ((List (S97)) × Int × Int × Int) := zc_.l0 k (([] : List (S97))) 0 s0_0 s0_1 s0_2 s0_3
theorem zc_.mono_l : ∀ k, (∀ y0 y1 y2 y3 y4 y5, LeO (zc_.l0 k y0 y1 y2 y3 y4 y5) (zc_.l0 (k + 1) y0 y1 y2 y3 y4 y5)) ∧ (∀ y0 y1 y2 y3 y4 y5 y6 y7 y8 y9, LeO (zc_.j2 k y0 y1 y2 y3 y4 y5 y6 y7 y8 y9) (zc_.j2 (k + 1) y0 y1 y2 y3 y4 y5 y6 y7 y8 y9)) ∧ (∀ y0 y1 y2 y3 y4 y5 y6 y7 y8 y9 y10, LeO (zc_.l1 k y0 y1 y2 y3 y4 y5 y6 y7 y8 y9 y10) (zc_.l1 (k + 1) y0 y1 y2 y3 y4 y5 y6 y7 y8 y9 y10))
 | 0 => ⟨fun _ _ _ _ _ _ r h => by simp [zc_.l0] at h, fun _ _ _ _ _ _ _ _ _ _ r h => by simp [zc_.j2] at h, fun _ _ _ _ _ _ _ _ _ _ _ r h => by simp [zc_.l1] at h⟩
 | k + 1 => by
  obtain ⟨ih0, ih1, ih2⟩ := zc_.mono_l k
  refine ⟨?_, ?_, ?_⟩
  ·
   intro y0 y1 y2 y3 y4 y5
   unfold zc_.l0
   repeat' with_reducible first | exact ih0 _ _ _ _ _ _ | exact ih1 _ _ _ _ _ _ _ _ _ _ | exact ih2 _ _ _ _ _ _ _ _ _ _ _ | exact yz_.mono _ _ | exact z5_.mono _ _ | exact LeO.refl _ | exact LeO.none _ | refine LeO.ite ?_ ?_ | refine LeO.bind ?_ (fun _ => ?_)
  ·
   intro y0 y1 y2 y3 y4 y5 y6 y7 y8 y9
   unfold zc_.j2
   repeat' with_reducible first | exact ih0 _ _ _ _ _ _ | exact ih1 _ _ _ _ _ _ _ _ _ _ | exact ih2 _ _ _ _ _ _ _ _ _ _ _ | exact yz_.mono _ _ | exact z5_.mono _ _ | exact LeO.refl _ | exact LeO.none _ | refine LeO.ite ?_ ?_ | refine LeO.bind ?_ (fun _ => ?_)
  ·
   intro y0 y1 y2 y3 y4 y5 y6 y7 y8 y9 y10
   unfold zc_.l1
   repeat' with_reducible first | exact ih0 _ _ _ _ _ _ | exact ih1 _ _ _ _ _ _ _ _ _ _ | exact ih2 _ _ _ _ _ _ _ _ _ _ _ | exact yz_.mono _ _ | exact z5_.mono _ _ | exact LeO.refl _ | exact LeO.none _ | refine LeO.ite ?_ ?_ | refine LeO.bind ?_ (fun _ => ?_)
theorem zc_.mono : ∀ a0 a1 a2 a3 k, LeO (zc_.f k a0 a1 a2 a3) (zc_.f (k + 1) a0 a1 a2 a3) := by
 intro a0 a1 a2 a3 k
 obtain ⟨ih0, ih1, ih2⟩ := zc_.mono_l k
 unfold zc_.f
 repeat' with_reducible first | exact ih0 _ _ _ _ _ _ | exact ih1 _ _ _ _ _ _ _ _ _ _ | exact ih2 _ _ _ _ _ _ _ _ _ _ _ | exact yz_.mono _ _ | exact z5_.mono _ _ | exact LeO.refl _ | exact LeO.none _ | refine LeO.ite ?_ ?_ | refine LeO.bind ?_ (fun _ => ?_)
def zc_.T6 : Bool × List (List Nat × List Nat) := (true, [([], []), ([], []), ([0, 1], [0, 1]), ([2], [2]), ([], []), ([4], [4]), ([3, 5], [3, 5]), ([], []), ([7, 6, 5, 0, 1, 2, 3, 4, 5, 6, 7], [6, 7])])
def zc_.B6 : List Nat := [0, 0, 3, 7, 0, 16, 63, 0, 255]
theorem zc_.tab6 : rtab .any (opsOf Try.f53 6) = zc_.T6 := by kernel_rfl
theorem zc_.bits6 : xe_ zc_.T6.2 zc_.B6 = true := by kernel_rfl
def zc_.T13 : Bool × List (List Nat × List Nat) := (true, [([], []), ([0], [0]), ([], []), ([2], [2]), ([3, 3], [3]), ([4], [4]), ([1, 5, 4], [1, 5]), ([0, 1, 2, 3, 4, 5, 6], []), ([7, 6, 6, 0, 1, 2, 3, 4, 5, 6], [6, 7])])
def zc_.B13 : List Nat := [0, 1, 0, 4, 12, 28, 63, 127, 255]
theorem zc_.tab13 : rtab .any (opsOf Try.f53 13) = zc_.T13 := by kernel_rfl
theorem zc_.bits13 : xe_ zc_.T13.2 zc_.B13 = true := by kernel_rfl
theorem zc_.calls (k : Nat) (g : Nat) (s0_0 : List Int) (s0_1 : Int) (s0_2 : Int) (s0_3 : Int) (r1 : List (S97)) (r2 : Int) (r3 : Int) (r4 : Int) (w0 w : World) (hI : zh_ w0 w g s0_0 s0_1 s0_2 s0_3) (hB : Below w0.heap.size w0 w) (h : zc_.f k s0_0 s0_1 s0_2 s0_3 = some (r1, r2, r3, r4)) :
 Calls Try.prog 53 #[.pointer (some ⟨g, 0, none⟩)] w fun e w' => ∃ v0_ : Value, e = .returned (v0_) ∧ Kd.S k97 97 w' w.heap.size (fun _ => True) v0_ r1 ∧ zh_ w0 w' g s0_0 r2 r3 r4 ∧ Below w0.heap.size w0 w' ∧ zs_ w w' g none := by
 have hu97 := Try.underlying97
 have HI0 := AM hI
 have HK := AM (zs_.refl w g none)
 have HL := AM hB.size
 clear hI
 have HW0 := AM hB.size
 have HB := AM hB
 clear hB
 have H : (zc_.l0 k (([] : List (S97))) 0 s0_0 s0_1 s0_2 s0_3) = some (r1, r2, r3, r4) := h
 clear h
 obtain ⟨y178, hy178⟩ : ∃ y_ : List (S97), y_ = (([] : List (S97))) := ⟨_, rfl⟩
 replace H : (zc_.l0 k y178 0 s0_0 s0_1 s0_2 s0_3) = some (r1, r2, r3, r4) := by first | (rw [hy178]; with_reducible exact H) | (have H2_ := (Option.bind_some _ _).symm.trans H; rw [hy178]; with_reducible exact H2_) | (have H2_ := (Option.bind_some _ _).symm.trans H; with_reducible exact H2_) | with_reducible exact H | (rw [hy178]; exact H) | exact H
 have Ny178 := AM hy178
 clear hy178
 have H' := AM H
 clear H
 go_enter Try.func53, Try.ntmps53
 go_wp2_with (first | ((with_reducible refine z6_ (N := 7) rfl ?_); refine Kd.S_lit k97 _ 97 ?hg (N := 7) ?hd (xs := ([] : List (S97))) (inner := []) (ok := fun _ => True) (okp := fun _ => True) ?hr ?hp (fun _ hk => hk) trivial (Below.refl _ _) (Nat.le_refl _) (by simp) ?_; (case hd => rfl); (case hg => rfl); (case hr => first | (go_simp; done) | (go_simp; rfl)); (case hp => exact (Reps.none _ _)); intro v179 w2 ho3 hb hg_ hnew_; clear hg_ hnew_; (first | rw [← Ny178.out] at ho3 | (simp only [Int.reduceToNat] at ho3; rw [← Ny178.out] at ho3)); have HO180 := AM (Kd.xh_ ho3 (zF_ (w := w) (g := g) (row := none) kp_)); replace HK := AM (kb_ w g hb); replace HB := AM (zg_ (belg_ (zh_.ge HI0.out)) hb); replace HI0 := AM (zh_.below zA_ hb); clear hb ho3))
 go_loopg [3, 4] k (fun kq v3 v4 w' => ∃ (x3_1 : List (S97)) (x4_1 : Int) (x1001_1 : Int) (x1002_1 : Int) (x1003_1 : Int), v4 = .int .i64 x4_1 ∧ zd_ (zc_.l0 kq x3_1 x4_1 s0_0 x1001_1 x1002_1 x1003_1 = some (r1, r2, r3, r4)) ∧ zd_ (kq ≤ k) ∧ zd_ (Kd.S k97 97 w' w.heap.size (fun _ => True) v3 x3_1) ∧ zd_ (zh_ w0 w' g s0_0 x1001_1 x1002_1 x1003_1) ∧ zd_ (zs_ w w' g none) ∧ zd_ (Below w0.heap.size w0 w'))
 case atStart => exact ⟨(y178), (0), (s0_1), (s0_2), (s0_3), re_, H', ⟨Nat.le_refl _⟩, ⟨ks_ HO180.out⟩, ⟨zA_⟩, ⟨kp_⟩, ⟨belg_ (zh_.ge HI0.out)⟩⟩
 case round =>
  clear H'
  obtain ⟨x3_1, x4_1, x1001_1, x1002_1, x1003_1, rfl, HA, HK1, HO_3, HI0, HK, HB⟩ := hrel
  cases gk with
  | zero => exact absurd HA.out (by simp [zc_.l0])
  | succ k1 =>
   have H := HA.out
   clear HA
   simp only [zc_.l0] at H
   by_cases c4 : x4_1 < 4
   ·
    rw [if_pos c4] at H
    have c4b0 : decide (x4_1 < 4) = true := decide_eq_true c4
    clear c4
    obtain ⟨⟨t181, t182, t183, t184⟩, A5, H⟩ := OB H
    try dsimp only at H
    replace A5 := AM A5
    by_cases c6 : t181 = true
    ·
     subst c6
     rw [if_pos rfl] at H
     have H' := AM H
     clear H
     go_wp2_with (first | ((with_reducible refine zl_ (f := 68) rfl ?_); refine gl_ (some 13) Try.func68 #[.pointer (some ⟨g, 0, none⟩), .int .i64 2] ?_; (with_reducible refine (zK_.calls g s0_0 x1001_1 x1002_1 x1003_1 2 true t182 t183 t184 w0 _ ?side1 ?side2 A5.out).mono ?_); (case side1 => exact zA_); (case side2 => exact belg_ (zh_.ge HI0.out)); rintro e w7 ⟨rfl, hi, hb, hk⟩; refine ⟨_, rfl, ?_⟩; replace HO_3 := AM (Kd.zR_ (Kd.yT_ (zh_.apartS (show zh_ w0 _ g s0_0 x1001_1 x1002_1 x1003_1 from zA_) (ks_ HO_3.out) (by decide)) hk (fun _ h => h.2)) (fun _ h => h.1)); replace HK := AM (kk_ w hk); replace HB := AM hb; replace HI0 := AM hi; (try clear hb); (try clear hk); (try clear hi)))
     go_roundg k1
     case measure => have := HK1.out; omega
     case rel => exact ⟨(x3_1), (wrap64 (x4_1 + 1)), (t182), (t183), (t184), re_, H', ⟨by have := HK1.out; omega⟩, ⟨ks_ HO_3.out⟩, ⟨zA_⟩, ⟨kp_⟩, ⟨belg_ (zh_.ge HI0.out)⟩⟩
    ·
     replace c6 := Bool.eq_false_iff.mpr c6
     subst c6
     rw [if_neg (show ¬ (false = true) by decide)] at H
     obtain ⟨y185, hy185⟩ : ∃ y_ : List ByteArray, y_ = (([(⟨#[97]⟩ : ByteArray), (⟨#[98, 45, 50]⟩ : ByteArray), (⟨#[99]⟩ : ByteArray), (⟨#[100, 100]⟩ : ByteArray)] : List ByteArray)) := ⟨_, rfl⟩
     replace H : (if 0 ≤ x4_1 then (if x4_1 < (y185.length : Int) then ((zK_.f s0_0 t182 t183 t184 3).bind fun bt189 => (if bt189.1 = true then ((yz_.f k1 (rdOf ByteArray.empty y185 x4_1)).bind fun t194 => (zc_.j2 k1 x3_1 x4_1 s0_0 bt189.2.1 bt189.2.2.1 bt189.2.2.2 (rdOf ByteArray.empty y185 x4_1) bt189.1 0 (([t194] : List ByteArray)))) else ((zI_.f s0_0 bt189.2.1 bt189.2.2.1 bt189.2.2.2 1501).bind fun bt198 => ((zI_.f s0_0 bt198.2.1 bt198.2.2.1 bt198.2.2.2 3).bind fun bt202 => (zc_.l1 k1 x3_1 x4_1 bt202.1 s0_0 bt202.2.1 bt202.2.2.1 bt202.2.2.2 (rdOf ByteArray.empty y185 x4_1) bt189.1 bt198.1 ([] : List ByteArray)))))) else (none)) else (none)) = some (r1, r2, r3, r4) := by first | (rw [hy185]; with_reducible exact H) | (have H2_ := (Option.bind_some _ _).symm.trans H; rw [hy185]; with_reducible exact H2_) | (have H2_ := (Option.bind_some _ _).symm.trans H; with_reducible exact H2_) | with_reducible exact H | (rw [hy185]; exact H) | exact H
     have Ny185 := AM hy185
     clear hy185
     by_cases c8 : 0 ≤ x4_1
     ·
      rw [if_pos c8] at H
      have c8b0 : decide (0 ≤ x4_1) = true := decide_eq_true c8
      clear c8
      by_cases c9 : x4_1 < (y185.length : Int)
      ·
       rw [if_pos c9] at H
       have c9b0 : decide (x4_1 < (y185.length : Int)) = true := decide_eq_true c9
       clear c9
       obtain ⟨⟨t189, t190, t191, t192⟩, A10, H⟩ := OB H
       try dsimp only at H
       replace A10 := AM A10
       have HC11 := AM H
       clear H
       try go_wp2_with (first | ((with_reducible refine zl_ (f := 68) rfl ?_); refine gl_ (some 13) Try.func68 #[.pointer (some ⟨g, 0, none⟩), .int .i64 2] ?_; (with_reducible refine (zK_.calls g s0_0 x1001_1 x1002_1 x1003_1 2 false t182 t183 t184 w0 _ ?side1 ?side2 A5.out).mono ?_); (case side1 => exact zA_); (case side2 => exact belg_ (zh_.ge HI0.out)); rintro e w12 ⟨rfl, hi, hb, hk⟩; refine ⟨_, rfl, ?_⟩; replace HO_3 := AM (Kd.zR_ (Kd.yT_ (zh_.apartS (show zh_ w0 _ g s0_0 x1001_1 x1002_1 x1003_1 from zA_) (ks_ HO_3.out) (by decide)) hk (fun _ h => h.2)) (fun _ h => h.1)); replace HK := AM (kk_ w hk); replace HB := AM hb; replace HI0 := AM hi; (try clear hb); (try clear hk); (try clear hi)))
       have pi188 : (0 ≤ (x4_1 : Int)) = True := eq_true (of_decide_eq_true asm_)
       have qi188 : (x4_1 < (y185.length : Int)) = True := eq_true (of_decide_eq_true asm_)
       replace HO_3 := AM (Kd.yi_ HO_3.out)
       replace HI0 := AM (zh_.drew HI0.out)
       replace HK := AM (yZ_ HK.out)
       replace HB := AM (z1_ HB.out)
       refine xi_ (n := 9) (S := fun w' => True) (ds := []) (Array.replicate 9 false) (by kernel_rfl) rfl rfl trivial (fun hHeld => ?_); refine yu_ zc_.tab6 zc_.bits6 (fun HT_ HW_ => ?_)
       generalize w12.drew = w13 at HO_3 HI0 HK HB hHeld ⊢
       refine pu_ HT_ 1 (some 15) (bA 9 2) ?_
       refine pu_ HT_ 4 (some 18) (bA 9 18) ?_
       refine join_ (σ := Value × Addr × Nat) 1 #[true, true, true, true, true, true, true, true, false] (fun s_ => [(14, s_.1), (17, .string (rdOf ByteArray.empty y185 x4_1)), (19, .bool t189), (5, .pointer (some ⟨s_.2.2, 0, none⟩)), (16, .pointer (some (s_.2.1.add (x4_1).toNat))), (20, .agg #[.string (rdOf ByteArray.empty y185 x4_1), .bool t189, .int .i64 0, .slice none 0 0])]) (fun s_ w' => (Kd.R Kd.string 9 w' w.heap.size (fun _ => True) s_.1 y185) ∧ (Kd.S k97 97 w' w.heap.size (fun k_ => some k_ ≠ (s_.1 : Value).ownBlock ∧ k_ ≠ s_.2.2) u3 x3_1) ∧ (∃ c_, (s_.1 : Value) = .slice (some s_.2.1) y185.length c_) ∧ (w'.heap[s_.2.2]? = some (.cells #[.string (⟨#[]⟩ : ByteArray), .bool false, .int .i64 0, .slice none 0 0] 97 (0, 0))) ∧ (w.heap.size ≤ s_.2.2) ∧ (w0.heap.size ≤ s_.2.2) ∧ (g ≠ s_.2.2) ∧ (s_.2.2 ≠ g) ∧ (zh_ w0 w' g s0_0 t190 t191 t192) ∧ (zs_ w w' g none) ∧ (Below w0.heap.size w0 w')) ?_ ?_
       rotate_left
       ·
        intro hJ0_3_5_7
        refine join_ (σ := Value × Addr) 2 #[true, true, true, true, true, true, true, false, false] (fun s_ => [(14, s_.1), (17, .string (rdOf ByteArray.empty y185 x4_1)), (19, .bool t189), (16, .pointer (some (s_.2.add (x4_1).toNat))), (20, .agg #[.string (rdOf ByteArray.empty y185 x4_1), .bool t189, .int .i64 0, .slice none 0 0])]) (fun s_ w' => (Kd.R Kd.string 9 w' w.heap.size (fun _ => True) s_.1 y185) ∧ (Kd.S k97 97 w' w.heap.size (fun k_ => some k_ ≠ (s_.1 : Value).ownBlock) u3 x3_1) ∧ (∃ c_, (s_.1 : Value) = .slice (some s_.2) y185.length c_) ∧ (zh_ w0 w' g s0_0 t190 t191 t192) ∧ (zs_ w w' g none) ∧ (Below w0.heap.size w0 w')) ?_ ?_
        rotate_left
        ·
         intro hJ0_3_5
         refine join_ (σ := Value × Addr × Nat) 3 #[true, true, true, true, true, false, false, true, false] (fun s_ => [(14, s_.1), (17, .string (rdOf ByteArray.empty y185 x4_1)), (5, .pointer (some ⟨s_.2.2, 0, none⟩)), (16, .pointer (some (s_.2.1.add (x4_1).toNat)))]) (fun s_ w' => (Kd.R Kd.string 9 w' w.heap.size (fun _ => True) s_.1 y185) ∧ (Kd.S k97 97 w' w.heap.size (fun k_ => some k_ ≠ (s_.1 : Value).ownBlock ∧ k_ ≠ s_.2.2) u3 x3_1) ∧ (∃ c_, (s_.1 : Value) = .slice (some s_.2.1) y185.length c_) ∧ (w'.heap[s_.2.2]? = some (.cells #[.string (⟨#[]⟩ : ByteArray), .bool false, .int .i64 0, .slice none 0 0] 97 (0, 0))) ∧ (w.heap.size ≤ s_.2.2) ∧ (w0.heap.size ≤ s_.2.2) ∧ (g ≠ s_.2.2) ∧ (s_.2.2 ≠ g) ∧ (zh_ w0 w' g s0_0 t182 t183 t184) ∧ (zs_ w w' g none) ∧ (Below w0.heap.size w0 w')) ?_ ?_
         rotate_left
         ·
          intro hJ0_3_7
          refine join_ (σ := Value × Addr × Nat) 3 #[true, true, true, false, true, true, false, true, false] (fun s_ => [(14, s_.1), (19, .bool t189), (5, .pointer (some ⟨s_.2.2, 0, none⟩)), (16, .pointer (some (s_.2.1.add (x4_1).toNat)))]) (fun s_ w' => (Kd.R Kd.string 9 w' w.heap.size (fun _ => True) s_.1 y185) ∧ (Kd.S k97 97 w' w.heap.size (fun k_ => some k_ ≠ (s_.1 : Value).ownBlock ∧ k_ ≠ s_.2.2) u3 x3_1) ∧ (∃ c_, (s_.1 : Value) = .slice (some s_.2.1) y185.length c_) ∧ (w'.heap[s_.2.2]? = some (.cells #[.string (⟨#[]⟩ : ByteArray), .bool false, .int .i64 0, .slice none 0 0] 97 (0, 0))) ∧ (w.heap.size ≤ s_.2.2) ∧ (w0.heap.size ≤ s_.2.2) ∧ (g ≠ s_.2.2) ∧ (s_.2.2 ≠ g) ∧ (zh_ w0 w' g s0_0 t190 t191 t192) ∧ (zs_ w w' g none) ∧ (Below w0.heap.size w0 w')) ?_ ?_
          rotate_left
          ·
           intro hJ0_5_7
           refine join_ (σ := Value × Addr) 4 #[true, true, true, true, true, false, false, false, false] (fun s_ => [(14, s_.1), (17, .string (rdOf ByteArray.empty y185 x4_1)), (16, .pointer (some (s_.2.add (x4_1).toNat)))]) (fun s_ w' => (Kd.R Kd.string 9 w' w.heap.size (fun _ => True) s_.1 y185) ∧ (Kd.S k97 97 w' w.heap.size (fun k_ => some k_ ≠ (s_.1 : Value).ownBlock) u3 x3_1) ∧ (∃ c_, (s_.1 : Value) = .slice (some s_.2) y185.length c_) ∧ (zh_ w0 w' g s0_0 t182 t183 t184) ∧ (zs_ w w' g none) ∧ (Below w0.heap.size w0 w')) ?_ ?_
           rotate_left
           ·
            intro hJ0_3
            refine join_ (σ := Value × Addr) 4 #[true, true, true, false, true, true, false, false, false] (fun s_ => [(14, s_.1), (19, .bool t189), (16, .pointer (some (s_.2.add (x4_1).toNat)))]) (fun s_ w' => (Kd.R Kd.string 9 w' w.heap.size (fun _ => True) s_.1 y185) ∧ (Kd.S k97 97 w' w.heap.size (fun k_ => some k_ ≠ (s_.1 : Value).ownBlock) u3 x3_1) ∧ (∃ c_, (s_.1 : Value) = .slice (some s_.2) y185.length c_) ∧ (zh_ w0 w' g s0_0 t190 t191 t192) ∧ (zs_ w w' g none) ∧ (Below w0.heap.size w0 w')) ?_ ?_
            rotate_left
            ·
             intro hJ0_5
             refine join_ (σ := Value × Addr × Nat) 4 #[true, true, true, false, true, false, false, true, false] (fun s_ => [(14, s_.1), (5, .pointer (some ⟨s_.2.2, 0, none⟩)), (16, .pointer (some (s_.2.1.add (x4_1).toNat)))]) (fun s_ w' => (Kd.R Kd.string 9 w' w.heap.size (fun _ => True) s_.1 y185) ∧ (Kd.S k97 97 w' w.heap.size (fun k_ => some k_ ≠ (s_.1 : Value).ownBlock ∧ k_ ≠ s_.2.2) u3 x3_1) ∧ (∃ c_, (s_.1 : Value) = .slice (some s_.2.1) y185.length c_) ∧ (w'.heap[s_.2.2]? = some (.cells #[.string (⟨#[]⟩ : ByteArray), .bool false, .int .i64 0, .slice none 0 0] 97 (0, 0))) ∧ (w.heap.size ≤ s_.2.2) ∧ (w0.heap.size ≤ s_.2.2) ∧ (g ≠ s_.2.2) ∧ (s_.2.2 ≠ g) ∧ (zh_ w0 w' g s0_0 t182 t183 t184) ∧ (zs_ w w' g none) ∧ (Below w0.heap.size w0 w')) ?_ ?_
             rotate_left
             ·
              intro hJ0_7
              refine join_ (σ := Nat) 5 #[false, true, false, false, true, true, false, true, false] (fun s_ => [(19, .bool t189), (5, .pointer (some ⟨s_, 0, none⟩))]) (fun s_ w' => (Kd.S k97 97 w' w.heap.size (fun k_ => k_ ≠ s_) u3 x3_1) ∧ (w'.heap[s_]? = some (.cells #[.string (⟨#[]⟩ : ByteArray), .bool false, .int .i64 0, .slice none 0 0] 97 (0, 0))) ∧ (w.heap.size ≤ s_) ∧ (w0.heap.size ≤ s_) ∧ (g ≠ s_) ∧ (s_ ≠ g) ∧ (zh_ w0 w' g s0_0 t190 t191 t192) ∧ (zs_ w w' g none) ∧ (Below w0.heap.size w0 w')) ?_ ?_
              rotate_left
              ·
               intro hJ5_7
               refine join_ (σ := Value × Addr) 5 #[true, true, true, false, true, false, false, false, false] (fun s_ => [(14, s_.1), (16, .pointer (some (s_.2.add (x4_1).toNat)))]) (fun s_ w' => (Kd.R Kd.string 9 w' w.heap.size (fun _ => True) s_.1 y185) ∧ (Kd.S k97 97 w' w.heap.size (fun k_ => some k_ ≠ (s_.1 : Value).ownBlock) u3 x3_1) ∧ (∃ c_, (s_.1 : Value) = .slice (some s_.2) y185.length c_) ∧ (zh_ w0 w' g s0_0 t182 t183 t184) ∧ (zs_ w w' g none) ∧ (Below w0.heap.size w0 w')) ?_ ?_
               rotate_left
               ·
                intro hJ0
                refine join_ (σ := Unit) 6 #[false, true, false, false, true, true, false, false, false] (fun s_ => [(19, .bool t189)]) (fun s_ w' => (Kd.S k97 97 w' w.heap.size (fun _ => True) u3 x3_1) ∧ (zh_ w0 w' g s0_0 t190 t191 t192) ∧ (zs_ w w' g none) ∧ (Below w0.heap.size w0 w')) ?_ ?_
                rotate_left
                ·
                 intro hJ5
                 refine join_ (σ := Nat) 6 #[false, true, false, false, true, false, false, true, false] (fun s_ => [(5, .pointer (some ⟨s_, 0, none⟩))]) (fun s_ w' => (Kd.S k97 97 w' w.heap.size (fun k_ => k_ ≠ s_) u3 x3_1) ∧ (w'.heap[s_]? = some (.cells #[.string (⟨#[]⟩ : ByteArray), .bool false, .int .i64 0, .slice none 0 0] 97 (0, 0))) ∧ (w.heap.size ≤ s_) ∧ (w0.heap.size ≤ s_) ∧ (g ≠ s_) ∧ (s_ ≠ g) ∧ (zh_ w0 w' g s0_0 t182 t183 t184) ∧ (zs_ w w' g none) ∧ (Below w0.heap.size w0 w')) ?_ ?_
                 rotate_left
                 ·
                  intro hJ7
                  refine three_ (i := 0) (j := 5) (k := 7) (Ni := some 14) (Nj := some 19) (Nk := some 5) #[true, true, false, false, true, false, false, false, false] #[false, true, false, false, true, true, false, false, false] #[false, true, false, false, true, false, false, true, false] rfl rfl rfl rfl rfl rfl (three_of HT_.out (by kernel_rfl)) (by decide) (by decide) (by decide) (fun K hK => ?_) (fun K hK => ?_) (fun K hK => ?_)
                  ·
                   skip
                   refine Kd.R_lit_step Kd.string _ 9 ?hgL1 (N := 14) ?hdL1 (xs := ([(⟨#[97]⟩ : ByteArray), (⟨#[98, 45, 50]⟩ : ByteArray), (⟨#[99]⟩ : ByteArray), (⟨#[100, 100]⟩ : ByteArray)] : List ByteArray)) (inner := [.string (⟨#[97]⟩ : ByteArray), .string (⟨#[98, 45, 50]⟩ : ByteArray), .string (⟨#[99]⟩ : ByteArray), .string (⟨#[100, 100]⟩ : ByteArray)]) (ok := fun _ => True) (okp := fun _ => True) ?hrL1 ?hpL1 (fun _ hk => hk) trivial (Below.refl _ _) (Nat.le_refl _) (by simp) ?_; (case hdL1 => rfl); (case hgL1 => rfl); (case hrL1 => first | (go_simp; done) | (go_simp; rfl)); (case hpL1 => exact (Reps.one (show Kd.M Kd.string _ _ _ (⟨#[97]⟩ : ByteArray) [.string (⟨#[97]⟩ : ByteArray)] from rfl) (Reps.one (show Kd.M Kd.string _ _ _ (⟨#[98, 45, 50]⟩ : ByteArray) [.string (⟨#[98, 45, 50]⟩ : ByteArray)] from rfl) (Reps.one (show Kd.M Kd.string _ _ _ (⟨#[99]⟩ : ByteArray) [.string (⟨#[99]⟩ : ByteArray)] from rfl) (Reps.one (show Kd.M Kd.string _ _ _ (⟨#[100, 100]⟩ : ByteArray) [.string (⟨#[100, 100]⟩ : ByteArray)] from rfl) (Reps.none _ _))))))
                   intro v186 w14 ho15 hb hg_ hnew_
                   clear hg_ hnew_
                   (first | rw [← Ny185.out] at ho15 | (simp only [Int.reduceToNat] at ho15; rw [← Ny185.out] at ho15))
                   replace HO_3 := AM (Kd.S_elder' (ks_ HO_3.out) (Kd.R_base ho15) hb)
                   have HO187 := AM (Kd.yE_ ho15 (zF_ (w := w) (g := g) (row := none) kp_))
                   replace HK := AM (kb_ w g hb)
                   replace HB := AM (zg_ (belg_ (zh_.ge HI0.out)) hb)
                   replace HI0 := AM (zh_.below zA_ hb)
                   clear hb ho15
                   obtain ⟨Ao16, co16, eo16⟩ := Kd.yA_ HO187.out
                   subst eo16
                   obtain ⟨ado16, fo16, _⟩ := Kd.y4_ (Kd.yI_ HO187.out).2.2 0 (by decide) (by rw [Ny185.out]; simp)
                   cases fo16
                   refine hK.out _ _ trivial (fun hHeld => ?_)
                   clear hK K
                   refine nm_ ?_
                   refine pu_ HT_ 2 (some 16) (bA 9 23) ?_
                   exact nrm_ (hJ0 (.slice (some ado16) y185.length co16, ado16) _ ⟨(ro_ HO187.out), (by (with_reducible repeat (first | apply Kd.ye_ | apply Kd.yd_ | apply Kd.yi_)); exact Kd.zR_ HO_3.out (fun _ hk => hk.2)), ⟨_, rfl⟩, zA_, kp_, (belg_ (zh_.ge HI0.out))⟩)
                  ·
                   skip
                   refine go1_ Try.func68 #[.pointer (some ⟨g, 0, none⟩), .int .i64 3] ?_
                   with_reducible refine (zK_.calls g s0_0 t182 t183 t184 3 t189 t190 t191 t192 w0 _ ?side1 ?side2 A10.out).mono ?_
                   (case side1 => exact zA_)
                   (case side2 => exact belg_ (zh_.ge HI0.out))
                   rintro e w14 ⟨rfl, hi, hb, hk⟩
                   refine ⟨_, rfl, ?_⟩
                   replace HO_3 := AM (Kd.zR_ (Kd.yT_ (zh_.apartS (show zh_ w0 _ g s0_0 t182 t183 t184 from zA_) (ks_ HO_3.out) (by decide)) hk (fun _ h => h.2)) (fun _ h => h.1))
                   replace HK := AM (kk_ w hk)
                   replace HB := AM hb
                   replace HI0 := AM hi
                   (try clear hb); (try clear hk); (try clear hi)
                   refine hK.out _ _ trivial (fun hHeld => ?_)
                   clear hK K
                   refine nm_ ?_
                   exact nrm_ (hJ5 () _ ⟨(ks_ HO_3.out), zA_, kp_, (belg_ (zh_.ge HI0.out))⟩)
                  ·
                   skip
                   refine bs_ 5 #[.string (⟨#[]⟩ : ByteArray), .bool false, .int .i64 0, .slice none 0 0] 97 ?_
                   intro gb193 hg w14 hbox hb
                   replace HO_3 := AM (Kd.yB_ (Kd.S_elderB (ks_ HO_3.out) gb193 (Nat.le_of_eq hg.symm)) hb)
                   replace HB := AM (zg_ (belg_ (zh_.ge HI0.out)) hb)
                   have BK193 := AM hbox
                   have GW193 := AM ((by rw [hg]; exact (zF_ (w := w) (g := g) (row := none) kp_) : w.heap.size ≤ gb193))
                   have GE193 := AM ((Nat.le_trans HW0.out (by rw [hg]; exact (zF_ (w := w) (g := g) (row := none) kp_) : w.heap.size ≤ gb193) : w0.heap.size ≤ gb193))
                   replace HK := AM (kb_ w g hb)
                   have NB0_193 := AM ((by rw [hg]; exact Nat.ne_of_lt (zh_.lt (show zh_ w0 _ g s0_0 t182 t183 t184 from zA_)) : g ≠ gb193))
                   have NB193_0 := AM ((by rw [hg]; exact Nat.ne_of_gt (zh_.lt (show zh_ w0 _ g s0_0 t182 t183 t184 from zA_)) : gb193 ≠ g))
                   replace HI0 := AM (zh_.below zA_ hb)
                   clear hb hbox hg
                   refine hK.out _ _ trivial (fun hHeld => ?_)
                   clear hK K
                   refine nm_ ?_
                   exact nrm_ (hJ7 (gb193) _ ⟨(by (with_reducible repeat (first | apply Kd.ye_ | apply Kd.yd_ | apply Kd.yi_)); exact Kd.zR_ HO_3.out (fun _ hk => hk.2)), (bk_ BK193.out), GW193.out, GE193.out, NB0_193.out, NB193_0.out, zA_, kp_, (belg_ (zh_.ge HI0.out))⟩)
                 ·
                  skip
                  rintro gb193 w15 ⟨h0_, h1_, h2_, h3_, h4_, h5_, h6_, h7_, h8_⟩
                  replace HO_3 : zd_ (Kd.S k97 97 w15 w.heap.size (fun k_ => k_ ≠ gb193) u3 x3_1) := ⟨h0_⟩
                  have BK193 : zd_ (w15.heap[gb193]? = some (.cells #[.string (⟨#[]⟩ : ByteArray), .bool false, .int .i64 0, .slice none 0 0] 97 (0, 0))) := ⟨h1_⟩
                  have GW193 : zd_ (w.heap.size ≤ gb193) := ⟨h2_⟩
                  have GE193 : zd_ (w0.heap.size ≤ gb193) := ⟨h3_⟩
                  have NB0_193 : zd_ (g ≠ gb193) := ⟨h4_⟩
                  have NB193_0 : zd_ (gb193 ≠ g) := ⟨h5_⟩
                  replace HI0 : zd_ (zh_ w0 w15 g s0_0 t182 t183 t184) := ⟨h6_⟩
                  replace HK : zd_ (zs_ w w15 g none) := ⟨h7_⟩
                  replace HB : zd_ (Below w0.heap.size w0 w15) := ⟨h8_⟩
                  clear h0_ h1_ h2_ h3_ h4_ h5_ h6_ h7_ h8_
                  have hHeld := trivial
                  refine nmA_ ?_
                  refine tw_ HT_ 0 5 (some 14) (some 19) (bA 9 147) (bA 9 178) (fun K hK => ?_) (fun K hK => ?_)
                  ·
                   skip
                   refine Kd.R_lit_step Kd.string _ 9 ?hgL2 (N := 14) ?hdL2 (xs := ([(⟨#[97]⟩ : ByteArray), (⟨#[98, 45, 50]⟩ : ByteArray), (⟨#[99]⟩ : ByteArray), (⟨#[100, 100]⟩ : ByteArray)] : List ByteArray)) (inner := [.string (⟨#[97]⟩ : ByteArray), .string (⟨#[98, 45, 50]⟩ : ByteArray), .string (⟨#[99]⟩ : ByteArray), .string (⟨#[100, 100]⟩ : ByteArray)]) (ok := fun _ => True) (okp := fun _ => True) ?hrL2 ?hpL2 (fun _ hk => hk) trivial (Below.refl _ _) (Nat.le_refl _) (by simp) ?_; (case hdL2 => rfl); (case hgL2 => rfl); (case hrL2 => first | (go_simp; done) | (go_simp; rfl)); (case hpL2 => exact (Reps.one (show Kd.M Kd.string _ _ _ (⟨#[97]⟩ : ByteArray) [.string (⟨#[97]⟩ : ByteArray)] from rfl) (Reps.one (show Kd.M Kd.string _ _ _ (⟨#[98, 45, 50]⟩ : ByteArray) [.string (⟨#[98, 45, 50]⟩ : ByteArray)] from rfl) (Reps.one (show Kd.M Kd.string _ _ _ (⟨#[99]⟩ : ByteArray) [.string (⟨#[99]⟩ : ByteArray)] from rfl) (Reps.one (show Kd.M Kd.string _ _ _ (⟨#[100, 100]⟩ : ByteArray) [.string (⟨#[100, 100]⟩ : ByteArray)] from rfl) (Reps.none _ _))))))
                   intro v186 w16 ho17 hb hg_ hnew_
                   clear hg_ hnew_
                   (first | rw [← Ny185.out] at ho17 | (simp only [Int.reduceToNat] at ho17; rw [← Ny185.out] at ho17))
                   replace HO_3 := AM (Kd.S_elder' (ks_ HO_3.out) (Kd.R_base ho17) hb)
                   have HO187 := AM (Kd.yE_ ho17 (zF_ (w := w) (g := g) (row := none) kp_))
                   replace BK193 := AM (zP_ (g := gb193) (o := .cells #[.string (⟨#[]⟩ : ByteArray), .bool false, .int .i64 0, .slice none 0 0] 97 (0, 0)) (bk_ BK193.out) hb)
                   replace HK := AM (kb_ w g hb)
                   replace HB := AM (zg_ (belg_ (zh_.ge HI0.out)) hb)
                   replace HI0 := AM (zh_.below zA_ hb)
                   clear hb ho17
                   obtain ⟨Ao18, co18, eo18⟩ := Kd.yA_ HO187.out
                   subst eo18
                   obtain ⟨ado18, fo18, _⟩ := Kd.y4_ (Kd.yI_ HO187.out).2.2 0 (by decide) (by rw [Ny185.out]; simp)
                   cases fo18
                   refine hK.out _ _ trivial (fun hHeld => ?_)
                   clear hK K
                   refine nm_ ?_
                   refine pu_ HT_ 2 (some 16) (bA 9 151) ?_
                   exact nrm_ (hJ0_7 (.slice (some ado18) y185.length co18, ado18, gb193) _ ⟨(ro_ HO187.out), (by (with_reducible repeat (first | apply Kd.ye_ | apply Kd.yd_ | apply Kd.yi_)); exact Kd.zR_ HO_3.out (fun _ hk => ⟨hk.2, hk.1⟩)), ⟨_, rfl⟩, (bk_ BK193.out), GW193.out, GE193.out, NB0_193.out, NB193_0.out, zA_, kp_, (belg_ (zh_.ge HI0.out))⟩)
                  ·
                   skip
                   refine go1_ Try.func68 #[.pointer (some ⟨g, 0, none⟩), .int .i64 3] ?_
                   with_reducible refine (zK_.calls g s0_0 t182 t183 t184 3 t189 t190 t191 t192 w0 _ ?side1 ?side2 A10.out).mono ?_
                   (case side1 => exact zA_)
                   (case side2 => exact belg_ (zh_.ge HI0.out))
                   rintro e w16 ⟨rfl, hi, hb, hk⟩
                   refine ⟨_, rfl, ?_⟩
                   replace HO_3 := AM (Kd.zR_ (Kd.yT_ (zh_.apartS (show zh_ w0 _ g s0_0 t182 t183 t184 from zA_) (ks_ HO_3.out) (by decide)) hk (fun _ h => h.2)) (fun _ h => h.1))
                   replace BK193 := AM (zs_.blk hk (g' := gb193) (o := .cells #[.string (⟨#[]⟩ : ByteArray), .bool false, .int .i64 0, .slice none 0 0] 97 (0, 0)) (bk_ BK193.out) NB193_0.out (by simp))
                   replace HK := AM (kk_ w hk)
                   replace HB := AM hb
                   replace HI0 := AM hi
                   (try clear hb); (try clear hk); (try clear hi)
                   refine hK.out _ _ trivial (fun hHeld => ?_)
                   clear hK K
                   refine nm_ ?_
                   exact nrm_ (hJ5_7 (gb193) _ ⟨(ks_ HO_3.out), (bk_ BK193.out), GW193.out, GE193.out, NB0_193.out, NB193_0.out, zA_, kp_, (belg_ (zh_.ge HI0.out))⟩)
                ·
                 skip
                 rintro _ w15 ⟨h0_, h1_, h2_, h3_⟩
                 replace HO_3 : zd_ (Kd.S k97 97 w15 w.heap.size (fun _ => True) u3 x3_1) := ⟨h0_⟩
                 replace HI0 : zd_ (zh_ w0 w15 g s0_0 t190 t191 t192) := ⟨h1_⟩
                 replace HK : zd_ (zs_ w w15 g none) := ⟨h2_⟩
                 replace HB : zd_ (Below w0.heap.size w0 w15) := ⟨h3_⟩
                 clear h0_ h1_ h2_ h3_
                 have hHeld := trivial
                 refine nmA_ ?_
                 refine tw_ HT_ 0 7 (some 14) (some 5) (bA 9 51) (bA 9 178) (fun K hK => ?_) (fun K hK => ?_)
                 ·
                  skip
                  refine Kd.R_lit_step Kd.string _ 9 ?hgL3 (N := 14) ?hdL3 (xs := ([(⟨#[97]⟩ : ByteArray), (⟨#[98, 45, 50]⟩ : ByteArray), (⟨#[99]⟩ : ByteArray), (⟨#[100, 100]⟩ : ByteArray)] : List ByteArray)) (inner := [.string (⟨#[97]⟩ : ByteArray), .string (⟨#[98, 45, 50]⟩ : ByteArray), .string (⟨#[99]⟩ : ByteArray), .string (⟨#[100, 100]⟩ : ByteArray)]) (ok := fun _ => True) (okp := fun _ => True) ?hrL3 ?hpL3 (fun _ hk => hk) trivial (Below.refl _ _) (Nat.le_refl _) (by simp) ?_; (case hdL3 => rfl); (case hgL3 => rfl); (case hrL3 => first | (go_simp; done) | (go_simp; rfl)); (case hpL3 => exact (Reps.one (show Kd.M Kd.string _ _ _ (⟨#[97]⟩ : ByteArray) [.string (⟨#[97]⟩ : ByteArray)] from rfl) (Reps.one (show Kd.M Kd.string _ _ _ (⟨#[98, 45, 50]⟩ : ByteArray) [.string (⟨#[98, 45, 50]⟩ : ByteArray)] from rfl) (Reps.one (show Kd.M Kd.string _ _ _ (⟨#[99]⟩ : ByteArray) [.string (⟨#[99]⟩ : ByteArray)] from rfl) (Reps.one (show Kd.M Kd.string _ _ _ (⟨#[100, 100]⟩ : ByteArray) [.string (⟨#[100, 100]⟩ : ByteArray)] from rfl) (Reps.none _ _))))))
                  intro v186 w16 ho17 hb hg_ hnew_
                  clear hg_ hnew_
                  (first | rw [← Ny185.out] at ho17 | (simp only [Int.reduceToNat] at ho17; rw [← Ny185.out] at ho17))
                  replace HO_3 := AM (Kd.S_elder' (ks_ HO_3.out) (Kd.R_base ho17) hb)
                  have HO187 := AM (Kd.yE_ ho17 (zF_ (w := w) (g := g) (row := none) kp_))
                  replace HK := AM (kb_ w g hb)
                  replace HB := AM (zg_ (belg_ (zh_.ge HI0.out)) hb)
                  replace HI0 := AM (zh_.below zA_ hb)
                  clear hb ho17
                  obtain ⟨Ao18, co18, eo18⟩ := Kd.yA_ HO187.out
                  subst eo18
                  obtain ⟨ado18, fo18, _⟩ := Kd.y4_ (Kd.yI_ HO187.out).2.2 0 (by decide) (by rw [Ny185.out]; simp)
                  cases fo18
                  refine hK.out _ _ trivial (fun hHeld => ?_)
                  clear hK K
                  refine nm_ ?_
                  refine pu_ HT_ 2 (some 16) (bA 9 55) ?_
                  exact nrm_ (hJ0_5 (.slice (some ado18) y185.length co18, ado18) _ ⟨(ro_ HO187.out), (by (with_reducible repeat (first | apply Kd.ye_ | apply Kd.yd_ | apply Kd.yi_)); exact Kd.zR_ HO_3.out (fun _ hk => hk.2)), ⟨_, rfl⟩, zA_, kp_, (belg_ (zh_.ge HI0.out))⟩)
                 ·
                  skip
                  refine bs_ 5 #[.string (⟨#[]⟩ : ByteArray), .bool false, .int .i64 0, .slice none 0 0] 97 ?_
                  intro gb193 hg w16 hbox hb
                  replace HO_3 := AM (Kd.yB_ (Kd.S_elderB (ks_ HO_3.out) gb193 (Nat.le_of_eq hg.symm)) hb)
                  replace HB := AM (zg_ (belg_ (zh_.ge HI0.out)) hb)
                  have BK193 := AM hbox
                  have GW193 := AM ((by rw [hg]; exact (zF_ (w := w) (g := g) (row := none) kp_) : w.heap.size ≤ gb193))
                  have GE193 := AM ((Nat.le_trans HW0.out (by rw [hg]; exact (zF_ (w := w) (g := g) (row := none) kp_) : w.heap.size ≤ gb193) : w0.heap.size ≤ gb193))
                  replace HK := AM (kb_ w g hb)
                  have NB0_193 := AM ((by rw [hg]; exact Nat.ne_of_lt (zh_.lt (show zh_ w0 _ g s0_0 t190 t191 t192 from zA_)) : g ≠ gb193))
                  have NB193_0 := AM ((by rw [hg]; exact Nat.ne_of_gt (zh_.lt (show zh_ w0 _ g s0_0 t190 t191 t192 from zA_)) : gb193 ≠ g))
                  replace HI0 := AM (zh_.below zA_ hb)
                  clear hb hbox hg
                  refine hK.out _ _ trivial (fun hHeld => ?_)
                  clear hK K
                  refine nm_ ?_
                  exact nrm_ (hJ5_7 (gb193) _ ⟨(by (with_reducible repeat (first | apply Kd.ye_ | apply Kd.yd_ | apply Kd.yi_)); exact Kd.zR_ HO_3.out (fun _ hk => hk.2)), (bk_ BK193.out), GW193.out, GE193.out, NB0_193.out, NB193_0.out, zA_, kp_, (belg_ (zh_.ge HI0.out))⟩)
               ·
                skip
                rintro ⟨v186, adz_v186⟩ w17 ⟨h0_, h1_, h2_, h3_, h4_, h5_⟩
                have HO187 : zd_ (Kd.R Kd.string 9 w17 w.heap.size (fun _ => True) v186 y185) := ⟨h0_⟩
                replace HO_3 : zd_ (Kd.S k97 97 w17 w.heap.size (fun k_ => some k_ ≠ (v186 : Value).ownBlock) u3 x3_1) := ⟨h1_⟩
                have HA_HO187 : zd_ (∃ c_, (v186 : Value) = .slice (some adz_v186) y185.length c_) := ⟨h2_⟩
                replace HI0 : zd_ (zh_ w0 w17 g s0_0 t182 t183 t184) := ⟨h3_⟩
                replace HK : zd_ (zs_ w w17 g none) := ⟨h4_⟩
                replace HB : zd_ (Below w0.heap.size w0 w17) := ⟨h5_⟩
                clear h0_ h1_ h2_ h3_ h4_ h5_
                have hHeld := trivial
                obtain ⟨co18, eo18⟩ := HA_HO187.out
                clear HA_HO187
                subst eo18
                refine nmA_ ?_
                refine three_ (i := 3) (j := 5) (k := 7) (Ni := some 17) (Nj := some 19) (Nk := some 5) #[true, true, true, true, true, false, false, false, false] #[true, true, true, false, true, true, false, false, false] #[true, true, true, false, true, false, false, true, false] rfl rfl rfl rfl rfl rfl (three_of HT_.out (by kernel_rfl)) (by decide) (by decide) (by decide) (fun K hK => ?_) (fun K hK => ?_) (fun K hK => ?_)
                ·
                 skip
                 (have p188 : 0 ≤ (x4_1 : Int) := of_decide_eq_true asm_; have q188 : x4_1 < (y185.length : Int) := of_decide_eq_true asm_; obtain ⟨ad188, e188, hx188_0⟩ := Kd.y4_ (Kd.yI_ HO187.out).2.2 x4_1 p188 q188; obtain rfl : adz_v186 = ad188 := (by injection e188))
                 refine value_ (w1 := ?_) (v := ?_) (by rfl) rfl ?_ ?_
                 rotate_left 2
                 ·
                  go_simp
                  constructor
                  · rfl
                  · rfl
                 clear hx188_0
                 refine hK.out _ _ trivial (fun hHeld => ?_)
                 clear hK K
                 refine nm_ ?_
                 exact nrm_ (hJ0_3 (.slice (some adz_v186) y185.length co18, adz_v186) _ ⟨(ro_ HO187.out), (ks_ HO_3.out), ⟨_, rfl⟩, zA_, kp_, (belg_ (zh_.ge HI0.out))⟩)
                ·
                 skip
                 refine go1_ Try.func68 #[.pointer (some ⟨g, 0, none⟩), .int .i64 3] ?_
                 with_reducible refine (zK_.calls g s0_0 t182 t183 t184 3 t189 t190 t191 t192 w0 _ ?side1 ?side2 A10.out).mono ?_
                 (case side1 => exact zA_)
                 (case side2 => exact belg_ (zh_.ge HI0.out))
                 rintro e w19 ⟨rfl, hi, hb, hk⟩
                 refine ⟨_, rfl, ?_⟩
                 replace HO_3 := AM (Kd.zR_ (Kd.yT_ (zh_.apartS (show zh_ w0 _ g s0_0 t182 t183 t184 from zA_) (ks_ HO_3.out) (by decide)) hk (fun _ h => h.2)) (fun _ h => h.1))
                 replace HO187 := AM (Kd.z9_ (Kd.xA_ (zh_.apart (show zh_ w0 _ g s0_0 t182 t183 t184 from zA_) (ro_ HO187.out) (by decide)) hk (fun _ h => h.2)) (fun _ h => h.1))
                 replace HK := AM (kk_ w hk)
                 replace HB := AM hb
                 replace HI0 := AM hi
                 (try clear hb); (try clear hk); (try clear hi)
                 refine hK.out _ _ trivial (fun hHeld => ?_)
                 clear hK K
                 refine nm_ ?_
                 exact nrm_ (hJ0_5 (.slice (some adz_v186) y185.length co18, adz_v186) _ ⟨(ro_ HO187.out), (ks_ HO_3.out), ⟨_, rfl⟩, zA_, kp_, (belg_ (zh_.ge HI0.out))⟩)
                ·
                 skip
                 refine bs_ 5 #[.string (⟨#[]⟩ : ByteArray), .bool false, .int .i64 0, .slice none 0 0] 97 ?_
                 intro gb193 hg w19 hbox hb
                 replace HO_3 := AM (Kd.yB_ (Kd.S_elderB (ks_ HO_3.out) gb193 (Nat.le_of_eq hg.symm)) hb)
                 replace HO187 := AM (Kd.yO_ (ro_ HO187.out) hb)
                 replace HB := AM (zg_ (belg_ (zh_.ge HI0.out)) hb)
                 have BK193 := AM hbox
                 have GW193 := AM ((by rw [hg]; exact (zF_ (w := w) (g := g) (row := none) kp_) : w.heap.size ≤ gb193))
                 have GE193 := AM ((Nat.le_trans HW0.out (by rw [hg]; exact (zF_ (w := w) (g := g) (row := none) kp_) : w.heap.size ≤ gb193) : w0.heap.size ≤ gb193))
                 replace HK := AM (kb_ w g hb)
                 have NB0_193 := AM ((by rw [hg]; exact Nat.ne_of_lt (zh_.lt (show zh_ w0 _ g s0_0 t182 t183 t184 from zA_)) : g ≠ gb193))
                 have NB193_0 := AM ((by rw [hg]; exact Nat.ne_of_gt (zh_.lt (show zh_ w0 _ g s0_0 t182 t183 t184 from zA_)) : gb193 ≠ g))
                 replace HI0 := AM (zh_.below zA_ hb)
                 clear hb hbox hg
                 refine hK.out _ _ trivial (fun hHeld => ?_)
                 clear hK K
                 refine nm_ ?_
                 exact nrm_ (hJ0_7 (.slice (some adz_v186) y185.length co18, adz_v186, gb193) _ ⟨(ro_ HO187.out), (ks_ HO_3.out), ⟨_, rfl⟩, (bk_ BK193.out), GW193.out, GE193.out, NB0_193.out, NB193_0.out, zA_, kp_, (belg_ (zh_.ge HI0.out))⟩)
              ·
               skip
               rintro gb193 w16 ⟨h0_, h1_, h2_, h3_, h4_, h5_, h6_, h7_, h8_⟩
               replace HO_3 : zd_ (Kd.S k97 97 w16 w.heap.size (fun k_ => k_ ≠ gb193) u3 x3_1) := ⟨h0_⟩
               have BK193 : zd_ (w16.heap[gb193]? = some (.cells #[.string (⟨#[]⟩ : ByteArray), .bool false, .int .i64 0, .slice none 0 0] 97 (0, 0))) := ⟨h1_⟩
               have GW193 : zd_ (w.heap.size ≤ gb193) := ⟨h2_⟩
               have GE193 : zd_ (w0.heap.size ≤ gb193) := ⟨h3_⟩
               have NB0_193 : zd_ (g ≠ gb193) := ⟨h4_⟩
               have NB193_0 : zd_ (gb193 ≠ g) := ⟨h5_⟩
               replace HI0 : zd_ (zh_ w0 w16 g s0_0 t190 t191 t192) := ⟨h6_⟩
               replace HK : zd_ (zs_ w w16 g none) := ⟨h7_⟩
               replace HB : zd_ (Below w0.heap.size w0 w16) := ⟨h8_⟩
               clear h0_ h1_ h2_ h3_ h4_ h5_ h6_ h7_ h8_
               have hHeld := trivial
               refine nmA_ ?_
               refine on_ HT_ 0 (some 14) (bA 9 179) (fun K hK => ?_)
               refine Kd.R_lit_step Kd.string _ 9 ?hgL4 (N := 14) ?hdL4 (xs := ([(⟨#[97]⟩ : ByteArray), (⟨#[98, 45, 50]⟩ : ByteArray), (⟨#[99]⟩ : ByteArray), (⟨#[100, 100]⟩ : ByteArray)] : List ByteArray)) (inner := [.string (⟨#[97]⟩ : ByteArray), .string (⟨#[98, 45, 50]⟩ : ByteArray), .string (⟨#[99]⟩ : ByteArray), .string (⟨#[100, 100]⟩ : ByteArray)]) (ok := fun _ => True) (okp := fun _ => True) ?hrL4 ?hpL4 (fun _ hk => hk) trivial (Below.refl _ _) (Nat.le_refl _) (by simp) ?_; (case hdL4 => rfl); (case hgL4 => rfl); (case hrL4 => first | (go_simp; done) | (go_simp; rfl)); (case hpL4 => exact (Reps.one (show Kd.M Kd.string _ _ _ (⟨#[97]⟩ : ByteArray) [.string (⟨#[97]⟩ : ByteArray)] from rfl) (Reps.one (show Kd.M Kd.string _ _ _ (⟨#[98, 45, 50]⟩ : ByteArray) [.string (⟨#[98, 45, 50]⟩ : ByteArray)] from rfl) (Reps.one (show Kd.M Kd.string _ _ _ (⟨#[99]⟩ : ByteArray) [.string (⟨#[99]⟩ : ByteArray)] from rfl) (Reps.one (show Kd.M Kd.string _ _ _ (⟨#[100, 100]⟩ : ByteArray) [.string (⟨#[100, 100]⟩ : ByteArray)] from rfl) (Reps.none _ _))))))
               intro v186 w17 ho18 hb hg_ hnew_
               clear hg_ hnew_
               (first | rw [← Ny185.out] at ho18 | (simp only [Int.reduceToNat] at ho18; rw [← Ny185.out] at ho18))
               replace HO_3 := AM (Kd.S_elder' (ks_ HO_3.out) (Kd.R_base ho18) hb)
               have HO187 := AM (Kd.yE_ ho18 (zF_ (w := w) (g := g) (row := none) kp_))
               replace BK193 := AM (zP_ (g := gb193) (o := .cells #[.string (⟨#[]⟩ : ByteArray), .bool false, .int .i64 0, .slice none 0 0] 97 (0, 0)) (bk_ BK193.out) hb)
               replace HK := AM (kb_ w g hb)
               replace HB := AM (zg_ (belg_ (zh_.ge HI0.out)) hb)
               replace HI0 := AM (zh_.below zA_ hb)
               clear hb ho18
               obtain ⟨Ao19, co19, eo19⟩ := Kd.yA_ HO187.out
               subst eo19
               obtain ⟨ado19, fo19, _⟩ := Kd.y4_ (Kd.yI_ HO187.out).2.2 0 (by decide) (by rw [Ny185.out]; simp)
               cases fo19
               refine hK.out _ _ trivial (fun hHeld => ?_)
               clear hK K
               refine nm_ ?_
               refine pu_ HT_ 2 (some 16) (bA 9 183) ?_
               exact nrm_ (hJ0_5_7 (.slice (some ado19) y185.length co19, ado19, gb193) _ ⟨(ro_ HO187.out), (by (with_reducible repeat (first | apply Kd.ye_ | apply Kd.yd_ | apply Kd.yi_)); exact Kd.zR_ HO_3.out (fun _ hk => ⟨hk.2, hk.1⟩)), ⟨_, rfl⟩, (bk_ BK193.out), GW193.out, GE193.out, NB0_193.out, NB193_0.out, zA_, kp_, (belg_ (zh_.ge HI0.out))⟩)
             ·
              skip
              rintro ⟨v186, adz_v186, gb193⟩ w18 ⟨h0_, h1_, h2_, h3_, h4_, h5_, h6_, h7_, h8_, h9_, h10_⟩
              have HO187 : zd_ (Kd.R Kd.string 9 w18 w.heap.size (fun _ => True) v186 y185) := ⟨h0_⟩
              replace HO_3 : zd_ (Kd.S k97 97 w18 w.heap.size (fun k_ => some k_ ≠ (v186 : Value).ownBlock ∧ k_ ≠ gb193) u3 x3_1) := ⟨h1_⟩
              have HA_HO187 : zd_ (∃ c_, (v186 : Value) = .slice (some adz_v186) y185.length c_) := ⟨h2_⟩
              have BK193 : zd_ (w18.heap[gb193]? = some (.cells #[.string (⟨#[]⟩ : ByteArray), .bool false, .int .i64 0, .slice none 0 0] 97 (0, 0))) := ⟨h3_⟩
              have GW193 : zd_ (w.heap.size ≤ gb193) := ⟨h4_⟩
              have GE193 : zd_ (w0.heap.size ≤ gb193) := ⟨h5_⟩
              have NB0_193 : zd_ (g ≠ gb193) := ⟨h6_⟩
              have NB193_0 : zd_ (gb193 ≠ g) := ⟨h7_⟩
              replace HI0 : zd_ (zh_ w0 w18 g s0_0 t182 t183 t184) := ⟨h8_⟩
              replace HK : zd_ (zs_ w w18 g none) := ⟨h9_⟩
              replace HB : zd_ (Below w0.heap.size w0 w18) := ⟨h10_⟩
              clear h0_ h1_ h2_ h3_ h4_ h5_ h6_ h7_ h8_ h9_ h10_
              have hHeld := trivial
              obtain ⟨co19, eo19⟩ := HA_HO187.out
              clear HA_HO187
              subst eo19
              refine nmA_ ?_
              refine tw_ HT_ 3 5 (some 17) (some 19) (bA 9 159) (bA 9 183) (fun K hK => ?_) (fun K hK => ?_)
              ·
               skip
               (have p188 : 0 ≤ (x4_1 : Int) := of_decide_eq_true asm_; have q188 : x4_1 < (y185.length : Int) := of_decide_eq_true asm_; obtain ⟨ad188, e188, hx188_0⟩ := Kd.y4_ (Kd.yI_ HO187.out).2.2 x4_1 p188 q188; obtain rfl : adz_v186 = ad188 := (by injection e188))
               refine value_ (w1 := ?_) (v := ?_) (by rfl) rfl ?_ ?_
               rotate_left 2
               ·
                go_simp
                constructor
                · rfl
                · rfl
               clear hx188_0
               refine hK.out _ _ trivial (fun hHeld => ?_)
               clear hK K
               refine nm_ ?_
               exact nrm_ (hJ0_3_7 (.slice (some adz_v186) y185.length co19, adz_v186, gb193) _ ⟨(ro_ HO187.out), (ks_ HO_3.out), ⟨_, rfl⟩, (bk_ BK193.out), GW193.out, GE193.out, NB0_193.out, NB193_0.out, zA_, kp_, (belg_ (zh_.ge HI0.out))⟩)
              ·
               skip
               refine go1_ Try.func68 #[.pointer (some ⟨g, 0, none⟩), .int .i64 3] ?_
               with_reducible refine (zK_.calls g s0_0 t182 t183 t184 3 t189 t190 t191 t192 w0 _ ?side1 ?side2 A10.out).mono ?_
               (case side1 => exact zA_)
               (case side2 => exact belg_ (zh_.ge HI0.out))
               rintro e w20 ⟨rfl, hi, hb, hk⟩
               refine ⟨_, rfl, ?_⟩
               replace HO_3 := AM (Kd.zR_ (Kd.yT_ (zh_.apartS (show zh_ w0 _ g s0_0 t182 t183 t184 from zA_) (ks_ HO_3.out) (by decide)) hk (fun _ h => h.2)) (fun _ h => h.1))
               replace HO187 := AM (Kd.z9_ (Kd.xA_ (zh_.apart (show zh_ w0 _ g s0_0 t182 t183 t184 from zA_) (ro_ HO187.out) (by decide)) hk (fun _ h => h.2)) (fun _ h => h.1))
               replace BK193 := AM (zs_.blk hk (g' := gb193) (o := .cells #[.string (⟨#[]⟩ : ByteArray), .bool false, .int .i64 0, .slice none 0 0] 97 (0, 0)) (bk_ BK193.out) NB193_0.out (by simp))
               replace HK := AM (kk_ w hk)
               replace HB := AM hb
               replace HI0 := AM hi
               (try clear hb); (try clear hk); (try clear hi)
               refine hK.out _ _ trivial (fun hHeld => ?_)
               clear hK K
               refine nm_ ?_
               exact nrm_ (hJ0_5_7 (.slice (some adz_v186) y185.length co19, adz_v186, gb193) _ ⟨(ro_ HO187.out), (ks_ HO_3.out), ⟨_, rfl⟩, (bk_ BK193.out), GW193.out, GE193.out, NB0_193.out, NB193_0.out, zA_, kp_, (belg_ (zh_.ge HI0.out))⟩)
            ·
             skip
             rintro ⟨v186, adz_v186⟩ w18 ⟨h0_, h1_, h2_, h3_, h4_, h5_⟩
             have HO187 : zd_ (Kd.R Kd.string 9 w18 w.heap.size (fun _ => True) v186 y185) := ⟨h0_⟩
             replace HO_3 : zd_ (Kd.S k97 97 w18 w.heap.size (fun k_ => some k_ ≠ (v186 : Value).ownBlock) u3 x3_1) := ⟨h1_⟩
             have HA_HO187 : zd_ (∃ c_, (v186 : Value) = .slice (some adz_v186) y185.length c_) := ⟨h2_⟩
             replace HI0 : zd_ (zh_ w0 w18 g s0_0 t190 t191 t192) := ⟨h3_⟩
             replace HK : zd_ (zs_ w w18 g none) := ⟨h4_⟩
             replace HB : zd_ (Below w0.heap.size w0 w18) := ⟨h5_⟩
             clear h0_ h1_ h2_ h3_ h4_ h5_
             have hHeld := trivial
             obtain ⟨co19, eo19⟩ := HA_HO187.out
             clear HA_HO187
             subst eo19
             refine nmA_ ?_
             refine tw_ HT_ 3 7 (some 17) (some 5) (bA 9 63) (bA 9 183) (fun K hK => ?_) (fun K hK => ?_)
             ·
              skip
              (have p188 : 0 ≤ (x4_1 : Int) := of_decide_eq_true asm_; have q188 : x4_1 < (y185.length : Int) := of_decide_eq_true asm_; obtain ⟨ad188, e188, hx188_0⟩ := Kd.y4_ (Kd.yI_ HO187.out).2.2 x4_1 p188 q188; obtain rfl : adz_v186 = ad188 := (by injection e188))
              refine value_ (w1 := ?_) (v := ?_) (by rfl) rfl ?_ ?_
              rotate_left 2
              ·
               go_simp
               constructor
               · rfl
               · rfl
              clear hx188_0
              refine hK.out _ _ trivial (fun hHeld => ?_)
              clear hK K
              refine nm_ ?_
              refine pu_ HT_ 6 (some 20) (bA 9 127) ?_
              exact nrm_ (hJ0_3_5 (.slice (some adz_v186) y185.length co19, adz_v186) _ ⟨(ro_ HO187.out), (ks_ HO_3.out), ⟨_, rfl⟩, zA_, kp_, (belg_ (zh_.ge HI0.out))⟩)
             ·
              skip
              refine bs_ 5 #[.string (⟨#[]⟩ : ByteArray), .bool false, .int .i64 0, .slice none 0 0] 97 ?_
              intro gb193 hg w20 hbox hb
              replace HO_3 := AM (Kd.yB_ (Kd.S_elderB (ks_ HO_3.out) gb193 (Nat.le_of_eq hg.symm)) hb)
              replace HO187 := AM (Kd.yO_ (ro_ HO187.out) hb)
              replace HB := AM (zg_ (belg_ (zh_.ge HI0.out)) hb)
              have BK193 := AM hbox
              have GW193 := AM ((by rw [hg]; exact (zF_ (w := w) (g := g) (row := none) kp_) : w.heap.size ≤ gb193))
              have GE193 := AM ((Nat.le_trans HW0.out (by rw [hg]; exact (zF_ (w := w) (g := g) (row := none) kp_) : w.heap.size ≤ gb193) : w0.heap.size ≤ gb193))
              replace HK := AM (kb_ w g hb)
              have NB0_193 := AM ((by rw [hg]; exact Nat.ne_of_lt (zh_.lt (show zh_ w0 _ g s0_0 t190 t191 t192 from zA_)) : g ≠ gb193))
              have NB193_0 := AM ((by rw [hg]; exact Nat.ne_of_gt (zh_.lt (show zh_ w0 _ g s0_0 t190 t191 t192 from zA_)) : gb193 ≠ g))
              replace HI0 := AM (zh_.below zA_ hb)
              clear hb hbox hg
              refine hK.out _ _ trivial (fun hHeld => ?_)
              clear hK K
              refine nm_ ?_
              exact nrm_ (hJ0_5_7 (.slice (some adz_v186) y185.length co19, adz_v186, gb193) _ ⟨(ro_ HO187.out), (ks_ HO_3.out), ⟨_, rfl⟩, (bk_ BK193.out), GW193.out, GE193.out, NB0_193.out, NB193_0.out, zA_, kp_, (belg_ (zh_.ge HI0.out))⟩)
           ·
            skip
            rintro ⟨v186, adz_v186⟩ w17 ⟨h0_, h1_, h2_, h3_, h4_, h5_⟩
            have HO187 : zd_ (Kd.R Kd.string 9 w17 w.heap.size (fun _ => True) v186 y185) := ⟨h0_⟩
            replace HO_3 : zd_ (Kd.S k97 97 w17 w.heap.size (fun k_ => some k_ ≠ (v186 : Value).ownBlock) u3 x3_1) := ⟨h1_⟩
            have HA_HO187 : zd_ (∃ c_, (v186 : Value) = .slice (some adz_v186) y185.length c_) := ⟨h2_⟩
            replace HI0 : zd_ (zh_ w0 w17 g s0_0 t182 t183 t184) := ⟨h3_⟩
            replace HK : zd_ (zs_ w w17 g none) := ⟨h4_⟩
            replace HB : zd_ (Below w0.heap.size w0 w17) := ⟨h5_⟩
            clear h0_ h1_ h2_ h3_ h4_ h5_
            have hHeld := trivial
            obtain ⟨co18, eo18⟩ := HA_HO187.out
            clear HA_HO187
            subst eo18
            refine nmA_ ?_
            refine tw_ HT_ 5 7 (some 19) (some 5) (bA 9 63) (bA 9 159) (fun K hK => ?_) (fun K hK => ?_)
            ·
             skip
             refine go1_ Try.func68 #[.pointer (some ⟨g, 0, none⟩), .int .i64 3] ?_
             with_reducible refine (zK_.calls g s0_0 t182 t183 t184 3 t189 t190 t191 t192 w0 _ ?side1 ?side2 A10.out).mono ?_
             (case side1 => exact zA_)
             (case side2 => exact belg_ (zh_.ge HI0.out))
             rintro e w19 ⟨rfl, hi, hb, hk⟩
             refine ⟨_, rfl, ?_⟩
             replace HO_3 := AM (Kd.zR_ (Kd.yT_ (zh_.apartS (show zh_ w0 _ g s0_0 t182 t183 t184 from zA_) (ks_ HO_3.out) (by decide)) hk (fun _ h => h.2)) (fun _ h => h.1))
             replace HO187 := AM (Kd.z9_ (Kd.xA_ (zh_.apart (show zh_ w0 _ g s0_0 t182 t183 t184 from zA_) (ro_ HO187.out) (by decide)) hk (fun _ h => h.2)) (fun _ h => h.1))
             replace HK := AM (kk_ w hk)
             replace HB := AM hb
             replace HI0 := AM hi
             (try clear hb); (try clear hk); (try clear hi)
             refine hK.out _ _ trivial (fun hHeld => ?_)
             clear hK K
             refine nm_ ?_
             refine pu_ HT_ 6 (some 20) (bA 9 127) ?_
             exact nrm_ (hJ0_3_5 (.slice (some adz_v186) y185.length co18, adz_v186) _ ⟨(ro_ HO187.out), (ks_ HO_3.out), ⟨_, rfl⟩, zA_, kp_, (belg_ (zh_.ge HI0.out))⟩)
            ·
             skip
             refine bs_ 5 #[.string (⟨#[]⟩ : ByteArray), .bool false, .int .i64 0, .slice none 0 0] 97 ?_
             intro gb193 hg w19 hbox hb
             replace HO_3 := AM (Kd.yB_ (Kd.S_elderB (ks_ HO_3.out) gb193 (Nat.le_of_eq hg.symm)) hb)
             replace HO187 := AM (Kd.yO_ (ro_ HO187.out) hb)
             replace HB := AM (zg_ (belg_ (zh_.ge HI0.out)) hb)
             have BK193 := AM hbox
             have GW193 := AM ((by rw [hg]; exact (zF_ (w := w) (g := g) (row := none) kp_) : w.heap.size ≤ gb193))
             have GE193 := AM ((Nat.le_trans HW0.out (by rw [hg]; exact (zF_ (w := w) (g := g) (row := none) kp_) : w.heap.size ≤ gb193) : w0.heap.size ≤ gb193))
             replace HK := AM (kb_ w g hb)
             have NB0_193 := AM ((by rw [hg]; exact Nat.ne_of_lt (zh_.lt (show zh_ w0 _ g s0_0 t182 t183 t184 from zA_)) : g ≠ gb193))
             have NB193_0 := AM ((by rw [hg]; exact Nat.ne_of_gt (zh_.lt (show zh_ w0 _ g s0_0 t182 t183 t184 from zA_)) : gb193 ≠ g))
             replace HI0 := AM (zh_.below zA_ hb)
             clear hb hbox hg
             refine hK.out _ _ trivial (fun hHeld => ?_)
             clear hK K
             refine nm_ ?_
             exact nrm_ (hJ0_3_7 (.slice (some adz_v186) y185.length co18, adz_v186, gb193) _ ⟨(ro_ HO187.out), (ks_ HO_3.out), ⟨_, rfl⟩, (bk_ BK193.out), GW193.out, GE193.out, NB0_193.out, NB193_0.out, zA_, kp_, (belg_ (zh_.ge HI0.out))⟩)
          ·
           skip
           rintro ⟨v186, adz_v186, gb193⟩ w19 ⟨h0_, h1_, h2_, h3_, h4_, h5_, h6_, h7_, h8_, h9_, h10_⟩
           have HO187 : zd_ (Kd.R Kd.string 9 w19 w.heap.size (fun _ => True) v186 y185) := ⟨h0_⟩
           replace HO_3 : zd_ (Kd.S k97 97 w19 w.heap.size (fun k_ => some k_ ≠ (v186 : Value).ownBlock ∧ k_ ≠ gb193) u3 x3_1) := ⟨h1_⟩
           have HA_HO187 : zd_ (∃ c_, (v186 : Value) = .slice (some adz_v186) y185.length c_) := ⟨h2_⟩
           have BK193 : zd_ (w19.heap[gb193]? = some (.cells #[.string (⟨#[]⟩ : ByteArray), .bool false, .int .i64 0, .slice none 0 0] 97 (0, 0))) := ⟨h3_⟩
           have GW193 : zd_ (w.heap.size ≤ gb193) := ⟨h4_⟩
           have GE193 : zd_ (w0.heap.size ≤ gb193) := ⟨h5_⟩
           have NB0_193 : zd_ (g ≠ gb193) := ⟨h6_⟩
           have NB193_0 : zd_ (gb193 ≠ g) := ⟨h7_⟩
           replace HI0 : zd_ (zh_ w0 w19 g s0_0 t190 t191 t192) := ⟨h8_⟩
           replace HK : zd_ (zs_ w w19 g none) := ⟨h9_⟩
           replace HB : zd_ (Below w0.heap.size w0 w19) := ⟨h10_⟩
           clear h0_ h1_ h2_ h3_ h4_ h5_ h6_ h7_ h8_ h9_ h10_
           have hHeld := trivial
           obtain ⟨co20, eo20⟩ := HA_HO187.out
           clear HA_HO187
           subst eo20
           refine nmA_ ?_
           refine on_ HT_ 3 (some 17) (bA 9 191) (fun K hK => ?_)
           (have p188 : 0 ≤ (x4_1 : Int) := of_decide_eq_true asm_; have q188 : x4_1 < (y185.length : Int) := of_decide_eq_true asm_; obtain ⟨ad188, e188, hx188_0⟩ := Kd.y4_ (Kd.yI_ HO187.out).2.2 x4_1 p188 q188; obtain rfl : adz_v186 = ad188 := (by injection e188))
           refine value_ (w1 := ?_) (v := ?_) (by rfl) rfl ?_ ?_
           rotate_left 2
           ·
            go_simp
            constructor
            · rfl
            · rfl
           clear hx188_0
           refine hK.out _ _ trivial (fun hHeld => ?_)
           clear hK K
           refine nm_ ?_
           refine pu_ HT_ 6 (some 20) (bA 9 255) ?_
           exact nrm_ (hJ0_3_5_7 (.slice (some adz_v186) y185.length co20, adz_v186, gb193) _ ⟨(ro_ HO187.out), (ks_ HO_3.out), ⟨_, rfl⟩, (bk_ BK193.out), GW193.out, GE193.out, NB0_193.out, NB193_0.out, zA_, kp_, (belg_ (zh_.ge HI0.out))⟩)
         ·
          skip
          rintro ⟨v186, adz_v186, gb193⟩ w18 ⟨h0_, h1_, h2_, h3_, h4_, h5_, h6_, h7_, h8_, h9_, h10_⟩
          have HO187 : zd_ (Kd.R Kd.string 9 w18 w.heap.size (fun _ => True) v186 y185) := ⟨h0_⟩
          replace HO_3 : zd_ (Kd.S k97 97 w18 w.heap.size (fun k_ => some k_ ≠ (v186 : Value).ownBlock ∧ k_ ≠ gb193) u3 x3_1) := ⟨h1_⟩
          have HA_HO187 : zd_ (∃ c_, (v186 : Value) = .slice (some adz_v186) y185.length c_) := ⟨h2_⟩
          have BK193 : zd_ (w18.heap[gb193]? = some (.cells #[.string (⟨#[]⟩ : ByteArray), .bool false, .int .i64 0, .slice none 0 0] 97 (0, 0))) := ⟨h3_⟩
          have GW193 : zd_ (w.heap.size ≤ gb193) := ⟨h4_⟩
          have GE193 : zd_ (w0.heap.size ≤ gb193) := ⟨h5_⟩
          have NB0_193 : zd_ (g ≠ gb193) := ⟨h6_⟩
          have NB193_0 : zd_ (gb193 ≠ g) := ⟨h7_⟩
          replace HI0 : zd_ (zh_ w0 w18 g s0_0 t182 t183 t184) := ⟨h8_⟩
          replace HK : zd_ (zs_ w w18 g none) := ⟨h9_⟩
          replace HB : zd_ (Below w0.heap.size w0 w18) := ⟨h10_⟩
          clear h0_ h1_ h2_ h3_ h4_ h5_ h6_ h7_ h8_ h9_ h10_
          have hHeld := trivial
          obtain ⟨co19, eo19⟩ := HA_HO187.out
          clear HA_HO187
          subst eo19
          refine nmA_ ?_
          refine on_ HT_ 5 (some 19) (bA 9 191) (fun K hK => ?_)
          refine go1_ Try.func68 #[.pointer (some ⟨g, 0, none⟩), .int .i64 3] ?_
          with_reducible refine (zK_.calls g s0_0 t182 t183 t184 3 t189 t190 t191 t192 w0 _ ?side1 ?side2 A10.out).mono ?_
          (case side1 => exact zA_)
          (case side2 => exact belg_ (zh_.ge HI0.out))
          rintro e w20 ⟨rfl, hi, hb, hk⟩
          refine ⟨_, rfl, ?_⟩
          replace HO_3 := AM (Kd.zR_ (Kd.yT_ (zh_.apartS (show zh_ w0 _ g s0_0 t182 t183 t184 from zA_) (ks_ HO_3.out) (by decide)) hk (fun _ h => h.2)) (fun _ h => h.1))
          replace HO187 := AM (Kd.z9_ (Kd.xA_ (zh_.apart (show zh_ w0 _ g s0_0 t182 t183 t184 from zA_) (ro_ HO187.out) (by decide)) hk (fun _ h => h.2)) (fun _ h => h.1))
          replace BK193 := AM (zs_.blk hk (g' := gb193) (o := .cells #[.string (⟨#[]⟩ : ByteArray), .bool false, .int .i64 0, .slice none 0 0] 97 (0, 0)) (bk_ BK193.out) NB193_0.out (by simp))
          replace HK := AM (kk_ w hk)
          replace HB := AM hb
          replace HI0 := AM hi
          (try clear hb); (try clear hk); (try clear hi)
          refine hK.out _ _ trivial (fun hHeld => ?_)
          clear hK K
          refine nm_ ?_
          refine pu_ HT_ 6 (some 20) (bA 9 255) ?_
          exact nrm_ (hJ0_3_5_7 (.slice (some adz_v186) y185.length co19, adz_v186, gb193) _ ⟨(ro_ HO187.out), (ks_ HO_3.out), ⟨_, rfl⟩, (bk_ BK193.out), GW193.out, GE193.out, NB0_193.out, NB193_0.out, zA_, kp_, (belg_ (zh_.ge HI0.out))⟩)
        ·
         skip
         rintro ⟨v186, adz_v186⟩ w18 ⟨h0_, h1_, h2_, h3_, h4_, h5_⟩
         have HO187 : zd_ (Kd.R Kd.string 9 w18 w.heap.size (fun _ => True) v186 y185) := ⟨h0_⟩
         replace HO_3 : zd_ (Kd.S k97 97 w18 w.heap.size (fun k_ => some k_ ≠ (v186 : Value).ownBlock) u3 x3_1) := ⟨h1_⟩
         have HA_HO187 : zd_ (∃ c_, (v186 : Value) = .slice (some adz_v186) y185.length c_) := ⟨h2_⟩
         replace HI0 : zd_ (zh_ w0 w18 g s0_0 t190 t191 t192) := ⟨h3_⟩
         replace HK : zd_ (zs_ w w18 g none) := ⟨h4_⟩
         replace HB : zd_ (Below w0.heap.size w0 w18) := ⟨h5_⟩
         clear h0_ h1_ h2_ h3_ h4_ h5_
         have hHeld := trivial
         obtain ⟨co19, eo19⟩ := HA_HO187.out
         clear HA_HO187
         subst eo19
         refine nmA_ ?_
         refine on_ HT_ 7 (some 5) (bA 9 255) (fun K hK => ?_)
         refine bs_ 5 #[.string (⟨#[]⟩ : ByteArray), .bool false, .int .i64 0, .slice none 0 0] 97 ?_
         intro gb193 hg w20 hbox hb
         replace HO_3 := AM (Kd.yB_ (Kd.S_elderB (ks_ HO_3.out) gb193 (Nat.le_of_eq hg.symm)) hb)
         replace HO187 := AM (Kd.yO_ (ro_ HO187.out) hb)
         replace HB := AM (zg_ (belg_ (zh_.ge HI0.out)) hb)
         have BK193 := AM hbox
         have GW193 := AM ((by rw [hg]; exact (zF_ (w := w) (g := g) (row := none) kp_) : w.heap.size ≤ gb193))
         have GE193 := AM ((Nat.le_trans HW0.out (by rw [hg]; exact (zF_ (w := w) (g := g) (row := none) kp_) : w.heap.size ≤ gb193) : w0.heap.size ≤ gb193))
         replace HK := AM (kb_ w g hb)
         have NB0_193 := AM ((by rw [hg]; exact Nat.ne_of_lt (zh_.lt (show zh_ w0 _ g s0_0 t190 t191 t192 from zA_)) : g ≠ gb193))
         have NB193_0 := AM ((by rw [hg]; exact Nat.ne_of_gt (zh_.lt (show zh_ w0 _ g s0_0 t190 t191 t192 from zA_)) : gb193 ≠ g))
         replace HI0 := AM (zh_.below zA_ hb)
         clear hb hbox hg
         refine hK.out _ _ trivial (fun hHeld => ?_)
         clear hK K
         refine nm_ ?_
         exact nrm_ (hJ0_3_5_7 (.slice (some adz_v186) y185.length co19, adz_v186, gb193) _ ⟨(ro_ HO187.out), (ks_ HO_3.out), ⟨_, rfl⟩, (bk_ BK193.out), GW193.out, GE193.out, NB0_193.out, NB193_0.out, zA_, kp_, (belg_ (zh_.ge HI0.out))⟩)
       rintro ⟨v186, adz_v186, gb193⟩ w19 ⟨h0_, h1_, h2_, h3_, h4_, h5_, h6_, h7_, h8_, h9_, h10_⟩
       have HO187 : zd_ (Kd.R Kd.string 9 w19 w.heap.size (fun _ => True) v186 y185) := ⟨h0_⟩
       replace HO_3 : zd_ (Kd.S k97 97 w19 w.heap.size (fun k_ => some k_ ≠ (v186 : Value).ownBlock ∧ k_ ≠ gb193) u3 x3_1) := ⟨h1_⟩
       have HA_HO187 : zd_ (∃ c_, (v186 : Value) = .slice (some adz_v186) y185.length c_) := ⟨h2_⟩
       have BK193 : zd_ (w19.heap[gb193]? = some (.cells #[.string (⟨#[]⟩ : ByteArray), .bool false, .int .i64 0, .slice none 0 0] 97 (0, 0))) := ⟨h3_⟩
       have GW193 : zd_ (w.heap.size ≤ gb193) := ⟨h4_⟩
       have GE193 : zd_ (w0.heap.size ≤ gb193) := ⟨h5_⟩
       have NB0_193 : zd_ (g ≠ gb193) := ⟨h6_⟩
       have NB193_0 : zd_ (gb193 ≠ g) := ⟨h7_⟩
       replace HI0 : zd_ (zh_ w0 w19 g s0_0 t190 t191 t192) := ⟨h8_⟩
       replace HK : zd_ (zs_ w w19 g none) := ⟨h9_⟩
       replace HB : zd_ (Below w0.heap.size w0 w19) := ⟨h10_⟩
       clear h0_ h1_ h2_ h3_ h4_ h5_ h6_ h7_ h8_ h9_ h10_
       have hHeld := trivial
       obtain ⟨co20, eo20⟩ := HA_HO187.out
       clear HA_HO187
       subst eo20
       refine nmA_ ?_
       refine on_ HT_ 8 none (bA 9 511) (fun K hK => ?_)
       have hs21 : w19.cell? ⟨gb193, 0, none⟩ = some (.string (⟨#[]⟩ : ByteArray)) := (zb_ BK193.out 0).trans rfl
       have hfs21 := za_ BK193.out 0
       have hs22 : w19.cell? ⟨gb193, 1, none⟩ = some (.bool false) := (zb_ BK193.out 1).trans rfl
       have hfs22 := za_ BK193.out 1
       have hs23 : w19.cell? ⟨gb193, 2, none⟩ = some (.int .i64 0) := (zb_ BK193.out 2).trans rfl
       have hfs23 := za_ BK193.out 2
       have hs24 : w19.cell? ⟨gb193, 3, none⟩ = some (.slice none 0 0) := (zb_ BK193.out 3).trans rfl
       have hfs24 := za_ BK193.out 3
       refine sk_ ?_
       refine hK.out _ _ trivial (fun hHeld => ?_)
       clear hK K
       refine dn_ HT_ ?_
       have hnb25 := NB193_0.out
       have hnc25 := NB0_193.out
       have hcz26_0 : w19.cell? ⟨gb193, 0, none⟩ = some (.string (⟨#[]⟩ : ByteArray)) := (zb_ BK193.out 0).trans rfl
       have hcz26_1 : w19.cell? ⟨gb193, 1, none⟩ = some (.bool false) := (zb_ BK193.out 1).trans rfl
       have hcz26_2 : w19.cell? ⟨gb193, 2, none⟩ = some (.int .i64 0) := (zb_ BK193.out 2).trans rfl
       have hcz26_3 : w19.cell? ⟨gb193, 3, none⟩ = some (.slice none 0 0) := (zb_ BK193.out 3).trans rfl
       have hfz26_0 := za_ BK193.out 0
       have hfz26_1 := za_ BK193.out 1
       have hfz26_2 := za_ BK193.out 2
       have hfz26_3 := za_ BK193.out 3
       go_upto_if 22 with (fail)
       go_cut [] (fun wc => ∃ (kq : Nat) (x1001_10 : Int) (x1002_10 : Int) (x1003_10 : Int) (x194002_10 : Int) (x194003_10 : List ByteArray) (u194003 : Value), zd_ (zc_.j2 kq x3_1 x4_1 s0_0 x1001_10 x1002_10 x1003_10 (rdOf ByteArray.empty y185 x4_1) t189 x194002_10 x194003_10 = some (r1, r2, r3, r4)) ∧ zd_ (kq ≤ k1) ∧ zd_ (Kd.S k97 97 wc w.heap.size (fun k_ => some k_ ≠ (u194003 : Value).ownBlock ∧ k_ ≠ gb193) u3 x3_1) ∧ zd_ (Kd.R Kd.string 9 wc w.heap.size (fun _ => True) u194003 x194003_10) ∧ zd_ (wc.heap[gb193]? = some (.cells #[.string (rdOf ByteArray.empty y185 x4_1), .bool t189, .int .i64 x194002_10, u194003] 97 (0, 0))) ∧ zd_ (zh_ w0 wc g s0_0 x1001_10 x1002_10 x1003_10) ∧ zd_ (zs_ w wc g none) ∧ zd_ (Below w0.heap.size w0 wc))
       case first =>
        have H := HC11.out
        clear HC11
        by_cases c27 : t189 = true
        ·
         subst c27
         rw [if_pos rfl] at H
         obtain ⟨t194, A28, H⟩ := OB H
         try dsimp only at H
         replace A28 := AM A28
         obtain ⟨y195, hy195⟩ : ∃ y_ : List ByteArray, y_ = (([t194] : List ByteArray)) := ⟨_, rfl⟩
         replace H : (zc_.j2 k1 x3_1 x4_1 s0_0 t190 t191 t192 (rdOf ByteArray.empty y185 x4_1) true 0 y195) = some (r1, r2, r3, r4) := by first | (rw [hy195]; with_reducible exact H) | (have H2_ := (Option.bind_some _ _).symm.trans H; rw [hy195]; with_reducible exact H2_) | (have H2_ := (Option.bind_some _ _).symm.trans H; with_reducible exact H2_) | with_reducible exact H | (rw [hy195]; exact H) | exact H
         have Ny195 := AM hy195
         clear hy195
         have H' := AM H
         clear H
         have hnb29 := NB193_0.out
         have hnc29 := NB0_193.out
         have hcz30_0 : w19.cell? ⟨gb193, 0, none⟩ = some (.string (⟨#[]⟩ : ByteArray)) := (zb_ BK193.out 0).trans rfl
         have hcz30_1 : w19.cell? ⟨gb193, 1, none⟩ = some (.bool false) := (zb_ BK193.out 1).trans rfl
         have hcz30_2 : w19.cell? ⟨gb193, 2, none⟩ = some (.int .i64 0) := (zb_ BK193.out 2).trans rfl
         have hcz30_3 : w19.cell? ⟨gb193, 3, none⟩ = some (.slice none 0 0) := (zb_ BK193.out 3).trans rfl
         have hfz30_0 := za_ BK193.out 0
         have hfz30_1 := za_ BK193.out 1
         have hfz30_2 := za_ BK193.out 2
         have hfz30_3 := za_ BK193.out 3
         go_wp2_with (first | ((with_reducible refine zl_ (f := 69) rfl ?_); refine gl_ (some 25) Try.func69 #[.string (rdOf ByteArray.empty y185 x4_1)] ?_; (with_reducible refine (yz_.calls k1 (rdOf ByteArray.empty y185 x4_1) t194 _ A28.out).mono ?_); rintro e w31 ⟨rfl, hb⟩; refine ⟨_, rfl, ?_⟩; replace HO_3 := AM (Kd.yB_ (ks_ (Kd.zR_ (Kd.S_far (p := ⟨gb193, 3, none⟩) (Kd.S_far (p := ⟨gb193, 2, none⟩) (Kd.S_far (p := ⟨gb193, 1, none⟩) (Kd.S_far (p := ⟨gb193, 0, none⟩) (Kd.zR_ HO_3.out (fun k_ hk => (⟨hk, hk.2⟩ : _ ∧ k_ ≠ gb193))) (fun _ hk => hk.2) (.string (rdOf ByteArray.empty y185 x4_1))) (fun _ hk => hk.2) (.bool true)) (fun _ hk => hk.2) (.int .i64 0)) (fun _ hk => hk.2) (.slice none 0 0)) (fun _ h_ => h_.1))) hb); replace HO187 := AM (Kd.yO_ (by (with_reducible repeat (first | apply Kd.yP_ | apply Kd.yL_ | apply Kd.yW_)); exact (Kd.z9_ (Kd.R_far (p := ⟨gb193, 3, none⟩) (Kd.R_far (p := ⟨gb193, 2, none⟩) (Kd.R_far (p := ⟨gb193, 1, none⟩) (Kd.R_far (p := ⟨gb193, 0, none⟩) (Kd.yo_ HO187.out BK193.out (by decide)) (fun _ hk => hk.2) (.string (rdOf ByteArray.empty y185 x4_1))) (fun _ hk => hk.2) (.bool true)) (fun _ hk => hk.2) (.int .i64 0)) (fun _ hk => hk.2) (.slice none 0 0)) (fun _ h_ => h_.1))) hb); replace BK193 := AM (zP_ (g := gb193) (o := .cells #[.string (rdOf ByteArray.empty y185 x4_1), .bool true, .int .i64 0, .slice none 0 0] 97 (0, 0)) bka_ hb); replace HK := AM (kb_ w g hb); replace HB := AM (zg_ (belg_ (zh_.ge HI0.out)) hb); replace HI0 := AM (zh_.below (show zh_ w0 ((((w19.setCell ⟨gb193, 0, none⟩ (.string (rdOf ByteArray.empty y185 x4_1))).setCell ⟨gb193, 1, none⟩ (.bool true)).setCell ⟨gb193, 2, none⟩ (.int .i64 0)).setCell ⟨gb193, 3, none⟩ (.slice none 0 0)) g s0_0 t190 t191 t192 from zA_) hb); (try clear hb); (try clear hk)) | ((with_reducible refine z6_ (N := 26) rfl ?_); refine Kd.R_lit Kd.string _ 9 ?hgL5 (N := 26) ?hdL5 (xs := ([t194] : List ByteArray)) (inner := [.string t194]) (ok := fun _ => True) (okp := fun _ => True) ?hrL5 ?hpL5 (fun _ hk => hk) trivial (Below.refl _ _) (Nat.le_refl _) (by simp) ?_; (case hdL5 => rfl); (case hgL5 => rfl); (case hrL5 => first | (go_simp; done) | (go_simp; rfl)); (case hpL5 => exact (Reps.one (show Kd.M Kd.string _ _ _ t194 [.string t194] from rfl) (Reps.none _ _))); intro v196 w32 ho33 hb hg_ hnew_; clear hg_ hnew_; (first | rw [← Ny195.out] at ho33 | (simp only [Int.reduceToNat] at ho33; rw [← Ny195.out] at ho33)); replace HO_3 := AM (Kd.S_elder' (ks_ HO_3.out) (Kd.R_base ho33) hb); have HO197 := AM (Kd.yE_ (Kd.R_new' ho33 (Kd.R_lt (ro_ HO187.out))) (zF_ (w := w) (g := g) (row := none) kp_)); replace HO187 := AM (Kd.R_elder' (ro_ HO187.out) (Kd.R_base ho33) hb); replace BK193 := AM (zP_ (g := gb193) (o := .cells #[.string (rdOf ByteArray.empty y185 x4_1), .bool true, .int .i64 0, .slice none 0 0] 97 (0, 0)) (bk_ BK193.out) hb); replace HK := AM (kb_ w g hb); replace HB := AM (zg_ (belg_ (zh_.ge HI0.out)) hb); replace HI0 := AM (zh_.below zA_ hb); clear hb ho33; obtain ⟨Ao34, co34, eo34⟩ := Kd.yA_ HO197.out; subst eo34; have hcz35_0 : w32.cell? ⟨gb193, 0, none⟩ = some (.string (rdOf ByteArray.empty y185 x4_1)) := (zb_ BK193.out 0).trans rfl; have hcz35_1 : w32.cell? ⟨gb193, 1, none⟩ = some (.bool true) := (zb_ BK193.out 1).trans rfl; have hcz35_2 : w32.cell? ⟨gb193, 2, none⟩ = some (.int .i64 0) := (zb_ BK193.out 2).trans rfl; have hcz35_3 : w32.cell? ⟨gb193, 3, none⟩ = some (.slice none 0 0) := (zb_ BK193.out 3).trans rfl; have hfz35_0 := za_ BK193.out 0; have hfz35_1 := za_ BK193.out 1; have hfz35_2 := za_ BK193.out 2; have hfz35_3 := za_ BK193.out 3))
         go_meet
         case rel => exact ⟨_, (t190), (t191), (t192), (0), (y195), (.slice Ao34 y195.length co34), H', ⟨by have := HK1.out; first | omega | exact Nat.le_refl _⟩, ⟨by (with_reducible repeat (first | apply Kd.ye_ | apply Kd.yd_ | apply Kd.yi_)); exact Kd.zR_ (Kd.S_far (p := ⟨gb193, 3, none⟩) (Kd.zR_ HO_3.out (fun k_ hk => (⟨hk, hk.1.2⟩ : _ ∧ k_ ≠ gb193))) (fun _ hk => hk.2) (.slice Ao34 y195.length co34)) (fun _ hk => ⟨hk.1.2, hk.1.1.2⟩)⟩, ⟨by (with_reducible repeat (first | apply Kd.yP_ | apply Kd.yL_ | apply Kd.yW_)); exact Kd.z9_ (Kd.R_far (p := ⟨gb193, 3, none⟩) (Kd.yo_ HO197.out BK193.out (by decide)) (fun _ hk => hk.2) (.slice Ao34 y195.length co34)) (fun _ hk => trivial)⟩, ⟨bka_⟩, ⟨zA_⟩, ⟨kp_⟩, ⟨belg_ (zh_.ge HI0.out)⟩⟩
        ·
         replace c27 := Bool.eq_false_iff.mpr c27
         subst c27
         rw [if_neg (show ¬ (false = true) by decide)] at H
         obtain ⟨⟨t198, t199, t200, t201⟩, A36, H⟩ := OB H
         try dsimp only at H
         replace A36 := AM A36
         obtain ⟨⟨t202, t203, t204, t205⟩, A37, H⟩ := OB H
         try dsimp only at H
         replace A37 := AM A37
         have H' := AM H
         clear H
         go_wp2_with (first | ((with_reducible refine zl_ (f := 64) rfl ?_); refine gl_ (some 29) Try.func64 #[.pointer (some ⟨g, 0, none⟩), .int .i64 1501] ?_; (with_reducible refine (zI_.calls g s0_0 t190 t191 t192 1501 t198 t199 t200 t201 w0 _ ?side1 ?side2 A36.out).mono ?_); (case side1 => exact zA_); (case side2 => exact belg_ (zh_.ge HI0.out)); rintro e w38 ⟨rfl, hi, hb, hk⟩; refine ⟨_, rfl, ?_⟩; replace HO_3 := AM (Kd.zR_ (Kd.yT_ (zh_.apartS (show zh_ w0 _ g s0_0 t190 t191 t192 from zA_) (ks_ (Kd.zR_ (Kd.S_far (p := ⟨gb193, 3, none⟩) (Kd.S_far (p := ⟨gb193, 2, none⟩) (Kd.S_far (p := ⟨gb193, 1, none⟩) (Kd.S_far (p := ⟨gb193, 0, none⟩) (Kd.zR_ HO_3.out (fun k_ hk => (⟨hk, hk.2⟩ : _ ∧ k_ ≠ gb193))) (fun _ hk => hk.2) (.string (rdOf ByteArray.empty y185 x4_1))) (fun _ hk => hk.2) (.bool false)) (fun _ hk => hk.2) (.int .i64 0)) (fun _ hk => hk.2) (.slice none 0 0)) (fun _ h_ => h_.1))) (by decide)) hk (fun _ h => h.2)) (fun _ h => h.1)); replace HO187 := AM (Kd.z9_ (Kd.xA_ (zh_.apart (show zh_ w0 _ g s0_0 t190 t191 t192 from zA_) (by (with_reducible repeat (first | apply Kd.yP_ | apply Kd.yL_ | apply Kd.yW_)); exact (Kd.z9_ (Kd.R_far (p := ⟨gb193, 3, none⟩) (Kd.R_far (p := ⟨gb193, 2, none⟩) (Kd.R_far (p := ⟨gb193, 1, none⟩) (Kd.R_far (p := ⟨gb193, 0, none⟩) (Kd.yo_ HO187.out BK193.out (by decide)) (fun _ hk => hk.2) (.string (rdOf ByteArray.empty y185 x4_1))) (fun _ hk => hk.2) (.bool false)) (fun _ hk => hk.2) (.int .i64 0)) (fun _ hk => hk.2) (.slice none 0 0)) (fun _ h_ => h_.1))) (by decide)) hk (fun _ h => h.2)) (fun _ h => h.1)); replace BK193 := AM (zs_.blk hk (g' := gb193) (o := .cells #[.string (rdOf ByteArray.empty y185 x4_1), .bool false, .int .i64 0, .slice none 0 0] 97 (0, 0)) bka_ NB193_0.out (by simp)); replace HK := AM (kk_ w hk); replace HB := AM hb; replace HI0 := AM hi; (try clear hb); (try clear hk); (try clear hi); have hnb39 := NB193_0.out; have hnc39 := NB0_193.out; have hcz40_0 : w38.cell? ⟨gb193, 0, none⟩ = some (.string (rdOf ByteArray.empty y185 x4_1)) := (zb_ BK193.out 0).trans rfl; have hcz40_1 : w38.cell? ⟨gb193, 1, none⟩ = some (.bool false) := (zb_ BK193.out 1).trans rfl; have hcz40_2 : w38.cell? ⟨gb193, 2, none⟩ = some (.int .i64 0) := (zb_ BK193.out 2).trans rfl; have hcz40_3 : w38.cell? ⟨gb193, 3, none⟩ = some (.slice none 0 0) := (zb_ BK193.out 3).trans rfl; have hfz40_0 := za_ BK193.out 0; have hfz40_1 := za_ BK193.out 1; have hfz40_2 := za_ BK193.out 2; have hfz40_3 := za_ BK193.out 3) | ((with_reducible refine zl_ (f := 64) rfl ?_); refine gl_ (some 32) Try.func64 #[.pointer (some ⟨g, 0, none⟩), .int .i64 3] ?_; (with_reducible refine (zI_.calls g s0_0 t199 t200 t201 3 t202 t203 t204 t205 w0 _ ?side1 ?side2 A37.out).mono ?_); (case side1 => exact zA_); (case side2 => exact belg_ (zh_.ge HI0.out)); rintro e w41 ⟨rfl, hi, hb, hk⟩; refine ⟨_, rfl, ?_⟩; replace HO_3 := AM (Kd.zR_ (Kd.yT_ (zh_.apartS (show zh_ w0 _ g s0_0 t199 t200 t201 from zA_) (ks_ (Kd.zR_ (Kd.S_far (p := ⟨gb193, 2, none⟩) (Kd.zR_ HO_3.out (fun k_ hk => (⟨hk, hk.2⟩ : _ ∧ k_ ≠ gb193))) (fun _ hk => hk.2) (.int .i64 t198)) (fun _ h_ => h_.1))) (by decide)) hk (fun _ h => h.2)) (fun _ h => h.1)); replace HO187 := AM (Kd.z9_ (Kd.xA_ (zh_.apart (show zh_ w0 _ g s0_0 t199 t200 t201 from zA_) (by (with_reducible repeat (first | apply Kd.yP_ | apply Kd.yL_ | apply Kd.yW_)); exact (Kd.z9_ (Kd.R_far (p := ⟨gb193, 2, none⟩) (Kd.yo_ HO187.out BK193.out (by decide)) (fun _ hk => hk.2) (.int .i64 t198)) (fun _ h_ => h_.1))) (by decide)) hk (fun _ h => h.2)) (fun _ h => h.1)); replace BK193 := AM (zs_.blk hk (g' := gb193) (o := .cells #[.string (rdOf ByteArray.empty y185 x4_1), .bool false, .int .i64 t198, .slice none 0 0] 97 (0, 0)) bka_ NB193_0.out (by simp)); replace HK := AM (kk_ w hk); replace HB := AM hb; replace HI0 := AM hi; (try clear hb); (try clear hk); (try clear hi)))
         go_loopg [6] k1 (fun kq v6 w' => ∃ (x6_2 : Int) (x194003_2 : List ByteArray) (u194003 : Value), v6 = .int .i64 x6_2 ∧ zd_ (zc_.l1 kq x3_1 x4_1 x6_2 s0_0 t203 t204 t205 (rdOf ByteArray.empty y185 x4_1) false t198 x194003_2 = some (r1, r2, r3, r4)) ∧ zd_ (kq ≤ k1) ∧ zd_ (Kd.S k97 97 w' w.heap.size (fun k_ => some k_ ≠ (u194003 : Value).ownBlock ∧ k_ ≠ gb193) u3 x3_1) ∧ zd_ (Kd.R Kd.string 9 w' w.heap.size (fun _ => True) u194003 x194003_2) ∧ zd_ (w'.heap[gb193]? = some (.cells #[.string (rdOf ByteArray.empty y185 x4_1), .bool false, .int .i64 t198, u194003] 97 (0, 0))) ∧ zd_ (zh_ w0 w' g s0_0 t203 t204 t205) ∧ zd_ (zs_ w w' g none) ∧ zd_ (Below w0.heap.size w0 w'))
         case atStart => exact ⟨(t202), (([] : List ByteArray)), (.slice none 0 0), re_, H', ⟨Nat.le_refl _⟩, ⟨by (with_reducible repeat (first | apply Kd.ye_ | apply Kd.yd_ | apply Kd.yi_)); exact Kd.zR_ HO_3.out (fun _ hk => ⟨(by simp [Value.ownBlock]), hk.2⟩)⟩, ⟨by first | exact Kd.R_nil _ _ _ _ _ | exact Kd.N_nil _ _ _ _ _ | exact Kd.V_nil _ _ _ _ _ | exact Kd.Q_nil _ _ _ _ _ | exact Kd.S_nil _ _ _ _ _⟩, ⟨bk_ BK193.out⟩, ⟨zA_⟩, ⟨kp_⟩, ⟨belg_ (zh_.ge HI0.out)⟩⟩
         case round =>
          clear H'
          (try clear c6); (try clear c27); (try clear hcz26_0); (try clear hcz26_1); (try clear hcz26_2); (try clear hcz26_3); (try clear hcz30_0); (try clear hcz30_1); (try clear hcz30_2); (try clear hcz30_3); (try clear hcz35_0); (try clear hcz35_1); (try clear hcz35_2); (try clear hcz35_3); (try clear hcz40_0); (try clear hcz40_1); (try clear hcz40_2); (try clear hcz40_3); (try clear hfz26_0); (try clear hfz26_1); (try clear hfz26_2); (try clear hfz26_3); (try clear hfz30_0); (try clear hfz30_1); (try clear hfz30_2); (try clear hfz30_3); (try clear hfz35_0); (try clear hfz35_1); (try clear hfz35_2); (try clear hfz35_3); (try clear hfz40_0); (try clear hfz40_1); (try clear hfz40_2); (try clear hfz40_3); (try clear p188); (try clear q188)
          obtain ⟨x6_2, x194003_2, u194003, rfl, HA, HK2, HO_3, HO_194003, BK193, HI0, HK, HB⟩ := hrel
          cases gk with
          | zero => exact absurd HA.out (by simp [zc_.l1])
          | succ k2 =>
           have H := HA.out
           clear HA
           simp only [zc_.l1] at H
           by_cases c42 : x6_2 > 0
           ·
            rw [if_pos c42] at H
            have c42b0 : decide (0 < x6_2) = true := decide_eq_true c42
            clear c42
            (first | rw [c42b0] | (simp only [i64_w, i32_w]; rw [c42b0]) | skip)
            obtain ⟨t206, A43, H⟩ := OB H
            try dsimp only at H
            replace A43 := AM A43
            obtain ⟨t207, A44, H⟩ := OB H
            try dsimp only at H
            replace A44 := AM A44
            by_cases c45 : x194003_2.length < 8796093022208
            ·
             rw [if_pos c45] at H
             have LMc45 := AM c45
             clear c45
             obtain ⟨y208, hy208⟩ : ∃ y_ : List ByteArray, y_ = (x194003_2 ++ [t207]) := ⟨_, rfl⟩
             replace H : (zc_.l1 k2 x3_1 x4_1 (wrap64 (x6_2 - 1)) s0_0 t203 t204 t205 (rdOf ByteArray.empty y185 x4_1) false t198 y208) = some (r1, r2, r3, r4) := by first | (rw [hy208]; with_reducible exact H) | (have H2_ := (Option.bind_some _ _).symm.trans H; rw [hy208]; with_reducible exact H2_) | (have H2_ := (Option.bind_some _ _).symm.trans H; with_reducible exact H2_) | with_reducible exact H | (rw [hy208]; exact H) | exact H
             have Ny208 := AM hy208
             clear hy208
             have H' := AM H
             clear H
             try go_wp2
             replace HO_3 := AM (Kd.yi_ HO_3.out)
             replace HO_194003 := AM (Kd.yW_ HO_194003.out)
             replace BK193 := AM (yU_ BK193.out)
             replace HI0 := AM (zh_.drew HI0.out)
             replace HK := AM (yZ_ HK.out)
             replace HB := AM (z1_ HB.out)
             refine xi_ (n := 9) (S := fun w' => w'.cell? ⟨gb193, 0, none⟩ = some (.string (rdOf ByteArray.empty y185 x4_1)) ∧ w'.cell? ⟨gb193, 1, none⟩ = some (.bool false) ∧ w'.cell? ⟨gb193, 2, none⟩ = some (.int .i64 t198) ∧ w'.cell? ⟨gb193, 3, none⟩ = some (u194003)) (ds := [8]) (Array.replicate 9 false) (by kernel_rfl) rfl rfl ⟨(zb_ BK193.out 0).trans rfl, (zb_ BK193.out 1).trans rfl, (zb_ BK193.out 2).trans rfl, (zb_ BK193.out 3).trans rfl⟩ (fun hHeld => ?_); refine yu_ zc_.tab13 zc_.bits13 (fun HT_ HW_ => ?_)
             generalize wr.drew = w46 at HO_3 HO_194003 BK193 HI0 HK HB hHeld ⊢
             refine pu_ HT_ 0 (some 37) (bA 9 1) ?_
             refine pu_ HT_ 2 (some 39) (bA 9 5) ?_
             refine ta_ HT_ HW_ 1 (some 38) (bA 9 7) hHeld ?_
             refine on_ HT_ 3 (some 40) (bA 9 15) (fun K hK => ?_)
             refine go1_ Try.func88 #[.int .i64 x6_2] ?_
             with_reducible refine (z5_.calls k2 x6_2 t206 _ A43.out).mono ?_
             rintro e w47 ⟨rfl, hb⟩
             refine ⟨_, rfl, ?_⟩
             replace HO_3 := AM (Kd.yB_ (ks_ HO_3.out) hb)
             replace HO_194003 := AM (Kd.yO_ (ro_ HO_194003.out) hb)
             replace BK193 := AM (zP_ (g := gb193) (o := .cells #[.string (rdOf ByteArray.empty y185 x4_1), .bool false, .int .i64 t198, u194003] 97 (0, 0)) (bk_ BK193.out) hb)
             replace HK := AM (kb_ w g hb)
             replace HB := AM (zg_ (belg_ (zh_.ge HI0.out)) hb)
             replace HI0 := AM (zh_.below zA_ hb)
             (try clear hb); (try clear hk)
             refine hK.out _ _ ⟨(zb_ BK193.out 0).trans rfl, (zb_ BK193.out 1).trans rfl, (zb_ BK193.out 2).trans rfl, (zb_ BK193.out 3).trans rfl⟩ (fun hHeld => ?_)
             clear hK K
             refine nm_ ?_
             refine on_ HT_ 4 (some 41) (bA 9 31) (fun K hK => ?_)
             refine go1_ Try.func69 #[.string t206] ?_
             with_reducible refine (yz_.calls k2 t206 t207 _ A44.out).mono ?_
             rintro e w48 ⟨rfl, hb⟩
             refine ⟨_, rfl, ?_⟩
             replace HO_3 := AM (Kd.yB_ (ks_ HO_3.out) hb)
             replace HO_194003 := AM (Kd.yO_ (ro_ HO_194003.out) hb)
             replace BK193 := AM (zP_ (g := gb193) (o := .cells #[.string (rdOf ByteArray.empty y185 x4_1), .bool false, .int .i64 t198, u194003] 97 (0, 0)) (bk_ BK193.out) hb)
             replace HK := AM (kb_ w g hb)
             replace HB := AM (zg_ (belg_ (zh_.ge HI0.out)) hb)
             replace HI0 := AM (zh_.below zA_ hb)
             (try clear hb)
             refine hK.out _ _ ⟨(zb_ BK193.out 0).trans rfl, (zb_ BK193.out 1).trans rfl, (zb_ BK193.out 2).trans rfl, (zb_ BK193.out 3).trans rfl⟩ (fun hHeld => ?_)
             clear hK K
             refine nm_ ?_
             refine on_ HT_ 5 (some 42) (bA 9 63) (fun K hK => ?_)
             refine value_ (w1 := ?_) (v := ?_) (by rfl) rfl ?_ ?_
             rotate_left 2
             ·
              go_simp
              constructor
              · rfl
              · rfl
             refine hK.out _ _ ⟨(zb_ (y9_ BK193.out _) 0).trans rfl, (zb_ (y9_ BK193.out _) 1).trans rfl, (zb_ (y9_ BK193.out _) 2).trans rfl, (zb_ (y9_ BK193.out _) 3).trans rfl⟩ (fun hHeld => ?_)
             clear hK K
             refine nm_ ?_
             refine on_ HT_ 6 (some 43) (bA 9 127) (fun K hK => ?_)
             refine Kd.R_append_step Kd.string w.heap.size (by rfl) (.tmp 38) (.tmp 42) 54 9 (.string ⟨#[]⟩) 16 rfl Try.underlying54 info9 rfl (by decide) (by omega) u194003 x194003_2 t207 [.string t207] (fun _ => True) (fun _ => False) rfl rfl ?aP (fun _ hk => hk.elim) ?aF ?aO (Below.refl _ _) ?aS ?aL ?_
             (case aP => exact rfl)
             (case aF => exact (fun _ _ => trivial))
             (case aO => exact (ro_ HO_194003.out))
             (case aS => exact (zF_ (w := w) (g := g) (row := none) kp_))
             (case aL => have := LMc45.out; omega)
             intro v209 w49 ho hb hg hat
             rw [← Ny208.out] at ho
             have n0_ := AM (Kd.S_after (ok := (fun k_ => k_ ≠ gb193)) (by (with_reducible repeat (first | apply Kd.ye_ | apply Kd.yd_ | apply Kd.yi_)); exact Kd.zR_ HO_3.out (fun _ hk => ⟨hk.2, hk.1⟩)) hg hat)
             have n1_ := AM (yp_ (g := gb193) (o := .cells #[.string (rdOf ByteArray.empty y185 x4_1), .bool false, .int .i64 t198, u194003] 97 (0, 0)) (bk_ BK193.out) hg (Kd.R_ne HO_194003.out BK193.out (by decide)))
             have n2_ := AM (zh_.grown zA_ hg (zh_.own_ne HI0.out HO_194003.out (by decide)))
             have n3_ := AM (xH_ (belg_ (zh_.ge HI0.out)) HL.out hb)
             have n4_ := AM (zs_.trans (kp_ (w := w)) (zs_.of_grown hg g) (Kd.R_base2 HO_194003.out))
             have n5_ := AM ho
             clear HO_3
             clear BK193
             clear HI0
             clear HB
             clear HK
             clear HO_194003
             have HO_3 := n0_
             have BK193 := n1_
             have HI0 := n2_
             have HB := n3_
             have HK := n4_
             have HO210 := n5_
             clear n0_ n1_ n2_ n3_ n4_ n5_
             clear ho hb hg hat
             obtain ⟨Ao50, co50, eo50⟩ := Kd.yA_ HO210.out
             (first | subst eo50 | (injection eo50 with f1_ f2_ f3_; have f4_ := f1_.symm; have f5_ := f3_.symm; clear f1_ f2_ f3_; subst f4_; subst f5_))
             refine hK.out _ _ ⟨(zb_ BK193.out 0).trans rfl, (zb_ BK193.out 1).trans rfl, (zb_ BK193.out 2).trans rfl, (zb_ BK193.out 3).trans rfl⟩ (fun hHeld => ?_)
             clear hK K
             refine nm_ ?_
             refine pu_ HT_ 7 (some 44) (bA 9 255) ?_
             refine last_ (i := 8) (N := none) (bA 9 511) rfl rfl (one_of HT_.out (by kernel_rfl)) (by decide) (fun K hK => ?_)
             have hs51 : w49.cell? ⟨gb193, 3, none⟩ = some (u194003) := (zb_ BK193.out 3).trans rfl
             have hfs51 := za_ BK193.out 3
             refine sk_ ?_
             refine hK.out _ _ ?_
             clear hK K
             refine dn_ HT_ ?_
             try go_wp2
             go_roundg k2
             case measure => have := HK1.out; have := HK2.out; omega
             case rel => exact ⟨(wrap64 (x6_2 - 1)), (y208), (.slice Ao50 y208.length co50), re_, H', ⟨by have := HK1.out; have := HK2.out; omega⟩, ⟨by (with_reducible repeat (first | apply Kd.ye_ | apply Kd.yd_ | apply Kd.yi_)); exact Kd.zR_ (Kd.S_far (p := ⟨gb193, 3, none⟩) (Kd.zR_ HO_3.out (fun k_ hk => (⟨hk, hk.1⟩ : _ ∧ k_ ≠ gb193))) (fun _ hk => hk.2) (.slice Ao50 y208.length co50)) (fun _ hk => ⟨hk.1.2, hk.1.1⟩)⟩, ⟨by (with_reducible repeat (first | apply Kd.yP_ | apply Kd.yL_ | apply Kd.yW_)); exact Kd.z9_ (Kd.R_far (p := ⟨gb193, 3, none⟩) (Kd.yo_ HO210.out BK193.out (by decide)) (fun _ hk => hk.2) (.slice Ao50 y208.length co50)) (fun _ hk => trivial)⟩, ⟨bka_⟩, ⟨zA_⟩, ⟨kp_⟩, ⟨belg_ (zh_.ge HI0.out)⟩⟩
            ·
             rw [if_neg c45] at H
             exact absurd H (by simp)
           ·
            rw [if_neg c42] at H
            have c42b0 : decide (0 < x6_2) = false := decide_eq_false c42
            clear c42
            (first | rw [c42b0] | (simp only [i64_w, i32_w]; rw [c42b0]) | skip)
            have H' := AM H
            clear H
            go_wp2
            go_meet
            case rel => exact ⟨_, (t203), (t204), (t205), (t198), (x194003_2), (u194003), H', ⟨by have := HK1.out; have := HK2.out; first | omega | exact Nat.le_refl _⟩, ⟨ks_ HO_3.out⟩, ⟨ro_ HO_194003.out⟩, ⟨bk_ BK193.out⟩, ⟨zA_⟩, ⟨kp_⟩, ⟨belg_ (zh_.ge HI0.out)⟩⟩
       case rest =>
        clear HC11
        (try clear c42b0); (try clear c45)
        obtain ⟨kq, x1001_10, x1002_10, x1003_10, x194002_10, x194003_10, u194003, HA, HJ10, HO_3, HO_194003, BK193, HI0, HK, HB⟩ := hcut
        cases kq with
        | zero => exact absurd HA.out (by simp [zc_.j2])
        | succ kj10 =>
         have H := HA.out
         clear HA
         simp only [zc_.j2] at H
         obtain ⟨⟨t211, t212, t213, t214⟩, A52, H⟩ := OB H
         try dsimp only at H
         replace A52 := AM A52
         by_cases c53 : t211 = true
         ·
          subst c53
          rw [if_pos rfl] at H
          obtain ⟨⟨t215, t216, t217, t218⟩, A54, H⟩ := OB H
          try dsimp only at H
          replace A54 := AM A54
          by_cases c55 : t215 = 0
          ·
           rw [if_pos c55] at H
           have c55b0 : (t215 == 0) = true := beq_iff_eq.mpr c55
           have c55b1 : (t215 != 0) = false := bne_eq_false_iff_eq.mpr c55
           clear c55
           obtain ⟨y219, hy219⟩ : ∃ y_ : List Int, y_ = (([(-1), 1501, 1] : List Int)) := ⟨_, rfl⟩
           replace H : ((zI_.f s0_0 t216 t217 t218 3).bind fun bt222 => (if 0 ≤ bt222.1 then (if bt222.1 < (y219.length : Int) then (if x3_1.length < 2513169434916 then (zc_.l0 kj10 (x3_1 ++ [(⟨(rdOf ByteArray.empty y185 x4_1), t189, rd y219 bt222.1, x194003_10⟩ : S97)]) (wrap64 (x4_1 + 1)) s0_0 bt222.2.1 bt222.2.2.1 bt222.2.2.2) else (none)) else (none)) else (none))) = some (r1, r2, r3, r4) := by first | (rw [hy219]; with_reducible exact H) | (have H2_ := (Option.bind_some _ _).symm.trans H; rw [hy219]; with_reducible exact H2_) | (have H2_ := (Option.bind_some _ _).symm.trans H; with_reducible exact H2_) | with_reducible exact H | (rw [hy219]; exact H) | exact H
           have Ny219 := AM hy219
           clear hy219
           obtain ⟨⟨t222, t223, t224, t225⟩, A56, H⟩ := OB H
           try dsimp only at H
           replace A56 := AM A56
           by_cases c57 : 0 ≤ t222
           ·
            rw [if_pos c57] at H
            have c57b0 : decide (0 ≤ t222) = true := decide_eq_true c57
            clear c57
            by_cases c58 : t222 < (y219.length : Int)
            ·
             rw [if_pos c58] at H
             have c58b0 : decide (t222 < (y219.length : Int)) = true := decide_eq_true c58
             clear c58
             by_cases c59 : x3_1.length < 2513169434916
             ·
              rw [if_pos c59] at H
              have LMc59 := AM c59
              clear c59
              obtain ⟨y227, hy227⟩ : ∃ y_ : List (S97), y_ = (x3_1 ++ [(⟨(rdOf ByteArray.empty y185 x4_1), t189, rd y219 t222, x194003_10⟩ : S97)]) := ⟨_, rfl⟩
              replace H : (zc_.l0 kj10 y227 (wrap64 (x4_1 + 1)) s0_0 t223 t224 t225) = some (r1, r2, r3, r4) := by first | (rw [hy227]; with_reducible exact H) | (have H2_ := (Option.bind_some _ _).symm.trans H; rw [hy227]; with_reducible exact H2_) | (have H2_ := (Option.bind_some _ _).symm.trans H; with_reducible exact H2_) | with_reducible exact H | (rw [hy227]; exact H) | exact H
              have Ny227 := AM hy227
              clear hy227
              have H' := AM H
              clear H
              go_wp2_with (first | ((with_reducible refine zl_ (f := 68) rfl ?_); refine gl_ (some 46) Try.func68 #[.pointer (some ⟨g, 0, none⟩), .int .i64 25] ?_; (with_reducible refine (zK_.calls g s0_0 x1001_10 x1002_10 x1003_10 25 true t212 t213 t214 w0 _ ?side1 ?side2 A52.out).mono ?_); (case side1 => exact zA_); (case side2 => exact belg_ (zh_.ge HI0.out)); rintro e w60 ⟨rfl, hi, hb, hk⟩; refine ⟨_, rfl, ?_⟩; replace HO_3 := AM (Kd.zR_ (Kd.yT_ (zh_.apartS (show zh_ w0 _ g s0_0 x1001_10 x1002_10 x1003_10 from zA_) (ks_ HO_3.out) (by decide)) hk (fun _ h => h.2)) (fun _ h => h.1)); replace HO_194003 := AM (Kd.z9_ (Kd.xA_ (zh_.apart (show zh_ w0 _ g s0_0 x1001_10 x1002_10 x1003_10 from zA_) (ro_ HO_194003.out) (by decide)) hk (fun _ h => h.2)) (fun _ h => h.1)); replace BK193 := AM (zs_.blk hk (g' := gb193) (o := .cells #[.string (rdOf ByteArray.empty y185 x4_1), .bool t189, .int .i64 x194002_10, u194003] 97 (0, 0)) (bk_ BK193.out) NB193_0.out (by simp)); replace HK := AM (kk_ w hk); replace HB := AM hb; replace HI0 := AM hi; (try clear hb); (try clear hk); (try clear hi)) | ((with_reducible refine zl_ (f := 64) rfl ?_); refine gl_ (some 48) Try.func64 #[.pointer (some ⟨g, 0, none⟩), .int .i64 3] ?_; (with_reducible refine (zI_.calls g s0_0 t212 t213 t214 3 t215 t216 t217 t218 w0 _ ?side1 ?side2 A54.out).mono ?_); (case side1 => exact zA_); (case side2 => exact belg_ (zh_.ge HI0.out)); rintro e w61 ⟨rfl, hi, hb, hk⟩; refine ⟨_, rfl, ?_⟩; replace HO_3 := AM (Kd.zR_ (Kd.yT_ (zh_.apartS (show zh_ w0 _ g s0_0 t212 t213 t214 from zA_) (ks_ HO_3.out) (by decide)) hk (fun _ h => h.2)) (fun _ h => h.1)); replace HO_194003 := AM (Kd.z9_ (Kd.xA_ (zh_.apart (show zh_ w0 _ g s0_0 t212 t213 t214 from zA_) (ro_ HO_194003.out) (by decide)) hk (fun _ h => h.2)) (fun _ h => h.1)); replace BK193 := AM (zs_.blk hk (g' := gb193) (o := .cells #[.string (rdOf ByteArray.empty y185 x4_1), .bool t189, .int .i64 x194002_10, u194003] 97 (0, 0)) (bk_ BK193.out) NB193_0.out (by simp)); replace HK := AM (kk_ w hk); replace HB := AM hb; replace HI0 := AM hi; (try clear hb); (try clear hk); (try clear hi)) | ((with_reducible refine z6_ (N := 55) rfl ?_); refine Kd.R_lit (Kd.int .i64) _ 2 ?hgL6 (N := 55) ?hdL6 (xs := ([(-1), 1501, 1] : List Int)) (inner := [.int .i64 (-1), .int .i64 1501, .int .i64 1]) (ok := fun _ => True) (okp := fun _ => True) ?hrL6 ?hpL6 (fun _ hk => hk) trivial (Below.refl _ _) (Nat.le_refl _) (by simp) ?_; (case hdL6 => rfl); (case hgL6 => rfl); (case hrL6 => first | (go_simp; done) | (go_simp; rfl)); (case hpL6 => exact (Reps.one (show Kd.M (Kd.int .i64) _ _ _ (-1) [.int .i64 (-1)] from rfl) (Reps.one (show Kd.M (Kd.int .i64) _ _ _ 1501 [.int .i64 1501] from rfl) (Reps.one (show Kd.M (Kd.int .i64) _ _ _ 1 [.int .i64 1] from rfl) (Reps.none _ _))))); intro v220 w62 ho63 hb hg_ hnew_; clear hg_ hnew_; (first | rw [← Ny219.out] at ho63 | (simp only [Int.reduceToNat] at ho63; rw [← Ny219.out] at ho63)); replace HO_3 := AM (Kd.yB_ (ks_ HO_3.out) hb); replace HO_194003 := AM (Kd.yO_ (ro_ HO_194003.out) hb); have HO221 := AM (Kd.yE_ ho63 (zF_ (w := w) (g := g) (row := none) kp_)); replace BK193 := AM (zP_ (g := gb193) (o := .cells #[.string (rdOf ByteArray.empty y185 x4_1), .bool t189, .int .i64 x194002_10, u194003] 97 (0, 0)) (bk_ BK193.out) hb); replace HK := AM (kb_ w g hb); replace HB := AM (zg_ (belg_ (zh_.ge HI0.out)) hb); replace HI0 := AM (zh_.below zA_ hb); clear hb ho63) | ((with_reducible refine zl_ (f := 64) rfl ?_); refine gl_ (some 57) Try.func64 #[.pointer (some ⟨g, 0, none⟩), .int .i64 3] ?_; (with_reducible refine (zI_.calls g s0_0 t216 t217 t218 3 t222 t223 t224 t225 w0 _ ?side1 ?side2 A56.out).mono ?_); (case side1 => exact zA_); (case side2 => exact belg_ (zh_.ge HI0.out)); rintro e w64 ⟨rfl, hi, hb, hk⟩; refine ⟨_, rfl, ?_⟩; replace HO_3 := AM (Kd.zR_ (Kd.yT_ (zh_.apartS (show zh_ w0 _ g s0_0 t216 t217 t218 from zA_) (ks_ HO_3.out) (by decide)) hk (fun _ h => h.2)) (fun _ h => h.1)); replace HO_194003 := AM (Kd.z9_ (Kd.xA_ (zh_.apart (show zh_ w0 _ g s0_0 t216 t217 t218 from zA_) (ro_ HO_194003.out) (by decide)) hk (fun _ h => h.2)) (fun _ h => h.1)); replace BK193 := AM (zs_.blk hk (g' := gb193) (o := .cells #[.string (rdOf ByteArray.empty y185 x4_1), .bool t189, .int .i64 x194002_10, u194003] 97 (0, 0)) (bk_ BK193.out) NB193_0.out (by simp)); replace HO221 := AM (Kd.z9_ (Kd.xA_ (zh_.apart (show zh_ w0 _ g s0_0 t216 t217 t218 from zA_) (ro_ HO221.out) (by decide)) hk (fun _ h => h.2)) (fun _ h => h.1)); replace HK := AM (kk_ w hk); replace HB := AM hb; replace HI0 := AM hi; (try clear hb); (try clear hk); (try clear hi); obtain ⟨Ao65, co65, eo65⟩ := Kd.yA_ HO221.out; subst eo65; have p226 : 0 ≤ (t222 : Int) := of_decide_eq_true asm_; have q226 : t222 < (y219.length : Int) := of_decide_eq_true asm_; obtain ⟨ad226, e226, hx226_0⟩ := Kd.at_int (Kd.yI_ HO221.out).2.2 t222 p226 q226; cases e226; replace p226 := eq_true p226; replace q226 := eq_true q226; have hnb66 := NB193_0.out; have hnc66 := NB0_193.out; have hcz67_0 : w64.cell? ⟨gb193, 0, none⟩ = some (.string (rdOf ByteArray.empty y185 x4_1)) := (zb_ BK193.out 0).trans rfl; have hcz67_1 : w64.cell? ⟨gb193, 1, none⟩ = some (.bool t189) := (zb_ BK193.out 1).trans rfl; have hcz67_2 : w64.cell? ⟨gb193, 2, none⟩ = some (.int .i64 x194002_10) := (zb_ BK193.out 2).trans rfl; have hcz67_3 : w64.cell? ⟨gb193, 3, none⟩ = some (u194003) := (zb_ BK193.out 3).trans rfl; have hfz67_0 := za_ BK193.out 0; have hfz67_1 := za_ BK193.out 1; have hfz67_2 := za_ BK193.out 2; have hfz67_3 := za_ BK193.out 3) | ((with_reducible refine xG_ (t := 2) (p := 60) rfl ?_); refine xr_ (t := 2) (p := 60) (v := ?vo_w68) (w1 := (w64.setCell ⟨gb193, 2, none⟩ (.int .i64 (rd y219 t222)))) ?hg ?ho ?hn ?hr ?_; (case ho => rfl); (case hg => rfl); (case hn => rfl); (case hr => first | (go_simp; done) | (go_simp; rfl)); intro w68 hw; replace HO_3 : zd_ (Kd.S k97 97 w68 w.heap.size (fun k_ => some k_ ≠ (u194003 : Value).ownBlock ∧ k_ ≠ gb193) u3 x3_1) := ⟨(by rw [hw]; exact (by (with_reducible repeat (first | apply Kd.ye_ | apply Kd.yd_ | apply Kd.yi_)); exact Kd.zR_ (Kd.S_far (p := ⟨gb193, 2, none⟩) (Kd.zR_ HO_3.out (fun k_ hk => (⟨hk, hk.2⟩ : _ ∧ k_ ≠ gb193))) (fun _ hk => hk.2) (.int .i64 (rd y219 t222))) (fun _ hk => ⟨hk.1.1, hk.1.2⟩)))⟩; replace HO_194003 : zd_ (Kd.R Kd.string 9 w68 w.heap.size (fun _ => True) u194003 x194003_10) := ⟨(by rw [hw]; exact (by (with_reducible repeat (first | apply Kd.yP_ | apply Kd.yL_ | apply Kd.yW_)); exact Kd.z9_ (Kd.R_far (p := ⟨gb193, 2, none⟩) (Kd.yo_ HO_194003.out BK193.out (by decide)) (fun _ hk => hk.2) (.int .i64 (rd y219 t222))) (fun _ hk => trivial)))⟩; replace HO221 : zd_ (Kd.R (Kd.int .i64) 2 w68 w.heap.size (fun _ => True) (.slice (some ad226) y219.length co65) y219) := ⟨(by rw [hw]; exact (by (with_reducible repeat (first | apply Kd.yP_ | apply Kd.yL_ | apply Kd.yW_)); exact Kd.z9_ (Kd.R_far (p := ⟨gb193, 2, none⟩) (Kd.yo_ HO221.out BK193.out (by decide)) (fun _ hk => hk.2) (.int .i64 (rd y219 t222))) (fun _ hk => trivial)))⟩; replace BK193 : zd_ (w68.heap[gb193]? = some (.cells #[.string (rdOf ByteArray.empty y185 x4_1), .bool t189, .int .i64 (rd y219 t222), u194003] 97 (0, 0))) := ⟨(by rw [hw]; exact bka_)⟩; replace HK : zd_ (zs_ w w68 g none) := ⟨(by rw [hw]; exact kp_)⟩; replace HB : zd_ (Below w0.heap.size w0 w68) := ⟨(by rw [hw]; exact (belg_ (zh_.ge HI0.out)))⟩; replace HI0 : zd_ (zh_ w0 w68 g s0_0 t223 t224 t225) := ⟨(by rw [hw]; exact zA_)⟩; clear hw; have hcz69_0 : w68.cell? ⟨gb193, 0, none⟩ = some (.string (rdOf ByteArray.empty y185 x4_1)) := (zb_ BK193.out 0).trans rfl; have hcz69_1 : w68.cell? ⟨gb193, 1, none⟩ = some (.bool t189) := (zb_ BK193.out 1).trans rfl; have hcz69_2 : w68.cell? ⟨gb193, 2, none⟩ = some (.int .i64 (rd y219 t222)) := (zb_ BK193.out 2).trans rfl; have hcz69_3 : w68.cell? ⟨gb193, 3, none⟩ = some (u194003) := (zb_ BK193.out 3).trans rfl; have hfz69_0 := za_ BK193.out 0; have hfz69_1 := za_ BK193.out 1; have hfz69_2 := za_ BK193.out 2; have hfz69_3 := za_ BK193.out 3; obtain ⟨Ao71, co71, eo71⟩ := Kd.yA_ HO_194003.out; subst eo71) | ((with_reducible refine yr_ (b := .append) (xs := #[.tmp 68, .tmp 70]) rfl ?_); at_builtin; refine Kd.xM_ k97 w.heap.size rfl (.tmp 68) (.tmp 70) 23 97 (.agg #[(.string ⟨#[]⟩), (.bool false), (.int .i64 0), (.slice none 0 0)]) 56 rfl Try.underlying23 info97 rfl (by decide) (by omega) u3 x3_1 (⟨(rdOf ByteArray.empty y185 x4_1), t189, rd y219 t222, x194003_10⟩ : S97) [.string (rdOf ByteArray.empty y185 x4_1), .bool t189, .int .i64 (rd y219 t222), .slice Ao71 x194003_10.length co71] (fun k_ => k_ ≠ gb193) (fun k_ => some k_ = (.slice Ao71 x194003_10.length co71 : Value).ownBlock) rfl rfl ?aP (fun k_ hk_ => ((Kd.z9_ (ok' := fun k_ => ((fun k_ => k_ ≠ gb193)) k_ ∧ some k_ ≠ (u3 : Value).ownBlock) (Kd.yo_ (Kd.yV_ (HO_194003.out) (Kd.y3_ HO_3.out) (by decide)) BK193.out (by decide)) (fun k_ hk => ⟨hk.2, hk.1.2⟩))).1 k_ hk_.symm) ?aF ?aO (Below.refl _ _) ?aS ?aL ?_; (case aP => exact k97_mkM _ _ _ (⟨(rdOf ByteArray.empty y185 x4_1), t189, rd y219 t222, x194003_10⟩ : S97) (Kd.z9_ (Kd.R_tight rfl (Kd.z9_ (ok' := fun k_ => ((fun k_ => k_ ≠ gb193)) k_ ∧ some k_ ≠ (u3 : Value).ownBlock) (Kd.yo_ (Kd.yV_ (HO_194003.out) (Kd.y3_ HO_3.out) (by decide)) BK193.out (by decide)) (fun k_ hk => ⟨hk.2, hk.1.2⟩))) (fun _ h_ => h_))); (case aF => exact (fun k_ hk => Kd.freshB (g := gb193) (o := .cells #[.string (rdOf ByteArray.empty y185 x4_1), .bool t189, .int .i64 (rd y219 t222), .slice Ao71 x194003_10.length co71] 97 (0, 0)) (bk_ BK193.out) k_ hk)); (case aO => exact (by (with_reducible repeat (first | apply Kd.ye_ | apply Kd.yd_ | apply Kd.yi_)); exact Kd.zR_ HO_3.out (fun k_ hk => ⟨hk.2, fun e_ => hk.1 e_⟩))); (case aS => exact (zF_ (w := w) (g := g) (row := none) kp_)); (case aL => have := LMc59.out; omega); intro v228 w70 ho hb hg hat; rw [← Ny227.out] at ho; have n0_ := AM (yp_ (g := gb193) (o := .cells #[.string (rdOf ByteArray.empty y185 x4_1), .bool t189, .int .i64 (rd y219 t222), .slice Ao71 x194003_10.length co71] 97 (0, 0)) (bk_ BK193.out) hg (Kd.S_away HO_3.out (fun _ hk => hk.2))); have n1_ := AM (zh_.grown zA_ hg (zh_.own_neS HI0.out HO_3.out (by decide))); have n2_ := AM (Kd.R_over' (ro_ HO221.out) (Kd.y3_ (ks_ HO_3.out)) (by decide) hg); have n3_ := AM (xH_ (belg_ (zh_.ge HI0.out)) HL.out hb); have n4_ := AM (zs_.trans (kp_ (w := w)) (zs_.of_grown hg g) (Kd.S_base2 HO_3.out)); have n5_ := AM ho; clear BK193; clear HI0; clear HO221; clear HB; clear HK; clear HO_3; clear HO_194003; have BK193 := n0_; have HI0 := n1_; have HO221 := n2_; have HB := n3_; have HK := n4_; have HO229 := n5_; clear n0_ n1_ n2_ n3_ n4_ n5_; clear ho hb hg hat))
              go_roundg kj10
              case measure => have := HK1.out; have := HJ10.out; omega
              case rel => exact ⟨(y227), (wrap64 (x4_1 + 1)), (t223), (t224), (t225), re_, H', ⟨by have := HK1.out; have := HJ10.out; omega⟩, ⟨by (with_reducible repeat (first | apply Kd.ye_ | apply Kd.yd_ | apply Kd.yi_)); exact Kd.zR_ HO229.out (fun _ hk => trivial)⟩, ⟨zA_⟩, ⟨kp_⟩, ⟨belg_ (zh_.ge HI0.out)⟩⟩
             ·
              rw [if_neg c59] at H
              exact absurd H (by simp)
            ·
             rw [if_neg c58] at H
             exact absurd H (by simp)
           ·
            rw [if_neg c57] at H
            exact absurd H (by simp)
          ·
           rw [if_neg c55] at H
           have c55b0 : (t215 == 0) = false := beq_eq_false_iff_ne.mpr c55
           have c55b1 : (t215 != 0) = true := bne_iff_ne.mpr c55
           by_cases c72 : t215 = 1
           ·
            rw [if_pos c72] at H
            have c72b0 : (t215 == 1) = true := beq_iff_eq.mpr c72
            have c72b1 : (t215 != 1) = false := bne_eq_false_iff_eq.mpr c72
            clear c72
            by_cases c73 : x194003_10.length < 8796093022208
            ·
             rw [if_pos c73] at H
             have LMc73 := AM c73
             clear c73
             obtain ⟨y230, hy230⟩ : ∃ y_ : List ByteArray, y_ = (x194003_10 ++ [(⟨#[115, 104, 111, 114, 116]⟩ : ByteArray)]) := ⟨_, rfl⟩
             replace H : (if x3_1.length < 2513169434916 then (zc_.l0 kj10 (x3_1 ++ [(⟨(rdOf ByteArray.empty y185 x4_1), t189, x194002_10, y230⟩ : S97)]) (wrap64 (x4_1 + 1)) s0_0 t216 t217 t218) else (none)) = some (r1, r2, r3, r4) := by first | (rw [hy230]; with_reducible exact H) | (have H2_ := (Option.bind_some _ _).symm.trans H; rw [hy230]; with_reducible exact H2_) | (have H2_ := (Option.bind_some _ _).symm.trans H; with_reducible exact H2_) | with_reducible exact H | (rw [hy230]; exact H) | exact H
             have Ny230 := AM hy230
             clear hy230
             by_cases c74 : x3_1.length < 2513169434916
             ·
              rw [if_pos c74] at H
              have LMc74 := AM c74
              clear c74
              obtain ⟨y233, hy233⟩ : ∃ y_ : List (S97), y_ = (x3_1 ++ [(⟨(rdOf ByteArray.empty y185 x4_1), t189, x194002_10, y230⟩ : S97)]) := ⟨_, rfl⟩
              replace H : (zc_.l0 kj10 y233 (wrap64 (x4_1 + 1)) s0_0 t216 t217 t218) = some (r1, r2, r3, r4) := by first | (rw [hy233]; with_reducible exact H) | (have H2_ := (Option.bind_some _ _).symm.trans H; rw [hy233]; with_reducible exact H2_) | (have H2_ := (Option.bind_some _ _).symm.trans H; with_reducible exact H2_) | with_reducible exact H | (rw [hy233]; exact H) | exact H
              have Ny233 := AM hy233
              clear hy233
              have H' := AM H
              clear H
              go_wp2_with (first | ((with_reducible refine zl_ (f := 68) rfl ?_); refine gl_ (some 46) Try.func68 #[.pointer (some ⟨g, 0, none⟩), .int .i64 25] ?_; (with_reducible refine (zK_.calls g s0_0 x1001_10 x1002_10 x1003_10 25 true t212 t213 t214 w0 _ ?side1 ?side2 A52.out).mono ?_); (case side1 => exact zA_); (case side2 => exact belg_ (zh_.ge HI0.out)); rintro e w75 ⟨rfl, hi, hb, hk⟩; refine ⟨_, rfl, ?_⟩; replace HO_3 := AM (Kd.zR_ (Kd.yT_ (zh_.apartS (show zh_ w0 _ g s0_0 x1001_10 x1002_10 x1003_10 from zA_) (ks_ HO_3.out) (by decide)) hk (fun _ h => h.2)) (fun _ h => h.1)); replace HO_194003 := AM (Kd.z9_ (Kd.xA_ (zh_.apart (show zh_ w0 _ g s0_0 x1001_10 x1002_10 x1003_10 from zA_) (ro_ HO_194003.out) (by decide)) hk (fun _ h => h.2)) (fun _ h => h.1)); replace BK193 := AM (zs_.blk hk (g' := gb193) (o := .cells #[.string (rdOf ByteArray.empty y185 x4_1), .bool t189, .int .i64 x194002_10, u194003] 97 (0, 0)) (bk_ BK193.out) NB193_0.out (by simp)); replace HK := AM (kk_ w hk); replace HB := AM hb; replace HI0 := AM hi; (try clear hb); (try clear hk); (try clear hi)) | ((with_reducible refine zl_ (f := 64) rfl ?_); refine gl_ (some 48) Try.func64 #[.pointer (some ⟨g, 0, none⟩), .int .i64 3] ?_; (with_reducible refine (zI_.calls g s0_0 t212 t213 t214 3 t215 t216 t217 t218 w0 _ ?side1 ?side2 A54.out).mono ?_); (case side1 => exact zA_); (case side2 => exact belg_ (zh_.ge HI0.out)); rintro e w76 ⟨rfl, hi, hb, hk⟩; refine ⟨_, rfl, ?_⟩; replace HO_3 := AM (Kd.zR_ (Kd.yT_ (zh_.apartS (show zh_ w0 _ g s0_0 t212 t213 t214 from zA_) (ks_ HO_3.out) (by decide)) hk (fun _ h => h.2)) (fun _ h => h.1)); replace HO_194003 := AM (Kd.z9_ (Kd.xA_ (zh_.apart (show zh_ w0 _ g s0_0 t212 t213 t214 from zA_) (ro_ HO_194003.out) (by decide)) hk (fun _ h => h.2)) (fun _ h => h.1)); replace BK193 := AM (zs_.blk hk (g' := gb193) (o := .cells #[.string (rdOf ByteArray.empty y185 x4_1), .bool t189, .int .i64 x194002_10, u194003] 97 (0, 0)) (bk_ BK193.out) NB193_0.out (by simp)); replace HK := AM (kk_ w hk); replace HB := AM hb; replace HI0 := AM hi; (try clear hb); (try clear hk); (try clear hi); have hnb77 := NB193_0.out; have hnc77 := NB0_193.out; have hcz78_0 : w76.cell? ⟨gb193, 0, none⟩ = some (.string (rdOf ByteArray.empty y185 x4_1)) := (zb_ BK193.out 0).trans rfl; have hcz78_1 : w76.cell? ⟨gb193, 1, none⟩ = some (.bool t189) := (zb_ BK193.out 1).trans rfl; have hcz78_2 : w76.cell? ⟨gb193, 2, none⟩ = some (.int .i64 x194002_10) := (zb_ BK193.out 2).trans rfl; have hcz78_3 : w76.cell? ⟨gb193, 3, none⟩ = some (u194003) := (zb_ BK193.out 3).trans rfl; have hfz78_0 := za_ BK193.out 0; have hfz78_1 := za_ BK193.out 1; have hfz78_2 := za_ BK193.out 2; have hfz78_3 := za_ BK193.out 3) | ((with_reducible refine yr_ (b := .append) (xs := #[.tmp 64, .tmp 65]) rfl ?_); at_builtin; refine Kd.R_append Kd.string w.heap.size rfl (.tmp 64) (.tmp 65) 54 9 (.string ⟨#[]⟩) 16 rfl Try.underlying54 info9 rfl (by decide) (by omega) u194003 x194003_10 (⟨#[115, 104, 111, 114, 116]⟩ : ByteArray) [.string (⟨#[115, 104, 111, 114, 116]⟩ : ByteArray)] (fun _ => True) (fun _ => False) rfl rfl ?aP (fun _ hk => hk.elim) ?aF ?aO (Below.refl _ _) ?aS ?aL ?_; (case aP => exact rfl); (case aF => exact (fun _ _ => trivial)); (case aO => exact (ro_ HO_194003.out)); (case aS => exact (zF_ (w := w) (g := g) (row := none) kp_)); (case aL => have := LMc73.out; omega); intro v231 w79 ho hb hg hat; rw [← Ny230.out] at ho; have n0_ := AM (Kd.S_after (ok := (fun k_ => k_ ≠ gb193)) (by (with_reducible repeat (first | apply Kd.ye_ | apply Kd.yd_ | apply Kd.yi_)); exact Kd.zR_ HO_3.out (fun _ hk => ⟨hk.2, hk.1⟩)) hg hat); have n1_ := AM (yp_ (g := gb193) (o := .cells #[.string (rdOf ByteArray.empty y185 x4_1), .bool t189, .int .i64 x194002_10, u194003] 97 (0, 0)) (bk_ BK193.out) hg (Kd.R_ne HO_194003.out BK193.out (by decide))); have n2_ := AM (zh_.grown zA_ hg (zh_.own_ne HI0.out HO_194003.out (by decide))); have n3_ := AM (xH_ (belg_ (zh_.ge HI0.out)) HL.out hb); have n4_ := AM (zs_.trans (kp_ (w := w)) (zs_.of_grown hg g) (Kd.R_base2 HO_194003.out)); have n5_ := AM ho; clear HO_3; clear BK193; clear HI0; clear HB; clear HK; clear HO_194003; have HO_3 := n0_; have BK193 := n1_; have HI0 := n2_; have HB := n3_; have HK := n4_; have HO232 := n5_; clear n0_ n1_ n2_ n3_ n4_ n5_; clear ho hb hg hat; obtain ⟨Ao80, co80, eo80⟩ := Kd.yA_ HO232.out; subst eo80; have hcz81_0 : w79.cell? ⟨gb193, 0, none⟩ = some (.string (rdOf ByteArray.empty y185 x4_1)) := (zb_ BK193.out 0).trans rfl; have hcz81_1 : w79.cell? ⟨gb193, 1, none⟩ = some (.bool t189) := (zb_ BK193.out 1).trans rfl; have hcz81_2 : w79.cell? ⟨gb193, 2, none⟩ = some (.int .i64 x194002_10) := (zb_ BK193.out 2).trans rfl; have hcz81_3 : w79.cell? ⟨gb193, 3, none⟩ = some (u194003) := (zb_ BK193.out 3).trans rfl; have hfz81_0 := za_ BK193.out 0; have hfz81_1 := za_ BK193.out 1; have hfz81_2 := za_ BK193.out 2; have hfz81_3 := za_ BK193.out 3) | ((with_reducible refine xG_ (t := 54) (p := 67) rfl ?_); refine xr_ (t := 54) (p := 67) (v := ?vo_w82) (w1 := (w79.setCell ⟨gb193, 3, none⟩ (.slice Ao80 y230.length co80))) ?hg ?ho ?hn ?hr ?_; (case ho => rfl); (case hg => rfl); (case hn => rfl); (case hr => first | (go_simp; done) | (go_simp; rfl)); intro w82 hw; replace HO_3 : zd_ (Kd.S k97 97 w82 w.heap.size (fun k_ => some k_ ≠ (.slice Ao80 y230.length co80 : Value).ownBlock ∧ k_ ≠ gb193) u3 x3_1) := ⟨(by rw [hw]; exact (by (with_reducible repeat (first | apply Kd.ye_ | apply Kd.yd_ | apply Kd.yi_)); exact Kd.zR_ (Kd.S_far (p := ⟨gb193, 3, none⟩) (Kd.zR_ HO_3.out (fun k_ hk => (⟨hk, hk.1⟩ : _ ∧ k_ ≠ gb193))) (fun _ hk => hk.2) (.slice Ao80 y230.length co80)) (fun _ hk => ⟨hk.1.2, hk.1.1⟩)))⟩; replace HO232 : zd_ (Kd.R Kd.string 9 w82 w.heap.size (fun _ => True) (.slice Ao80 y230.length co80) y230) := ⟨(by rw [hw]; exact (by (with_reducible repeat (first | apply Kd.yP_ | apply Kd.yL_ | apply Kd.yW_)); exact Kd.z9_ (Kd.R_far (p := ⟨gb193, 3, none⟩) (Kd.yo_ HO232.out BK193.out (by decide)) (fun _ hk => hk.2) (.slice Ao80 y230.length co80)) (fun _ hk => trivial)))⟩; replace BK193 : zd_ (w82.heap[gb193]? = some (.cells #[.string (rdOf ByteArray.empty y185 x4_1), .bool t189, .int .i64 x194002_10, .slice Ao80 y230.length co80] 97 (0, 0))) := ⟨(by rw [hw]; exact bka_)⟩; replace HK : zd_ (zs_ w w82 g none) := ⟨(by rw [hw]; exact kp_)⟩; replace HB : zd_ (Below w0.heap.size w0 w82) := ⟨(by rw [hw]; exact (belg_ (zh_.ge HI0.out)))⟩; replace HI0 : zd_ (zh_ w0 w82 g s0_0 t216 t217 t218) := ⟨(by rw [hw]; exact zA_)⟩; clear hw; have hcz83_0 : w82.cell? ⟨gb193, 0, none⟩ = some (.string (rdOf ByteArray.empty y185 x4_1)) := (zb_ BK193.out 0).trans rfl; have hcz83_1 : w82.cell? ⟨gb193, 1, none⟩ = some (.bool t189) := (zb_ BK193.out 1).trans rfl; have hcz83_2 : w82.cell? ⟨gb193, 2, none⟩ = some (.int .i64 x194002_10) := (zb_ BK193.out 2).trans rfl; have hcz83_3 : w82.cell? ⟨gb193, 3, none⟩ = some (.slice Ao80 y230.length co80) := (zb_ BK193.out 3).trans rfl; have hfz83_0 := za_ BK193.out 0; have hfz83_1 := za_ BK193.out 1; have hfz83_2 := za_ BK193.out 2; have hfz83_3 := za_ BK193.out 3) | ((with_reducible refine yr_ (b := .append) (xs := #[.tmp 68, .tmp 70]) rfl ?_); at_builtin; refine Kd.xM_ k97 w.heap.size rfl (.tmp 68) (.tmp 70) 23 97 (.agg #[(.string ⟨#[]⟩), (.bool false), (.int .i64 0), (.slice none 0 0)]) 56 rfl Try.underlying23 info97 rfl (by decide) (by omega) u3 x3_1 (⟨(rdOf ByteArray.empty y185 x4_1), t189, x194002_10, y230⟩ : S97) [.string (rdOf ByteArray.empty y185 x4_1), .bool t189, .int .i64 x194002_10, .slice Ao80 y230.length co80] (fun k_ => k_ ≠ gb193) (fun k_ => some k_ = (.slice Ao80 y230.length co80 : Value).ownBlock) rfl rfl ?aP (fun k_ hk_ => ((Kd.z9_ (ok' := fun k_ => ((fun k_ => k_ ≠ gb193)) k_ ∧ some k_ ≠ (u3 : Value).ownBlock) (Kd.yo_ (Kd.yV_ (HO232.out) (Kd.y3_ HO_3.out) (by decide)) BK193.out (by decide)) (fun k_ hk => ⟨hk.2, hk.1.2⟩))).1 k_ hk_.symm) ?aF ?aO (Below.refl _ _) ?aS ?aL ?_; (case aP => exact k97_mkM _ _ _ (⟨(rdOf ByteArray.empty y185 x4_1), t189, x194002_10, y230⟩ : S97) (Kd.z9_ (Kd.R_tight rfl (Kd.z9_ (ok' := fun k_ => ((fun k_ => k_ ≠ gb193)) k_ ∧ some k_ ≠ (u3 : Value).ownBlock) (Kd.yo_ (Kd.yV_ (HO232.out) (Kd.y3_ HO_3.out) (by decide)) BK193.out (by decide)) (fun k_ hk => ⟨hk.2, hk.1.2⟩))) (fun _ h_ => h_))); (case aF => exact (fun k_ hk => Kd.freshB (g := gb193) (o := .cells #[.string (rdOf ByteArray.empty y185 x4_1), .bool t189, .int .i64 x194002_10, .slice Ao80 y230.length co80] 97 (0, 0)) (bk_ BK193.out) k_ hk)); (case aO => exact (by (with_reducible repeat (first | apply Kd.ye_ | apply Kd.yd_ | apply Kd.yi_)); exact Kd.zR_ HO_3.out (fun k_ hk => ⟨hk.2, fun e_ => hk.1 e_⟩))); (case aS => exact (zF_ (w := w) (g := g) (row := none) kp_)); (case aL => have := LMc74.out; omega); intro v234 w84 ho hb hg hat; rw [← Ny233.out] at ho; have n0_ := AM (yp_ (g := gb193) (o := .cells #[.string (rdOf ByteArray.empty y185 x4_1), .bool t189, .int .i64 x194002_10, .slice Ao80 y230.length co80] 97 (0, 0)) (bk_ BK193.out) hg (Kd.S_away HO_3.out (fun _ hk => hk.2))); have n1_ := AM (zh_.grown zA_ hg (zh_.own_neS HI0.out HO_3.out (by decide))); have n2_ := AM (xH_ (belg_ (zh_.ge HI0.out)) HL.out hb); have n3_ := AM (zs_.trans (kp_ (w := w)) (zs_.of_grown hg g) (Kd.S_base2 HO_3.out)); have n4_ := AM ho; clear BK193; clear HI0; clear HB; clear HK; clear HO_3; clear HO232; have BK193 := n0_; have HI0 := n1_; have HB := n2_; have HK := n3_; have HO235 := n4_; clear n0_ n1_ n2_ n3_ n4_; clear ho hb hg hat))
              go_roundg kj10
              case measure => have := HK1.out; have := HJ10.out; omega
              case rel => exact ⟨(y233), (wrap64 (x4_1 + 1)), (t216), (t217), (t218), re_, H', ⟨by have := HK1.out; have := HJ10.out; omega⟩, ⟨by (with_reducible repeat (first | apply Kd.ye_ | apply Kd.yd_ | apply Kd.yi_)); exact Kd.zR_ HO235.out (fun _ hk => trivial)⟩, ⟨zA_⟩, ⟨kp_⟩, ⟨belg_ (zh_.ge HI0.out)⟩⟩
             ·
              rw [if_neg c74] at H
              exact absurd H (by simp)
            ·
             rw [if_neg c73] at H
             exact absurd H (by simp)
           ·
            rw [if_neg c72] at H
            have c72b0 : (t215 == 1) = false := beq_eq_false_iff_ne.mpr c72
            have c72b1 : (t215 != 1) = true := bne_iff_ne.mpr c72
            obtain ⟨y236, hy236⟩ : ∃ y_ : List ByteArray, y_ = (([(⟨#[]⟩ : ByteArray), (⟨#[97]⟩ : ByteArray), (⟨#[65]⟩ : ByteArray)] : List ByteArray)) := ⟨_, rfl⟩
            replace H : ((yR_.f s0_0 t216 t217 t218 y236).bind fun bt239 => (if x3_1.length < 2513169434916 then (zc_.l0 kj10 (x3_1 ++ [(⟨bt239.1, t189, x194002_10, x194003_10⟩ : S97)]) (wrap64 (x4_1 + 1)) s0_0 bt239.2.1 bt239.2.2.1 bt239.2.2.2) else (none))) = some (r1, r2, r3, r4) := by first | (rw [hy236]; with_reducible exact H) | (have H2_ := (Option.bind_some _ _).symm.trans H; rw [hy236]; with_reducible exact H2_) | (have H2_ := (Option.bind_some _ _).symm.trans H; with_reducible exact H2_) | with_reducible exact H | (rw [hy236]; exact H) | exact H
            have Ny236 := AM hy236
            clear hy236
            obtain ⟨⟨t239, t240, t241, t242⟩, A85, H⟩ := OB H
            try dsimp only at H
            replace A85 := AM A85
            by_cases c86 : x3_1.length < 2513169434916
            ·
             rw [if_pos c86] at H
             have LMc86 := AM c86
             clear c86
             obtain ⟨y243, hy243⟩ : ∃ y_ : List (S97), y_ = (x3_1 ++ [(⟨t239, t189, x194002_10, x194003_10⟩ : S97)]) := ⟨_, rfl⟩
             replace H : (zc_.l0 kj10 y243 (wrap64 (x4_1 + 1)) s0_0 t240 t241 t242) = some (r1, r2, r3, r4) := by first | (rw [hy243]; with_reducible exact H) | (have H2_ := (Option.bind_some _ _).symm.trans H; rw [hy243]; with_reducible exact H2_) | (have H2_ := (Option.bind_some _ _).symm.trans H; with_reducible exact H2_) | with_reducible exact H | (rw [hy243]; exact H) | exact H
             have Ny243 := AM hy243
             clear hy243
             have H' := AM H
             clear H
             go_wp2_with (first | ((with_reducible refine zl_ (f := 68) rfl ?_); refine gl_ (some 46) Try.func68 #[.pointer (some ⟨g, 0, none⟩), .int .i64 25] ?_; (with_reducible refine (zK_.calls g s0_0 x1001_10 x1002_10 x1003_10 25 true t212 t213 t214 w0 _ ?side1 ?side2 A52.out).mono ?_); (case side1 => exact zA_); (case side2 => exact belg_ (zh_.ge HI0.out)); rintro e w87 ⟨rfl, hi, hb, hk⟩; refine ⟨_, rfl, ?_⟩; replace HO_3 := AM (Kd.zR_ (Kd.yT_ (zh_.apartS (show zh_ w0 _ g s0_0 x1001_10 x1002_10 x1003_10 from zA_) (ks_ HO_3.out) (by decide)) hk (fun _ h => h.2)) (fun _ h => h.1)); replace HO_194003 := AM (Kd.z9_ (Kd.xA_ (zh_.apart (show zh_ w0 _ g s0_0 x1001_10 x1002_10 x1003_10 from zA_) (ro_ HO_194003.out) (by decide)) hk (fun _ h => h.2)) (fun _ h => h.1)); replace BK193 := AM (zs_.blk hk (g' := gb193) (o := .cells #[.string (rdOf ByteArray.empty y185 x4_1), .bool t189, .int .i64 x194002_10, u194003] 97 (0, 0)) (bk_ BK193.out) NB193_0.out (by simp)); replace HK := AM (kk_ w hk); replace HB := AM hb; replace HI0 := AM hi; (try clear hb); (try clear hk); (try clear hi)) | ((with_reducible refine zl_ (f := 64) rfl ?_); refine gl_ (some 48) Try.func64 #[.pointer (some ⟨g, 0, none⟩), .int .i64 3] ?_; (with_reducible refine (zI_.calls g s0_0 t212 t213 t214 3 t215 t216 t217 t218 w0 _ ?side1 ?side2 A54.out).mono ?_); (case side1 => exact zA_); (case side2 => exact belg_ (zh_.ge HI0.out)); rintro e w88 ⟨rfl, hi, hb, hk⟩; refine ⟨_, rfl, ?_⟩; replace HO_3 := AM (Kd.zR_ (Kd.yT_ (zh_.apartS (show zh_ w0 _ g s0_0 t212 t213 t214 from zA_) (ks_ HO_3.out) (by decide)) hk (fun _ h => h.2)) (fun _ h => h.1)); replace HO_194003 := AM (Kd.z9_ (Kd.xA_ (zh_.apart (show zh_ w0 _ g s0_0 t212 t213 t214 from zA_) (ro_ HO_194003.out) (by decide)) hk (fun _ h => h.2)) (fun _ h => h.1)); replace BK193 := AM (zs_.blk hk (g' := gb193) (o := .cells #[.string (rdOf ByteArray.empty y185 x4_1), .bool t189, .int .i64 x194002_10, u194003] 97 (0, 0)) (bk_ BK193.out) NB193_0.out (by simp)); replace HK := AM (kk_ w hk); replace HB := AM hb; replace HI0 := AM hi; (try clear hb); (try clear hk); (try clear hi)) | ((with_reducible refine z6_ (N := 50) rfl ?_); refine Kd.R_lit Kd.string _ 9 ?hgL7 (N := 50) ?hdL7 (xs := ([(⟨#[]⟩ : ByteArray), (⟨#[97]⟩ : ByteArray), (⟨#[65]⟩ : ByteArray)] : List ByteArray)) (inner := [.string (⟨#[]⟩ : ByteArray), .string (⟨#[97]⟩ : ByteArray), .string (⟨#[65]⟩ : ByteArray)]) (ok := fun _ => True) (okp := fun _ => True) ?hrL7 ?hpL7 (fun _ hk => hk) trivial (Below.refl _ _) (Nat.le_refl _) (by simp) ?_; (case hdL7 => rfl); (case hgL7 => rfl); (case hrL7 => first | (go_simp; done) | (go_simp; rfl)); (case hpL7 => exact (Reps.one (show Kd.M Kd.string _ _ _ (⟨#[]⟩ : ByteArray) [.string (⟨#[]⟩ : ByteArray)] from rfl) (Reps.one (show Kd.M Kd.string _ _ _ (⟨#[97]⟩ : ByteArray) [.string (⟨#[97]⟩ : ByteArray)] from rfl) (Reps.one (show Kd.M Kd.string _ _ _ (⟨#[65]⟩ : ByteArray) [.string (⟨#[65]⟩ : ByteArray)] from rfl) (Reps.none _ _))))); intro v237 w89 ho90 hb hg_ hnew_; clear hg_ hnew_; (first | rw [← Ny236.out] at ho90 | (simp only [Int.reduceToNat] at ho90; rw [← Ny236.out] at ho90)); replace HO_3 := AM (Kd.S_elder' (ks_ HO_3.out) (Kd.R_base ho90) hb); have HO238 := AM (Kd.yE_ (Kd.R_new' ho90 (Kd.R_lt (ro_ HO_194003.out))) (zF_ (w := w) (g := g) (row := none) kp_)); replace HO_194003 := AM (Kd.R_elder' (ro_ HO_194003.out) (Kd.R_base ho90) hb); replace BK193 := AM (zP_ (g := gb193) (o := .cells #[.string (rdOf ByteArray.empty y185 x4_1), .bool t189, .int .i64 x194002_10, u194003] 97 (0, 0)) (bk_ BK193.out) hb); replace HK := AM (kb_ w g hb); replace HB := AM (zg_ (belg_ (zh_.ge HI0.out)) hb); replace HI0 := AM (zh_.below zA_ hb); clear hb ho90; obtain ⟨Ao91, co91, eo91⟩ := Kd.yA_ HO238.out; subst eo91) | ((with_reducible refine zl_ (f := 135) rfl ?_); refine gl_ (some 51) Try.func135 #[.pointer (some ⟨g, 0, none⟩), .slice Ao91 y236.length co91] ?_; (with_reducible refine (yR_.calls g s0_0 t216 t217 t218 _ _ y236 t239 t240 t241 t242 w0 _ ?side1 ?side2 ?side3 ?side4 ?side5 A85.out).mono ?_); (case side1 => exact zA_); (case side2 => exact belg_ (zh_.ge HI0.out)); (case side3 => repeat (first | exact (Kd.yI_ HO238.out).2.2 | (with_reducible refine Kd.yx_ ?_ _) | (with_reducible refine Kd.yw_ ?_ _) | (with_reducible refine Kd.yQ_ ?_))); (case side4 => exact (Kd.yI_ HO238.out).2.1); (case side5 => exact far_slice (zh_.own_ne HI0.out HO238.out (by decide))); rintro e w92 ⟨rfl, hi, hb, hk⟩; refine ⟨_, rfl, ?_⟩; replace HO_3 := AM (Kd.zR_ (Kd.yT_ (zh_.apartS (show zh_ w0 _ g s0_0 t216 t217 t218 from zA_) (ks_ HO_3.out) (by decide)) hk (fun _ h => h.2)) (fun _ h => h.1)); replace HO_194003 := AM (Kd.z9_ (Kd.xA_ (zh_.apart (show zh_ w0 _ g s0_0 t216 t217 t218 from zA_) (ro_ HO_194003.out) (by decide)) hk (fun _ h => h.2)) (fun _ h => h.1)); replace BK193 := AM (zs_.blk hk (g' := gb193) (o := .cells #[.string (rdOf ByteArray.empty y185 x4_1), .bool t189, .int .i64 x194002_10, u194003] 97 (0, 0)) (bk_ BK193.out) NB193_0.out (by simp)); replace HO238 := AM (Kd.z9_ (Kd.xA_ (zh_.apart (show zh_ w0 _ g s0_0 t216 t217 t218 from zA_) (ro_ HO238.out) (by decide)) hk (fun _ h => h.2)) (fun _ h => h.1)); replace HK := AM (kk_ w hk); replace HB := AM hb; replace HI0 := AM hi; (try clear hb); (try clear hk); (try clear hi); have hnb93 := NB193_0.out; have hnc93 := NB0_193.out; have hcz94_0 : w92.cell? ⟨gb193, 0, none⟩ = some (.string (rdOf ByteArray.empty y185 x4_1)) := (zb_ BK193.out 0).trans rfl; have hcz94_1 : w92.cell? ⟨gb193, 1, none⟩ = some (.bool t189) := (zb_ BK193.out 1).trans rfl; have hcz94_2 : w92.cell? ⟨gb193, 2, none⟩ = some (.int .i64 x194002_10) := (zb_ BK193.out 2).trans rfl; have hcz94_3 : w92.cell? ⟨gb193, 3, none⟩ = some (u194003) := (zb_ BK193.out 3).trans rfl; have hfz94_0 := za_ BK193.out 0; have hfz94_1 := za_ BK193.out 1; have hfz94_2 := za_ BK193.out 2; have hfz94_3 := za_ BK193.out 3) | ((with_reducible refine xG_ (t := 9) (p := 52) rfl ?_); refine xr_ (t := 9) (p := 52) (v := ?vo_w95) (w1 := (w92.setCell ⟨gb193, 0, none⟩ (.string t239))) ?hg ?ho ?hn ?hr ?_; (case ho => rfl); (case hg => rfl); (case hn => rfl); (case hr => first | (go_simp; done) | (go_simp; rfl)); intro w95 hw; replace HO_3 : zd_ (Kd.S k97 97 w95 w.heap.size (fun k_ => some k_ ≠ (u194003 : Value).ownBlock ∧ some k_ ≠ (.slice Ao91 y236.length co91 : Value).ownBlock ∧ k_ ≠ gb193) u3 x3_1) := ⟨(by rw [hw]; exact (by (with_reducible repeat (first | apply Kd.ye_ | apply Kd.yd_ | apply Kd.yi_)); exact Kd.zR_ (Kd.S_far (p := ⟨gb193, 0, none⟩) (Kd.zR_ HO_3.out (fun k_ hk => (⟨hk, hk.1.2⟩ : _ ∧ k_ ≠ gb193))) (fun _ hk => hk.2) (.string t239)) (fun _ hk => ⟨hk.1.1.1, ⟨hk.1.2, hk.1.1.2⟩⟩)))⟩; replace HO_194003 : zd_ (Kd.R Kd.string 9 w95 w.heap.size (fun k_ => some k_ ≠ (.slice Ao91 y236.length co91 : Value).ownBlock) u194003 x194003_10) := ⟨(by rw [hw]; exact (by (with_reducible repeat (first | apply Kd.yP_ | apply Kd.yL_ | apply Kd.yW_)); exact Kd.z9_ (Kd.R_far (p := ⟨gb193, 0, none⟩) (Kd.yo_ HO_194003.out BK193.out (by decide)) (fun _ hk => hk.2) (.string t239)) (fun _ hk => hk.1.2)))⟩; replace HO238 : zd_ (Kd.R Kd.string 9 w95 w.heap.size (fun k_ => some k_ ≠ (u194003 : Value).ownBlock) (.slice Ao91 y236.length co91) y236) := ⟨(by rw [hw]; exact (by (with_reducible repeat (first | apply Kd.yP_ | apply Kd.yL_ | apply Kd.yW_)); exact Kd.z9_ (Kd.R_far (p := ⟨gb193, 0, none⟩) (Kd.yo_ HO238.out BK193.out (by decide)) (fun _ hk => hk.2) (.string t239)) (fun _ hk => hk.1.2)))⟩; replace BK193 : zd_ (w95.heap[gb193]? = some (.cells #[.string t239, .bool t189, .int .i64 x194002_10, u194003] 97 (0, 0))) := ⟨(by rw [hw]; exact bka_)⟩; replace HK : zd_ (zs_ w w95 g none) := ⟨(by rw [hw]; exact kp_)⟩; replace HB : zd_ (Below w0.heap.size w0 w95) := ⟨(by rw [hw]; exact (belg_ (zh_.ge HI0.out)))⟩; replace HI0 : zd_ (zh_ w0 w95 g s0_0 t240 t241 t242) := ⟨(by rw [hw]; exact zA_)⟩; clear hw; have hcz96_0 : w95.cell? ⟨gb193, 0, none⟩ = some (.string t239) := (zb_ BK193.out 0).trans rfl; have hcz96_1 : w95.cell? ⟨gb193, 1, none⟩ = some (.bool t189) := (zb_ BK193.out 1).trans rfl; have hcz96_2 : w95.cell? ⟨gb193, 2, none⟩ = some (.int .i64 x194002_10) := (zb_ BK193.out 2).trans rfl; have hcz96_3 : w95.cell? ⟨gb193, 3, none⟩ = some (u194003) := (zb_ BK193.out 3).trans rfl; have hfz96_0 := za_ BK193.out 0; have hfz96_1 := za_ BK193.out 1; have hfz96_2 := za_ BK193.out 2; have hfz96_3 := za_ BK193.out 3; obtain ⟨Ao98, co98, eo98⟩ := Kd.yA_ HO_194003.out; subst eo98) | ((with_reducible refine yr_ (b := .append) (xs := #[.tmp 68, .tmp 70]) rfl ?_); at_builtin; refine Kd.xM_ k97 w.heap.size rfl (.tmp 68) (.tmp 70) 23 97 (.agg #[(.string ⟨#[]⟩), (.bool false), (.int .i64 0), (.slice none 0 0)]) 56 rfl Try.underlying23 info97 rfl (by decide) (by omega) u3 x3_1 (⟨t239, t189, x194002_10, x194003_10⟩ : S97) [.string t239, .bool t189, .int .i64 x194002_10, .slice Ao98 x194003_10.length co98] (fun k_ => some k_ ≠ (.slice Ao91 y236.length co91 : Value).ownBlock ∧ k_ ≠ gb193) (fun k_ => some k_ = (.slice Ao98 x194003_10.length co98 : Value).ownBlock) rfl rfl ?aP (fun k_ hk_ => ((Kd.z9_ (ok' := fun k_ => ((fun k_ => some k_ ≠ (.slice Ao91 y236.length co91 : Value).ownBlock ∧ k_ ≠ gb193)) k_ ∧ some k_ ≠ (u3 : Value).ownBlock) (Kd.yo_ (Kd.yV_ (HO_194003.out) (Kd.y3_ HO_3.out) (by decide)) BK193.out (by decide)) (fun k_ hk => ⟨⟨hk.1.1, hk.2⟩, hk.1.2⟩))).1 k_ hk_.symm) ?aF ?aO (Below.refl _ _) ?aS ?aL ?_; (case aP => exact k97_mkM _ _ _ (⟨t239, t189, x194002_10, x194003_10⟩ : S97) (Kd.z9_ (Kd.R_tight rfl (Kd.z9_ (ok' := fun k_ => ((fun k_ => some k_ ≠ (.slice Ao91 y236.length co91 : Value).ownBlock ∧ k_ ≠ gb193)) k_ ∧ some k_ ≠ (u3 : Value).ownBlock) (Kd.yo_ (Kd.yV_ (HO_194003.out) (Kd.y3_ HO_3.out) (by decide)) BK193.out (by decide)) (fun k_ hk => ⟨⟨hk.1.1, hk.2⟩, hk.1.2⟩))) (fun _ h_ => h_))); (case aF => exact (fun k_ hk => ⟨Kd.fresh' (Kd.R_lt (ro_ HO238.out)) k_ hk, Kd.freshB (g := gb193) (o := .cells #[.string t239, .bool t189, .int .i64 x194002_10, .slice Ao98 x194003_10.length co98] 97 (0, 0)) (bk_ BK193.out) k_ hk⟩)); (case aO => exact (by (with_reducible repeat (first | apply Kd.ye_ | apply Kd.yd_ | apply Kd.yi_)); exact Kd.zR_ HO_3.out (fun k_ hk => ⟨⟨hk.2.1, hk.2.2⟩, fun e_ => hk.1 e_⟩))); (case aS => exact (zF_ (w := w) (g := g) (row := none) kp_)); (case aL => have := LMc86.out; omega); intro v244 w97 ho hb hg hat; rw [← Ny243.out] at ho; have n0_ := AM (yp_ (g := gb193) (o := .cells #[.string t239, .bool t189, .int .i64 x194002_10, .slice Ao98 x194003_10.length co98] 97 (0, 0)) (bk_ BK193.out) hg (Kd.S_away HO_3.out (fun _ hk => hk.2.2))); have n1_ := AM (zh_.grown zA_ hg (zh_.own_neS HI0.out HO_3.out (by decide))); have n2_ := AM (Kd.R_over' (ro_ HO238.out) (Kd.y3_ (ks_ HO_3.out)) (by decide) hg); have n3_ := AM (xH_ (belg_ (zh_.ge HI0.out)) HL.out hb); have n4_ := AM (zs_.trans (kp_ (w := w)) (zs_.of_grown hg g) (Kd.S_base2 HO_3.out)); have n5_ := AM ho; clear BK193; clear HI0; clear HO238; clear HB; clear HK; clear HO_3; clear HO_194003; have BK193 := n0_; have HI0 := n1_; have HO238 := n2_; have HB := n3_; have HK := n4_; have HO245 := n5_; clear n0_ n1_ n2_ n3_ n4_ n5_; clear ho hb hg hat))
             go_roundg kj10
             case measure => have := HK1.out; have := HJ10.out; omega
             case rel => exact ⟨(y243), (wrap64 (x4_1 + 1)), (t240), (t241), (t242), re_, H', ⟨by have := HK1.out; have := HJ10.out; omega⟩, ⟨by (with_reducible repeat (first | apply Kd.ye_ | apply Kd.yd_ | apply Kd.yi_)); exact Kd.zR_ HO245.out (fun _ hk => trivial)⟩, ⟨zA_⟩, ⟨kp_⟩, ⟨belg_ (zh_.ge HI0.out)⟩⟩
            ·
             rw [if_neg c86] at H
             exact absurd H (by simp)
         ·
          replace c53 := Bool.eq_false_iff.mpr c53
          subst c53
          rw [if_neg (show ¬ (false = true) by decide)] at H
          by_cases c99 : x3_1.length < 2513169434916
          ·
           rw [if_pos c99] at H
           have LMc99 := AM c99
           clear c99
           obtain ⟨y246, hy246⟩ : ∃ y_ : List (S97), y_ = (x3_1 ++ [(⟨(rdOf ByteArray.empty y185 x4_1), t189, x194002_10, x194003_10⟩ : S97)]) := ⟨_, rfl⟩
           replace H : (zc_.l0 kj10 y246 (wrap64 (x4_1 + 1)) s0_0 t212 t213 t214) = some (r1, r2, r3, r4) := by first | (rw [hy246]; with_reducible exact H) | (have H2_ := (Option.bind_some _ _).symm.trans H; rw [hy246]; with_reducible exact H2_) | (have H2_ := (Option.bind_some _ _).symm.trans H; with_reducible exact H2_) | with_reducible exact H | (rw [hy246]; exact H) | exact H
           have Ny246 := AM hy246
           clear hy246
           have H' := AM H
           clear H
           go_wp2_with (first | ((with_reducible refine zl_ (f := 68) rfl ?_); refine gl_ (some 46) Try.func68 #[.pointer (some ⟨g, 0, none⟩), .int .i64 25] ?_; (with_reducible refine (zK_.calls g s0_0 x1001_10 x1002_10 x1003_10 25 false t212 t213 t214 w0 _ ?side1 ?side2 A52.out).mono ?_); (case side1 => exact zA_); (case side2 => exact belg_ (zh_.ge HI0.out)); rintro e w100 ⟨rfl, hi, hb, hk⟩; refine ⟨_, rfl, ?_⟩; replace HO_3 := AM (Kd.zR_ (Kd.yT_ (zh_.apartS (show zh_ w0 _ g s0_0 x1001_10 x1002_10 x1003_10 from zA_) (ks_ HO_3.out) (by decide)) hk (fun _ h => h.2)) (fun _ h => h.1)); replace HO_194003 := AM (Kd.z9_ (Kd.xA_ (zh_.apart (show zh_ w0 _ g s0_0 x1001_10 x1002_10 x1003_10 from zA_) (ro_ HO_194003.out) (by decide)) hk (fun _ h => h.2)) (fun _ h => h.1)); replace BK193 := AM (zs_.blk hk (g' := gb193) (o := .cells #[.string (rdOf ByteArray.empty y185 x4_1), .bool t189, .int .i64 x194002_10, u194003] 97 (0, 0)) (bk_ BK193.out) NB193_0.out (by simp)); replace HK := AM (kk_ w hk); replace HB := AM hb; replace HI0 := AM hi; (try clear hb); (try clear hk); (try clear hi); have hnb101 := NB193_0.out; have hnc101 := NB0_193.out; have hcz102_0 : w100.cell? ⟨gb193, 0, none⟩ = some (.string (rdOf ByteArray.empty y185 x4_1)) := (zb_ BK193.out 0).trans rfl; have hcz102_1 : w100.cell? ⟨gb193, 1, none⟩ = some (.bool t189) := (zb_ BK193.out 1).trans rfl; have hcz102_2 : w100.cell? ⟨gb193, 2, none⟩ = some (.int .i64 x194002_10) := (zb_ BK193.out 2).trans rfl; have hcz102_3 : w100.cell? ⟨gb193, 3, none⟩ = some (u194003) := (zb_ BK193.out 3).trans rfl; have hfz102_0 := za_ BK193.out 0; have hfz102_1 := za_ BK193.out 1; have hfz102_2 := za_ BK193.out 2; have hfz102_3 := za_ BK193.out 3; obtain ⟨Ao104, co104, eo104⟩ := Kd.yA_ HO_194003.out; subst eo104) | ((with_reducible refine yr_ (b := .append) (xs := #[.tmp 68, .tmp 70]) rfl ?_); at_builtin; refine Kd.xM_ k97 w.heap.size rfl (.tmp 68) (.tmp 70) 23 97 (.agg #[(.string ⟨#[]⟩), (.bool false), (.int .i64 0), (.slice none 0 0)]) 56 rfl Try.underlying23 info97 rfl (by decide) (by omega) u3 x3_1 (⟨(rdOf ByteArray.empty y185 x4_1), t189, x194002_10, x194003_10⟩ : S97) [.string (rdOf ByteArray.empty y185 x4_1), .bool t189, .int .i64 x194002_10, .slice Ao104 x194003_10.length co104] (fun k_ => k_ ≠ gb193) (fun k_ => some k_ = (.slice Ao104 x194003_10.length co104 : Value).ownBlock) rfl rfl ?aP (fun k_ hk_ => ((Kd.z9_ (ok' := fun k_ => ((fun k_ => k_ ≠ gb193)) k_ ∧ some k_ ≠ (u3 : Value).ownBlock) (Kd.yo_ (Kd.yV_ (HO_194003.out) (Kd.y3_ HO_3.out) (by decide)) BK193.out (by decide)) (fun k_ hk => ⟨hk.2, hk.1.2⟩))).1 k_ hk_.symm) ?aF ?aO (Below.refl _ _) ?aS ?aL ?_; (case aP => exact k97_mkM _ _ _ (⟨(rdOf ByteArray.empty y185 x4_1), t189, x194002_10, x194003_10⟩ : S97) (Kd.z9_ (Kd.R_tight rfl (Kd.z9_ (ok' := fun k_ => ((fun k_ => k_ ≠ gb193)) k_ ∧ some k_ ≠ (u3 : Value).ownBlock) (Kd.yo_ (Kd.yV_ (HO_194003.out) (Kd.y3_ HO_3.out) (by decide)) BK193.out (by decide)) (fun k_ hk => ⟨hk.2, hk.1.2⟩))) (fun _ h_ => h_))); (case aF => exact (fun k_ hk => Kd.freshB (g := gb193) (o := .cells #[.string (rdOf ByteArray.empty y185 x4_1), .bool t189, .int .i64 x194002_10, .slice Ao104 x194003_10.length co104] 97 (0, 0)) (bk_ BK193.out) k_ hk)); (case aO => exact (by (with_reducible repeat (first | apply Kd.ye_ | apply Kd.yd_ | apply Kd.yi_)); exact Kd.zR_ HO_3.out (fun k_ hk => ⟨hk.2, fun e_ => hk.1 e_⟩))); (case aS => exact (zF_ (w := w) (g := g) (row := none) kp_)); (case aL => have := LMc99.out; omega); intro v247 w103 ho hb hg hat; rw [← Ny246.out] at ho; have n0_ := AM (yp_ (g := gb193) (o := .cells #[.string (rdOf ByteArray.empty y185 x4_1), .bool t189, .int .i64 x194002_10, .slice Ao104 x194003_10.length co104] 97 (0, 0)) (bk_ BK193.out) hg (Kd.S_away HO_3.out (fun _ hk => hk.2))); have n1_ := AM (zh_.grown zA_ hg (zh_.own_neS HI0.out HO_3.out (by decide))); have n2_ := AM (xH_ (belg_ (zh_.ge HI0.out)) HL.out hb); have n3_ := AM (zs_.trans (kp_ (w := w)) (zs_.of_grown hg g) (Kd.S_base2 HO_3.out)); have n4_ := AM ho; clear BK193; clear HI0; clear HB; clear HK; clear HO_3; clear HO_194003; have BK193 := n0_; have HI0 := n1_; have HB := n2_; have HK := n3_; have HO248 := n4_; clear n0_ n1_ n2_ n3_ n4_; clear ho hb hg hat))
           go_roundg kj10
           case measure => have := HK1.out; have := HJ10.out; omega
           case rel => exact ⟨(y246), (wrap64 (x4_1 + 1)), (t212), (t213), (t214), re_, H', ⟨by have := HK1.out; have := HJ10.out; omega⟩, ⟨by (with_reducible repeat (first | apply Kd.ye_ | apply Kd.yd_ | apply Kd.yi_)); exact Kd.zR_ HO248.out (fun _ hk => trivial)⟩, ⟨zA_⟩, ⟨kp_⟩, ⟨belg_ (zh_.ge HI0.out)⟩⟩
          ·
           rw [if_neg c99] at H
           exact absurd H (by simp)
      ·
       rw [if_neg c9] at H
       exact absurd H (by simp)
     ·
      rw [if_neg c8] at H
      exact absurd H (by simp)
   ·
    rw [if_neg c4] at H
    have c4b0 : decide (x4_1 < 4) = false := decide_eq_false c4
    clear c4
    simp only [Option.some.injEq, Prod.mk.injEq] at H
    obtain ⟨rfl, rfl, rfl, rfl⟩ := H
    go_wp2
    go_ret
    exact ⟨_, ri_, by (with_reducible repeat (first | apply Kd.ye_ | apply Kd.yd_ | apply Kd.yi_)); exact HO_3.out, zA_, belg_ (zh_.ge HI0.out), kp_⟩
end Go.Proofs.Ytfffdndeccipnaa.PFnNodes
