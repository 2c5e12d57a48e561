import Derived.Test.YtfffdndeccipnaaPFnNodesx0
import Derived.Test.YtfffdndeccipnaaPFnNodesx17
namespace Go.Proofs.Ytfffdndeccipnaa.PFnNodes
open Go.RowKit Go.Proofs.YtfffdndeccipnaaW.PrintWords Go.Proofs.YtfffdndeccipnaaW.PrintLast Go.Proofs.YtfffdndeccipnaaW.PrintMore Go.Proofs.Ytfffdndeccipnaa.Aut
attribute [local go_sem] xE_ xC_ max_two min_two xn_ xm_ xD_ xB_
set_option linter.unusedVariables false
set_option linter.unusedSimpArgs false
set_option maxHeartbeats 8000000
set_option maxRecDepth 100000
/-! ### ze_: function 63 -/
mutual
def ze_.l0 : Nat → Int → List (S97) → Int → ByteArray → Int → Bool → Option ((List (S97)) × Bool)
 | 0, _, _, _, _, _, _ => none
 | k + 1, x5, x6, x7, x345000, x345001, x345002 => if x7 < x5 then (if x7 ≤ 20 then (ze_.j1 k x5 x6 x7 (!x345002) x345000 x345001 x345002) else (ze_.j1 k x5 x6 x7 false x345000 x345001 x345002)) else (ze_.j1 k x5 x6 x7 false x345000 x345001 x345002)
def ze_.j1 : Nat → Int → List (S97) → Int → Bool → ByteArray → Int → Bool → Option ((List (S97)) × Bool)
 | 0, _, _, _, _, _, _, _ => none
 | k + 1, x5, x6, x7, x30, x345000, x345001, x345002 => if x30 = true then ((zJ_.f k x345000 x345001 x345002).bind fun bt349 => ((zG_.f k bt349.2.1 bt349.2.2.1 bt349.2.2.2).bind fun bt354 => ((zG_.f k bt354.2.1 bt354.2.2.1 bt354.2.2.2).bind fun bt358 => (if bt358.2.2.2 = true then (ze_.j2 k x5 x6 x7 bt358.2.1 bt358.2.2.1 true bt349.1 (bt354.1 == 1) bt358.1) else ((yg_.f bt354.1 0 1).bind fun t362 => (ze_.j2 k x5 x6 x7 bt358.2.1 bt358.2.2.1 (!t362) bt349.1 (bt354.1 == 1) bt358.1)))))) else ((y2_.f x6).bind fun t391 => (if x5 = t391 then ((yt_.f x345000 x345001 x345002).bind fun bt392 => (if bt392.1 = true then ((zi_.f k x6).bind fun t396 => (if t396 = true then (some (x6, true)) else (some (([] : List (S97)), false)))) else (some (([] : List (S97)), false)))) else (some (([] : List (S97)), false))))
def ze_.j2 : Nat → Int → List (S97) → Int → ByteArray → Int → Bool → ByteArray → Bool → Int → Option ((List (S97)) × Bool)
 | 0, _, _, _, _, _, _, _, _, _ => none
 | k + 1, x5, x6, x7, x345000, x345001, x345002, x354000, x354001, x354002 => (zG_.f k x345000 x345001 x345002).bind fun bt363 => (ze_.l1 k x5 x6 x7 bt363.1 0 bt363.2.1 bt363.2.2.1 bt363.2.2.2 x354000 x354001 x354002 ([] : List ByteArray))
def ze_.l1 : Nat → Int → List (S97) → Int → Int → Int → ByteArray → Int → Bool → ByteArray → Bool → Int → List ByteArray → Option ((List (S97)) × Bool)
 | 0, _, _, _, _, _, _, _, _, _, _, _, _ => none
 | k + 1, x5, x6, x7, x10, x11, x345000, x345001, x345002, x354000, x354001, x354002, x354003 => if x11 < x10 then (if x11 ≤ 100 then (if x345002 = true then (if x6.length < 2513169434916 then (ze_.l0 k x5 (x6 ++ [(⟨x354000, x354001, x354002, x354003⟩ : S97)]) (wrap64 (x7 + 1)) x345000 x345001 true) else (none)) else ((yK_.f x345000 x345001 x345002 32).bind fun bt370 => (if x354003.length < 8796093022208 then (ze_.l1 k x5 x6 x7 x10 (wrap64 (x11 + 1)) bt370.2.1 bt370.2.2.1 bt370.2.2.2 x354000 x354001 x354002 (x354003 ++ [bt370.1])) else (none)))) else (if x345002 = true then (if x6.length < 2513169434916 then (ze_.l0 k x5 (x6 ++ [(⟨x354000, x354001, x354002, x354003⟩ : S97)]) (wrap64 (x7 + 1)) x345000 x345001 true) else (none)) else ((yq_.f x354003).bind fun t380 => (if x6.length < 2513169434916 then (ze_.l0 k x5 (x6 ++ [(⟨x354000, x354001, x354002, x354003⟩ : S97)]) (wrap64 (x7 + 1)) x345000 x345001 (x10 != t380)) else (none))))) else (if x345002 = true then (if x6.length < 2513169434916 then (ze_.l0 k x5 (x6 ++ [(⟨x354000, x354001, x354002, x354003⟩ : S97)]) (wrap64 (x7 + 1)) x345000 x345001 true) else (none)) else ((yq_.f x354003).bind fun t387 => (if x6.length < 2513169434916 then (ze_.l0 k x5 (x6 ++ [(⟨x354000, x354001, x354002, x354003⟩ : S97)]) (wrap64 (x7 + 1)) x345000 x345001 (x10 != t387)) else (none))))
end
def ze_.f (k : Nat) (a0 : ByteArray) : Option ((List (S97)) × Bool) := (zG_.f k a0 0 false).bind fun bt345 => (ze_.l0 k bt345.1 ([] : List (S97)) 0 bt345.2.1 bt345.2.2.1 bt345.2.2.2)
theorem ze_.mono_l : ∀ k, (∀ y0 y1 y2 y3 y4 y5, LeO (ze_.l0 k y0 y1 y2 y3 y4 y5) (ze_.l0 (k + 1) y0 y1 y2 y3 y4 y5)) ∧ (∀ y0 y1 y2 y3 y4 y5 y6, LeO (ze_.j1 k y0 y1 y2 y3 y4 y5 y6) (ze_.j1 (k + 1) y0 y1 y2 y3 y4 y5 y6)) ∧ (∀ y0 y1 y2 y3 y4 y5 y6 y7 y8, LeO (ze_.j2 k y0 y1 y2 y3 y4 y5 y6 y7 y8) (ze_.j2 (k + 1) y0 y1 y2 y3 y4 y5 y6 y7 y8)) ∧ (∀ y0 y1 y2 y3 y4 y5 y6 y7 y8 y9 y10 y11, LeO (ze_.l1 k y0 y1 y2 y3 y4 y5 y6 y7 y8 y9 y10 y11) (ze_.l1 (k + 1) y0 y1 y2 y3 y4 y5 y6 y7 y8 y9 y10 y11))
 | 0 => ⟨fun _ _ _ _ _ _ r h => by simp [ze_.l0] at h, fun _ _ _ _ _ _ _ r h => by simp [ze_.j1] at h, fun _ _ _ _ _ _ _ _ _ r h => by simp [ze_.j2] at h, fun _ _ _ _ _ _ _ _ _ _ _ _ r h => by simp [ze_.l1] at h⟩
 | k + 1 => by
  obtain ⟨ih0, ih1, ih2, ih3⟩ := ze_.mono_l k
  refine ⟨?_, ?_, ?_, ?_⟩
  ·
   intro y0 y1 y2 y3 y4 y5
   unfold ze_.l0
   repeat' with_reducible first | exact ih0 _ _ _ _ _ _ | exact ih1 _ _ _ _ _ _ _ | exact ih2 _ _ _ _ _ _ _ _ _ | exact ih3 _ _ _ _ _ _ _ _ _ _ _ _ | exact zi_.mono _ _ | exact zG_.mono _ _ _ _ | exact zJ_.mono _ _ _ _ | exact LeO.refl _ | exact LeO.none _ | refine LeO.ite ?_ ?_ | refine LeO.bind ?_ (fun _ => ?_)
  ·
   intro y0 y1 y2 y3 y4 y5 y6
   unfold ze_.j1
   repeat' with_reducible first | exact ih0 _ _ _ _ _ _ | exact ih1 _ _ _ _ _ _ _ | exact ih2 _ _ _ _ _ _ _ _ _ | exact ih3 _ _ _ _ _ _ _ _ _ _ _ _ | exact zi_.mono _ _ | exact zG_.mono _ _ _ _ | exact zJ_.mono _ _ _ _ | exact LeO.refl _ | exact LeO.none _ | refine LeO.ite ?_ ?_ | refine LeO.bind ?_ (fun _ => ?_)
  ·
   intro y0 y1 y2 y3 y4 y5 y6 y7 y8
   unfold ze_.j2
   repeat' with_reducible first | exact ih0 _ _ _ _ _ _ | exact ih1 _ _ _ _ _ _ _ | exact ih2 _ _ _ _ _ _ _ _ _ | exact ih3 _ _ _ _ _ _ _ _ _ _ _ _ | exact zi_.mono _ _ | exact zG_.mono _ _ _ _ | exact zJ_.mono _ _ _ _ | exact LeO.refl _ | exact LeO.none _ | refine LeO.ite ?_ ?_ | refine LeO.bind ?_ (fun _ => ?_)
  ·
   intro y0 y1 y2 y3 y4 y5 y6 y7 y8 y9 y10 y11
   unfold ze_.l1
   repeat' with_reducible first | exact ih0 _ _ _ _ _ _ | exact ih1 _ _ _ _ _ _ _ | exact ih2 _ _ _ _ _ _ _ _ _ | exact ih3 _ _ _ _ _ _ _ _ _ _ _ _ | exact zi_.mono _ _ | exact zG_.mono _ _ _ _ | exact zJ_.mono _ _ _ _ | exact LeO.refl _ | exact LeO.none _ | refine LeO.ite ?_ ?_ | refine LeO.bind ?_ (fun _ => ?_)
theorem ze_.mono : ∀ a0 k, LeO (ze_.f k a0) (ze_.f (k + 1) a0) := by
 intro a0 k
 obtain ⟨ih0, ih1, ih2, ih3⟩ := ze_.mono_l k
 unfold ze_.f
 repeat' with_reducible first | exact ih0 _ _ _ _ _ _ | exact ih1 _ _ _ _ _ _ _ | exact ih2 _ _ _ _ _ _ _ _ _ | exact ih3 _ _ _ _ _ _ _ _ _ _ _ _ | exact zi_.mono _ _ | exact zG_.mono _ _ _ _ | exact zJ_.mono _ _ _ _ | exact LeO.refl _ | exact LeO.none _ | refine LeO.ite ?_ ?_ | refine LeO.bind ?_ (fun _ => ?_)
def ze_.T15 : Bool × List (List Nat × List Nat) := (true, [([], []), ([0], [0]), ([], []), ([2], [2]), ([3], [3]), ([1, 4, 3], [1, 4]), ([0, 1, 2, 3, 4, 5], []), ([6, 5, 5, 0, 1, 2, 3, 4, 5], [5, 6])])
def ze_.B15 : List Nat := [0, 1, 0, 4, 12, 31, 63, 127]
theorem ze_.tab15 : rtab .any (opsOf Try.f63 15) = ze_.T15 := by kernel_rfl
theorem ze_.bits15 : xe_ ze_.T15.2 ze_.B15 = true := by kernel_rfl
theorem ze_.calls (k : Nat) (a0 : ByteArray) (r1 : List (S97)) (r2 : Bool) (w : World) (h : ze_.f k a0 = some (r1, r2)) :
 Calls Try.prog 63 #[.string a0] w fun e w' => ∃ v0_ : Value, e = .returned (.tuple #[v0_, .bool r2]) ∧ Kd.S k97 97 w' w.heap.size (fun _ => True) v0_ r1 ∧ Below w.heap.size w w' := by
 have hu112 := Try.underlying112
 have hu97 := Try.underlying97
 have HB := AM (Below.refl w.heap.size w)
 have H : ((zG_.f k a0 0 false).bind fun bt345 => (ze_.l0 k bt345.1 ([] : List (S97)) 0 bt345.2.1 bt345.2.2.1 bt345.2.2.2)) = some (r1, r2) := h
 clear h
 obtain ⟨⟨t345, t346, t347, t348⟩, A2, H⟩ := OB H
 try dsimp only at H
 replace A2 := AM A2
 have H' := AM H
 clear H
 go_enter Try.func63, Try.ntmps63
 go_wp2_with (first | ((with_reducible refine z6_ (N := 14) rfl ?_); refine be_ 14 #[.string a0, .int .i64 0, .bool false] 112 ?_; intro gb344 hg w3 hbox hb; have HI344 := AM ((⟨hbox, (by rw [hg]; exact (zj_ bel_) : w.heap.size ≤ gb344)⟩ : zk_ w w3 gb344 a0 0 false)); replace HB := AM (zg_ bel_ hb); clear hb hbox hg) | ((with_reducible refine zl_ (f := 80) rfl ?_); refine gl_ (some 16) Try.func80 #[.pointer (some ⟨gb344, 0, none⟩)] ?_; (with_reducible refine (zG_.calls k gb344 a0 0 false t345 t346 t347 t348 w _ ?side1 ?side2 A2.out).mono ?_); (case side1 => exact zV_); (case side2 => exact belg_ (zk_.ge HI344.out)); rintro e w4 ⟨rfl, hi, hb, hk⟩; refine ⟨_, rfl, ?_⟩; replace HB := AM hb; replace HI344 := AM hi; (try clear hb); (try clear hk); (try clear hi)))
 go_loopg [6, 7] k (fun kq v6 v7 w' => ∃ (x6_1 : List (S97)) (x7_1 : Int) (x345000_1 : ByteArray) (x345001_1 : Int) (x345002_1 : Bool), v7 = .int .i64 x7_1 ∧ zd_ (ze_.l0 kq t345 x6_1 x7_1 x345000_1 x345001_1 x345002_1 = some (r1, r2)) ∧ zd_ (kq ≤ k) ∧ zd_ (Kd.S k97 97 w' w.heap.size (fun _ => True) v6 x6_1) ∧ zd_ (zk_ w w' gb344 x345000_1 x345001_1 x345002_1) ∧ zd_ (Below w.heap.size w w'))
 case atStart => exact ⟨(([] : List (S97))), (0), (t346), (t347), (t348), re_, H', ⟨Nat.le_refl _⟩, ⟨by first | exact Kd.S_nil _ _ _ _ _ | exact Kd.N_nil _ _ _ _ _ | exact Kd.V_nil _ _ _ _ _ | exact Kd.Q_nil _ _ _ _ _ | exact Kd.R_nil _ _ _ _ _⟩, ⟨zV_⟩, ⟨belg_ (zk_.ge HI344.out)⟩⟩
 case round =>
  clear H'
  obtain ⟨x6_1, x7_1, x345000_1, x345001_1, x345002_1, rfl, HA, HK1, HO_6, HI344, HB⟩ := hrel
  cases gk with
  | zero => exact absurd HA.out (by simp [ze_.l0])
  | succ k1 =>
   have H := HA.out
   clear HA
   simp only [ze_.l0] at H
   have HC5 := AM H
   clear H
   go_upto_region 5 with (fail)
   go_cut [30] (fun v30 wc => ∃ (kq : Nat) (x30_4 : Bool), v30 = .bool x30_4 ∧ zd_ (ze_.j1 kq t345 x6_1 x7_1 x30_4 x345000_1 x345001_1 x345002_1 = some (r1, r2)) ∧ zd_ (kq ≤ k1) ∧ zd_ (Kd.S k97 97 wc w.heap.size (fun _ => True) u6 x6_1) ∧ zd_ (zk_ w wc gb344 x345000_1 x345001_1 x345002_1) ∧ zd_ (Below w.heap.size w wc))
   case first =>
    have H := HC5.out
    clear HC5
    by_cases c6 : x7_1 < t345
    ·
     rw [if_pos c6] at H
     have c6b0 : decide (x7_1 < t345) = true := decide_eq_true c6
     clear c6
     (first | rw [c6b0] | (simp only [i64_w, i32_w]; rw [c6b0]) | skip)
     by_cases c7 : x7_1 ≤ 20
     ·
      rw [if_pos c7] at H
      have c7b0 : decide (x7_1 ≤ 20) = true := decide_eq_true c7
      clear c7
      have H' := AM H
      clear H
      obtain ⟨HGz8, hgz8⟩ := HI344.out
      have hcz8_0 := zU_ HGz8
      have hcz8_1 := zT_ HGz8
      have hcz8_2 := zS_ HGz8
      have hfz8_0 := za_ HGz8 0
      have hfz8_1 := za_ HGz8 1
      have hfz8_2 := za_ HGz8 2
      clear HGz8 hgz8
      go_wp2
      go_meet
      case rel => exact ⟨_, (!x345002_1), re_, H', ⟨by have := HK1.out; first | omega | exact Nat.le_refl _⟩, ⟨ks_ HO_6.out⟩, ⟨zV_⟩, ⟨belg_ (zk_.ge HI344.out)⟩⟩
     ·
      rw [if_neg c7] at H
      have c7b0 : decide (x7_1 ≤ 20) = false := decide_eq_false c7
      clear c7
      have H' := AM H
      clear H
      go_wp2
      go_meet
      case rel => exact ⟨_, (false), re_, H', ⟨by have := HK1.out; first | omega | exact Nat.le_refl _⟩, ⟨ks_ HO_6.out⟩, ⟨zV_⟩, ⟨belg_ (zk_.ge HI344.out)⟩⟩
    ·
     rw [if_neg c6] at H
     have c6b0 : decide (x7_1 < t345) = false := decide_eq_false c6
     clear c6
     (first | rw [c6b0] | (simp only [i64_w, i32_w]; rw [c6b0]) | skip)
     have H' := AM H
     clear H
     go_wp2
     go_meet
     case rel => exact ⟨_, (false), re_, H', ⟨by have := HK1.out; first | omega | exact Nat.le_refl _⟩, ⟨ks_ HO_6.out⟩, ⟨zV_⟩, ⟨belg_ (zk_.ge HI344.out)⟩⟩
   case rest =>
    clear HC5
    (try clear c6b0); (try clear c7b0); (try clear hcz8_0); (try clear hcz8_1); (try clear hcz8_2); (try clear hfz8_0); (try clear hfz8_1); (try clear hfz8_2)
    obtain ⟨kq, x30_4, rfl, HA, HJ4, HO_6, HI344, HB⟩ := hcut
    cases kq with
    | zero => exact absurd HA.out (by simp [ze_.j1])
    | succ kj4 =>
     have H := HA.out
     clear HA
     simp only [ze_.j1] at H
     by_cases c9 : x30_4 = true
     ·
      subst c9
      rw [if_pos rfl] at H
      obtain ⟨⟨t349, t350, t351, t352⟩, A10, H⟩ := OB H
      try dsimp only at H
      replace A10 := AM A10
      obtain ⟨⟨t354, t355, t356, t357⟩, A11, H⟩ := OB H
      try dsimp only at H
      replace A11 := AM A11
      obtain ⟨⟨t358, t359, t360, t361⟩, A12, H⟩ := OB H
      try dsimp only at H
      replace A12 := AM A12
      have HC13 := AM H
      clear H
      go_upto_region 10 with (first | ((with_reducible refine zl_ (f := 82) rfl ?_); refine gl_ (some 34) Try.func82 #[.pointer (some ⟨gb344, 0, none⟩)] ?_; (with_reducible refine (zJ_.calls kj4 gb344 x345000_1 x345001_1 x345002_1 t349 t350 t351 t352 w _ ?side1 ?side2 A10.out).mono ?_); (case side1 => exact zV_); (case side2 => exact belg_ (zk_.ge HI344.out)); rintro e w14 ⟨rfl, hi, hb, hk⟩; refine ⟨_, rfl, ?_⟩; replace HO_6 := AM (Kd.zR_ (Kd.yT_ (zk_.apartS (show zk_ w _ gb344 x345000_1 x345001_1 x345002_1 from zV_) (ks_ HO_6.out) (by decide)) hk (fun _ h => h.2)) (fun _ h => h.1)); replace HB := AM hb; replace HI344 := AM hi; (try clear hb); (try clear hk); (try clear hi)) | ((with_reducible refine z6_ (N := 8) rfl ?_); refine be_ 8 #[.string (⟨#[]⟩ : ByteArray), .bool false, .int .i64 0, .slice none 0 0] 97 ?_; intro gb353 hg w15 hbox hb; replace HO_6 := AM (Kd.yB_ (Kd.S_elderB (ks_ HO_6.out) gb353 (Nat.le_of_eq hg.symm)) hb); have BK353 := AM hbox; have GW353 := AM ((by rw [hg]; exact (zj_ (belg_ (zk_.ge HI344.out))) : w.heap.size ≤ gb353)); have GE353 := AM ((by rw [hg]; exact (zj_ (belg_ (zk_.ge HI344.out))) : w.heap.size ≤ gb353)); replace HB := AM (zg_ (belg_ (zk_.ge HI344.out)) hb); have NB344_353 := AM ((by rw [hg]; exact Nat.ne_of_lt (zk_.lt (show zk_ w _ gb344 t350 t351 t352 from zV_)) : gb344 ≠ gb353)); have NB353_344 := AM ((by rw [hg]; exact Nat.ne_of_gt (zk_.lt (show zk_ w _ gb344 t350 t351 t352 from zV_)) : gb353 ≠ gb344)); replace HI344 := AM (zk_.below zV_ hb); clear hb hbox hg; have hnb16 := NB353_344.out; have hnc16 := NB344_353.out; have hcz17_0 : w15.cell? ⟨gb353, 0, none⟩ = some (.string (⟨#[]⟩ : ByteArray)) := (zb_ BK353.out 0).trans rfl; have hcz17_1 : w15.cell? ⟨gb353, 1, none⟩ = some (.bool false) := (zb_ BK353.out 1).trans rfl; have hcz17_2 : w15.cell? ⟨gb353, 2, none⟩ = some (.int .i64 0) := (zb_ BK353.out 2).trans rfl; have hcz17_3 : w15.cell? ⟨gb353, 3, none⟩ = some (.slice none 0 0) := (zb_ BK353.out 3).trans rfl; have hfz17_0 := za_ BK353.out 0; have hfz17_1 := za_ BK353.out 1; have hfz17_2 := za_ BK353.out 2; have hfz17_3 := za_ BK353.out 3) | ((with_reducible refine zl_ (f := 80) rfl ?_); refine gl_ (some 37) Try.func80 #[.pointer (some ⟨gb344, 0, none⟩)] ?_; (with_reducible refine (zG_.calls kj4 gb344 t350 t351 t352 t354 t355 t356 t357 w _ ?side1 ?side2 A11.out).mono ?_); (case side1 => exact zV_); (case side2 => exact belg_ (zk_.ge HI344.out)); rintro e w18 ⟨rfl, hi, hb, hk⟩; refine ⟨_, rfl, ?_⟩; replace HO_6 := AM (Kd.zR_ (Kd.yT_ (zk_.apartS (show zk_ w _ gb344 t350 t351 t352 from zV_) (ks_ (Kd.zR_ (Kd.S_far (p := ⟨gb353, 3, none⟩) (Kd.S_far (p := ⟨gb353, 2, none⟩) (Kd.S_far (p := ⟨gb353, 1, none⟩) (Kd.S_far (p := ⟨gb353, 0, none⟩) (Kd.zR_ HO_6.out (fun k_ hk => (⟨hk, hk.2⟩ : _ ∧ k_ ≠ gb353))) (fun _ hk => hk.2) (.string t349)) (fun _ hk => hk.2) (.bool false)) (fun _ hk => hk.2) (.int .i64 0)) (fun _ hk => hk.2) (.slice none 0 0)) (fun _ h_ => h_.1))) (by decide)) hk (fun _ h => h.2)) (fun _ h => h.1)); replace BK353 := AM (zs_.blk hk (g' := gb353) (o := .cells #[.string t349, .bool false, .int .i64 0, .slice none 0 0] 97 (0, 0)) bka_ NB353_344.out (by simp)); replace HB := AM hb; replace HI344 := AM hi; (try clear hb); (try clear hk); (try clear hi)) | ((with_reducible refine zl_ (f := 80) rfl ?_); refine gl_ (some 41) Try.func80 #[.pointer (some ⟨gb344, 0, none⟩)] ?_; (with_reducible refine (zG_.calls kj4 gb344 t355 t356 t357 t358 t359 t360 t361 w _ ?side1 ?side2 A12.out).mono ?_); (case side1 => exact zV_); (case side2 => exact belg_ (zk_.ge HI344.out)); rintro e w19 ⟨rfl, hi, hb, hk⟩; refine ⟨_, rfl, ?_⟩; replace HO_6 := AM (Kd.zR_ (Kd.yT_ (zk_.apartS (show zk_ w _ gb344 t355 t356 t357 from zV_) (ks_ HO_6.out) (by decide)) hk (fun _ h => h.2)) (fun _ h => h.1)); replace BK353 := AM (zs_.blk hk (g' := gb353) (o := .cells #[.string t349, .bool false, .int .i64 0, .slice none 0 0] 97 (0, 0)) (bk_ BK353.out) NB353_344.out (by simp)); replace HB := AM hb; replace HI344 := AM hi; (try clear hb); (try clear hk); (try clear hi); have hcz20_0 : w19.cell? ⟨gb353, 0, none⟩ = some (.string t349) := (zb_ BK353.out 0).trans rfl; have hcz20_1 : w19.cell? ⟨gb353, 1, none⟩ = some (.bool false) := (zb_ BK353.out 1).trans rfl; have hcz20_2 : w19.cell? ⟨gb353, 2, none⟩ = some (.int .i64 0) := (zb_ BK353.out 2).trans rfl; have hcz20_3 : w19.cell? ⟨gb353, 3, none⟩ = some (.slice none 0 0) := (zb_ BK353.out 3).trans rfl; have hfz20_0 := za_ BK353.out 0; have hfz20_1 := za_ BK353.out 1; have hfz20_2 := za_ BK353.out 2; have hfz20_3 := za_ BK353.out 3))
      (try simp only [Act.put, List.setIfInBounds_toArray, List.set_cons_zero, List.set_cons_succ])
      go_cut [] (fun wc => ∃ (kq : Nat) (x345002_12 : Bool), zd_ (ze_.j2 kq t345 x6_1 x7_1 t359 t360 x345002_12 t349 (t354 == 1) t358 = some (r1, r2)) ∧ zd_ (kq ≤ kj4) ∧ zd_ (Kd.S k97 97 wc w.heap.size (fun k_ => k_ ≠ gb353) u6 x6_1) ∧ zd_ (wc.heap[gb353]? = some (.cells #[.string t349, .bool (t354 == 1), .int .i64 t358, (.slice none 0 0)] 97 (0, 0))) ∧ zd_ (zk_ w wc gb344 t359 t360 x345002_12) ∧ zd_ (Below w.heap.size w wc))
      case first =>
       have H := HC13.out
       clear HC13
       by_cases c21 : t361 = true
       ·
        subst c21
        rw [if_pos rfl] at H
        have H' := AM H
        clear H
        obtain ⟨HGz22, hgz22⟩ := HI344.out
        have hcz22_0 := zU_ HGz22
        have hcz22_1 := zT_ HGz22
        have hcz22_2 := zS_ HGz22
        have hfz22_0 := za_ HGz22 0
        have hfz22_1 := za_ HGz22 1
        have hfz22_2 := za_ HGz22 2
        clear HGz22 hgz22
        go_wp2
        go_meet
        case rel => exact ⟨_, (true), H', ⟨by have := HK1.out; have := HJ4.out; first | omega | exact Nat.le_refl _⟩, ⟨by (with_reducible repeat (first | apply Kd.ye_ | apply Kd.yd_ | apply Kd.yi_)); exact Kd.zR_ (Kd.S_far (p := ⟨gb344, 2, none⟩) (Kd.S_far (p := ⟨gb353, 2, none⟩) (Kd.S_far (p := ⟨gb353, 1, none⟩) (zk_.apartS HI344.out (Kd.zR_ HO_6.out (fun k_ hk => (⟨hk, hk.2⟩ : _ ∧ k_ ≠ gb353))) (by decide)) (fun _ hk => hk.1.2) (.bool (t354 == 1))) (fun _ hk => hk.1.2) (.int .i64 t358)) (fun _ hk => hk.2) (.bool true)) (fun _ hk => hk.1.1.2)⟩, ⟨bka_⟩, ⟨zV_⟩, ⟨belg_ (zk_.ge HI344.out)⟩⟩
       ·
        replace c21 := Bool.eq_false_iff.mpr c21
        subst c21
        rw [if_neg (show ¬ (false = true) by decide)] at H
        obtain ⟨t362, A23, H⟩ := OB H
        try dsimp only at H
        replace A23 := AM A23
        have H' := AM H
        clear H
        obtain ⟨HGz24, hgz24⟩ := HI344.out
        have hcz24_0 := zU_ HGz24
        have hcz24_1 := zT_ HGz24
        have hcz24_2 := zS_ HGz24
        have hfz24_0 := za_ HGz24 0
        have hfz24_1 := za_ HGz24 1
        have hfz24_2 := za_ HGz24 2
        clear HGz24 hgz24
        go_wp2_with (first | (go_at_call 61; (with_reducible refine (yg_.calls t354 0 1 t362 _ A23.out).mono ?_); rintro e w' ⟨rfl, ⟨nd, rfl⟩⟩))
        go_meet
        case rel => exact ⟨_, (!t362), H', ⟨by have := HK1.out; have := HJ4.out; first | omega | exact Nat.le_refl _⟩, ⟨by (with_reducible repeat (first | apply Kd.ye_ | apply Kd.yd_ | apply Kd.yi_)); exact Kd.zR_ (Kd.S_far (p := ⟨gb344, 2, none⟩) (Kd.S_far (p := ⟨gb353, 2, none⟩) (Kd.S_far (p := ⟨gb353, 1, none⟩) (zk_.apartS HI344.out (Kd.zR_ HO_6.out (fun k_ hk => (⟨hk, hk.2⟩ : _ ∧ k_ ≠ gb353))) (by decide)) (fun _ hk => hk.1.2) (.bool (t354 == 1))) (fun _ hk => hk.1.2) (.int .i64 t358)) (fun _ hk => hk.2) (.bool (!t362))) (fun _ hk => hk.1.1.2)⟩, ⟨bka_⟩, ⟨zV_⟩, ⟨belg_ (zk_.ge HI344.out)⟩⟩
      case rest =>
       clear HC13
       (try clear c9); (try clear c21); (try clear hcz17_0); (try clear hcz17_1); (try clear hcz17_2); (try clear hcz17_3); (try clear hcz20_0); (try clear hcz20_1); (try clear hcz20_2); (try clear hcz20_3); (try clear hcz22_0); (try clear hcz22_1); (try clear hcz22_2); (try clear hcz24_0); (try clear hcz24_1); (try clear hcz24_2); (try clear hfz17_0); (try clear hfz17_1); (try clear hfz17_2); (try clear hfz17_3); (try clear hfz20_0); (try clear hfz20_1); (try clear hfz20_2); (try clear hfz20_3); (try clear hfz22_0); (try clear hfz22_1); (try clear hfz22_2); (try clear hfz24_0); (try clear hfz24_1); (try clear hfz24_2)
       obtain ⟨kq, x345002_12, HA, HJ12, HO_6, BK353, HI344, HB⟩ := hcut
       cases kq with
       | zero => exact absurd HA.out (by simp [ze_.j2])
       | succ kj12 =>
        have H := HA.out
        clear HA
        simp only [ze_.j2] at H
        obtain ⟨⟨t363, t364, t365, t366⟩, A25, H⟩ := OB H
        try dsimp only at H
        replace A25 := AM A25
        have H' := AM H
        clear H
        go_wp2_with (first | ((with_reducible refine zl_ (f := 80) rfl ?_); refine gl_ (some 57) Try.func80 #[.pointer (some ⟨gb344, 0, none⟩)] ?_; (with_reducible refine (zG_.calls kj12 gb344 t359 t360 x345002_12 t363 t364 t365 t366 w _ ?side1 ?side2 A25.out).mono ?_); (case side1 => exact zV_); (case side2 => exact belg_ (zk_.ge HI344.out)); rintro e w26 ⟨rfl, hi, hb, hk⟩; refine ⟨_, rfl, ?_⟩; replace HO_6 := AM (Kd.zR_ (Kd.yT_ (zk_.apartS (show zk_ w _ gb344 t359 t360 x345002_12 from zV_) (ks_ HO_6.out) (by decide)) hk (fun _ h => h.2)) (fun _ h => h.1)); replace BK353 := AM (zs_.blk hk (g' := gb353) (o := .cells #[.string t349, .bool (t354 == 1), .int .i64 t358, .slice none 0 0] 97 (0, 0)) (bk_ BK353.out) NB353_344.out (by simp)); replace HB := AM hb; replace HI344 := AM hi; (try clear hb); (try clear hk); (try clear hi)))
        go_loopg [11] kj12 (fun kq v11 w' => ∃ (x11_4 : Int) (x345000_4 : ByteArray) (x345001_4 : Int) (x345002_4 : Bool) (x354003_4 : List ByteArray) (u354003 : Value), v11 = .int .i64 x11_4 ∧ zd_ (ze_.l1 kq t345 x6_1 x7_1 t363 x11_4 x345000_4 x345001_4 x345002_4 t349 (t354 == 1) t358 x354003_4 = some (r1, r2)) ∧ zd_ (kq ≤ kj12) ∧ zd_ (Kd.S k97 97 w' w.heap.size (fun k_ => some k_ ≠ (u354003 : Value).ownBlock ∧ k_ ≠ gb353) u6 x6_1) ∧ zd_ (Kd.R Kd.string 9 w' w.heap.size (fun _ => True) u354003 x354003_4) ∧ zd_ (w'.heap[gb353]? = some (.cells #[.string t349, .bool (t354 == 1), .int .i64 t358, u354003] 97 (0, 0))) ∧ zd_ (zk_ w w' gb344 x345000_4 x345001_4 x345002_4) ∧ zd_ (Below w.heap.size w w'))
        case atStart => exact ⟨(0), (t364), (t365), (t366), (([] : List ByteArray)), (.slice none 0 0), re_, H', ⟨Nat.le_refl _⟩, ⟨by (with_reducible repeat (first | apply Kd.ye_ | apply Kd.yd_ | apply Kd.yi_)); exact Kd.zR_ HO_6.out (fun _ hk => ⟨(by simp [Value.ownBlock]), hk⟩)⟩, ⟨by first | exact Kd.R_nil _ _ _ _ _ | exact Kd.N_nil _ _ _ _ _ | exact Kd.V_nil _ _ _ _ _ | exact Kd.Q_nil _ _ _ _ _ | exact Kd.S_nil _ _ _ _ _⟩, ⟨bk_ BK353.out⟩, ⟨zV_⟩, ⟨belg_ (zk_.ge HI344.out)⟩⟩
        case round =>
         clear H'
         obtain ⟨x11_4, x345000_4, x345001_4, x345002_4, x354003_4, u354003, rfl, HA, HK4, HO_6, HO_354003, BK353, HI344, HB⟩ := hrel
         cases gk with
         | zero => exact absurd HA.out (by simp [ze_.l1])
         | succ k4 =>
          have H := HA.out
          clear HA
          simp only [ze_.l1] at H
          by_cases c27 : x11_4 < t363
          ·
           rw [if_pos c27] at H
           have c27b0 : decide (x11_4 < t363) = true := decide_eq_true c27
           clear c27
           by_cases c28 : x11_4 ≤ 100
           ·
            rw [if_pos c28] at H
            have c28b0 : decide (x11_4 ≤ 100) = true := decide_eq_true c28
            clear c28
            by_cases c29 : x345002_4 = true
            ·
             subst c29
             rw [if_pos rfl] at H
             by_cases c30 : x6_1.length < 2513169434916
             ·
              rw [if_pos c30] at H
              have LMc30 := AM c30
              clear c30
              obtain ⟨y367, hy367⟩ : ∃ y_ : List (S97), y_ = (x6_1 ++ [(⟨t349, (t354 == 1), t358, x354003_4⟩ : S97)]) := ⟨_, rfl⟩
              replace H : (ze_.l0 k4 t345 y367 (wrap64 (x7_1 + 1)) x345000_4 x345001_4 true) = some (r1, r2) := by first | (rw [hy367]; with_reducible exact H) | (have H2_ := (Option.bind_some _ _).symm.trans H; rw [hy367]; with_reducible exact H2_) | (have H2_ := (Option.bind_some _ _).symm.trans H; with_reducible exact H2_) | with_reducible exact H | (rw [hy367]; exact H) | exact H
              have Ny367 := AM hy367
              clear hy367
              have H' := AM H
              clear H
              obtain ⟨HGz31, hgz31⟩ := HI344.out
              have hcz31_0 := zU_ HGz31
              have hcz31_1 := zT_ HGz31
              have hcz31_2 := zS_ HGz31
              have hfz31_0 := za_ HGz31 0
              have hfz31_1 := za_ HGz31 1
              have hfz31_2 := za_ HGz31 2
              clear HGz31 hgz31
              go_wp2_with (first | ((with_reducible refine xG_ (t := 4) (p := 94) rfl ?_); refine xr_ (t := 4) (p := 94) (v := ?vo_w32) (w1 := (wr.setCell ⟨gb344, 2, none⟩ (.bool true))) ?hg ?ho ?hn ?hr ?_; (case ho => rfl); (case hg => rfl); (case hn => rfl); (case hr => first | (go_simp; done) | (go_simp; rfl)); intro w32 hw; replace HO_6 : zd_ (Kd.S k97 97 w32 w.heap.size (fun k_ => some k_ ≠ (u354003 : Value).ownBlock ∧ k_ ≠ gb353) u6 x6_1) := ⟨(by rw [hw]; exact (by (with_reducible repeat (first | apply Kd.ye_ | apply Kd.yd_ | apply Kd.yi_)); exact Kd.zR_ (Kd.S_far (p := ⟨gb344, 2, none⟩) (zk_.apartS HI344.out HO_6.out (by decide)) (fun _ hk => hk.2) (.bool true)) (fun _ hk => ⟨hk.1.1, hk.1.2⟩)))⟩; replace HO_354003 : zd_ (Kd.R Kd.string 9 w32 w.heap.size (fun _ => True) u354003 x354003_4) := ⟨(by rw [hw]; exact (by (with_reducible repeat (first | apply Kd.yP_ | apply Kd.yL_ | apply Kd.yW_)); exact Kd.z9_ (Kd.R_far (p := ⟨gb344, 2, none⟩) (zk_.apart HI344.out HO_354003.out (by decide)) (fun _ hk => hk.2) (.bool true)) (fun _ hk => trivial)))⟩; replace BK353 : zd_ (w32.heap[gb353]? = some (.cells #[.string t349, .bool (t354 == 1), .int .i64 t358, u354003] 97 (0, 0))) := ⟨(by rw [hw]; exact bka_)⟩; replace HB : zd_ (Below w.heap.size w w32) := ⟨(by rw [hw]; exact (belg_ (zk_.ge HI344.out)))⟩; replace HI344 : zd_ (zk_ w w32 gb344 x345000_4 x345001_4 true) := ⟨(by rw [hw]; exact zV_)⟩; clear hw; have hnb33 := NB353_344.out; have hnc33 := NB344_353.out; have hcz34_0 : w32.cell? ⟨gb353, 0, none⟩ = some (.string t349) := (zb_ BK353.out 0).trans rfl; have hcz34_1 : w32.cell? ⟨gb353, 1, none⟩ = some (.bool (t354 == 1)) := (zb_ BK353.out 1).trans rfl; have hcz34_2 : w32.cell? ⟨gb353, 2, none⟩ = some (.int .i64 t358) := (zb_ BK353.out 2).trans rfl; have hcz34_3 : w32.cell? ⟨gb353, 3, none⟩ = some (u354003) := (zb_ BK353.out 3).trans rfl; have hfz34_0 := za_ BK353.out 0; have hfz34_1 := za_ BK353.out 1; have hfz34_2 := za_ BK353.out 2; have hfz34_3 := za_ BK353.out 3; obtain ⟨Ao36, co36, eo36⟩ := Kd.yA_ HO_354003.out; subst eo36) | ((with_reducible refine yr_ (b := .append) (xs := #[.tmp 95, .tmp 97]) rfl ?_); at_builtin; refine Kd.xM_ k97 (w0 := w) w.heap.size rfl (.tmp 95) (.tmp 97) 23 97 (.agg #[(.string ⟨#[]⟩), (.bool false), (.int .i64 0), (.slice none 0 0)]) 56 rfl Try.underlying23 info97 rfl (by decide) (by omega) u6 x6_1 (⟨t349, (t354 == 1), t358, x354003_4⟩ : S97) [.string t349, .bool (t354 == 1), .int .i64 t358, .slice Ao36 x354003_4.length co36] (fun k_ => k_ ≠ gb353) (fun k_ => some k_ = (.slice Ao36 x354003_4.length co36 : Value).ownBlock) rfl rfl ?aP (fun k_ hk_ => ((Kd.z9_ (ok' := fun k_ => ((fun k_ => k_ ≠ gb353)) k_ ∧ some k_ ≠ (u6 : Value).ownBlock) (Kd.yo_ (Kd.yV_ (HO_354003.out) (Kd.y3_ HO_6.out) (by decide)) BK353.out (by decide)) (fun k_ hk => ⟨hk.2, hk.1.2⟩))).1 k_ hk_.symm) ?aF ?aO ?aB ?aS ?aL ?_; (case aP => exact k97_mkM _ _ _ (⟨t349, (t354 == 1), t358, x354003_4⟩ : S97) (Kd.z9_ (Kd.R_tight rfl (Kd.z9_ (ok' := fun k_ => ((fun k_ => k_ ≠ gb353)) k_ ∧ some k_ ≠ (u6 : Value).ownBlock) (Kd.yo_ (Kd.yV_ (HO_354003.out) (Kd.y3_ HO_6.out) (by decide)) BK353.out (by decide)) (fun k_ hk => ⟨hk.2, hk.1.2⟩))) (fun _ h_ => h_))); (case aB => exact (belg_ (zk_.ge HI344.out))); (case aF => exact (fun k_ hk => Kd.freshB (g := gb353) (o := .cells #[.string t349, .bool (t354 == 1), .int .i64 t358, .slice Ao36 x354003_4.length co36] 97 (0, 0)) (bk_ BK353.out) k_ hk)); (case aO => exact (by (with_reducible repeat (first | apply Kd.ye_ | apply Kd.yd_ | apply Kd.yi_)); exact Kd.zR_ HO_6.out (fun k_ hk => ⟨hk.2, fun e_ => hk.1 e_⟩))); (case aS => exact (zj_ (belg_ (zk_.ge HI344.out)))); (case aL => have := LMc30.out; omega); intro v368 w35 ho hb hg hat; rw [← Ny367.out] at ho; have n0_ := AM (yp_ (g := gb353) (o := .cells #[.string t349, .bool (t354 == 1), .int .i64 t358, .slice Ao36 x354003_4.length co36] 97 (0, 0)) (bk_ BK353.out) hg (Kd.S_away HO_6.out (fun _ hk => hk.2))); have n1_ := AM (zk_.grown zV_ hg (zk_.own_neS HI344.out HO_6.out (by decide))); have n2_ := AM hb; have n3_ := AM ho; clear BK353; clear HI344; clear HB; clear HO_6; clear HO_354003; have BK353 := n0_; have HI344 := n1_; have HB := n2_; have HO369 := n3_; clear n0_ n1_ n2_ n3_; clear ho hb hg hat))
              go_roundg k4
              case measure => have := HK1.out; have := HJ4.out; have := HJ12.out; have := HK4.out; omega
              case rel => exact ⟨(y367), (wrap64 (x7_1 + 1)), (x345000_4), (x345001_4), (true), re_, H', ⟨by have := HK1.out; have := HJ4.out; have := HJ12.out; have := HK4.out; omega⟩, ⟨by (with_reducible repeat (first | apply Kd.ye_ | apply Kd.yd_ | apply Kd.yi_)); exact Kd.zR_ HO369.out (fun _ hk => trivial)⟩, ⟨zV_⟩, ⟨belg_ (zk_.ge HI344.out)⟩⟩
             ·
              rw [if_neg c30] at H
              exact absurd H (by simp)
            ·
             replace c29 := Bool.eq_false_iff.mpr c29
             subst c29
             rw [if_neg (show ¬ (false = true) by decide)] at H
             obtain ⟨⟨t370, t371, t372, t373⟩, A37, H⟩ := OB H
             try dsimp only at H
             replace A37 := AM A37
             by_cases c38 : x354003_4.length < 8796093022208
             ·
              rw [if_pos c38] at H
              have LMc38 := AM c38
              clear c38
              obtain ⟨y374, hy374⟩ : ∃ y_ : List ByteArray, y_ = (x354003_4 ++ [t370]) := ⟨_, rfl⟩
              replace H : (ze_.l1 k4 t345 x6_1 x7_1 t363 (wrap64 (x11_4 + 1)) t371 t372 t373 t349 (t354 == 1) t358 y374) = some (r1, r2) := by first | (rw [hy374]; with_reducible exact H) | (have H2_ := (Option.bind_some _ _).symm.trans H; rw [hy374]; with_reducible exact H2_) | (have H2_ := (Option.bind_some _ _).symm.trans H; with_reducible exact H2_) | with_reducible exact H | (rw [hy374]; exact H) | exact H
              have Ny374 := AM hy374
              clear hy374
              have H' := AM H
              clear H
              obtain ⟨HGz39, hgz39⟩ := HI344.out
              have hcz39_0 := zU_ HGz39
              have hcz39_1 := zT_ HGz39
              have hcz39_2 := zS_ HGz39
              have hfz39_0 := za_ HGz39 0
              have hfz39_1 := za_ HGz39 1
              have hfz39_2 := za_ HGz39 2
              clear HGz39 hgz39
              try go_wp2
              replace HO_6 := AM (Kd.yi_ HO_6.out)
              replace HO_354003 := AM (Kd.yW_ HO_354003.out)
              replace BK353 := AM (yU_ BK353.out)
              replace HI344 := AM (zk_.drew HI344.out)
              replace HB := AM (z1_ HB.out)
              refine xi_ (n := 8) (S := fun w' => w'.cell? ⟨gb353, 0, none⟩ = some (.string t349) ∧ w'.cell? ⟨gb353, 1, none⟩ = some (.bool (t354 == 1)) ∧ w'.cell? ⟨gb353, 2, none⟩ = some (.int .i64 t358) ∧ w'.cell? ⟨gb353, 3, none⟩ = some (u354003)) (ds := [7]) #[false, false, false, false, false, false, false, false] (by kernel_rfl) rfl rfl ⟨(zb_ BK353.out 0).trans rfl, (zb_ BK353.out 1).trans rfl, (zb_ BK353.out 2).trans rfl, (zb_ BK353.out 3).trans rfl⟩ (fun hHeld => ?_); refine yu_ ze_.tab15 ze_.bits15 (fun HT_ HW_ => ?_)
              generalize wr.drew = w40 at HO_6 HO_354003 BK353 HI344 HB hHeld ⊢
              refine pu_ HT_ 0 (some 74) (bA 8 1) ?_
              refine pu_ HT_ 2 (some 76) (bA 8 5) ?_
              refine ta_ HT_ HW_ 1 (some 75) (bA 8 7) hHeld ?_
              refine on_ HT_ 3 (some 77) (bA 8 15) (fun K hK => ?_)
              refine go1_ Try.func81 #[.pointer (some ⟨gb344, 0, none⟩), .int .i64 32] ?_
              with_reducible refine (yK_.calls gb344 x345000_4 x345001_4 false 32 t370 t371 t372 t373 w _ ?side1 ?side2 A37.out).mono ?_
              (case side1 => exact zV_)
              (case side2 => exact belg_ (zk_.ge HI344.out))
              rintro e w41 ⟨rfl, hi, hb, hk⟩
              refine ⟨_, rfl, ?_⟩
              replace HO_6 := AM (Kd.zR_ (Kd.yT_ (zk_.apartS (show zk_ w _ gb344 x345000_4 x345001_4 false from zV_) (ks_ HO_6.out) (by decide)) hk (fun _ h => h.2)) (fun _ h => h.1))
              replace HO_354003 := AM (Kd.z9_ (Kd.xA_ (zk_.apart (show zk_ w _ gb344 x345000_4 x345001_4 false from zV_) (ro_ HO_354003.out) (by decide)) hk (fun _ h => h.2)) (fun _ h => h.1))
              replace BK353 := AM (zs_.blk hk (g' := gb353) (o := .cells #[.string t349, .bool (t354 == 1), .int .i64 t358, u354003] 97 (0, 0)) (bk_ BK353.out) NB353_344.out (by simp))
              replace HB := AM hb
              replace HI344 := AM hi
              (try clear hb); (try clear hk); (try clear hi)
              refine hK.out _ _ ⟨(zb_ BK353.out 0).trans rfl, (zb_ BK353.out 1).trans rfl, (zb_ BK353.out 2).trans rfl, (zb_ BK353.out 3).trans rfl⟩ (fun hHeld => ?_)
              clear hK K
              refine nm_ ?_
              refine on_ HT_ 4 (some 78) (bA 8 31) (fun K hK => ?_)
              refine value_ (w1 := ?_) (v := ?_) (by rfl) rfl ?_ ?_
              rotate_left 2
              ·
               go_simp
               constructor
               · rfl
               · rfl
              refine hK.out _ _ ⟨(zb_ (y9_ BK353.out _) 0).trans rfl, (zb_ (y9_ BK353.out _) 1).trans rfl, (zb_ (y9_ BK353.out _) 2).trans rfl, (zb_ (y9_ BK353.out _) 3).trans rfl⟩ (fun hHeld => ?_)
              clear hK K
              refine nm_ ?_
              refine on_ HT_ 5 (some 79) (bA 8 63) (fun K hK => ?_)
              refine Kd.R_append_step Kd.string (w0 := w) w.heap.size (by rfl) (.tmp 75) (.tmp 78) 54 9 (.string ⟨#[]⟩) 16 rfl Try.underlying54 info9 rfl (by decide) (by omega) u354003 x354003_4 t370 [.string t370] (fun _ => True) (fun _ => False) rfl rfl ?aP (fun _ hk => hk.elim) ?aF ?aO ?aB ?aS ?aL ?_
              (case aP => exact rfl)
              (case aB => exact (belg_ (zk_.ge HI344.out)))
              (case aF => exact (fun _ _ => trivial))
              (case aO => exact (ro_ HO_354003.out))
              (case aS => exact (zj_ (belg_ (zk_.ge HI344.out))))
              (case aL => have := LMc38.out; omega)
              intro v375 w42 ho hb hg hat
              rw [← Ny374.out] at ho
              have n0_ := AM (Kd.S_after (ok := (fun k_ => k_ ≠ gb353)) (by (with_reducible repeat (first | apply Kd.ye_ | apply Kd.yd_ | apply Kd.yi_)); exact Kd.zR_ HO_6.out (fun _ hk => ⟨hk.2, hk.1⟩)) hg hat)
              have n1_ := AM (yp_ (g := gb353) (o := .cells #[.string t349, .bool (t354 == 1), .int .i64 t358, u354003] 97 (0, 0)) (bk_ BK353.out) hg (Kd.R_ne HO_354003.out BK353.out (by decide)))
              have n2_ := AM (zk_.grown zV_ hg (zk_.own_ne HI344.out HO_354003.out (by decide)))
              have n3_ := AM hb
              have n4_ := AM ho
              clear HO_6
              clear BK353
              clear HI344
              clear HB
              clear HO_354003
              have HO_6 := n0_
              have BK353 := n1_
              have HI344 := n2_
              have HB := n3_
              have HO376 := n4_
              clear n0_ n1_ n2_ n3_ n4_
              clear ho hb hg hat
              obtain ⟨Ao43, co43, eo43⟩ := Kd.yA_ HO376.out
              (first | subst eo43 | (injection eo43 with f1_ f2_ f3_; have f4_ := f1_.symm; have f5_ := f3_.symm; clear f1_ f2_ f3_; subst f4_; subst f5_))
              refine hK.out _ _ ⟨(zb_ BK353.out 0).trans rfl, (zb_ BK353.out 1).trans rfl, (zb_ BK353.out 2).trans rfl, (zb_ BK353.out 3).trans rfl⟩ (fun hHeld => ?_)
              clear hK K
              refine nm_ ?_
              refine pu_ HT_ 6 (some 80) (bA 8 127) ?_
              refine last_ (i := 7) (N := none) (bA 8 255) rfl rfl (one_of HT_.out (by kernel_rfl)) (by decide) (fun K hK => ?_)
              have hs44 : w42.cell? ⟨gb353, 3, none⟩ = some (u354003) := (zb_ BK353.out 3).trans rfl
              have hfs44 := za_ BK353.out 3
              refine sk_ ?_
              refine hK.out _ _ ?_
              clear hK K
              refine dn_ HT_ ?_
              try go_wp2
              go_roundg k4
              case measure => have := HK1.out; have := HJ4.out; have := HJ12.out; have := HK4.out; omega
              case rel => exact ⟨(wrap64 (x11_4 + 1)), (t371), (t372), (t373), (y374), (.slice Ao43 y374.length co43), re_, H', ⟨by have := HK1.out; have := HJ4.out; have := HJ12.out; have := HK4.out; omega⟩, ⟨by (with_reducible repeat (first | apply Kd.ye_ | apply Kd.yd_ | apply Kd.yi_)); exact Kd.zR_ (Kd.S_far (p := ⟨gb353, 3, none⟩) (Kd.zR_ HO_6.out (fun k_ hk => (⟨hk, hk.1⟩ : _ ∧ k_ ≠ gb353))) (fun _ hk => hk.2) (.slice Ao43 y374.length co43)) (fun _ hk => ⟨hk.1.2, hk.1.1⟩)⟩, ⟨by (with_reducible repeat (first | apply Kd.yP_ | apply Kd.yL_ | apply Kd.yW_)); exact Kd.z9_ (Kd.R_far (p := ⟨gb353, 3, none⟩) (Kd.yo_ HO376.out BK353.out (by decide)) (fun _ hk => hk.2) (.slice Ao43 y374.length co43)) (fun _ hk => trivial)⟩, ⟨bka_⟩, ⟨zV_⟩, ⟨belg_ (zk_.ge HI344.out)⟩⟩
             ·
              rw [if_neg c38] at H
              exact absurd H (by simp)
           ·
            rw [if_neg c28] at H
            have c28b0 : decide (x11_4 ≤ 100) = false := decide_eq_false c28
            clear c28
            by_cases c45 : x345002_4 = true
            ·
             subst c45
             rw [if_pos rfl] at H
             by_cases c46 : x6_1.length < 2513169434916
             ·
              rw [if_pos c46] at H
              have LMc46 := AM c46
              clear c46
              obtain ⟨y377, hy377⟩ : ∃ y_ : List (S97), y_ = (x6_1 ++ [(⟨t349, (t354 == 1), t358, x354003_4⟩ : S97)]) := ⟨_, rfl⟩
              replace H : (ze_.l0 k4 t345 y377 (wrap64 (x7_1 + 1)) x345000_4 x345001_4 true) = some (r1, r2) := by first | (rw [hy377]; with_reducible exact H) | (have H2_ := (Option.bind_some _ _).symm.trans H; rw [hy377]; with_reducible exact H2_) | (have H2_ := (Option.bind_some _ _).symm.trans H; with_reducible exact H2_) | with_reducible exact H | (rw [hy377]; exact H) | exact H
              have Ny377 := AM hy377
              clear hy377
              have H' := AM H
              clear H
              obtain ⟨HGz47, hgz47⟩ := HI344.out
              have hcz47_0 := zU_ HGz47
              have hcz47_1 := zT_ HGz47
              have hcz47_2 := zS_ HGz47
              have hfz47_0 := za_ HGz47 0
              have hfz47_1 := za_ HGz47 1
              have hfz47_2 := za_ HGz47 2
              clear HGz47 hgz47
              go_wp2_with (first | ((with_reducible refine xG_ (t := 4) (p := 94) rfl ?_); refine xr_ (t := 4) (p := 94) (v := ?vo_w48) (w1 := (wr.setCell ⟨gb344, 2, none⟩ (.bool true))) ?hg ?ho ?hn ?hr ?_; (case ho => rfl); (case hg => rfl); (case hn => rfl); (case hr => first | (go_simp; done) | (go_simp; rfl)); intro w48 hw; replace HO_6 : zd_ (Kd.S k97 97 w48 w.heap.size (fun k_ => some k_ ≠ (u354003 : Value).ownBlock ∧ k_ ≠ gb353) u6 x6_1) := ⟨(by rw [hw]; exact (by (with_reducible repeat (first | apply Kd.ye_ | apply Kd.yd_ | apply Kd.yi_)); exact Kd.zR_ (Kd.S_far (p := ⟨gb344, 2, none⟩) (zk_.apartS HI344.out HO_6.out (by decide)) (fun _ hk => hk.2) (.bool true)) (fun _ hk => ⟨hk.1.1, hk.1.2⟩)))⟩; replace HO_354003 : zd_ (Kd.R Kd.string 9 w48 w.heap.size (fun _ => True) u354003 x354003_4) := ⟨(by rw [hw]; exact (by (with_reducible repeat (first | apply Kd.yP_ | apply Kd.yL_ | apply Kd.yW_)); exact Kd.z9_ (Kd.R_far (p := ⟨gb344, 2, none⟩) (zk_.apart HI344.out HO_354003.out (by decide)) (fun _ hk => hk.2) (.bool true)) (fun _ hk => trivial)))⟩; replace BK353 : zd_ (w48.heap[gb353]? = some (.cells #[.string t349, .bool (t354 == 1), .int .i64 t358, u354003] 97 (0, 0))) := ⟨(by rw [hw]; exact bka_)⟩; replace HB : zd_ (Below w.heap.size w w48) := ⟨(by rw [hw]; exact (belg_ (zk_.ge HI344.out)))⟩; replace HI344 : zd_ (zk_ w w48 gb344 x345000_4 x345001_4 true) := ⟨(by rw [hw]; exact zV_)⟩; clear hw; have hnb49 := NB353_344.out; have hnc49 := NB344_353.out; have hcz50_0 : w48.cell? ⟨gb353, 0, none⟩ = some (.string t349) := (zb_ BK353.out 0).trans rfl; have hcz50_1 : w48.cell? ⟨gb353, 1, none⟩ = some (.bool (t354 == 1)) := (zb_ BK353.out 1).trans rfl; have hcz50_2 : w48.cell? ⟨gb353, 2, none⟩ = some (.int .i64 t358) := (zb_ BK353.out 2).trans rfl; have hcz50_3 : w48.cell? ⟨gb353, 3, none⟩ = some (u354003) := (zb_ BK353.out 3).trans rfl; have hfz50_0 := za_ BK353.out 0; have hfz50_1 := za_ BK353.out 1; have hfz50_2 := za_ BK353.out 2; have hfz50_3 := za_ BK353.out 3; obtain ⟨Ao52, co52, eo52⟩ := Kd.yA_ HO_354003.out; subst eo52) | ((with_reducible refine yr_ (b := .append) (xs := #[.tmp 95, .tmp 97]) rfl ?_); at_builtin; refine Kd.xM_ k97 (w0 := w) w.heap.size rfl (.tmp 95) (.tmp 97) 23 97 (.agg #[(.string ⟨#[]⟩), (.bool false), (.int .i64 0), (.slice none 0 0)]) 56 rfl Try.underlying23 info97 rfl (by decide) (by omega) u6 x6_1 (⟨t349, (t354 == 1), t358, x354003_4⟩ : S97) [.string t349, .bool (t354 == 1), .int .i64 t358, .slice Ao52 x354003_4.length co52] (fun k_ => k_ ≠ gb353) (fun k_ => some k_ = (.slice Ao52 x354003_4.length co52 : Value).ownBlock) rfl rfl ?aP (fun k_ hk_ => ((Kd.z9_ (ok' := fun k_ => ((fun k_ => k_ ≠ gb353)) k_ ∧ some k_ ≠ (u6 : Value).ownBlock) (Kd.yo_ (Kd.yV_ (HO_354003.out) (Kd.y3_ HO_6.out) (by decide)) BK353.out (by decide)) (fun k_ hk => ⟨hk.2, hk.1.2⟩))).1 k_ hk_.symm) ?aF ?aO ?aB ?aS ?aL ?_; (case aP => exact k97_mkM _ _ _ (⟨t349, (t354 == 1), t358, x354003_4⟩ : S97) (Kd.z9_ (Kd.R_tight rfl (Kd.z9_ (ok' := fun k_ => ((fun k_ => k_ ≠ gb353)) k_ ∧ some k_ ≠ (u6 : Value).ownBlock) (Kd.yo_ (Kd.yV_ (HO_354003.out) (Kd.y3_ HO_6.out) (by decide)) BK353.out (by decide)) (fun k_ hk => ⟨hk.2, hk.1.2⟩))) (fun _ h_ => h_))); (case aB => exact (belg_ (zk_.ge HI344.out))); (case aF => exact (fun k_ hk => Kd.freshB (g := gb353) (o := .cells #[.string t349, .bool (t354 == 1), .int .i64 t358, .slice Ao52 x354003_4.length co52] 97 (0, 0)) (bk_ BK353.out) k_ hk)); (case aO => exact (by (with_reducible repeat (first | apply Kd.ye_ | apply Kd.yd_ | apply Kd.yi_)); exact Kd.zR_ HO_6.out (fun k_ hk => ⟨hk.2, fun e_ => hk.1 e_⟩))); (case aS => exact (zj_ (belg_ (zk_.ge HI344.out)))); (case aL => have := LMc46.out; omega); intro v378 w51 ho hb hg hat; rw [← Ny377.out] at ho; have n0_ := AM (yp_ (g := gb353) (o := .cells #[.string t349, .bool (t354 == 1), .int .i64 t358, .slice Ao52 x354003_4.length co52] 97 (0, 0)) (bk_ BK353.out) hg (Kd.S_away HO_6.out (fun _ hk => hk.2))); have n1_ := AM (zk_.grown zV_ hg (zk_.own_neS HI344.out HO_6.out (by decide))); have n2_ := AM hb; have n3_ := AM ho; clear BK353; clear HI344; clear HB; clear HO_6; clear HO_354003; have BK353 := n0_; have HI344 := n1_; have HB := n2_; have HO379 := n3_; clear n0_ n1_ n2_ n3_; clear ho hb hg hat))
              go_roundg k4
              case measure => have := HK1.out; have := HJ4.out; have := HJ12.out; have := HK4.out; omega
              case rel => exact ⟨(y377), (wrap64 (x7_1 + 1)), (x345000_4), (x345001_4), (true), re_, H', ⟨by have := HK1.out; have := HJ4.out; have := HJ12.out; have := HK4.out; omega⟩, ⟨by (with_reducible repeat (first | apply Kd.ye_ | apply Kd.yd_ | apply Kd.yi_)); exact Kd.zR_ HO379.out (fun _ hk => trivial)⟩, ⟨zV_⟩, ⟨belg_ (zk_.ge HI344.out)⟩⟩
             ·
              rw [if_neg c46] at H
              exact absurd H (by simp)
            ·
             replace c45 := Bool.eq_false_iff.mpr c45
             subst c45
             rw [if_neg (show ¬ (false = true) by decide)] at H
             obtain ⟨t380, A53, H⟩ := OB H
             try dsimp only at H
             replace A53 := AM A53
             by_cases c54 : x6_1.length < 2513169434916
             ·
              rw [if_pos c54] at H
              have LMc54 := AM c54
              clear c54
              obtain ⟨y381, hy381⟩ : ∃ y_ : List (S97), y_ = (x6_1 ++ [(⟨t349, (t354 == 1), t358, x354003_4⟩ : S97)]) := ⟨_, rfl⟩
              replace H : (ze_.l0 k4 t345 y381 (wrap64 (x7_1 + 1)) x345000_4 x345001_4 (t363 != t380)) = some (r1, r2) := by first | (rw [hy381]; with_reducible exact H) | (have H2_ := (Option.bind_some _ _).symm.trans H; rw [hy381]; with_reducible exact H2_) | (have H2_ := (Option.bind_some _ _).symm.trans H; with_reducible exact H2_) | with_reducible exact H | (rw [hy381]; exact H) | exact H
              have Ny381 := AM hy381
              clear hy381
              have H' := AM H
              clear H
              obtain ⟨HGz55, hgz55⟩ := HI344.out
              have hcz55_0 := zU_ HGz55
              have hcz55_1 := zT_ HGz55
              have hcz55_2 := zS_ HGz55
              have hfz55_0 := za_ HGz55 0
              have hfz55_1 := za_ HGz55 1
              have hfz55_2 := za_ HGz55 2
              clear HGz55 hgz55
              have hnb56 := NB353_344.out
              have hnc56 := NB344_353.out
              have hcz57_0 : wr.cell? ⟨gb353, 0, none⟩ = some (.string t349) := (zb_ BK353.out 0).trans rfl
              have hcz57_1 : wr.cell? ⟨gb353, 1, none⟩ = some (.bool (t354 == 1)) := (zb_ BK353.out 1).trans rfl
              have hcz57_2 : wr.cell? ⟨gb353, 2, none⟩ = some (.int .i64 t358) := (zb_ BK353.out 2).trans rfl
              have hcz57_3 : wr.cell? ⟨gb353, 3, none⟩ = some (u354003) := (zb_ BK353.out 3).trans rfl
              have hfz57_0 := za_ BK353.out 0
              have hfz57_1 := za_ BK353.out 1
              have hfz57_2 := za_ BK353.out 2
              have hfz57_3 := za_ BK353.out 3
              obtain ⟨Ao58, co58, eo58⟩ := Kd.yA_ HO_354003.out
              subst eo58
              go_wp2_with (first | (go_at_call 130; (with_reducible refine (yq_.calls _ _ x354003_4 t380 _ ?side1 ?side2 A53.out).mono ?_); (case side1 => repeat (first | exact (Kd.yI_ HO_354003.out).2.2 | (with_reducible refine Kd.yx_ ?_ _) | (with_reducible refine Kd.yw_ ?_ _) | (with_reducible refine Kd.yQ_ ?_))); (case side2 => exact (Kd.yI_ HO_354003.out).2.1); rintro e w' ⟨rfl, ⟨nd, rfl⟩⟩; (try (rw [xy_ wr]; generalize hq_ : World.drewN wr _ = wr; replace HO_354003 : zd_ (Kd.R Kd.string 9 wr w.heap.size (fun _ => True) (.slice Ao58 x354003_4.length co58) x354003_4) := ⟨by rw [← hq_]; exact (ro_ HO_354003.out)⟩; replace HO_6 : zd_ (Kd.S k97 97 wr w.heap.size (fun k_ => some k_ ≠ (.slice Ao58 x354003_4.length co58 : Value).ownBlock ∧ k_ ≠ gb353) u6 x6_1) := ⟨by rw [← hq_]; exact (ks_ HO_6.out)⟩; replace BK353 : zd_ (wr.heap[gb353]? = some (.cells #[.string t349, .bool (t354 == 1), .int .i64 t358, .slice Ao58 x354003_4.length co58] 97 (0, 0))) := ⟨by rw [← hq_]; exact (bk_ BK353.out)⟩; replace HB : zd_ (Below w.heap.size w wr) := ⟨by rw [← hq_]; exact (belg_ (zk_.ge HI344.out))⟩; replace HI344 : zd_ (zk_ w wr gb344 x345000_4 x345001_4 false) := ⟨by rw [← hq_]; exact zV_⟩; clear hq_; have HGq_ := HI344.out.1; have hcq0_ := zU_ HGq_; have hfq0_ := za_ HGq_ 0; have hcq1_ := zT_ HGq_; have hfq1_ := za_ HGq_ 1; have hcq2_ := zS_ HGq_; have hfq2_ := za_ HGq_ 2; clear HGq_))) | ((with_reducible refine xG_ (t := 4) (p := 94) rfl ?_); refine xr_ (t := 4) (p := 94) (v := ?vo_w59) (w1 := (wr.setCell ⟨gb344, 2, none⟩ (.bool (t363 != t380)))) ?hg ?ho ?hn ?hr ?_; (case ho => rfl); (case hg => rfl); (case hn => rfl); (case hr => first | (go_simp; done) | (go_simp; rfl)); intro w59 hw; replace HO_6 : zd_ (Kd.S k97 97 w59 w.heap.size (fun k_ => some k_ ≠ (.slice Ao58 x354003_4.length co58 : Value).ownBlock ∧ k_ ≠ gb353) u6 x6_1) := ⟨(by rw [hw]; exact (by (with_reducible repeat (first | apply Kd.ye_ | apply Kd.yd_ | apply Kd.yi_)); exact Kd.zR_ (Kd.S_far (p := ⟨gb344, 2, none⟩) (zk_.apartS HI344.out HO_6.out (by decide)) (fun _ hk => hk.2) (.bool (t363 != t380))) (fun _ hk => ⟨hk.1.1, hk.1.2⟩)))⟩; replace HO_354003 : zd_ (Kd.R Kd.string 9 w59 w.heap.size (fun _ => True) (.slice Ao58 x354003_4.length co58) x354003_4) := ⟨(by rw [hw]; exact (by (with_reducible repeat (first | apply Kd.yP_ | apply Kd.yL_ | apply Kd.yW_)); exact Kd.z9_ (Kd.R_far (p := ⟨gb344, 2, none⟩) (zk_.apart HI344.out HO_354003.out (by decide)) (fun _ hk => hk.2) (.bool (t363 != t380))) (fun _ hk => trivial)))⟩; replace BK353 : zd_ (w59.heap[gb353]? = some (.cells #[.string t349, .bool (t354 == 1), .int .i64 t358, .slice Ao58 x354003_4.length co58] 97 (0, 0))) := ⟨(by rw [hw]; exact bka_)⟩; replace HB : zd_ (Below w.heap.size w w59) := ⟨(by rw [hw]; exact (belg_ (zk_.ge HI344.out)))⟩; replace HI344 : zd_ (zk_ w w59 gb344 x345000_4 x345001_4 (t363 != t380)) := ⟨(by rw [hw]; exact zV_)⟩; clear hw; have hcz60_0 : w59.cell? ⟨gb353, 0, none⟩ = some (.string t349) := (zb_ BK353.out 0).trans rfl; have hcz60_1 : w59.cell? ⟨gb353, 1, none⟩ = some (.bool (t354 == 1)) := (zb_ BK353.out 1).trans rfl; have hcz60_2 : w59.cell? ⟨gb353, 2, none⟩ = some (.int .i64 t358) := (zb_ BK353.out 2).trans rfl; have hcz60_3 : w59.cell? ⟨gb353, 3, none⟩ = some (.slice Ao58 x354003_4.length co58) := (zb_ BK353.out 3).trans rfl; have hfz60_0 := za_ BK353.out 0; have hfz60_1 := za_ BK353.out 1; have hfz60_2 := za_ BK353.out 2; have hfz60_3 := za_ BK353.out 3) | ((with_reducible refine yr_ (b := .append) (xs := #[.tmp 95, .tmp 97]) rfl ?_); at_builtin; refine Kd.xM_ k97 (w0 := w) w.heap.size rfl (.tmp 95) (.tmp 97) 23 97 (.agg #[(.string ⟨#[]⟩), (.bool false), (.int .i64 0), (.slice none 0 0)]) 56 rfl Try.underlying23 info97 rfl (by decide) (by omega) u6 x6_1 (⟨t349, (t354 == 1), t358, x354003_4⟩ : S97) [.string t349, .bool (t354 == 1), .int .i64 t358, .slice Ao58 x354003_4.length co58] (fun k_ => k_ ≠ gb353) (fun k_ => some k_ = (.slice Ao58 x354003_4.length co58 : Value).ownBlock) rfl rfl ?aP (fun k_ hk_ => ((Kd.z9_ (ok' := fun k_ => ((fun k_ => k_ ≠ gb353)) k_ ∧ some k_ ≠ (u6 : Value).ownBlock) (Kd.yo_ (Kd.yV_ (HO_354003.out) (Kd.y3_ HO_6.out) (by decide)) BK353.out (by decide)) (fun k_ hk => ⟨hk.2, hk.1.2⟩))).1 k_ hk_.symm) ?aF ?aO ?aB ?aS ?aL ?_; (case aP => exact k97_mkM _ _ _ (⟨t349, (t354 == 1), t358, x354003_4⟩ : S97) (Kd.z9_ (Kd.R_tight rfl (Kd.z9_ (ok' := fun k_ => ((fun k_ => k_ ≠ gb353)) k_ ∧ some k_ ≠ (u6 : Value).ownBlock) (Kd.yo_ (Kd.yV_ (HO_354003.out) (Kd.y3_ HO_6.out) (by decide)) BK353.out (by decide)) (fun k_ hk => ⟨hk.2, hk.1.2⟩))) (fun _ h_ => h_))); (case aB => exact (belg_ (zk_.ge HI344.out))); (case aF => exact (fun k_ hk => Kd.freshB (g := gb353) (o := .cells #[.string t349, .bool (t354 == 1), .int .i64 t358, .slice Ao58 x354003_4.length co58] 97 (0, 0)) (bk_ BK353.out) k_ hk)); (case aO => exact (by (with_reducible repeat (first | apply Kd.ye_ | apply Kd.yd_ | apply Kd.yi_)); exact Kd.zR_ HO_6.out (fun k_ hk => ⟨hk.2, fun e_ => hk.1 e_⟩))); (case aS => exact (zj_ (belg_ (zk_.ge HI344.out)))); (case aL => have := LMc54.out; omega); intro v382 w61 ho hb hg hat; rw [← Ny381.out] at ho; have n0_ := AM (yp_ (g := gb353) (o := .cells #[.string t349, .bool (t354 == 1), .int .i64 t358, .slice Ao58 x354003_4.length co58] 97 (0, 0)) (bk_ BK353.out) hg (Kd.S_away HO_6.out (fun _ hk => hk.2))); have n1_ := AM (zk_.grown zV_ hg (zk_.own_neS HI344.out HO_6.out (by decide))); have n2_ := AM hb; have n3_ := AM ho; clear BK353; clear HI344; clear HB; clear HO_6; clear HO_354003; have BK353 := n0_; have HI344 := n1_; have HB := n2_; have HO383 := n3_; clear n0_ n1_ n2_ n3_; clear ho hb hg hat))
              go_roundg k4
              case measure => have := HK1.out; have := HJ4.out; have := HJ12.out; have := HK4.out; omega
              case rel => exact ⟨(y381), (wrap64 (x7_1 + 1)), (x345000_4), (x345001_4), ((t363 != t380)), re_, H', ⟨by have := HK1.out; have := HJ4.out; have := HJ12.out; have := HK4.out; omega⟩, ⟨by (with_reducible repeat (first | apply Kd.ye_ | apply Kd.yd_ | apply Kd.yi_)); exact Kd.zR_ HO383.out (fun _ hk => trivial)⟩, ⟨zV_⟩, ⟨belg_ (zk_.ge HI344.out)⟩⟩
             ·
              rw [if_neg c54] at H
              exact absurd H (by simp)
          ·
           rw [if_neg c27] at H
           have c27b0 : decide (x11_4 < t363) = false := decide_eq_false c27
           clear c27
           by_cases c62 : x345002_4 = true
           ·
            subst c62
            rw [if_pos rfl] at H
            by_cases c63 : x6_1.length < 2513169434916
            ·
             rw [if_pos c63] at H
             have LMc63 := AM c63
             clear c63
             obtain ⟨y384, hy384⟩ : ∃ y_ : List (S97), y_ = (x6_1 ++ [(⟨t349, (t354 == 1), t358, x354003_4⟩ : S97)]) := ⟨_, rfl⟩
             replace H : (ze_.l0 k4 t345 y384 (wrap64 (x7_1 + 1)) x345000_4 x345001_4 true) = some (r1, r2) := by first | (rw [hy384]; with_reducible exact H) | (have H2_ := (Option.bind_some _ _).symm.trans H; rw [hy384]; with_reducible exact H2_) | (have H2_ := (Option.bind_some _ _).symm.trans H; with_reducible exact H2_) | with_reducible exact H | (rw [hy384]; exact H) | exact H
             have Ny384 := AM hy384
             clear hy384
             have H' := AM H
             clear H
             obtain ⟨HGz64, hgz64⟩ := HI344.out
             have hcz64_0 := zU_ HGz64
             have hcz64_1 := zT_ HGz64
             have hcz64_2 := zS_ HGz64
             have hfz64_0 := za_ HGz64 0
             have hfz64_1 := za_ HGz64 1
             have hfz64_2 := za_ HGz64 2
             clear HGz64 hgz64
             go_wp2_with (first | ((with_reducible refine xG_ (t := 4) (p := 94) rfl ?_); refine xr_ (t := 4) (p := 94) (v := ?vo_w65) (w1 := (wr.setCell ⟨gb344, 2, none⟩ (.bool true))) ?hg ?ho ?hn ?hr ?_; (case ho => rfl); (case hg => rfl); (case hn => rfl); (case hr => first | (go_simp; done) | (go_simp; rfl)); intro w65 hw; replace HO_6 : zd_ (Kd.S k97 97 w65 w.heap.size (fun k_ => some k_ ≠ (u354003 : Value).ownBlock ∧ k_ ≠ gb353) u6 x6_1) := ⟨(by rw [hw]; exact (by (with_reducible repeat (first | apply Kd.ye_ | apply Kd.yd_ | apply Kd.yi_)); exact Kd.zR_ (Kd.S_far (p := ⟨gb344, 2, none⟩) (zk_.apartS HI344.out HO_6.out (by decide)) (fun _ hk => hk.2) (.bool true)) (fun _ hk => ⟨hk.1.1, hk.1.2⟩)))⟩; replace HO_354003 : zd_ (Kd.R Kd.string 9 w65 w.heap.size (fun _ => True) u354003 x354003_4) := ⟨(by rw [hw]; exact (by (with_reducible repeat (first | apply Kd.yP_ | apply Kd.yL_ | apply Kd.yW_)); exact Kd.z9_ (Kd.R_far (p := ⟨gb344, 2, none⟩) (zk_.apart HI344.out HO_354003.out (by decide)) (fun _ hk => hk.2) (.bool true)) (fun _ hk => trivial)))⟩; replace BK353 : zd_ (w65.heap[gb353]? = some (.cells #[.string t349, .bool (t354 == 1), .int .i64 t358, u354003] 97 (0, 0))) := ⟨(by rw [hw]; exact bka_)⟩; replace HB : zd_ (Below w.heap.size w w65) := ⟨(by rw [hw]; exact (belg_ (zk_.ge HI344.out)))⟩; replace HI344 : zd_ (zk_ w w65 gb344 x345000_4 x345001_4 true) := ⟨(by rw [hw]; exact zV_)⟩; clear hw; have hnb66 := NB353_344.out; have hnc66 := NB344_353.out; have hcz67_0 : w65.cell? ⟨gb353, 0, none⟩ = some (.string t349) := (zb_ BK353.out 0).trans rfl; have hcz67_1 : w65.cell? ⟨gb353, 1, none⟩ = some (.bool (t354 == 1)) := (zb_ BK353.out 1).trans rfl; have hcz67_2 : w65.cell? ⟨gb353, 2, none⟩ = some (.int .i64 t358) := (zb_ BK353.out 2).trans rfl; have hcz67_3 : w65.cell? ⟨gb353, 3, none⟩ = some (u354003) := (zb_ BK353.out 3).trans rfl; have hfz67_0 := za_ BK353.out 0; have hfz67_1 := za_ BK353.out 1; have hfz67_2 := za_ BK353.out 2; have hfz67_3 := za_ BK353.out 3; obtain ⟨Ao69, co69, eo69⟩ := Kd.yA_ HO_354003.out; subst eo69) | ((with_reducible refine yr_ (b := .append) (xs := #[.tmp 95, .tmp 97]) rfl ?_); at_builtin; refine Kd.xM_ k97 (w0 := w) w.heap.size rfl (.tmp 95) (.tmp 97) 23 97 (.agg #[(.string ⟨#[]⟩), (.bool false), (.int .i64 0), (.slice none 0 0)]) 56 rfl Try.underlying23 info97 rfl (by decide) (by omega) u6 x6_1 (⟨t349, (t354 == 1), t358, x354003_4⟩ : S97) [.string t349, .bool (t354 == 1), .int .i64 t358, .slice Ao69 x354003_4.length co69] (fun k_ => k_ ≠ gb353) (fun k_ => some k_ = (.slice Ao69 x354003_4.length co69 : Value).ownBlock) rfl rfl ?aP (fun k_ hk_ => ((Kd.z9_ (ok' := fun k_ => ((fun k_ => k_ ≠ gb353)) k_ ∧ some k_ ≠ (u6 : Value).ownBlock) (Kd.yo_ (Kd.yV_ (HO_354003.out) (Kd.y3_ HO_6.out) (by decide)) BK353.out (by decide)) (fun k_ hk => ⟨hk.2, hk.1.2⟩))).1 k_ hk_.symm) ?aF ?aO ?aB ?aS ?aL ?_; (case aP => exact k97_mkM _ _ _ (⟨t349, (t354 == 1), t358, x354003_4⟩ : S97) (Kd.z9_ (Kd.R_tight rfl (Kd.z9_ (ok' := fun k_ => ((fun k_ => k_ ≠ gb353)) k_ ∧ some k_ ≠ (u6 : Value).ownBlock) (Kd.yo_ (Kd.yV_ (HO_354003.out) (Kd.y3_ HO_6.out) (by decide)) BK353.out (by decide)) (fun k_ hk => ⟨hk.2, hk.1.2⟩))) (fun _ h_ => h_))); (case aB => exact (belg_ (zk_.ge HI344.out))); (case aF => exact (fun k_ hk => Kd.freshB (g := gb353) (o := .cells #[.string t349, .bool (t354 == 1), .int .i64 t358, .slice Ao69 x354003_4.length co69] 97 (0, 0)) (bk_ BK353.out) k_ hk)); (case aO => exact (by (with_reducible repeat (first | apply Kd.ye_ | apply Kd.yd_ | apply Kd.yi_)); exact Kd.zR_ HO_6.out (fun k_ hk => ⟨hk.2, fun e_ => hk.1 e_⟩))); (case aS => exact (zj_ (belg_ (zk_.ge HI344.out)))); (case aL => have := LMc63.out; omega); intro v385 w68 ho hb hg hat; rw [← Ny384.out] at ho; have n0_ := AM (yp_ (g := gb353) (o := .cells #[.string t349, .bool (t354 == 1), .int .i64 t358, .slice Ao69 x354003_4.length co69] 97 (0, 0)) (bk_ BK353.out) hg (Kd.S_away HO_6.out (fun _ hk => hk.2))); have n1_ := AM (zk_.grown zV_ hg (zk_.own_neS HI344.out HO_6.out (by decide))); have n2_ := AM hb; have n3_ := AM ho; clear BK353; clear HI344; clear HB; clear HO_6; clear HO_354003; have BK353 := n0_; have HI344 := n1_; have HB := n2_; have HO386 := n3_; clear n0_ n1_ n2_ n3_; clear ho hb hg hat))
             go_roundg k4
             case measure => have := HK1.out; have := HJ4.out; have := HJ12.out; have := HK4.out; omega
             case rel => exact ⟨(y384), (wrap64 (x7_1 + 1)), (x345000_4), (x345001_4), (true), re_, H', ⟨by have := HK1.out; have := HJ4.out; have := HJ12.out; have := HK4.out; omega⟩, ⟨by (with_reducible repeat (first | apply Kd.ye_ | apply Kd.yd_ | apply Kd.yi_)); exact Kd.zR_ HO386.out (fun _ hk => trivial)⟩, ⟨zV_⟩, ⟨belg_ (zk_.ge HI344.out)⟩⟩
            ·
             rw [if_neg c63] at H
             exact absurd H (by simp)
           ·
            replace c62 := Bool.eq_false_iff.mpr c62
            subst c62
            rw [if_neg (show ¬ (false = true) by decide)] at H
            obtain ⟨t387, A70, H⟩ := OB H
            try dsimp only at H
            replace A70 := AM A70
            by_cases c71 : x6_1.length < 2513169434916
            ·
             rw [if_pos c71] at H
             have LMc71 := AM c71
             clear c71
             obtain ⟨y388, hy388⟩ : ∃ y_ : List (S97), y_ = (x6_1 ++ [(⟨t349, (t354 == 1), t358, x354003_4⟩ : S97)]) := ⟨_, rfl⟩
             replace H : (ze_.l0 k4 t345 y388 (wrap64 (x7_1 + 1)) x345000_4 x345001_4 (t363 != t387)) = some (r1, r2) := by first | (rw [hy388]; with_reducible exact H) | (have H2_ := (Option.bind_some _ _).symm.trans H; rw [hy388]; with_reducible exact H2_) | (have H2_ := (Option.bind_some _ _).symm.trans H; with_reducible exact H2_) | with_reducible exact H | (rw [hy388]; exact H) | exact H
             have Ny388 := AM hy388
             clear hy388
             have H' := AM H
             clear H
             obtain ⟨HGz72, hgz72⟩ := HI344.out
             have hcz72_0 := zU_ HGz72
             have hcz72_1 := zT_ HGz72
             have hcz72_2 := zS_ HGz72
             have hfz72_0 := za_ HGz72 0
             have hfz72_1 := za_ HGz72 1
             have hfz72_2 := za_ HGz72 2
             clear HGz72 hgz72
             have hnb73 := NB353_344.out
             have hnc73 := NB344_353.out
             have hcz74_0 : wr.cell? ⟨gb353, 0, none⟩ = some (.string t349) := (zb_ BK353.out 0).trans rfl
             have hcz74_1 : wr.cell? ⟨gb353, 1, none⟩ = some (.bool (t354 == 1)) := (zb_ BK353.out 1).trans rfl
             have hcz74_2 : wr.cell? ⟨gb353, 2, none⟩ = some (.int .i64 t358) := (zb_ BK353.out 2).trans rfl
             have hcz74_3 : wr.cell? ⟨gb353, 3, none⟩ = some (u354003) := (zb_ BK353.out 3).trans rfl
             have hfz74_0 := za_ BK353.out 0
             have hfz74_1 := za_ BK353.out 1
             have hfz74_2 := za_ BK353.out 2
             have hfz74_3 := za_ BK353.out 3
             obtain ⟨Ao75, co75, eo75⟩ := Kd.yA_ HO_354003.out
             subst eo75
             go_wp2_with (first | (go_at_call 130; (with_reducible refine (yq_.calls _ _ x354003_4 t387 _ ?side1 ?side2 A70.out).mono ?_); (case side1 => repeat (first | exact (Kd.yI_ HO_354003.out).2.2 | (with_reducible refine Kd.yx_ ?_ _) | (with_reducible refine Kd.yw_ ?_ _) | (with_reducible refine Kd.yQ_ ?_))); (case side2 => exact (Kd.yI_ HO_354003.out).2.1); rintro e w' ⟨rfl, ⟨nd, rfl⟩⟩; (try (rw [xy_ wr]; generalize hq_ : World.drewN wr _ = wr; replace HO_354003 : zd_ (Kd.R Kd.string 9 wr w.heap.size (fun _ => True) (.slice Ao75 x354003_4.length co75) x354003_4) := ⟨by rw [← hq_]; exact (ro_ HO_354003.out)⟩; replace HO_6 : zd_ (Kd.S k97 97 wr w.heap.size (fun k_ => some k_ ≠ (.slice Ao75 x354003_4.length co75 : Value).ownBlock ∧ k_ ≠ gb353) u6 x6_1) := ⟨by rw [← hq_]; exact (ks_ HO_6.out)⟩; replace BK353 : zd_ (wr.heap[gb353]? = some (.cells #[.string t349, .bool (t354 == 1), .int .i64 t358, .slice Ao75 x354003_4.length co75] 97 (0, 0))) := ⟨by rw [← hq_]; exact (bk_ BK353.out)⟩; replace HB : zd_ (Below w.heap.size w wr) := ⟨by rw [← hq_]; exact (belg_ (zk_.ge HI344.out))⟩; replace HI344 : zd_ (zk_ w wr gb344 x345000_4 x345001_4 false) := ⟨by rw [← hq_]; exact zV_⟩; clear hq_; have HGq_ := HI344.out.1; have hcq0_ := zU_ HGq_; have hfq0_ := za_ HGq_ 0; have hcq1_ := zT_ HGq_; have hfq1_ := za_ HGq_ 1; have hcq2_ := zS_ HGq_; have hfq2_ := za_ HGq_ 2; clear HGq_))) | ((with_reducible refine xG_ (t := 4) (p := 94) rfl ?_); refine xr_ (t := 4) (p := 94) (v := ?vo_w76) (w1 := (wr.setCell ⟨gb344, 2, none⟩ (.bool (t363 != t387)))) ?hg ?ho ?hn ?hr ?_; (case ho => rfl); (case hg => rfl); (case hn => rfl); (case hr => first | (go_simp; done) | (go_simp; rfl)); intro w76 hw; replace HO_6 : zd_ (Kd.S k97 97 w76 w.heap.size (fun k_ => some k_ ≠ (.slice Ao75 x354003_4.length co75 : Value).ownBlock ∧ k_ ≠ gb353) u6 x6_1) := ⟨(by rw [hw]; exact (by (with_reducible repeat (first | apply Kd.ye_ | apply Kd.yd_ | apply Kd.yi_)); exact Kd.zR_ (Kd.S_far (p := ⟨gb344, 2, none⟩) (zk_.apartS HI344.out HO_6.out (by decide)) (fun _ hk => hk.2) (.bool (t363 != t387))) (fun _ hk => ⟨hk.1.1, hk.1.2⟩)))⟩; replace HO_354003 : zd_ (Kd.R Kd.string 9 w76 w.heap.size (fun _ => True) (.slice Ao75 x354003_4.length co75) x354003_4) := ⟨(by rw [hw]; exact (by (with_reducible repeat (first | apply Kd.yP_ | apply Kd.yL_ | apply Kd.yW_)); exact Kd.z9_ (Kd.R_far (p := ⟨gb344, 2, none⟩) (zk_.apart HI344.out HO_354003.out (by decide)) (fun _ hk => hk.2) (.bool (t363 != t387))) (fun _ hk => trivial)))⟩; replace BK353 : zd_ (w76.heap[gb353]? = some (.cells #[.string t349, .bool (t354 == 1), .int .i64 t358, .slice Ao75 x354003_4.length co75] 97 (0, 0))) := ⟨(by rw [hw]; exact bka_)⟩; replace HB : zd_ (Below w.heap.size w w76) := ⟨(by rw [hw]; exact (belg_ (zk_.ge HI344.out)))⟩; replace HI344 : zd_ (zk_ w w76 gb344 x345000_4 x345001_4 (t363 != t387)) := ⟨(by rw [hw]; exact zV_)⟩; clear hw; have hcz77_0 : w76.cell? ⟨gb353, 0, none⟩ = some (.string t349) := (zb_ BK353.out 0).trans rfl; have hcz77_1 : w76.cell? ⟨gb353, 1, none⟩ = some (.bool (t354 == 1)) := (zb_ BK353.out 1).trans rfl; have hcz77_2 : w76.cell? ⟨gb353, 2, none⟩ = some (.int .i64 t358) := (zb_ BK353.out 2).trans rfl; have hcz77_3 : w76.cell? ⟨gb353, 3, none⟩ = some (.slice Ao75 x354003_4.length co75) := (zb_ BK353.out 3).trans rfl; have hfz77_0 := za_ BK353.out 0; have hfz77_1 := za_ BK353.out 1; have hfz77_2 := za_ BK353.out 2; have hfz77_3 := za_ BK353.out 3) | ((with_reducible refine yr_ (b := .append) (xs := #[.tmp 95, .tmp 97]) rfl ?_); at_builtin; refine Kd.xM_ k97 (w0 := w) w.heap.size rfl (.tmp 95) (.tmp 97) 23 97 (.agg #[(.string ⟨#[]⟩), (.bool false), (.int .i64 0), (.slice none 0 0)]) 56 rfl Try.underlying23 info97 rfl (by decide) (by omega) u6 x6_1 (⟨t349, (t354 == 1), t358, x354003_4⟩ : S97) [.string t349, .bool (t354 == 1), .int .i64 t358, .slice Ao75 x354003_4.length co75] (fun k_ => k_ ≠ gb353) (fun k_ => some k_ = (.slice Ao75 x354003_4.length co75 : Value).ownBlock) rfl rfl ?aP (fun k_ hk_ => ((Kd.z9_ (ok' := fun k_ => ((fun k_ => k_ ≠ gb353)) k_ ∧ some k_ ≠ (u6 : Value).ownBlock) (Kd.yo_ (Kd.yV_ (HO_354003.out) (Kd.y3_ HO_6.out) (by decide)) BK353.out (by decide)) (fun k_ hk => ⟨hk.2, hk.1.2⟩))).1 k_ hk_.symm) ?aF ?aO ?aB ?aS ?aL ?_; (case aP => exact k97_mkM _ _ _ (⟨t349, (t354 == 1), t358, x354003_4⟩ : S97) (Kd.z9_ (Kd.R_tight rfl (Kd.z9_ (ok' := fun k_ => ((fun k_ => k_ ≠ gb353)) k_ ∧ some k_ ≠ (u6 : Value).ownBlock) (Kd.yo_ (Kd.yV_ (HO_354003.out) (Kd.y3_ HO_6.out) (by decide)) BK353.out (by decide)) (fun k_ hk => ⟨hk.2, hk.1.2⟩))) (fun _ h_ => h_))); (case aB => exact (belg_ (zk_.ge HI344.out))); (case aF => exact (fun k_ hk => Kd.freshB (g := gb353) (o := .cells #[.string t349, .bool (t354 == 1), .int .i64 t358, .slice Ao75 x354003_4.length co75] 97 (0, 0)) (bk_ BK353.out) k_ hk)); (case aO => exact (by (with_reducible repeat (first | apply Kd.ye_ | apply Kd.yd_ | apply Kd.yi_)); exact Kd.zR_ HO_6.out (fun k_ hk => ⟨hk.2, fun e_ => hk.1 e_⟩))); (case aS => exact (zj_ (belg_ (zk_.ge HI344.out)))); (case aL => have := LMc71.out; omega); intro v389 w78 ho hb hg hat; rw [← Ny388.out] at ho; have n0_ := AM (yp_ (g := gb353) (o := .cells #[.string t349, .bool (t354 == 1), .int .i64 t358, .slice Ao75 x354003_4.length co75] 97 (0, 0)) (bk_ BK353.out) hg (Kd.S_away HO_6.out (fun _ hk => hk.2))); have n1_ := AM (zk_.grown zV_ hg (zk_.own_neS HI344.out HO_6.out (by decide))); have n2_ := AM hb; have n3_ := AM ho; clear BK353; clear HI344; clear HB; clear HO_6; clear HO_354003; have BK353 := n0_; have HI344 := n1_; have HB := n2_; have HO390 := n3_; clear n0_ n1_ n2_ n3_; clear ho hb hg hat))
             go_roundg k4
             case measure => have := HK1.out; have := HJ4.out; have := HJ12.out; have := HK4.out; omega
             case rel => exact ⟨(y388), (wrap64 (x7_1 + 1)), (x345000_4), (x345001_4), ((t363 != t387)), re_, H', ⟨by have := HK1.out; have := HJ4.out; have := HJ12.out; have := HK4.out; omega⟩, ⟨by (with_reducible repeat (first | apply Kd.ye_ | apply Kd.yd_ | apply Kd.yi_)); exact Kd.zR_ HO390.out (fun _ hk => trivial)⟩, ⟨zV_⟩, ⟨belg_ (zk_.ge HI344.out)⟩⟩
            ·
             rw [if_neg c71] at H
             exact absurd H (by simp)
     ·
      replace c9 := Bool.eq_false_iff.mpr c9
      subst c9
      rw [if_neg (show ¬ (false = true) by decide)] at H
      obtain ⟨t391, A79, H⟩ := OB H
      try dsimp only at H
      replace A79 := AM A79
      by_cases c80 : t345 = t391
      ·
       rw [if_pos c80] at H
       have c80b0 : (t345 == t391) = true := beq_iff_eq.mpr c80
       have c80b1 : (t345 != t391) = false := bne_eq_false_iff_eq.mpr c80
       clear c80
       obtain ⟨⟨t392, t393, t394, t395⟩, A81, H⟩ := OB H
       try dsimp only at H
       replace A81 := AM A81
       by_cases c82 : t392 = true
       ·
        subst c82
        rw [if_pos rfl] at H
        obtain ⟨t396, A83, H⟩ := OB H
        try dsimp only at H
        replace A83 := AM A83
        by_cases c84 : t396 = true
        ·
         subst c84
         rw [if_pos rfl] at H
         simp only [Option.some.injEq, Prod.mk.injEq] at H
         obtain ⟨rfl, rfl⟩ := H
         obtain ⟨Ao85, co85, eo85⟩ := Kd.xv_ HO_6.out
         subst eo85
         go_wp2_with (first | ((with_reducible refine zl_ (f := 138) rfl ?_); refine gl_ (some 101) Try.func138 #[.slice Ao85 x6_1.length co85] ?_; (with_reducible refine (y2_.calls _ _ x6_1 t391 _ ?side1 ?side2 A79.out).mono ?_); (case side1 => repeat (first | exact (Kd.ys_ HO_6.out).2.2 | (with_reducible refine Kd.yx_ ?_ _) | (with_reducible refine Kd.yw_ ?_ _) | (with_reducible refine Kd.yQ_ ?_))); (case side2 => exact (Kd.ys_ HO_6.out).2.1); rintro e w' ⟨rfl, ⟨nd, rfl⟩⟩; refine ⟨_, rfl, ?_⟩) | (go_at_call 84; (with_reducible refine (yt_.calls gb344 x345000_1 x345001_1 x345002_1 true t393 t394 t395 w _ ?side1 ?side2 A81.out).mono ?_); (case side1 => exact zV_); (case side2 => exact belg_ (zk_.ge HI344.out)); rintro e w86 ⟨rfl, hi, hb, hk⟩; replace HO_6 := AM (Kd.zR_ (Kd.yT_ (zk_.apartS (show zk_ w _ gb344 x345000_1 x345001_1 x345002_1 from zV_) (ks_ HO_6.out) (by decide)) hk (fun _ h => h.2)) (fun _ h => h.1)); replace HB := AM hb; replace HI344 := AM hi; (try clear hb); (try clear hk); (try clear hi)) | (go_at_call 11; (with_reducible refine (zi_.calls kj4 _ _ x6_1 true _ ?side1 ?side2 A83.out).mono ?_); (case side1 => repeat (first | exact (Kd.ys_ HO_6.out).2.2 | (with_reducible refine Kd.yx_ ?_ _) | (with_reducible refine Kd.yw_ ?_ _) | (with_reducible refine Kd.yQ_ ?_))); (case side2 => exact (Kd.ys_ HO_6.out).2.1); rintro e w87 ⟨rfl, hb⟩; replace HO_6 := AM (Kd.yB_ (ks_ HO_6.out) hb); replace HB := AM (zg_ (belg_ (zk_.ge HI344.out)) hb); replace HI344 := AM (zk_.below zV_ hb); (try clear hb)))
         go_ret2
         exact ⟨_, ri_, by (with_reducible repeat (first | apply Kd.ye_ | apply Kd.yd_ | apply Kd.yi_)); exact HO_6.out, belg_ (zk_.ge HI344.out)⟩
        ·
         replace c84 := Bool.eq_false_iff.mpr c84
         subst c84
         rw [if_neg (show ¬ (false = true) by decide)] at H
         simp only [Option.some.injEq, Prod.mk.injEq] at H
         obtain ⟨rfl, rfl⟩ := H
         obtain ⟨Ao88, co88, eo88⟩ := Kd.xv_ HO_6.out
         subst eo88
         go_wp2_with (first | ((with_reducible refine zl_ (f := 138) rfl ?_); refine gl_ (some 101) Try.func138 #[.slice Ao88 x6_1.length co88] ?_; (with_reducible refine (y2_.calls _ _ x6_1 t391 _ ?side1 ?side2 A79.out).mono ?_); (case side1 => repeat (first | exact (Kd.ys_ HO_6.out).2.2 | (with_reducible refine Kd.yx_ ?_ _) | (with_reducible refine Kd.yw_ ?_ _) | (with_reducible refine Kd.yQ_ ?_))); (case side2 => exact (Kd.ys_ HO_6.out).2.1); rintro e w' ⟨rfl, ⟨nd, rfl⟩⟩; refine ⟨_, rfl, ?_⟩) | (go_at_call 84; (with_reducible refine (yt_.calls gb344 x345000_1 x345001_1 x345002_1 true t393 t394 t395 w _ ?side1 ?side2 A81.out).mono ?_); (case side1 => exact zV_); (case side2 => exact belg_ (zk_.ge HI344.out)); rintro e w89 ⟨rfl, hi, hb, hk⟩; replace HO_6 := AM (Kd.zR_ (Kd.yT_ (zk_.apartS (show zk_ w _ gb344 x345000_1 x345001_1 x345002_1 from zV_) (ks_ HO_6.out) (by decide)) hk (fun _ h => h.2)) (fun _ h => h.1)); replace HB := AM hb; replace HI344 := AM hi; (try clear hb); (try clear hk); (try clear hi)) | (go_at_call 11; (with_reducible refine (zi_.calls kj4 _ _ x6_1 false _ ?side1 ?side2 A83.out).mono ?_); (case side1 => repeat (first | exact (Kd.ys_ HO_6.out).2.2 | (with_reducible refine Kd.yx_ ?_ _) | (with_reducible refine Kd.yw_ ?_ _) | (with_reducible refine Kd.yQ_ ?_))); (case side2 => exact (Kd.ys_ HO_6.out).2.1); rintro e w90 ⟨rfl, hb⟩; replace HO_6 := AM (Kd.yB_ (ks_ HO_6.out) hb); replace HB := AM (zg_ (belg_ (zk_.ge HI344.out)) hb); replace HI344 := AM (zk_.below zV_ hb); (try clear hb)))
         go_ret2
         exact ⟨_, ri_, by first | exact Kd.S_nil _ _ _ _ _ | exact Kd.N_nil _ _ _ _ _ | exact Kd.V_nil _ _ _ _ _ | exact Kd.Q_nil _ _ _ _ _ | exact Kd.R_nil _ _ _ _ _, belg_ (zk_.ge HI344.out)⟩
       ·
        replace c82 := Bool.eq_false_iff.mpr c82
        subst c82
        rw [if_neg (show ¬ (false = true) by decide)] at H
        simp only [Option.some.injEq, Prod.mk.injEq] at H
        obtain ⟨rfl, rfl⟩ := H
        obtain ⟨Ao91, co91, eo91⟩ := Kd.xv_ HO_6.out
        subst eo91
        go_wp2_with (first | ((with_reducible refine zl_ (f := 138) rfl ?_); refine gl_ (some 101) Try.func138 #[.slice Ao91 x6_1.length co91] ?_; (with_reducible refine (y2_.calls _ _ x6_1 t391 _ ?side1 ?side2 A79.out).mono ?_); (case side1 => repeat (first | exact (Kd.ys_ HO_6.out).2.2 | (with_reducible refine Kd.yx_ ?_ _) | (with_reducible refine Kd.yw_ ?_ _) | (with_reducible refine Kd.yQ_ ?_))); (case side2 => exact (Kd.ys_ HO_6.out).2.1); rintro e w' ⟨rfl, ⟨nd, rfl⟩⟩; refine ⟨_, rfl, ?_⟩) | (go_at_call 84; (with_reducible refine (yt_.calls gb344 x345000_1 x345001_1 x345002_1 false t393 t394 t395 w _ ?side1 ?side2 A81.out).mono ?_); (case side1 => exact zV_); (case side2 => exact belg_ (zk_.ge HI344.out)); rintro e w92 ⟨rfl, hi, hb, hk⟩; replace HO_6 := AM (Kd.zR_ (Kd.yT_ (zk_.apartS (show zk_ w _ gb344 x345000_1 x345001_1 x345002_1 from zV_) (ks_ HO_6.out) (by decide)) hk (fun _ h => h.2)) (fun _ h => h.1)); replace HB := AM hb; replace HI344 := AM hi; (try clear hb); (try clear hk); (try clear hi)))
        go_ret2
        exact ⟨_, ri_, by first | exact Kd.S_nil _ _ _ _ _ | exact Kd.N_nil _ _ _ _ _ | exact Kd.V_nil _ _ _ _ _ | exact Kd.Q_nil _ _ _ _ _ | exact Kd.R_nil _ _ _ _ _, belg_ (zk_.ge HI344.out)⟩
      ·
       rw [if_neg c80] at H
       have c80b0 : (t345 == t391) = false := beq_eq_false_iff_ne.mpr c80
       have c80b1 : (t345 != t391) = true := bne_iff_ne.mpr c80
       simp only [Option.some.injEq, Prod.mk.injEq] at H
       obtain ⟨rfl, rfl⟩ := H
       obtain ⟨Ao93, co93, eo93⟩ := Kd.xv_ HO_6.out
       subst eo93
       go_wp2_with (first | ((with_reducible refine zl_ (f := 138) rfl ?_); refine gl_ (some 101) Try.func138 #[.slice Ao93 x6_1.length co93] ?_; (with_reducible refine (y2_.calls _ _ x6_1 t391 _ ?side1 ?side2 A79.out).mono ?_); (case side1 => repeat (first | exact (Kd.ys_ HO_6.out).2.2 | (with_reducible refine Kd.yx_ ?_ _) | (with_reducible refine Kd.yw_ ?_ _) | (with_reducible refine Kd.yQ_ ?_))); (case side2 => exact (Kd.ys_ HO_6.out).2.1); rintro e w' ⟨rfl, ⟨nd, rfl⟩⟩; refine ⟨_, rfl, ?_⟩))
       go_ret2
       exact ⟨_, ri_, by first | exact Kd.S_nil _ _ _ _ _ | exact Kd.N_nil _ _ _ _ _ | exact Kd.V_nil _ _ _ _ _ | exact Kd.Q_nil _ _ _ _ _ | exact Kd.R_nil _ _ _ _ _, belg_ (zk_.ge HI344.out)⟩
end Go.Proofs.Ytfffdndeccipnaa.PFnNodes
