/- Functions of the law FnPack: the print's, with walks of this session's own. No statement is proved here. -/
import Derived.WalkLawsBesides
import Derived.Test.YtfffdndeccipnaaDoorPFnPackx5
namespace Go.Proofs.YtfffdndeccipnaaDoor.PFnPack
open Go.RowKit Go.Proofs.YtfffdndeccipnaaDoorW.PrintWords Go.Proofs.YtfffdndeccipnaaDoorW.PrintLast Go.Proofs.YtfffdndeccipnaaDoorW.PrintMore Go.Proofs.YtfffdndeccipnaaDoor.Reg Go.Proofs.YtfffdndeccipnaaDoor.Aut
attribute [local go_sem] max2_int min2_int max_two min_two y9_ y8_ max_four min_four
set_option linter.unusedVariables false
set_option linter.unusedSimpArgs false
set_option maxHeartbeats 8000000
set_option maxRecDepth 100000
/-! ### z7_: function 96 -/
def z7_.l0 : Nat → List ByteArray → ByteArray → Int → Option (Bool)
 | 0, _, _, _ => none
 | k + 1, x0, x1, x5 => if x5 < (x0.length : Int) then (if 0 ≤ x5 then (if (rdOf ByteArray.empty x0 x5).toList = x1.toList then (some true) else (z7_.l0 k x0 x1 (wrap64 (x5 + 1)))) else (none)) else (some false)
def z7_.f (k : Nat) (l0 : List ByteArray) (a1 : ByteArray) : Option (Bool) := z7_.l0 k l0 a1 0
theorem z7_.mono_l : ∀ k, (∀ y0 y1 y2, LeO (z7_.l0 k y0 y1 y2) (z7_.l0 (k + 1) y0 y1 y2))
 | 0 => fun _ _ _ r h => by simp [z7_.l0] at h
 | k + 1 => by
  have ih0 := z7_.mono_l k
  ·
   intro y0 y1 y2
   unfold z7_.l0
   repeat' with_reducible first | exact ih0 _ _ _ | exact LeO.refl _ | exact LeO.none _ | refine LeO.ite ?_ ?_ | refine LeO.bind ?_ (fun _ => ?_)
theorem z7_.mono : ∀ a0 a1 k, LeO (z7_.f k a0 a1) (z7_.f (k + 1) a0 a1) := by
 intro a0 a1 k
 have ih0 := z7_.mono_l k
 unfold z7_.f
 repeat' with_reducible first | exact ih0 _ _ _ | exact LeO.refl _ | exact LeO.none _ | refine LeO.ite ?_ ?_ | refine LeO.bind ?_ (fun _ => ?_)
theorem z7_.calls (k : Nat) (A0 : Option Addr) (c0 : Nat) (l0 : List ByteArray) (a1 : ByteArray) (r : Bool) (w : World) (hr0 : Kd.C Kd.string w A0 l0.length l0) (hc0 : l0.length ≤ c0) (h : z7_.f k l0 a1 = some r) :
 Calls Tryd.prog 96 #[.slice A0 l0.length c0, .string a1] w fun e w' => e = .returned (.bool r) ∧ yO_ w w' := by
 have HR0 := AM hr0
 have HC0 := AM hc0
 clear hr0 hc0
 have H : (z7_.l0 k l0 a1 0) = some r := h
 clear h
 have H' := AM H
 clear H
 go_enter Tryd.func96, Tryd.ntmps96
 go_wp2
 go_loopg [5] k (fun kq v5 w' => ∃ (x5_1 : Int), v5 = .int .i64 x5_1 ∧ zd_ (z7_.l0 kq l0 a1 x5_1 = some r) ∧ zd_ (kq ≤ k) ∧ yO_ w w')
 case atStart => exact ⟨(0), re_, H', ⟨Nat.le_refl _⟩, dr_⟩
 case round =>
  clear H'
  obtain ⟨x5_1, rfl, HA, HK1, ⟨m1, rfl⟩⟩ := hrel
  cases gk with
  | zero => exact absurd HA.out (by simp [z7_.l0])
  | succ k1 =>
   have H := HA.out
   clear HA
   simp only [z7_.l0] at H
   by_cases c3 : x5_1 < (l0.length : Int)
   ·
    rw [if_pos c3] at H
    have c3b0 : decide (x5_1 < (l0.length : Int)) = true := decide_eq_true c3
    clear c3
    by_cases c4 : 0 ≤ x5_1
    ·
     rw [if_pos c4] at H
     have c4b0 : decide (0 ≤ x5_1) = true := decide_eq_true c4
     clear c4
     by_cases c5 : (rdOf ByteArray.empty l0 x5_1).toList = a1.toList
     ·
      rw [if_pos c5] at H
      have c5b0 : ((rdOf ByteArray.empty l0 x5_1).toList == a1.toList) = true := beq_iff_eq.mpr c5
      have c5b1 : ((rdOf ByteArray.empty l0 x5_1).toList != a1.toList) = false := bne_eq_false_iff_eq.mpr c5
      clear c5
      obtain rfl := Option.some.inj H
      have p190 : 0 ≤ (x5_1 : Int) := of_decide_eq_true asm_
      have q190 : x5_1 < (l0.length : Int) := of_decide_eq_true asm_
      obtain ⟨ad190, e190, hx190_0⟩ := Kd.at_string HR0.out x5_1 p190 q190
      cases e190
      replace p190 := eq_true p190
      replace q190 := eq_true q190
      go_wp2
      go_ret
      exact ⟨re_, dr_⟩
     ·
      rw [if_neg c5] at H
      have c5b0 : ((rdOf ByteArray.empty l0 x5_1).toList == a1.toList) = false := beq_eq_false_iff_ne.mpr c5
      have c5b1 : ((rdOf ByteArray.empty l0 x5_1).toList != a1.toList) = true := bne_iff_ne.mpr c5
      have H' := AM H
      clear H
      have p190 : 0 ≤ (x5_1 : Int) := of_decide_eq_true asm_
      have q190 : x5_1 < (l0.length : Int) := of_decide_eq_true asm_
      obtain ⟨ad190, e190, hx190_0⟩ := Kd.at_string HR0.out x5_1 p190 q190
      cases e190
      replace p190 := eq_true p190
      replace q190 := eq_true q190
      go_wp2
      go_roundg k1
      case measure => have := HK1.out; omega
      case rel => exact ⟨(wrap64 (x5_1 + 1)), re_, H', ⟨by have := HK1.out; omega⟩, dr_⟩
    ·
     rw [if_neg c4] at H
     exact absurd H (by simp)
   ·
    rw [if_neg c3] at H
    have c3b0 : decide (x5_1 < (l0.length : Int)) = false := decide_eq_false c3
    clear c3
    obtain rfl := Option.some.inj H
    go_wp2
    go_ret
    exact ⟨re_, dr_⟩
/-! ### yD_: function 125 -/
def yD_.f (k : Nat) (a0 : ByteArray) : Option (ByteArray) := if (a0.size : Int) > 20000 then (some (⟨#[]⟩ : ByteArray)) else ((zL_.f k (a0.size : Int)).bind fun t191 => (if t191.size + a0.size ≤ 9223372036854775807 then (some (t191 ++ a0)) else (none)))
theorem yD_.mono : ∀ a0 k, LeO (yD_.f k a0) (yD_.f (k + 1) a0) := by
 intro a0 k
 unfold yD_.f
 repeat' with_reducible first | exact zL_.mono _ _ | exact LeO.refl _ | exact LeO.none _ | refine LeO.ite ?_ ?_ | refine LeO.bind ?_ (fun _ => ?_)
theorem yD_.calls (k : Nat) (a0 : ByteArray) (r : ByteArray) (w : World) (h : yD_.f k a0 = some r) :
 Calls Tryd.prog 125 #[.string a0] w fun e w' => e = .returned (.string r) ∧ Below w.heap.size w w' := by
 have HB := AM (Below.refl w.heap.size w)
 have H : (if (a0.size : Int) > 20000 then (some (⟨#[]⟩ : ByteArray)) else ((zL_.f k (a0.size : Int)).bind fun t191 => (if t191.size + a0.size ≤ 9223372036854775807 then (some (t191 ++ a0)) else (none)))) = some r := h
 clear h
 by_cases c2 : (a0.size : Int) > 20000
 ·
  rw [if_pos c2] at H
  have c2b0 : decide (20000 < (a0.size : Int)) = true := decide_eq_true c2
  have c2b1 : decide (20000 < a0.size) = true := decide_eq_true (by omega)
  clear c2
  obtain rfl := Option.some.inj H
  go_enter Tryd.func125, Tryd.ntmps125
  go_wp2
  go_ret
  exact ⟨ri_, bel_⟩
 ·
  rw [if_neg c2] at H
  have c2b0 : decide (20000 < (a0.size : Int)) = false := decide_eq_false c2
  have c2b1 : decide (20000 < a0.size) = false := decide_eq_false (by omega)
  clear c2
  obtain ⟨t191, A3, H⟩ := OB H
  try dsimp only at H
  replace A3 := AM A3
  by_cases c4 : t191.size + a0.size ≤ 9223372036854775807
  ·
   rw [if_pos c4] at H
   have c4b0 := eq_true c4
   have c4b1 : decide (t191.size + a0.size ≤ 9223372036854775807) = true := decide_eq_true c4
   try have c4b2 : (9223372036854775807 < t191.size + a0.size) = False := eq_false (Nat.not_lt.2 c4)
   obtain rfl := Option.some.inj H
   go_enter Tryd.func125, Tryd.ntmps125
   go_wp2_with (first | ((with_reducible refine zg_ (f := 119) rfl ?_); refine gl_ (some 8) Tryd.func119 #[.int .i64 (a0.size : Int)] ?_; (with_reducible refine (zL_.calls k (a0.size : Int) t191 _ A3.out).mono ?_); rintro e w5 ⟨rfl, hb⟩; refine ⟨_, rfl, ?_⟩; replace HB := AM (zc_ bel_ hb); (try clear hb)))
   go_ret
   exact ⟨ri_, bel_⟩
  ·
   rw [if_neg c4] at H
   exact absurd H (by simp)
/-! ### zZ_: function 97 -/
def zZ_.f (k : Nat) (a0_0 : Int) (a0_1 : ByteArray) : Option (ByteArray) := (zT_.f k a0_0 a0_1).bind fun t193 => (if 1 + t193.size ≤ 9223372036854775807 then ((zL_.f k a0_0).bind fun t194 => (if ((⟨#[66]⟩ : ByteArray) ++ t193).size + t194.size ≤ 9223372036854775807 then ((yD_.f k a0_1).bind fun t195 => (if (((⟨#[66]⟩ : ByteArray) ++ t193) ++ t194).size + t195.size ≤ 9223372036854775807 then (some ((((⟨#[66]⟩ : ByteArray) ++ t193) ++ t194) ++ t195)) else (none))) else (none))) else (none))
theorem zZ_.mono : ∀ a0 a1 k, LeO (zZ_.f k a0 a1) (zZ_.f (k + 1) a0 a1) := by
 intro a0 a1 k
 unfold zZ_.f
 repeat' with_reducible first | exact zT_.mono _ _ _ | exact zL_.mono _ _ | exact yD_.mono _ _ | exact LeO.refl _ | exact LeO.none _ | refine LeO.ite ?_ ?_ | refine LeO.bind ?_ (fun _ => ?_)
def zZ_.T1 : Bool × List (List Nat × List Nat) := (true, [([], []), ([0], [0]), ([1], [1]), ([], []), ([3], [3]), ([4, 1], [4]), ([2, 5], [2, 5]), ([], []), ([7], [7]), ([8, 5], [8]), ([6, 9], [6, 9]), ([10, 9, 0, 1, 2, 3, 4, 5, 6, 7, 8, 9, 10], [10])])
def zZ_.B1 : List Nat := [0, 1, 3, 0, 8, 27, 63, 0, 128, 443, 1023, 2047]
theorem zZ_.tab1 : rtab .any (opsOf Tryd.f97 1) = zZ_.T1 := by kernel_rfl
theorem zZ_.bits1 : yR_ zZ_.T1.2 zZ_.B1 = true := by kernel_rfl
theorem zZ_.calls (k : Nat) (a0_0 : Int) (a0_1 : ByteArray) (r : ByteArray) (w : World) (h : zZ_.f k a0_0 a0_1 = some r) :
 Calls Tryd.prog 97 #[.agg #[.int .i64 a0_0, .string a0_1]] w fun e w' => e = .returned (.string r) ∧ Below w.heap.size w w' := by
 have hu60 := Tryd.underlying60
 have HB := AM (Below.refl w.heap.size w)
 have H : ((zT_.f k a0_0 a0_1).bind fun t193 => (if 1 + t193.size ≤ 9223372036854775807 then ((zL_.f k a0_0).bind fun t194 => (if ((⟨#[66]⟩ : ByteArray) ++ t193).size + t194.size ≤ 9223372036854775807 then ((yD_.f k a0_1).bind fun t195 => (if (((⟨#[66]⟩ : ByteArray) ++ t193) ++ t194).size + t195.size ≤ 9223372036854775807 then (some ((((⟨#[66]⟩ : ByteArray) ++ t193) ++ t194) ++ t195)) else (none))) else (none))) else (none))) = some r := h
 clear h
 obtain ⟨t193, A2, H⟩ := OB H
 try dsimp only at H
 replace A2 := AM A2
 by_cases c3 : 1 + t193.size ≤ 9223372036854775807
 ·
  rw [if_pos c3] at H
  have c3b0 := eq_true c3
  have c3b1 : decide (1 + t193.size ≤ 9223372036854775807) = true := decide_eq_true c3
  try have c3b2 : (9223372036854775807 < 1 + t193.size) = False := eq_false (Nat.not_lt.2 c3)
  obtain ⟨t194, A4, H⟩ := OB H
  try dsimp only at H
  replace A4 := AM A4
  by_cases c5 : ((⟨#[66]⟩ : ByteArray) ++ t193).size + t194.size ≤ 9223372036854775807
  ·
   rw [if_pos c5] at H
   have c5b0 := eq_true c5
   have c5b1 : decide (((⟨#[66]⟩ : ByteArray) ++ t193).size + t194.size ≤ 9223372036854775807) = true := decide_eq_true c5
   try have c5b2 : (9223372036854775807 < ((⟨#[66]⟩ : ByteArray) ++ t193).size + t194.size) = False := eq_false (Nat.not_lt.2 c5)
   try have c5b3 : (9223372036854775807 < 1 + t193.size + t194.size) = False := eq_false (Nat.not_lt.2 (by have z := c5; simp only [ByteArray.size_append] at z; exact z))
   obtain ⟨t195, A6, H⟩ := OB H
   try dsimp only at H
   replace A6 := AM A6
   by_cases c7 : (((⟨#[66]⟩ : ByteArray) ++ t193) ++ t194).size + t195.size ≤ 9223372036854775807
   ·
    rw [if_pos c7] at H
    have c7b0 := eq_true c7
    have c7b1 : decide ((((⟨#[66]⟩ : ByteArray) ++ t193) ++ t194).size + t195.size ≤ 9223372036854775807) = true := decide_eq_true c7
    try have c7b2 : (9223372036854775807 < (((⟨#[66]⟩ : ByteArray) ++ t193) ++ t194).size + t195.size) = False := eq_false (Nat.not_lt.2 c7)
    try have c7b3 : (9223372036854775807 < 1 + t193.size + t194.size + t195.size) = False := eq_false (Nat.not_lt.2 (by have z := c7; simp only [ByteArray.size_append] at z; exact z))
    obtain rfl := Option.some.inj H
    go_enter Tryd.func97, Tryd.ntmps97
    try go_wp2_with (first | ((with_reducible refine zy_ (N := 1) rfl ?_); refine be_ 1 #[.int .i64 a0_0, .string a0_1] 60 ?_; intro gb192 hg w8 hbox hb; have BK192 := AM hbox; have GW192 := AM ((by rw [hg]; exact (zf_ bel_) : w.heap.size ≤ gb192)); have GE192 := AM ((by rw [hg]; exact (zf_ bel_) : w.heap.size ≤ gb192)); replace HB := AM (zc_ bel_ hb); clear hb hbox hg))
    replace BK192 := AM (zN_ BK192.out)
    replace HB := AM (zF_ HB.out)
    refine yU_ (n := 12) (S := fun w' => w'.cell? ⟨gb192, 0, none⟩ = some (.int .i64 a0_0) ∧ w'.cell? ⟨gb192, 1, none⟩ = some (.string a0_1)) (ds := []) (Array.replicate 12 false) (by kernel_rfl) rfl rfl ⟨(zb_ BK192.out 0).trans rfl, (zb_ BK192.out 1).trans rfl⟩ (fun hHeld => ?_); refine yx_ zZ_.tab1 zZ_.bits1 (fun HT_ HW_ => ?_)
    generalize w8.drew = w9 at BK192 HB hHeld ⊢
    refine pu_ HT_ 3 (some 6) (bA 12 8) ?_
    refine pu_ HT_ 7 (some 10) (bA 12 136) ?_
    refine ta_ HT_ HW_ 0 (some 3) (bA 12 137) hHeld ?_
    refine ta_ HT_ HW_ 4 (some 7) (bA 12 153) hHeld ?_
    refine ta_ HT_ HW_ 8 (some 11) (bA 12 409) hHeld ?_
    refine on_ HT_ 1 (some 4) (bA 12 411) (fun K hK => ?_)
    refine go1_ Tryd.func83 #[.agg #[.int .i64 a0_0, .string a0_1]] ?_
    with_reducible refine (zT_.calls k a0_0 a0_1 t193 _ A2.out).mono ?_
    rintro e w10 ⟨rfl, hb⟩
    refine ⟨_, rfl, ?_⟩
    replace BK192 := AM (zh_ (g := gb192) (o := .cells #[.int .i64 a0_0, .string a0_1] 60 (0, 0)) (bk_ BK192.out) hb)
    replace HB := AM (zc_ bel_ hb)
    (try clear hb)
    refine hK.out _ _ ⟨(zb_ BK192.out 0).trans rfl, (zb_ BK192.out 1).trans rfl⟩ (fun hHeld => ?_)
    clear hK K
    refine nm_ ?_
    refine pu_ HT_ 2 (some 5) (bA 12 415) ?_
    refine on_ HT_ 5 (some 8) (bA 12 447) (fun K hK => ?_)
    refine go1_ Tryd.func119 #[.int .i64 a0_0] ?_
    with_reducible refine (zL_.calls k a0_0 t194 _ A4.out).mono ?_
    rintro e w11 ⟨rfl, hb⟩
    refine ⟨_, rfl, ?_⟩
    replace BK192 := AM (zh_ (g := gb192) (o := .cells #[.int .i64 a0_0, .string a0_1] 60 (0, 0)) (bk_ BK192.out) hb)
    replace HB := AM (zc_ bel_ hb)
    (try clear hb)
    refine hK.out _ _ ⟨(zb_ BK192.out 0).trans rfl, (zb_ BK192.out 1).trans rfl⟩ (fun hHeld => ?_)
    clear hK K
    refine nm_ ?_
    refine pu_ HT_ 6 (some 9) (bA 12 511) ?_
    refine on_ HT_ 9 (some 12) (bA 12 1023) (fun K hK => ?_)
    refine go1_ Tryd.func125 #[.string a0_1] ?_
    with_reducible refine (yD_.calls k a0_1 t195 _ A6.out).mono ?_
    rintro e w12 ⟨rfl, hb⟩
    refine ⟨_, rfl, ?_⟩
    replace BK192 := AM (zh_ (g := gb192) (o := .cells #[.int .i64 a0_0, .string a0_1] 60 (0, 0)) (bk_ BK192.out) hb)
    replace HB := AM (zc_ bel_ hb)
    (try clear hb)
    refine hK.out _ _ ⟨(zb_ BK192.out 0).trans rfl, (zb_ BK192.out 1).trans rfl⟩ (fun hHeld => ?_)
    clear hK K
    refine nm_ ?_
    refine pu_ HT_ 10 (some 13) (bA 12 2047) ?_
    refine pu_ HT_ 11 (some 2) (bA 12 4095) ?_
    refine dn_ HT_ ?_
    try go_wp2
    go_ret
    exact ⟨ri_, bel_⟩
   ·
    rw [if_neg c7] at H
    exact absurd H (by simp)
  ·
   rw [if_neg c5] at H
   exact absurd H (by simp)
 ·
  rw [if_neg c3] at H
  exact absurd H (by simp)
/-! ### zp_: function 50 -/
mutual
def zp_.j0 : Nat → List (S60) → Bool → Option (ByteArray × Bool)
 | 0, _, _ => none
 | k + 1, x0, x15 => if x15 = true then (some ((⟨#[]⟩ : ByteArray), false)) else (zp_.l0 k x0 (([] : List Int)) (([] : List ByteArray)) 0)
def zp_.l0 : Nat → List (S60) → List Int → List ByteArray → Int → Option (ByteArray × Bool)
 | 0, _, _, _, _ => none
 | k + 1, x0, x4, x5, x6 => if x6 < (x0.length : Int) then (if 0 ≤ x6 then ((yp_.f ((zE_ x0 x6).f0) ((zE_ x0 x6).f1)).bind fun t203 => (if t203 = true then ((zT_.f k ((zE_ x0 x6).f0) ((zE_ x0 x6).f1)).bind fun t205 => ((z7_.f k x5 t205).bind fun t206 => (if t206 = true then (some ((⟨#[]⟩ : ByteArray), false)) else (if x5.length < 8796093022208 then ((zZ_.f k ((zE_ x0 x6).f0) ((zE_ x0 x6).f1)).bind fun t211 => (if x4.length + t211.size < 140737488355328 then (zp_.l0 k x0 (x4 ++ bytesOf t211) (x5 ++ [t205]) (wrap64 (x6 + 1))) else (none))) else (none))))) else (some ((⟨#[]⟩ : ByteArray), false)))) else (none)) else (some (strOfNums x4, decide ((x4.length : Int) ≤ 12000)))
end
def zp_.f (k : Nat) (l0 : List (S60)) : Option (ByteArray × Bool) := if (l0.length : Int) < 1 then (zp_.j0 k l0 true) else (zp_.j0 k l0 (decide ((l0.length : Int) > 40)))
theorem zp_.mono_l : ∀ k, (∀ y0 y1, LeO (zp_.j0 k y0 y1) (zp_.j0 (k + 1) y0 y1)) ∧ (∀ y0 y1 y2 y3, LeO (zp_.l0 k y0 y1 y2 y3) (zp_.l0 (k + 1) y0 y1 y2 y3))
 | 0 => ⟨fun _ _ r h => by simp [zp_.j0] at h, fun _ _ _ _ r h => by simp [zp_.l0] at h⟩
 | k + 1 => by
  obtain ⟨ih0, ih1⟩ := zp_.mono_l k
  refine ⟨?_, ?_⟩
  ·
   intro y0 y1
   unfold zp_.j0
   repeat' with_reducible first | exact ih0 _ _ | exact ih1 _ _ _ _ | exact zT_.mono _ _ _ | exact z7_.mono _ _ _ | exact zZ_.mono _ _ _ | exact LeO.refl _ | exact LeO.none _ | refine LeO.ite ?_ ?_ | refine LeO.bind ?_ (fun _ => ?_)
  ·
   intro y0 y1 y2 y3
   unfold zp_.l0
   repeat' with_reducible first | exact ih0 _ _ | exact ih1 _ _ _ _ | exact zT_.mono _ _ _ | exact z7_.mono _ _ _ | exact zZ_.mono _ _ _ | exact LeO.refl _ | exact LeO.none _ | refine LeO.ite ?_ ?_ | refine LeO.bind ?_ (fun _ => ?_)
theorem zp_.mono : ∀ a0 k, LeO (zp_.f k a0) (zp_.f (k + 1) a0) := by
 intro a0 k
 obtain ⟨ih0, ih1⟩ := zp_.mono_l k
 unfold zp_.f
 repeat' with_reducible first | exact ih0 _ _ | exact ih1 _ _ _ _ | exact zT_.mono _ _ _ | exact z7_.mono _ _ _ | exact zZ_.mono _ _ _ | exact LeO.refl _ | exact LeO.none _ | refine LeO.ite ?_ ?_ | refine LeO.bind ?_ (fun _ => ?_)
theorem zp_.calls (k : Nat) (A0 : Option Addr) (c0 : Nat) (l0 : List (S60)) (r1 : ByteArray) (r2 : Bool) (w : World) (hr0 : Kd.C k60 w A0 l0.length l0) (hc0 : l0.length ≤ c0) (h : zp_.f k l0 = some (r1, r2)) :
 Calls Tryd.prog 50 #[.slice A0 l0.length c0] w fun e w' => e = .returned (.tuple #[.string r1, .bool r2]) ∧ Below w.heap.size w w' := by
 have hu60 := Tryd.underlying60
 have HR0 := AM hr0
 have HC0 := AM hc0
 clear hr0 hc0
 have HB := AM (Below.refl w.heap.size w)
 have H : (if (l0.length : Int) < 1 then (zp_.j0 k l0 true) else (zp_.j0 k l0 (decide ((l0.length : Int) > 40)))) = some (r1, r2) := h
 clear h
 have HC2 := AM H
 clear H
 go_enter Tryd.func50, Tryd.ntmps50
 go_upto_region 1 with (fail)
 go_cut [15] (fun v15 wc => ∃ (kq : Nat) (x15_1 : Bool), v15 = .bool x15_1 ∧ zd_ (zp_.j0 kq l0 x15_1 = some (r1, r2)) ∧ zd_ (kq ≤ k) ∧ zd_ (Below w.heap.size w wc))
 case first =>
  have H := HC2.out
  clear HC2
  by_cases c3 : (l0.length : Int) < 1
  ·
   rw [if_pos c3] at H
   have c3b0 : decide ((l0.length : Int) < 1) = true := decide_eq_true c3
   have c3b1 : decide (l0.length < 1) = true := decide_eq_true (by omega)
   clear c3
   (first | rw [c3b0] | (simp only [i64_w, i32_w]; rw [c3b0]) | skip)
   have H' := AM H
   clear H
   go_wp2
   go_meet
   case rel => exact ⟨_, (true), re_, H', ⟨by first | omega | exact Nat.le_refl _⟩, ⟨bel_⟩⟩
  ·
   rw [if_neg c3] at H
   have c3b0 : decide ((l0.length : Int) < 1) = false := decide_eq_false c3
   have c3b1 : decide (l0.length < 1) = false := decide_eq_false (by omega)
   clear c3
   (first | rw [c3b0] | (simp only [i64_w, i32_w]; rw [c3b0]) | skip)
   have H' := AM H
   clear H
   go_wp2
   go_meet
   case rel => exact ⟨_, (decide ((l0.length : Int) > 40)), re_, H', ⟨by first | omega | exact Nat.le_refl _⟩, ⟨bel_⟩⟩
 case rest =>
  clear HC2
  (try clear c3b0); (try clear c3b1)
  obtain ⟨kq, x15_1, rfl, HA, HJ1, HB⟩ := hcut
  cases kq with
  | zero => exact absurd HA.out (by simp [zp_.j0])
  | succ kj1 =>
   have H := HA.out
   clear HA
   simp only [zp_.j0] at H
   by_cases c4 : x15_1 = true
   ·
    subst c4
    rw [if_pos rfl] at H
    simp only [Option.some.injEq, Prod.mk.injEq] at H
    obtain ⟨rfl, rfl⟩ := H
    go_wp2
    go_ret2
    exact ⟨ri_, bel_⟩
   ·
    replace c4 := Bool.eq_false_iff.mpr c4
    subst c4
    rw [if_neg (show ¬ (false = true) by decide)] at H
    obtain ⟨y196, hy196⟩ : ∃ y_ : List Int, y_ = (([] : List Int)) := ⟨_, rfl⟩
    replace H : (zp_.l0 kj1 l0 y196 (([] : List ByteArray)) 0) = some (r1, r2) := hy_ hy196 H
    have Ny196 := AM hy196
    clear hy196
    obtain ⟨y199, hy199⟩ : ∃ y_ : List ByteArray, y_ = (([] : List ByteArray)) := ⟨_, rfl⟩
    replace H : (zp_.l0 kj1 l0 y196 y199 0) = some (r1, r2) := hy_ hy199 H
    have Ny199 := AM hy199
    clear hy199
    have H' := AM H
    clear H
    go_wp2_with (first | ((with_reducible refine zy_ (N := 16) rfl ?_); (try (refine yh_ (by rfl) ?_; dsimp only)); refine Kd.R_lit (Kd.int .u8) _ 5 ?hgL1 (N := 16) ?hdL1 (xs := ([] : List Int)) (inner := []) (ok := fun _ => True) (okp := fun _ => True) ?hrL1 ?hpL1 (fun _ hk => hk) trivial (Below.refl _ _) (Nat.le_refl _) (by simp) ?_; (case hdL1 => rfl); (case hgL1 => rfl); (case hrL1 => first | (go_simp; done) | (go_simp; rfl)); (case hpL1 => exact (Reps.none _ _)); intro v197 w5 ho6 hb hg_ hnew_; clear hg_ hnew_; (first | rw [← Ny196.out] at ho6 | (simp only [Int.reduceToNat] at ho6; rw [← Ny196.out] at ho6)); have HO198 := AM (Kd.ya_ ho6 (zf_ bel_)); replace HB := AM (zc_ bel_ hb); clear hb ho6) | ((with_reducible refine zy_ (N := 17) rfl ?_); (try (refine yh_ (by rfl) ?_; dsimp only)); refine Kd.R_lit Kd.string _ 9 ?hgL2 (N := 17) ?hdL2 (xs := ([] : List ByteArray)) (inner := []) (ok := fun _ => True) (okp := fun _ => True) ?hrL2 ?hpL2 (fun _ hk => hk) trivial (Below.refl _ _) (Nat.le_refl _) (by simp) ?_; (case hdL2 => rfl); (case hgL2 => rfl); (case hrL2 => first | (go_simp; done) | (go_simp; rfl)); (case hpL2 => exact (Reps.none _ _)); intro v200 w7 ho8 hb hg_ hnew_; clear hg_ hnew_; (first | rw [← Ny199.out] at ho8 | (simp only [Int.reduceToNat] at ho8; rw [← Ny199.out] at ho8)); replace HO198 := AM (Kd.zX_ (ro_ HO198.out) hb); have HO201 := AM (Kd.ya_ ho8 (zf_ bel_)); replace HB := AM (zc_ bel_ hb); clear hb ho8))
    go_loopg [4, 5, 6] kj1 (fun kq v4 v5 v6 w' => ∃ (x4_2 : List Int) (x5_2 : List ByteArray) (x6_2 : Int), v6 = .int .i64 x6_2 ∧ zd_ (zp_.l0 kq l0 x4_2 x5_2 x6_2 = some (r1, r2)) ∧ zd_ (kq ≤ kj1) ∧ zd_ (Kd.R (Kd.int .u8) 5 w' w.heap.size (fun _ => True) v4 x4_2) ∧ zd_ (Kd.R Kd.string 9 w' w.heap.size (fun _ => True) v5 x5_2) ∧ zd_ (Below w.heap.size w w'))
    case atStart => exact ⟨(y196), (y199), (0), re_, H', ⟨Nat.le_refl _⟩, ⟨ro_ HO198.out⟩, ⟨ro_ HO201.out⟩, ⟨bel_⟩⟩
    case round =>
     clear H'
     (try clear c4)
     obtain ⟨x4_2, x5_2, x6_2, rfl, HA, HK2, HO_4, HO_5, HB⟩ := hrel
     cases gk with
     | zero => exact absurd HA.out (by simp [zp_.l0])
     | succ k2 =>
      have H := HA.out
      clear HA
      simp only [zp_.l0] at H
      by_cases c9 : x6_2 < (l0.length : Int)
      ·
       rw [if_pos c9] at H
       have c9b0 : decide (x6_2 < (l0.length : Int)) = true := decide_eq_true c9
       clear c9
       by_cases c10 : 0 ≤ x6_2
       ·
        rw [if_pos c10] at H
        have c10b0 : decide (0 ≤ x6_2) = true := decide_eq_true c10
        clear c10
        obtain ⟨t203, A11, H⟩ := OB H
        try dsimp only at H
        replace A11 := AM A11
        by_cases c12 : t203 = true
        ·
         subst c12
         rw [if_pos rfl] at H
         obtain ⟨t205, A13, H⟩ := OB H
         try dsimp only at H
         replace A13 := AM A13
         obtain ⟨t206, A14, H⟩ := OB H
         try dsimp only at H
         replace A14 := AM A14
         by_cases c15 : t206 = true
         ·
          subst c15
          rw [if_pos rfl] at H
          simp only [Option.some.injEq, Prod.mk.injEq] at H
          obtain ⟨rfl, rfl⟩ := H
          have p202 : 0 ≤ (x6_2 : Int) := of_decide_eq_true asm_
          have q202 : x6_2 < (l0.length : Int) := of_decide_eq_true asm_
          obtain ⟨ad202, e202, hx202_0, hx202_1⟩ := at_T60 HR0.out x6_2 p202 q202
          cases e202
          replace hx202_0 := (HB.out.cell (World.block_lt_of_cell? w _ hx202_0)).trans hx202_0
          replace hx202_1 := (HB.out.cell (World.block_lt_of_cell? w _ hx202_1)).trans hx202_1
          replace p202 := eq_true p202
          replace q202 := eq_true q202
          go_wp2_with (first | ((with_reducible refine zg_ (f := 95) rfl ?_); refine gl_ (some 28) Tryd.func95 #[.agg #[.int .i64 ((zE_ l0 x6_2).f0), .string ((zE_ l0 x6_2).f1)]] ?_; (with_reducible refine (yp_.calls ((zE_ l0 x6_2).f0) ((zE_ l0 x6_2).f1) true _ A11.out).mono ?_); rintro e w16 ⟨rfl, hb⟩; refine ⟨_, rfl, ?_⟩; replace HO_4 := AM (Kd.zX_ (ro_ HO_4.out) hb); replace HO_5 := AM (Kd.zX_ (ro_ HO_5.out) hb); replace HB := AM (zc_ bel_ hb); (try clear hb); (try clear hk); have p204 : 0 ≤ (x6_2 : Int) := of_decide_eq_true asm_; have q204 : x6_2 < (l0.length : Int) := of_decide_eq_true asm_; obtain ⟨ad204, e204, hx204_0, hx204_1⟩ := at_T60 HR0.out x6_2 p204 q204; obtain rfl : ad202 = ad204 := (by injection e204); replace hx204_0 := (HB.out.cell (World.block_lt_of_cell? w _ hx204_0)).trans hx204_0; replace hx204_1 := (HB.out.cell (World.block_lt_of_cell? w _ hx204_1)).trans hx204_1; replace p204 := eq_true p204; replace q204 := eq_true q204) | ((with_reducible refine zg_ (f := 83) rfl ?_); refine gl_ (some 34) Tryd.func83 #[.agg #[.int .i64 ((zE_ l0 x6_2).f0), .string ((zE_ l0 x6_2).f1)]] ?_; (with_reducible refine (zT_.calls k2 ((zE_ l0 x6_2).f0) ((zE_ l0 x6_2).f1) t205 _ A13.out).mono ?_); rintro e w17 ⟨rfl, hb⟩; refine ⟨_, rfl, ?_⟩; replace HO_4 := AM (Kd.zX_ (ro_ HO_4.out) hb); replace HO_5 := AM (Kd.zX_ (ro_ HO_5.out) hb); replace HB := AM (zc_ bel_ hb); (try clear hb); obtain ⟨Ao18, co18, eo18⟩ := Kd.yg_ HO_5.out; subst eo18) | ((with_reducible refine zg_ (f := 96) rfl ?_); refine gl_ (some 37) Tryd.func96 #[.slice Ao18 x5_2.length co18, .string t205] ?_; (with_reducible refine (z7_.calls k2 _ _ x5_2 t205 true _ ?side1 ?side2 A14.out).mono ?_); (case side1 => repeat (first | exact (Kd.zY_ HO_5.out).2.2 | (with_reducible refine Kd.yo_ ?_ _) | (with_reducible refine Kd.yn_ ?_ _) | (with_reducible refine Kd.yz_ ?_))); (case side2 => exact (Kd.zY_ HO_5.out).2.1); rintro e w' ⟨rfl, ⟨nd, rfl⟩⟩; refine ⟨_, rfl, ?_⟩))
          go_ret2
          exact ⟨ri_, bel_⟩
         ·
          replace c15 := Bool.eq_false_iff.mpr c15
          subst c15
          rw [if_neg (show ¬ (false = true) by decide)] at H
          by_cases c19 : x5_2.length < 8796093022208
          ·
           rw [if_pos c19] at H
           have LMc19 := AM c19
           clear c19
           obtain ⟨y207, hy207⟩ : ∃ y_ : List ByteArray, y_ = (x5_2 ++ [t205]) := ⟨_, rfl⟩
           replace H : ((zZ_.f k2 ((zE_ l0 x6_2).f0) ((zE_ l0 x6_2).f1)).bind fun t211 => (if x4_2.length + t211.size < 140737488355328 then (zp_.l0 k2 l0 (x4_2 ++ bytesOf t211) y207 (wrap64 (x6_2 + 1))) else (none))) = some (r1, r2) := hy_ hy207 H
           have Ny207 := AM hy207
           clear hy207
           obtain ⟨t211, A20, H⟩ := OB H
           try dsimp only at H
           replace A20 := AM A20
           by_cases c21 : x4_2.length + t211.size < 140737488355328
           ·
            rw [if_pos c21] at H
            have LMc21 := AM c21
            clear c21
            obtain ⟨y212, hy212⟩ : ∃ y_ : List Int, y_ = (x4_2 ++ bytesOf t211) := ⟨_, rfl⟩
            replace H : (zp_.l0 k2 l0 y212 y207 (wrap64 (x6_2 + 1))) = some (r1, r2) := hy_ hy212 H
            have Ny212 := AM hy212
            clear hy212
            have H' := AM H
            clear H
            have p202 : 0 ≤ (x6_2 : Int) := of_decide_eq_true asm_
            have q202 : x6_2 < (l0.length : Int) := of_decide_eq_true asm_
            obtain ⟨ad202, e202, hx202_0, hx202_1⟩ := at_T60 HR0.out x6_2 p202 q202
            cases e202
            replace hx202_0 := (HB.out.cell (World.block_lt_of_cell? w _ hx202_0)).trans hx202_0
            replace hx202_1 := (HB.out.cell (World.block_lt_of_cell? w _ hx202_1)).trans hx202_1
            replace p202 := eq_true p202
            replace q202 := eq_true q202
            go_wp2_with (first | ((with_reducible refine zg_ (f := 95) rfl ?_); refine gl_ (some 28) Tryd.func95 #[.agg #[.int .i64 ((zE_ l0 x6_2).f0), .string ((zE_ l0 x6_2).f1)]] ?_; (with_reducible refine (yp_.calls ((zE_ l0 x6_2).f0) ((zE_ l0 x6_2).f1) true _ A11.out).mono ?_); rintro e w22 ⟨rfl, hb⟩; refine ⟨_, rfl, ?_⟩; replace HO_4 := AM (Kd.zX_ (ro_ HO_4.out) hb); replace HO_5 := AM (Kd.zX_ (ro_ HO_5.out) hb); replace HB := AM (zc_ bel_ hb); (try clear hb); have p204 : 0 ≤ (x6_2 : Int) := of_decide_eq_true asm_; have q204 : x6_2 < (l0.length : Int) := of_decide_eq_true asm_; obtain ⟨ad204, e204, hx204_0, hx204_1⟩ := at_T60 HR0.out x6_2 p204 q204; obtain rfl : ad202 = ad204 := (by injection e204); replace hx204_0 := (HB.out.cell (World.block_lt_of_cell? w _ hx204_0)).trans hx204_0; replace hx204_1 := (HB.out.cell (World.block_lt_of_cell? w _ hx204_1)).trans hx204_1; replace p204 := eq_true p204; replace q204 := eq_true q204) | ((with_reducible refine zg_ (f := 83) rfl ?_); refine gl_ (some 34) Tryd.func83 #[.agg #[.int .i64 ((zE_ l0 x6_2).f0), .string ((zE_ l0 x6_2).f1)]] ?_; (with_reducible refine (zT_.calls k2 ((zE_ l0 x6_2).f0) ((zE_ l0 x6_2).f1) t205 _ A13.out).mono ?_); rintro e w23 ⟨rfl, hb⟩; refine ⟨_, rfl, ?_⟩; replace HO_4 := AM (Kd.zX_ (ro_ HO_4.out) hb); replace HO_5 := AM (Kd.zX_ (ro_ HO_5.out) hb); replace HB := AM (zc_ bel_ hb); (try clear hb); obtain ⟨Ao24, co24, eo24⟩ := Kd.yg_ HO_5.out; subst eo24) | ((with_reducible refine zg_ (f := 96) rfl ?_); refine gl_ (some 37) Tryd.func96 #[.slice Ao24 x5_2.length co24, .string t205] ?_; (with_reducible refine (z7_.calls k2 _ _ x5_2 t205 false _ ?side1 ?side2 A14.out).mono ?_); (case side1 => repeat (first | exact (Kd.zY_ HO_5.out).2.2 | (with_reducible refine Kd.yo_ ?_ _) | (with_reducible refine Kd.yn_ ?_ _) | (with_reducible refine Kd.yz_ ?_))); (case side2 => exact (Kd.zY_ HO_5.out).2.1); rintro e w' ⟨rfl, ⟨nd, rfl⟩⟩; refine ⟨_, rfl, ?_⟩) | ((with_reducible refine ye_ (b := .append) (xs := #[.tmp 38, .tmp 40]) rfl ?_); (try (refine yh_ (by rfl) ?_; dsimp only)); at_builtin; refine Kd.y7_ Kd.string (w0 := w) w.heap.size rfl (.tmp 38) (.tmp 40) 89 9 (.string ⟨#[]⟩) 16 rfl Tryd.underlying89 info9 rfl (by decide) (by omega) (.slice Ao24 x5_2.length co24) x5_2 t205 [.string t205] (fun _ => True) (fun _ => False) rfl rfl ?aP (fun _ hk => hk.elim) ?aF ?aO ?aB ?aS ?aL ?_; (case aP => exact rfl); (case aB => exact bel_); (case aF => exact (fun _ _ => trivial)); (case aO => exact (ro_ HO_5.out)); (case aS => exact (zf_ bel_)); (case aL => have := LMc19.out; omega); intro v208 w25 ho hb hg hat; rw [← Ny207.out] at ho; have n0_ := AM (Kd.R_over' (ro_ HO_4.out) (Kd.R_typed (ro_ HO_5.out)) (by decide) hg); have n1_ := AM hb; have n2_ := AM ho; clear HO_4; clear HB; clear HO_5; have HO_4 := n0_; have HB := n1_; have HO209 := n2_; clear n0_ n1_ n2_; clear ho hb hg hat; have p210 : 0 ≤ (x6_2 : Int) := of_decide_eq_true asm_; have q210 : x6_2 < (l0.length : Int) := of_decide_eq_true asm_; obtain ⟨ad210, e210, hx210_0, hx210_1⟩ := at_T60 HR0.out x6_2 p210 q210; obtain rfl : ad202 = ad210 := (by injection e210); replace hx210_0 := (HB.out.cell (World.block_lt_of_cell? w _ hx210_0)).trans hx210_0; replace hx210_1 := (HB.out.cell (World.block_lt_of_cell? w _ hx210_1)).trans hx210_1; replace p210 := eq_true p210; replace q210 := eq_true q210) | ((with_reducible refine zg_ (f := 97) rfl ?_); refine gl_ (some 47) Tryd.func97 #[.agg #[.int .i64 ((zE_ l0 x6_2).f0), .string ((zE_ l0 x6_2).f1)]] ?_; (with_reducible refine (zZ_.calls k2 ((zE_ l0 x6_2).f0) ((zE_ l0 x6_2).f1) t211 _ A20.out).mono ?_); rintro e w26 ⟨rfl, hb⟩; refine ⟨_, rfl, ?_⟩; replace HO_4 := AM (Kd.zX_ (ro_ HO_4.out) hb); replace HO209 := AM (Kd.zX_ (ro_ HO209.out) hb); replace HB := AM (zc_ bel_ hb); (try clear hb); (try clear hk)) | (at_builtin; refine print_append_str (w0 := w) w.heap.size rfl (.tmp 42) _ 29 9 5 rfl Tryd.underlying29 Tryd.underlying9 info5 u4 x4_2 t211 rfl rfl ?aO ?aB ?aS ?aL ?_; (case aB => exact bel_); (case aO => exact (Kd.yL_ (ro_ HO_4.out))); (case aS => exact (zf_ bel_)); (case aL => have := LMc21.out; omega); intro v213 w27 ho0 hb hg; have ho := Kd.R_of_own (h1 := fun _ => rfl) (ok := fun _ => True) ho0 (fun _ _ => trivial); clear ho0; have hat := True.intro; rw [← Ny212.out] at ho; change Kd.R (Kd.int .u8) 5 w27 w.heap.size (fun _ => True) v213 y212 at ho; have n0_ := AM (Kd.R_over' (ro_ HO209.out) (Kd.R_typed (ro_ HO_4.out)) (by decide) hg); have n1_ := AM hb; have n2_ := AM ho; clear HO209; clear HB; clear HO_4; have HO209 := n0_; have HB := n1_; have HO214 := n2_; clear n0_ n1_ n2_; clear ho hb hg hat))
            go_roundg k2
            case measure => have := HJ1.out; have := HK2.out; omega
            case rel => exact ⟨(y212), (y207), (wrap64 (x6_2 + 1)), re_, H', ⟨by have := HJ1.out; have := HK2.out; omega⟩, ⟨ro_ HO214.out⟩, ⟨ro_ HO209.out⟩, ⟨bel_⟩⟩
           ·
            rw [if_neg c21] at H
            exact absurd H (by simp)
          ·
           rw [if_neg c19] at H
           exact absurd H (by simp)
        ·
         replace c12 := Bool.eq_false_iff.mpr c12
         subst c12
         rw [if_neg (show ¬ (false = true) by decide)] at H
         simp only [Option.some.injEq, Prod.mk.injEq] at H
         obtain ⟨rfl, rfl⟩ := H
         have p202 : 0 ≤ (x6_2 : Int) := of_decide_eq_true asm_
         have q202 : x6_2 < (l0.length : Int) := of_decide_eq_true asm_
         obtain ⟨ad202, e202, hx202_0, hx202_1⟩ := at_T60 HR0.out x6_2 p202 q202
         cases e202
         replace hx202_0 := (HB.out.cell (World.block_lt_of_cell? w _ hx202_0)).trans hx202_0
         replace hx202_1 := (HB.out.cell (World.block_lt_of_cell? w _ hx202_1)).trans hx202_1
         replace p202 := eq_true p202
         replace q202 := eq_true q202
         go_wp2_with (first | ((with_reducible refine zg_ (f := 95) rfl ?_); refine gl_ (some 28) Tryd.func95 #[.agg #[.int .i64 ((zE_ l0 x6_2).f0), .string ((zE_ l0 x6_2).f1)]] ?_; (with_reducible refine (yp_.calls ((zE_ l0 x6_2).f0) ((zE_ l0 x6_2).f1) false _ A11.out).mono ?_); rintro e w28 ⟨rfl, hb⟩; refine ⟨_, rfl, ?_⟩; replace HO_4 := AM (Kd.zX_ (ro_ HO_4.out) hb); replace HO_5 := AM (Kd.zX_ (ro_ HO_5.out) hb); replace HB := AM (zc_ bel_ hb); (try clear hb)))
         go_ret2
         exact ⟨ri_, bel_⟩
       ·
        rw [if_neg c10] at H
        exact absurd H (by simp)
      ·
       rw [if_neg c9] at H
       have c9b0 : decide (x6_2 < (l0.length : Int)) = false := decide_eq_false c9
       clear c9
       simp only [Option.some.injEq, Prod.mk.injEq] at H
       obtain ⟨rfl, rfl⟩ := H
       have hcv29 := yF_ (P := Tryd.prog) Tryd.underlying29 Tryd.underlying5 Tryd.underlying9 (Kd.yL_ HO_4.out)
       obtain ⟨Ao30, co30, eo30⟩ := Kd.yg_ HO_4.out
       subst eo30
       go_wp2
       go_ret2
       exact ⟨ri_, bel_⟩
/-! ### yk_: function 40 -/
def yk_.f (k : Nat) (l0 : List (S60)) : Option (Bool) := if (l0.length : Int) > 400 then (some false) else ((zp_.f k l0).bind fun bt215 => (some bt215.2))
theorem yk_.mono : ∀ a0 k, LeO (yk_.f k a0) (yk_.f (k + 1) a0) := by
 intro a0 k
 unfold yk_.f
 repeat' with_reducible first | exact zp_.mono _ _ | exact LeO.refl _ | exact LeO.none _ | refine LeO.ite ?_ ?_ | refine LeO.bind ?_ (fun _ => ?_)
theorem yk_.calls (k : Nat) (A0 : Option Addr) (c0 : Nat) (l0 : List (S60)) (r : Bool) (w : World) (hr0 : Kd.C k60 w A0 l0.length l0) (hc0 : l0.length ≤ c0) (h : yk_.f k l0 = some r) :
 Calls Tryd.prog 40 #[.slice A0 l0.length c0] w fun e w' => e = .returned (.bool r) ∧ Below w.heap.size w w' := by
 have HR0 := AM hr0
 have HC0 := AM hc0
 clear hr0 hc0
 have HB := AM (Below.refl w.heap.size w)
 have H : (if (l0.length : Int) > 400 then (some false) else ((zp_.f k l0).bind fun bt215 => (some bt215.2))) = some r := h
 clear h
 by_cases c2 : (l0.length : Int) > 400
 ·
  rw [if_pos c2] at H
  have c2b0 : decide (400 < (l0.length : Int)) = true := decide_eq_true c2
  have c2b1 : decide (400 < l0.length) = true := decide_eq_true (by omega)
  clear c2
  obtain rfl := Option.some.inj H
  go_enter Tryd.func40, Tryd.ntmps40
  go_wp2
  go_ret
  exact ⟨ri_, bel_⟩
 ·
  rw [if_neg c2] at H
  have c2b0 : decide (400 < (l0.length : Int)) = false := decide_eq_false c2
  have c2b1 : decide (400 < l0.length) = false := decide_eq_false (by omega)
  clear c2
  obtain ⟨⟨t215, t216⟩, A3, H⟩ := OB H
  try dsimp only at H
  replace A3 := AM A3
  obtain rfl := Option.some.inj H
  go_enter Tryd.func40, Tryd.ntmps40
  go_wp2_with (first | ((with_reducible refine zg_ (f := 50) rfl ?_); refine gl_ (some 10) Tryd.func50 #[.slice A0 l0.length c0] ?_; (with_reducible refine (zp_.calls k _ _ l0 t215 t216 _ ?side1 ?side2 A3.out).mono ?_); (case side1 => repeat (first | exact HR0.out | (with_reducible refine Kd.yo_ ?_ _) | (with_reducible refine Kd.yn_ ?_ _) | (with_reducible refine Kd.yz_ ?_))); (case side2 => exact HC0.out); rintro e w4 ⟨rfl, hb⟩; refine ⟨_, rfl, ?_⟩; replace HB := AM (zc_ bel_ hb); (try clear hb)))
  go_ret
  exact ⟨ri_, bel_⟩
/-! ### zC_: function 8 -/
def zC_.l0 : Nat → ByteArray → List (S60) → Int → Option ((List (S60)) × Int × Int)
 | 0, _, _, _ => none
 | k + 1, x0, x3, x4 => if x4 < (x0.size : Int) then ((zm_.f k x0 x4).bind fun bt221 => (if bt221.2.2.2.2.2.2.2 = true then (if x3.length < 5864062014805 then (zC_.l0 k x0 (x3 ++ [(⟨bt221.2.2.2.2.1, bt221.2.2.2.2.2.1⟩ : S60)]) bt221.2.2.2.2.2.2.1) else (none)) else (some (([] : List (S60)), x4, 3)))) else ((yk_.f k x3).bind fun t234 => (if t234 = true then (some (x3, 0, 0)) else (some (([] : List (S60)), 0, 1))))
def zC_.f (k : Nat) (a0 : ByteArray) : Option ((List (S60)) × Int × Int) := if (a0.size : Int) > 20000 then (some (([] : List (S60)), 0, 2)) else (zC_.l0 k a0 (([] : List (S60))) 0)
theorem zC_.mono_l : ∀ k, (∀ y0 y1 y2, LeO (zC_.l0 k y0 y1 y2) (zC_.l0 (k + 1) y0 y1 y2))
 | 0 => fun _ _ _ r h => by simp [zC_.l0] at h
 | k + 1 => by
  have ih0 := zC_.mono_l k
  ·
   intro y0 y1 y2
   unfold zC_.l0
   repeat' with_reducible first | exact ih0 _ _ _ | exact yk_.mono _ _ | exact zm_.mono _ _ _ | exact LeO.refl _ | exact LeO.none _ | refine LeO.ite ?_ ?_ | refine LeO.bind ?_ (fun _ => ?_)
theorem zC_.mono : ∀ a0 k, LeO (zC_.f k a0) (zC_.f (k + 1) a0) := by
 intro a0 k
 have ih0 := zC_.mono_l k
 unfold zC_.f
 repeat' with_reducible first | exact ih0 _ _ _ | exact yk_.mono _ _ | exact zm_.mono _ _ _ | exact LeO.refl _ | exact LeO.none _ | refine LeO.ite ?_ ?_ | refine LeO.bind ?_ (fun _ => ?_)
theorem zC_.calls (k : Nat) (a0 : ByteArray) (r1 : List (S60)) (r2 : Int) (r3 : Int) (w : World) (h : zC_.f k a0 = some (r1, r2, r3)) :
 Calls Tryd.prog 8 #[.string a0] w fun e w' => ∃ v0_ : Value, e = .returned (.agg #[v0_, .int .i64 r2, .int .i64 r3]) ∧ Kd.R k60 60 w' w.heap.size (fun _ => True) v0_ r1 ∧ Below w.heap.size w w' := by
 have hu24 := Tryd.underlying24
 have hu58 := Tryd.underlying58
 have hu60 := Tryd.underlying60
 have HB := AM (Below.refl w.heap.size w)
 have H : (if (a0.size : Int) > 20000 then (some (([] : List (S60)), 0, 2)) else (zC_.l0 k a0 (([] : List (S60))) 0)) = some (r1, r2, r3) := h
 clear h
 by_cases c2 : (a0.size : Int) > 20000
 ·
  rw [if_pos c2] at H
  have c2b0 : decide (20000 < (a0.size : Int)) = true := decide_eq_true c2
  have c2b1 : decide (20000 < a0.size) = true := decide_eq_true (by omega)
  clear c2
  simp only [Option.some.injEq, Prod.mk.injEq] at H
  obtain ⟨rfl, rfl, rfl⟩ := H
  go_enter Tryd.func8, Tryd.ntmps8
  go_wp2_with (first | ((with_reducible refine zy_ (N := 2) rfl ?_); refine be_ 2 #[.slice none 0 0, .int .i64 0, .int .i64 0] 24 ?_; intro gb217 hg w3 hbox hb; have BK217 := AM hbox; have GW217 := AM ((by rw [hg]; exact (zf_ bel_) : w.heap.size ≤ gb217)); have GE217 := AM ((by rw [hg]; exact (zf_ bel_) : w.heap.size ≤ gb217)); replace HB := AM (zc_ bel_ hb); clear hb hbox hg; have hcz4_0 : w3.cell? ⟨gb217, 0, none⟩ = some (.slice none 0 0) := (zb_ BK217.out 0).trans rfl; have hcz4_1 : w3.cell? ⟨gb217, 1, none⟩ = some (.int .i64 0) := (zb_ BK217.out 1).trans rfl; have hcz4_2 : w3.cell? ⟨gb217, 2, none⟩ = some (.int .i64 0) := (zb_ BK217.out 2).trans rfl; have hfz4_0 := za_ BK217.out 0; have hfz4_1 := za_ BK217.out 1; have hfz4_2 := za_ BK217.out 2))
  refine bodyPost_ret (results_cell_row rfl _ _ gb217 24 #[.slice none 0 0, .int .i64 0, .int .i64 2] (0, 0) _ rfl bka_ Tryd.underlying24 rfl (by kernel_rfl)) rfl ?_
  exact ⟨_, ri_, by first | exact Kd.R_nil _ _ _ _ _ | exact Kd.N_nil _ _ _ _ _ | exact Kd.V_nil _ _ _ _ _ | exact Kd.Q_nil _ _ _ _ _ | exact Kd.S_nil _ _ _ _ _, bel_⟩
 ·
  rw [if_neg c2] at H
  have c2b0 : decide (20000 < (a0.size : Int)) = false := decide_eq_false c2
  have c2b1 : decide (20000 < a0.size) = false := decide_eq_false (by omega)
  clear c2
  obtain ⟨y218, hy218⟩ : ∃ y_ : List (S60), y_ = (([] : List (S60))) := ⟨_, rfl⟩
  replace H : (zC_.l0 k a0 y218 0) = some (r1, r2, r3) := hy_ hy218 H
  have Ny218 := AM hy218
  clear hy218
  have H' := AM H
  clear H
  go_enter Tryd.func8, Tryd.ntmps8
  go_wp2_with (first | ((with_reducible refine zy_ (N := 2) rfl ?_); refine be_ 2 #[.slice none 0 0, .int .i64 0, .int .i64 0] 24 ?_; intro gb217 hg w5 hbox hb; have BK217 := AM hbox; have GW217 := AM ((by rw [hg]; exact (zf_ bel_) : w.heap.size ≤ gb217)); have GE217 := AM ((by rw [hg]; exact (zf_ bel_) : w.heap.size ≤ gb217)); replace HB := AM (zc_ bel_ hb); clear hb hbox hg) | ((with_reducible refine zy_ (N := 13) rfl ?_); refine Kd.R_lit k60 _ 60 ?hgL1 (N := 13) ?hdL1 (xs := ([] : List (S60))) (inner := []) (ok := fun _ => True) (okp := fun _ => True) ?hrL1 ?hpL1 (fun _ hk => hk) trivial (Below.refl _ _) (Nat.le_refl _) (by simp) ?_; (case hdL1 => rfl); (case hgL1 => rfl); (case hrL1 => first | (go_simp; done) | (go_simp; rfl)); (case hpL1 => exact (Reps.none _ _)); intro v219 w6 ho7 hb hg_ hnew_; clear hg_ hnew_; (first | rw [← Ny218.out] at ho7 | (simp only [Int.reduceToNat] at ho7; rw [← Ny218.out] at ho7)); have HO220 := AM (Kd.ya_ ho7 (zf_ bel_)); replace BK217 := AM (zh_ (g := gb217) (o := .cells #[.slice none 0 0, .int .i64 0, .int .i64 0] 24 (0, 0)) (bk_ BK217.out) hb); replace HB := AM (zc_ bel_ hb); clear hb ho7))
  go_loopg [3, 4] k (fun kq v3 v4 w' => ∃ (x3_1 : List (S60)) (x4_1 : Int) (x218001_1 : Int) (x218002_1 : Int), v4 = .int .i64 x4_1 ∧ zd_ (zC_.l0 kq a0 x3_1 x4_1 = some (r1, r2, r3)) ∧ zd_ (kq ≤ k) ∧ zd_ (Kd.R k60 60 w' w.heap.size (fun _ => True) v3 x3_1) ∧ zd_ (w'.heap[gb217]? = some (.cells #[(.slice none 0 0), .int .i64 x218001_1, .int .i64 x218002_1] 24 (0, 0))) ∧ zd_ (Below w.heap.size w w'))
  case atStart => exact ⟨(y218), (0), (0), (0), re_, H', ⟨Nat.le_refl _⟩, ⟨ro_ HO220.out⟩, ⟨bk_ BK217.out⟩, ⟨bel_⟩⟩
  case round =>
   clear H'
   (try clear c2b0); (try clear c2b1); (try clear hcz4_0); (try clear hcz4_1); (try clear hcz4_2); (try clear hfz4_0); (try clear hfz4_1); (try clear hfz4_2)
   obtain ⟨x3_1, x4_1, x218001_1, x218002_1, rfl, HA, HK1, HO_3, BK217, HB⟩ := hrel
   cases gk with
   | zero => exact absurd HA.out (by simp [zC_.l0])
   | succ k1 =>
    have H := HA.out
    clear HA
    simp only [zC_.l0] at H
    by_cases c8 : x4_1 < (a0.size : Int)
    ·
     rw [if_pos c8] at H
     have c8b0 : decide (x4_1 < (a0.size : Int)) = true := decide_eq_true c8
     clear c8
     obtain ⟨⟨t221, t222, t223, t224, t225, t226, t227, t228⟩, A9, H⟩ := OB H
     try dsimp only at H
     replace A9 := AM A9
     by_cases c10 : t228 = true
     ·
      subst c10
      rw [if_pos rfl] at H
      by_cases c11 : x3_1.length < 5864062014805
      ·
       rw [if_pos c11] at H
       have LMc11 := AM c11
       clear c11
       obtain ⟨y231, hy231⟩ : ∃ y_ : List (S60), y_ = (x3_1 ++ [(⟨t225, t226⟩ : S60)]) := ⟨_, rfl⟩
       replace H : (zC_.l0 k1 a0 y231 t227) = some (r1, r2, r3) := hy_ hy231 H
       have Ny231 := AM hy231
       clear hy231
       have H' := AM H
       clear H
       go_wp2_with (first | ((with_reducible refine zg_ (f := 39) rfl ?_); refine gl_ (some 21) Tryd.func39 #[.string a0, .int .i64 x4_1] ?_; (with_reducible refine (zm_.calls k1 a0 x4_1 t221 t222 t223 t224 t225 t226 t227 true _ A9.out).mono ?_); rintro e w12 ⟨rfl, hb⟩; refine ⟨_, rfl, ?_⟩; replace HO_3 := AM (Kd.zX_ (ro_ HO_3.out) hb); replace BK217 := AM (zh_ (g := gb217) (o := .cells #[.slice none 0 0, .int .i64 x218001_1, .int .i64 x218002_1] 24 (0, 0)) (bk_ BK217.out) hb); replace HB := AM (zc_ bel_ hb); (try clear hb); (try clear hk)) | ((with_reducible refine zy_ (N := 5) rfl ?_); refine be_ 5 #[.string (⟨#[]⟩ : ByteArray), .int .i64 0, .int .i64 0, .int .i64 0] 58 ?_; intro gb229 hg w13 hbox hb; replace HO_3 := AM (Kd.zX_ (ro_ HO_3.out) hb); have BK229 := AM hbox; have GW229 := AM ((by rw [hg]; exact (zf_ bel_) : w.heap.size ≤ gb229)); have GE229 := AM ((by rw [hg]; exact (zf_ bel_) : w.heap.size ≤ gb229)); replace HB := AM (zc_ bel_ hb); have NB217_229 := AM ((by rw [hg]; exact Nat.ne_of_lt (zA_ (g := gb217) (o := .cells #[.slice none 0 0, .int .i64 x218001_1, .int .i64 x218002_1] 24 (0, 0)) (bk_ BK217.out)) : gb217 ≠ gb229)); have NB229_217 := AM ((by rw [hg]; exact Nat.ne_of_gt (zA_ (g := gb217) (o := .cells #[.slice none 0 0, .int .i64 x218001_1, .int .i64 x218002_1] 24 (0, 0)) (bk_ BK217.out)) : gb229 ≠ gb217)); replace BK217 := AM (zh_ (g := gb217) (o := .cells #[.slice none 0 0, .int .i64 x218001_1, .int .i64 x218002_1] 24 (0, 0)) (bk_ BK217.out) hb); clear hb hbox hg) | ((with_reducible refine zy_ (N := 6) rfl ?_); refine be_ 6 #[.int .i64 0, .string (⟨#[]⟩ : ByteArray)] 60 ?_; intro gb230 hg w14 hbox hb; replace HO_3 := AM (Kd.zX_ (Kd.R_elderB (ro_ HO_3.out) gb230 (Nat.le_of_eq hg.symm)) hb); have BK230 := AM hbox; have GW230 := AM ((by rw [hg]; exact (zf_ bel_) : w.heap.size ≤ gb230)); have GE230 := AM ((by rw [hg]; exact (zf_ bel_) : w.heap.size ≤ gb230)); replace HB := AM (zc_ bel_ hb); have NB217_230 := AM ((by rw [hg]; exact Nat.ne_of_lt (zA_ (g := gb217) (o := .cells #[.slice none 0 0, .int .i64 x218001_1, .int .i64 x218002_1] 24 (0, 0)) (bk_ BK217.out)) : gb217 ≠ gb230)); have NB230_217 := AM ((by rw [hg]; exact Nat.ne_of_gt (zA_ (g := gb217) (o := .cells #[.slice none 0 0, .int .i64 x218001_1, .int .i64 x218002_1] 24 (0, 0)) (bk_ BK217.out)) : gb230 ≠ gb217)); replace BK217 := AM (zh_ (g := gb217) (o := .cells #[.slice none 0 0, .int .i64 x218001_1, .int .i64 x218002_1] 24 (0, 0)) (bk_ BK217.out) hb); have NB229_230 := AM ((by rw [hg]; exact Nat.ne_of_lt (zA_ (g := gb229) (o := .cells #[.string (⟨#[]⟩ : ByteArray), .int .i64 0, .int .i64 0, .int .i64 0] 58 (0, 0)) (bk_ BK229.out)) : gb229 ≠ gb230)); have NB230_229 := AM ((by rw [hg]; exact Nat.ne_of_gt (zA_ (g := gb229) (o := .cells #[.string (⟨#[]⟩ : ByteArray), .int .i64 0, .int .i64 0, .int .i64 0] 58 (0, 0)) (bk_ BK229.out)) : gb230 ≠ gb229)); replace BK229 := AM (zh_ (g := gb229) (o := .cells #[.string (⟨#[]⟩ : ByteArray), .int .i64 0, .int .i64 0, .int .i64 0] 58 (0, 0)) (bk_ BK229.out) hb); clear hb hbox hg; have hnb15 := NB229_217.out; have hnc15 := NB217_229.out; have hnb16 := NB229_230.out; have hnc16 := NB230_229.out; have hcz17_0 : w14.cell? ⟨gb229, 0, none⟩ = some (.string (⟨#[]⟩ : ByteArray)) := (zb_ BK229.out 0).trans rfl; have hcz17_1 : w14.cell? ⟨gb229, 1, none⟩ = some (.int .i64 0) := (zb_ BK229.out 1).trans rfl; have hcz17_2 : w14.cell? ⟨gb229, 2, none⟩ = some (.int .i64 0) := (zb_ BK229.out 2).trans rfl; have hcz17_3 : w14.cell? ⟨gb229, 3, none⟩ = some (.int .i64 0) := (zb_ BK229.out 3).trans rfl; have hfz17_0 := za_ BK229.out 0; have hfz17_1 := za_ BK229.out 1; have hfz17_2 := za_ BK229.out 2; have hfz17_3 := za_ BK229.out 3; have hnb18 := NB230_217.out; have hnc18 := NB217_230.out; have hcz19_0 : w14.cell? ⟨gb230, 0, none⟩ = some (.int .i64 0) := (zb_ BK230.out 0).trans rfl; have hcz19_1 : w14.cell? ⟨gb230, 1, none⟩ = some (.string (⟨#[]⟩ : ByteArray)) := (zb_ BK230.out 1).trans rfl; have hfz19_0 := za_ BK230.out 0; have hfz19_1 := za_ BK230.out 1) | ((with_reducible refine ye_ (b := .append) (xs := #[.tmp 30, .tmp 32]) rfl ?_); at_builtin; refine Kd.y7_ k60 (w0 := w) w.heap.size rfl (.tmp 30) (.tmp 32) 22 60 (.agg #[(.int .i64 0), (.string ⟨#[]⟩)]) 24 rfl Tryd.underlying22 info60 rfl (by decide) (by omega) u3 x3_1 (⟨t225, t226⟩ : S60) [.int .i64 t225, .string t226] (fun k_ => k_ ≠ gb230) (fun _ => False) rfl (by first | (go_simp; done) | (go_simp; rfl)) ?aP (fun _ hk => hk.elim) ?aF ?aO ?aB ?aS ?aL ?_; (case aP => exact k60_mkM _ _ _ (⟨t225, t226⟩ : S60)); (case aB => exact bel_); (case aF => exact (fun k_ hk => Kd.freshB (g := gb230) (o := .cells #[.int .i64 t225, .string t226] 60 (0, 0)) bka_ k_ hk)); (case aO => exact (by (with_reducible repeat (first | apply Kd.yv_ | apply Kd.yt_ | apply Kd.yI_)); exact Kd.z9_ (Kd.R_far (p := ⟨gb230, 1, none⟩) (Kd.R_far (p := ⟨gb230, 0, none⟩) (Kd.R_far (p := ⟨gb229, 3, none⟩) (Kd.R_far (p := ⟨gb229, 2, none⟩) (Kd.R_far (p := ⟨gb229, 1, none⟩) (Kd.R_far (p := ⟨gb229, 0, none⟩) (Kd.z9_ (Kd.yB_ HO_3.out BK229.out (by decide)) (fun k_ hk => (⟨hk, hk.1.2⟩ : _ ∧ k_ ≠ gb230))) (fun _ hk => hk.1.2) (.string t221)) (fun _ hk => hk.1.2) (.int .i64 t222)) (fun _ hk => hk.1.2) (.int .i64 t223)) (fun _ hk => hk.1.2) (.int .i64 t224)) (fun _ hk => hk.2) (.int .i64 t225)) (fun _ hk => hk.2) (.string t226)) (fun _ hk => hk.1.1.2))); (case aS => exact (zf_ bel_)); (case aL => have := LMc11.out; omega); intro v232 w20 ho hb hg hat; rw [← Ny231.out] at ho; have n0_ := AM (yu_ (g := gb217) (o := .cells #[.slice none 0 0, .int .i64 x218001_1, .int .i64 x218002_1] 24 (0, 0)) bka_ hg (Kd.R_ne HO_3.out BK217.out (by decide))); have n1_ := AM (yu_ (g := gb229) (o := .cells #[.string t221, .int .i64 t222, .int .i64 t223, .int .i64 t224] 58 (0, 0)) bka_ hg (Kd.R_ne HO_3.out BK229.out (by decide))); have n2_ := AM (yu_ (g := gb230) (o := .cells #[.int .i64 t225, .string t226] 60 (0, 0)) bka_ hg (Kd.R_away HO_3.out (fun _ hk => hk.2))); have n3_ := AM hb; have n4_ := AM ho; clear BK217; clear BK229; clear BK230; clear HB; clear HO_3; have BK217 := n0_; have BK229 := n1_; have BK230 := n2_; have HB := n3_; have HO233 := n4_; clear n0_ n1_ n2_ n3_ n4_; clear ho hb hg hat))
       go_roundg k1
       case measure => have := HK1.out; omega
       case rel => exact ⟨(y231), (t227), (x218001_1), (x218002_1), re_, H', ⟨by have := HK1.out; omega⟩, ⟨by (with_reducible repeat (first | apply Kd.yv_ | apply Kd.yt_ | apply Kd.yI_)); exact Kd.z9_ HO233.out (fun _ hk => trivial)⟩, ⟨bk_ BK217.out⟩, ⟨bel_⟩⟩
      ·
       rw [if_neg c11] at H
       exact absurd H (by simp)
     ·
      replace c10 := Bool.eq_false_iff.mpr c10
      subst c10
      rw [if_neg (show ¬ (false = true) by decide)] at H
      simp only [Option.some.injEq, Prod.mk.injEq] at H
      obtain ⟨rfl, rfl, rfl⟩ := H
      go_wp2_with (first | ((with_reducible refine zg_ (f := 39) rfl ?_); refine gl_ (some 21) Tryd.func39 #[.string a0, .int .i64 x4_1] ?_; (with_reducible refine (zm_.calls k1 a0 x4_1 t221 t222 t223 t224 t225 t226 t227 false _ A9.out).mono ?_); rintro e w21 ⟨rfl, hb⟩; refine ⟨_, rfl, ?_⟩; replace HO_3 := AM (Kd.zX_ (ro_ HO_3.out) hb); replace BK217 := AM (zh_ (g := gb217) (o := .cells #[.slice none 0 0, .int .i64 x218001_1, .int .i64 x218002_1] 24 (0, 0)) (bk_ BK217.out) hb); replace HB := AM (zc_ bel_ hb); (try clear hb); (try clear hk)) | ((with_reducible refine zy_ (N := 5) rfl ?_); refine be_ 5 #[.string (⟨#[]⟩ : ByteArray), .int .i64 0, .int .i64 0, .int .i64 0] 58 ?_; intro gb229 hg w22 hbox hb; replace HO_3 := AM (Kd.zX_ (ro_ HO_3.out) hb); have BK229 := AM hbox; have GW229 := AM ((by rw [hg]; exact (zf_ bel_) : w.heap.size ≤ gb229)); have GE229 := AM ((by rw [hg]; exact (zf_ bel_) : w.heap.size ≤ gb229)); replace HB := AM (zc_ bel_ hb); have NB217_229 := AM ((by rw [hg]; exact Nat.ne_of_lt (zA_ (g := gb217) (o := .cells #[.slice none 0 0, .int .i64 x218001_1, .int .i64 x218002_1] 24 (0, 0)) (bk_ BK217.out)) : gb217 ≠ gb229)); have NB229_217 := AM ((by rw [hg]; exact Nat.ne_of_gt (zA_ (g := gb217) (o := .cells #[.slice none 0 0, .int .i64 x218001_1, .int .i64 x218002_1] 24 (0, 0)) (bk_ BK217.out)) : gb229 ≠ gb217)); replace BK217 := AM (zh_ (g := gb217) (o := .cells #[.slice none 0 0, .int .i64 x218001_1, .int .i64 x218002_1] 24 (0, 0)) (bk_ BK217.out) hb); clear hb hbox hg) | ((with_reducible refine zy_ (N := 6) rfl ?_); refine be_ 6 #[.int .i64 0, .string (⟨#[]⟩ : ByteArray)] 60 ?_; intro gb230 hg w23 hbox hb; replace HO_3 := AM (Kd.zX_ (Kd.R_elderB (ro_ HO_3.out) gb230 (Nat.le_of_eq hg.symm)) hb); have BK230 := AM hbox; have GW230 := AM ((by rw [hg]; exact (zf_ bel_) : w.heap.size ≤ gb230)); have GE230 := AM ((by rw [hg]; exact (zf_ bel_) : w.heap.size ≤ gb230)); replace HB := AM (zc_ bel_ hb); have NB217_230 := AM ((by rw [hg]; exact Nat.ne_of_lt (zA_ (g := gb217) (o := .cells #[.slice none 0 0, .int .i64 x218001_1, .int .i64 x218002_1] 24 (0, 0)) (bk_ BK217.out)) : gb217 ≠ gb230)); have NB230_217 := AM ((by rw [hg]; exact Nat.ne_of_gt (zA_ (g := gb217) (o := .cells #[.slice none 0 0, .int .i64 x218001_1, .int .i64 x218002_1] 24 (0, 0)) (bk_ BK217.out)) : gb230 ≠ gb217)); replace BK217 := AM (zh_ (g := gb217) (o := .cells #[.slice none 0 0, .int .i64 x218001_1, .int .i64 x218002_1] 24 (0, 0)) (bk_ BK217.out) hb); have NB229_230 := AM ((by rw [hg]; exact Nat.ne_of_lt (zA_ (g := gb229) (o := .cells #[.string (⟨#[]⟩ : ByteArray), .int .i64 0, .int .i64 0, .int .i64 0] 58 (0, 0)) (bk_ BK229.out)) : gb229 ≠ gb230)); have NB230_229 := AM ((by rw [hg]; exact Nat.ne_of_gt (zA_ (g := gb229) (o := .cells #[.string (⟨#[]⟩ : ByteArray), .int .i64 0, .int .i64 0, .int .i64 0] 58 (0, 0)) (bk_ BK229.out)) : gb230 ≠ gb229)); replace BK229 := AM (zh_ (g := gb229) (o := .cells #[.string (⟨#[]⟩ : ByteArray), .int .i64 0, .int .i64 0, .int .i64 0] 58 (0, 0)) (bk_ BK229.out) hb); clear hb hbox hg; have hnb24 := NB229_217.out; have hnc24 := NB217_229.out; have hnb25 := NB229_230.out; have hnc25 := NB230_229.out; have hcz26_0 : w23.cell? ⟨gb229, 0, none⟩ = some (.string (⟨#[]⟩ : ByteArray)) := (zb_ BK229.out 0).trans rfl; have hcz26_1 : w23.cell? ⟨gb229, 1, none⟩ = some (.int .i64 0) := (zb_ BK229.out 1).trans rfl; have hcz26_2 : w23.cell? ⟨gb229, 2, none⟩ = some (.int .i64 0) := (zb_ BK229.out 2).trans rfl; have hcz26_3 : w23.cell? ⟨gb229, 3, none⟩ = some (.int .i64 0) := (zb_ BK229.out 3).trans rfl; have hfz26_0 := za_ BK229.out 0; have hfz26_1 := za_ BK229.out 1; have hfz26_2 := za_ BK229.out 2; have hfz26_3 := za_ BK229.out 3; have hnb27 := NB230_217.out; have hnc27 := NB217_230.out; have hcz28_0 : w23.cell? ⟨gb230, 0, none⟩ = some (.int .i64 0) := (zb_ BK230.out 0).trans rfl; have hcz28_1 : w23.cell? ⟨gb230, 1, none⟩ = some (.string (⟨#[]⟩ : ByteArray)) := (zb_ BK230.out 1).trans rfl; have hfz28_0 := za_ BK230.out 0; have hfz28_1 := za_ BK230.out 1; have hcz29_0 : w23.cell? ⟨gb217, 0, none⟩ = some (.slice none 0 0) := (zb_ BK217.out 0).trans rfl; have hcz29_1 : w23.cell? ⟨gb217, 1, none⟩ = some (.int .i64 x218001_1) := (zb_ BK217.out 1).trans rfl; have hcz29_2 : w23.cell? ⟨gb217, 2, none⟩ = some (.int .i64 x218002_1) := (zb_ BK217.out 2).trans rfl; have hfz29_0 := za_ BK217.out 0; have hfz29_1 := za_ BK217.out 1; have hfz29_2 := za_ BK217.out 2))
      refine bodyPost_ret (results_cell_row rfl _ _ gb217 24 #[.slice none 0 0, .int .i64 x4_1, .int .i64 3] (0, 0) _ rfl bka_ Tryd.underlying24 rfl (by kernel_rfl)) rfl ?_
      exact ⟨_, ri_, by first | exact Kd.R_nil _ _ _ _ _ | exact Kd.N_nil _ _ _ _ _ | exact Kd.V_nil _ _ _ _ _ | exact Kd.Q_nil _ _ _ _ _ | exact Kd.S_nil _ _ _ _ _, bel_⟩
    ·
     rw [if_neg c8] at H
     have c8b0 : decide (x4_1 < (a0.size : Int)) = false := decide_eq_false c8
     clear c8
     obtain ⟨t234, A30, H⟩ := OB H
     try dsimp only at H
     replace A30 := AM A30
     by_cases c31 : t234 = true
     ·
      subst c31
      rw [if_pos rfl] at H
      simp only [Option.some.injEq, Prod.mk.injEq] at H
      obtain ⟨rfl, rfl, rfl⟩ := H
      obtain ⟨Ao32, co32, eo32⟩ := Kd.yg_ HO_3.out
      subst eo32
      go_wp2_with (first | ((with_reducible refine zg_ (f := 40) rfl ?_); refine gl_ (some 36) Tryd.func40 #[.slice Ao32 x3_1.length co32] ?_; (with_reducible refine (yk_.calls k1 _ _ x3_1 true _ ?side1 ?side2 A30.out).mono ?_); (case side1 => repeat (first | exact (Kd.zY_ HO_3.out).2.2 | (with_reducible refine Kd.yo_ ?_ _) | (with_reducible refine Kd.yn_ ?_ _) | (with_reducible refine Kd.yz_ ?_))); (case side2 => exact (Kd.zY_ HO_3.out).2.1); rintro e w33 ⟨rfl, hb⟩; refine ⟨_, rfl, ?_⟩; replace HO_3 := AM (Kd.zX_ (ro_ HO_3.out) hb); replace BK217 := AM (zh_ (g := gb217) (o := .cells #[.slice none 0 0, .int .i64 x218001_1, .int .i64 x218002_1] 24 (0, 0)) (bk_ BK217.out) hb); replace HB := AM (zc_ bel_ hb); (try clear hb); have hcz34_0 : w33.cell? ⟨gb217, 0, none⟩ = some (.slice none 0 0) := (zb_ BK217.out 0).trans rfl; have hcz34_1 : w33.cell? ⟨gb217, 1, none⟩ = some (.int .i64 x218001_1) := (zb_ BK217.out 1).trans rfl; have hcz34_2 : w33.cell? ⟨gb217, 2, none⟩ = some (.int .i64 x218002_1) := (zb_ BK217.out 2).trans rfl; have hfz34_0 := za_ BK217.out 0; have hfz34_1 := za_ BK217.out 1; have hfz34_2 := za_ BK217.out 2))
      refine bodyPost_ret (results_cell_row rfl _ _ gb217 24 #[.slice Ao32 x3_1.length co32, .int .i64 0, .int .i64 0] (0, 0) _ rfl bka_ Tryd.underlying24 rfl (by kernel_rfl)) rfl ?_
      exact ⟨_, ri_, by (with_reducible repeat (first | apply Kd.yv_ | apply Kd.yt_ | apply Kd.yI_)); exact Kd.z9_ (Kd.R_far (p := ⟨gb217, 2, none⟩) (Kd.R_far (p := ⟨gb217, 1, none⟩) (Kd.R_far (p := ⟨gb217, 0, none⟩) (Kd.yB_ HO_3.out BK217.out (by decide)) (fun _ hk => hk.2) (.slice Ao32 x3_1.length co32)) (fun _ hk => hk.2) (.int .i64 0)) (fun _ hk => hk.2) (.int .i64 0)) (fun _ hk => trivial), bel_⟩
     ·
      replace c31 := Bool.eq_false_iff.mpr c31
      subst c31
      rw [if_neg (show ¬ (false = true) by decide)] at H
      simp only [Option.some.injEq, Prod.mk.injEq] at H
      obtain ⟨rfl, rfl, rfl⟩ := H
      obtain ⟨Ao35, co35, eo35⟩ := Kd.yg_ HO_3.out
      subst eo35
      go_wp2_with (first | ((with_reducible refine zg_ (f := 40) rfl ?_); refine gl_ (some 36) Tryd.func40 #[.slice Ao35 x3_1.length co35] ?_; (with_reducible refine (yk_.calls k1 _ _ x3_1 false _ ?side1 ?side2 A30.out).mono ?_); (case side1 => repeat (first | exact (Kd.zY_ HO_3.out).2.2 | (with_reducible refine Kd.yo_ ?_ _) | (with_reducible refine Kd.yn_ ?_ _) | (with_reducible refine Kd.yz_ ?_))); (case side2 => exact (Kd.zY_ HO_3.out).2.1); rintro e w36 ⟨rfl, hb⟩; refine ⟨_, rfl, ?_⟩; replace HO_3 := AM (Kd.zX_ (ro_ HO_3.out) hb); replace BK217 := AM (zh_ (g := gb217) (o := .cells #[.slice none 0 0, .int .i64 x218001_1, .int .i64 x218002_1] 24 (0, 0)) (bk_ BK217.out) hb); replace HB := AM (zc_ bel_ hb); (try clear hb); (try clear hk); have hcz37_0 : w36.cell? ⟨gb217, 0, none⟩ = some (.slice none 0 0) := (zb_ BK217.out 0).trans rfl; have hcz37_1 : w36.cell? ⟨gb217, 1, none⟩ = some (.int .i64 x218001_1) := (zb_ BK217.out 1).trans rfl; have hcz37_2 : w36.cell? ⟨gb217, 2, none⟩ = some (.int .i64 x218002_1) := (zb_ BK217.out 2).trans rfl; have hfz37_0 := za_ BK217.out 0; have hfz37_1 := za_ BK217.out 1; have hfz37_2 := za_ BK217.out 2))
      refine bodyPost_ret (results_cell_row rfl _ _ gb217 24 #[.slice none 0 0, .int .i64 0, .int .i64 1] (0, 0) _ rfl bka_ Tryd.underlying24 rfl (by kernel_rfl)) rfl ?_
      exact ⟨_, ri_, by first | exact Kd.R_nil _ _ _ _ _ | exact Kd.N_nil _ _ _ _ _ | exact Kd.V_nil _ _ _ _ _ | exact Kd.Q_nil _ _ _ _ _ | exact Kd.S_nil _ _ _ _ _, bel_⟩
/-! ### yw_: function 65 -/
def yw_.f (a0 : Int) (a1 : Int) (a2 : Int) : Option (Bool) := if a0 ≥ a1 then (some (decide (a0 ≤ a2))) else (some false)
theorem yw_.calls (a0 : Int) (a1 : Int) (a2 : Int) (r : Bool) (w : World) (h : yw_.f a0 a1 a2 = some r) :
 Calls Tryd.prog 65 #[.int .i64 a0, .int .i64 a1, .int .i64 a2] w fun e w' => e = .returned (.bool r) ∧ yO_ w w' := by
 have H : (if a0 ≥ a1 then (some (decide (a0 ≤ a2))) else (some false)) = some r := h
 clear h
 by_cases c4 : a0 ≥ a1
 ·
  rw [if_pos c4] at H
  have c4b0 : decide (a1 ≤ a0) = true := decide_eq_true c4
  clear c4
  obtain rfl := Option.some.inj H
  go_enter Tryd.func65, Tryd.ntmps65
  go_wp2
  go_ret
  exact ⟨re_, dr_⟩
 ·
  rw [if_neg c4] at H
  have c4b0 : decide (a1 ≤ a0) = false := decide_eq_false c4
  clear c4
  obtain rfl := Option.some.inj H
  go_enter Tryd.func65, Tryd.ntmps65
  go_wp2
  go_ret
  exact ⟨re_, dr_⟩
/-! ### y1_: function 122 -/
def y1_.f (a0 : Int) : Option (Bool) := if a0 = 1 then (some true) else (some (a0 == 2))
theorem y1_.calls (a0 : Int) (r : Bool) (w : World) (h : y1_.f a0 = some r) :
 Calls Tryd.prog 122 #[.int .i64 a0] w fun e w' => e = .returned (.bool r) ∧ yO_ w w' := by
 have H : (if a0 = 1 then (some true) else (some (a0 == 2))) = some r := h
 clear h
 by_cases c2 : a0 = 1
 ·
  rw [if_pos c2] at H
  have c2b0 : (a0 == 1) = true := beq_iff_eq.mpr c2
  have c2b1 : (a0 != 1) = false := bne_eq_false_iff_eq.mpr c2
  clear c2
  obtain rfl := Option.some.inj H
  go_enter Tryd.func122, Tryd.ntmps122
  go_wp2
  go_ret
  exact ⟨re_, dr_⟩
 ·
  rw [if_neg c2] at H
  have c2b0 : (a0 == 1) = false := beq_eq_false_iff_ne.mpr c2
  have c2b1 : (a0 != 1) = true := bne_iff_ne.mpr c2
  obtain rfl := Option.some.inj H
  go_enter Tryd.func122, Tryd.ntmps122
  go_wp2
  go_ret
  exact ⟨re_, dr_⟩
/-! ### yq_: function 87 -/
def yq_.f (a0_0 : Int) (a0_1 : ByteArray) : Option (Bool) := (y1_.f a0_0).bind fun t236 => (if t236 = true then (some (decide ((a0_1.size : Int) ≤ 2000))) else (some false))
theorem yq_.calls (a0_0 : Int) (a0_1 : ByteArray) (r : Bool) (w : World) (h : yq_.f a0_0 a0_1 = some r) :
 Calls Tryd.prog 87 #[.agg #[.int .i64 a0_0, .string a0_1]] w fun e w' => e = .returned (.bool r) ∧ Below w.heap.size w w' := by
 have hu60 := Tryd.underlying60
 have HB := AM (Below.refl w.heap.size w)
 have H : ((y1_.f a0_0).bind fun t236 => (if t236 = true then (some (decide ((a0_1.size : Int) ≤ 2000))) else (some false))) = some r := h
 clear h
 obtain ⟨t236, A2, H⟩ := OB H
 try dsimp only at H
 replace A2 := AM A2
 by_cases c3 : t236 = true
 ·
  subst c3
  rw [if_pos rfl] at H
  obtain rfl := Option.some.inj H
  go_enter Tryd.func87, Tryd.ntmps87
  go_wp2_with (first | ((with_reducible refine zy_ (N := 1) rfl ?_); (try (refine yh_ (by rfl) ?_; dsimp only)); refine be_ 1 #[.int .i64 a0_0, .string a0_1] 60 ?_; intro gb235 hg w4 hbox hb; have BK235 := AM hbox; have GW235 := AM ((by rw [hg]; exact (zf_ bel_) : w.heap.size ≤ gb235)); have GE235 := AM ((by rw [hg]; exact (zf_ bel_) : w.heap.size ≤ gb235)); replace HB := AM (zc_ bel_ hb); clear hb hbox hg; have hcz5_0 : w4.cell? ⟨gb235, 0, none⟩ = some (.int .i64 a0_0) := (zb_ BK235.out 0).trans rfl; have hcz5_1 : w4.cell? ⟨gb235, 1, none⟩ = some (.string a0_1) := (zb_ BK235.out 1).trans rfl; have hfz5_0 := za_ BK235.out 0; have hfz5_1 := za_ BK235.out 1) | ((with_reducible refine zg_ (f := 122) rfl ?_); refine gl_ (some 5) Tryd.func122 #[.int .i64 a0_0] ?_; (with_reducible refine (y1_.calls a0_0 true _ A2.out).mono ?_); rintro e w' ⟨rfl, ⟨nd, rfl⟩⟩; refine ⟨_, rfl, ?_⟩))
  go_ret
  exact ⟨ri_, bel_⟩
 ·
  replace c3 := Bool.eq_false_iff.mpr c3
  subst c3
  rw [if_neg (show ¬ (false = true) by decide)] at H
  obtain rfl := Option.some.inj H
  go_enter Tryd.func87, Tryd.ntmps87
  go_wp2_with (first | ((with_reducible refine zy_ (N := 1) rfl ?_); (try (refine yh_ (by rfl) ?_; dsimp only)); refine be_ 1 #[.int .i64 a0_0, .string a0_1] 60 ?_; intro gb235 hg w6 hbox hb; have BK235 := AM hbox; have GW235 := AM ((by rw [hg]; exact (zf_ bel_) : w.heap.size ≤ gb235)); have GE235 := AM ((by rw [hg]; exact (zf_ bel_) : w.heap.size ≤ gb235)); replace HB := AM (zc_ bel_ hb); clear hb hbox hg; have hcz7_0 : w6.cell? ⟨gb235, 0, none⟩ = some (.int .i64 a0_0) := (zb_ BK235.out 0).trans rfl; have hcz7_1 : w6.cell? ⟨gb235, 1, none⟩ = some (.string a0_1) := (zb_ BK235.out 1).trans rfl; have hfz7_0 := za_ BK235.out 0; have hfz7_1 := za_ BK235.out 1) | ((with_reducible refine zg_ (f := 122) rfl ?_); refine gl_ (some 5) Tryd.func122 #[.int .i64 a0_0] ?_; (with_reducible refine (y1_.calls a0_0 false _ A2.out).mono ?_); rintro e w' ⟨rfl, ⟨nd, rfl⟩⟩; refine ⟨_, rfl, ?_⟩))
  go_ret
  exact ⟨ri_, bel_⟩
/-! ### z6_: function 42 -/
def z6_.f (a0 : ByteArray) : Option (Int) := some (a0.size : Int)
theorem z6_.calls (a0 : ByteArray) (r : Int) (w : World) (h : z6_.f a0 = some r) :
 Calls Tryd.prog 42 #[.string a0] w fun e w' => e = .returned (.int .i64 r) ∧ yO_ w w' := by
 have H : (some (a0.size : Int)) = some r := h
 clear h
 obtain rfl := Option.some.inj H
 go_enter Tryd.func42, Tryd.ntmps42
 go_wp2
 go_ret
 exact ⟨re_, dr_⟩
/-! ### yl_: function 128 -/
def yl_.f (a0 : Int) (a1 : Int) : Option (Int) := if 0 ≤ (Go.bits .and .u64 (IntKind.u64.wrap (a1)) 31) then (if 0 ≤ (IntKind.u64.wrap (32 - (Go.bits .and .u64 (IntKind.u64.wrap (a1)) 31))) then (some (Go.bits .or .u32 (shl .u32 a0 (Go.bits .and .u64 (IntKind.u64.wrap (a1)) 31)) (shr .u32 a0 (IntKind.u64.wrap (32 - (Go.bits .and .u64 (IntKind.u64.wrap (a1)) 31)))))) else (none)) else (none)
theorem yl_.calls (a0 : Int) (a1 : Int) (r : Int) (w : World) (h : yl_.f a0 a1 = some r) :
 Calls Tryd.prog 128 #[.int .u32 a0, .int .i64 a1] w fun e w' => e = .returned (.int .u32 r) ∧ yO_ w w' := by
 have H : (if 0 ≤ (Go.bits .and .u64 (IntKind.u64.wrap (a1)) 31) then (if 0 ≤ (IntKind.u64.wrap (32 - (Go.bits .and .u64 (IntKind.u64.wrap (a1)) 31))) then (some (Go.bits .or .u32 (shl .u32 a0 (Go.bits .and .u64 (IntKind.u64.wrap (a1)) 31)) (shr .u32 a0 (IntKind.u64.wrap (32 - (Go.bits .and .u64 (IntKind.u64.wrap (a1)) 31)))))) else (none)) else (none)) = some r := h
 clear h
 obtain ⟨ji3, hji3⟩ : ∃ j_ : Int, (Go.bits .and .u64 (IntKind.u64.wrap (a1)) 31) = j_ := ⟨_, rfl⟩
 replace H : (if 0 ≤ (ji3) then (if 0 ≤ (IntKind.u64.wrap (32 - (ji3))) then (some (Go.bits .or .u32 (shl .u32 a0 (ji3)) (shr .u32 a0 (IntKind.u64.wrap (32 - (ji3)))))) else (none)) else (none)) = some r := by first | (rw [hji3] at H; exact H) | (simp only [hji3] at H ⊢; exact H)
 by_cases c4 : 0 ≤ (ji3)
 ·
  rw [if_pos c4] at H
  have c4b0 := eq_true c4
  have c4b1 : decide (0 ≤ (ji3)) = true := decide_eq_true c4
  clear c4
  obtain ⟨ji5, hji5⟩ : ∃ j_ : Int, (shl .u32 a0 (ji3)) = j_ := ⟨_, rfl⟩
  replace H : (if 0 ≤ (IntKind.u64.wrap (32 - (ji3))) then (some (Go.bits .or .u32 (ji5) (shr .u32 a0 (IntKind.u64.wrap (32 - (ji3)))))) else (none)) = some r := by first | (rw [hji5] at H; exact H) | (simp only [hji5] at H ⊢; exact H)
  have hji5_ : (IntKind.u32.wrap (a0 * 2 ^ min (ji3).toNat 32)) = ji5 := hji5
  have hji5z : (ji3) ≤ 32 → (IntKind.u32.wrap (a0 * 2 ^ (ji3).toNat)) = ji5 := shl_small hji5
  obtain ⟨ji6, hji6⟩ : ∃ j_ : Int, (IntKind.u64.wrap (32 - (ji3))) = j_ := ⟨_, rfl⟩
  replace H : (if 0 ≤ (ji6) then (some (Go.bits .or .u32 (ji5) (shr .u32 a0 (ji6)))) else (none)) = some r := by first | (rw [hji6] at H; exact H) | (simp only [hji6] at H ⊢; exact H)
  by_cases c7 : 0 ≤ (ji6)
  ·
   rw [if_pos c7] at H
   have c7b0 := eq_true c7
   have c7b1 : decide (0 ≤ (ji6)) = true := decide_eq_true c7
   clear c7
   obtain ⟨ji8, hji8⟩ : ∃ j_ : Int, (shr .u32 a0 (ji6)) = j_ := ⟨_, rfl⟩
   replace H : (some (Go.bits .or .u32 (ji5) (ji8))) = some r := by first | (rw [hji8] at H; exact H) | (simp only [hji8] at H ⊢; exact H)
   have hji8_ : (a0 / 2 ^ min (ji6).toNat 32) = ji8 := hji8
   have hji8z : (ji6) ≤ 32 → (a0 / 2 ^ (ji6).toNat) = ji8 := shr_small hji8
   obtain rfl := Option.some.inj H
   go_enter Tryd.func128, Tryd.ntmps128
   go_wp2
   go_ret
   exact ⟨by first | rfl | (simp; done) | (simp only [← hji3, ← hji5, ← hji6, ← hji8] <;> (first | rfl | simp)) | (simp [*]; done), dr_⟩
  ·
   rw [if_neg c7] at H
   exact absurd H (by simp)
 ·
  rw [if_neg c4] at H
  exact absurd H (by simp)
/-! ### impl_right: function 101 -/
def impl_right.f (a0 : Int) (a1 : Int) : Option (Int) := (yl_.f a0 (wrap64 (-a1))).bind fun t237 => (some t237)
theorem impl_right.calls (a0 : Int) (a1 : Int) (r : Int) (w : World) (h : impl_right.f a0 a1 = some r) :
 Calls Tryd.prog 101 #[.int .u32 a0, .int .i64 a1] w fun e w' => e = .returned (.int .u32 r) ∧ yO_ w w' := by
 have H : ((yl_.f a0 (wrap64 (-a1))).bind fun t237 => (some t237)) = some r := h
 clear h
 obtain ⟨t237, A3, H⟩ := OB H
 try dsimp only at H
 replace A3 := AM A3
 obtain rfl := Option.some.inj H
 go_enter Tryd.func101, Tryd.ntmps101
 go_wp2_with (first | ((with_reducible refine zg_ (f := 128) rfl ?_); refine gl_ (some 8) Tryd.func128 #[.int .u32 a0, .int .i64 (wrap64 (-a1))] ?_; (with_reducible refine (yl_.calls a0 (wrap64 (-a1)) t237 _ A3.out).mono ?_); rintro e w' ⟨rfl, ⟨nd, rfl⟩⟩; refine ⟨_, rfl, ?_⟩))
 go_ret
 exact ⟨re_, dr_⟩
-- NOT PRINTED: function 61 (impl_taken)
/-! ### stringslite_HasPrefix: function 112 -/
def stringslite_HasPrefix.f (a0 : ByteArray) (a1 : ByteArray) : Option (Bool) := if (a0.size : Int) ≥ (a1.size : Int) then (if 0 ≤ (a1.size : Int) then (if (a1.size : Int) ≤ (a0.size : Int) then (some ((a0.extract 0 ((a1.size : Int) : Int).toNat).toList == a1.toList)) else (none)) else (none)) else (some false)
theorem stringslite_HasPrefix.calls (a0 : ByteArray) (a1 : ByteArray) (r : Bool) (w : World) (h : stringslite_HasPrefix.f a0 a1 = some r) :
 Calls Tryd.prog 112 #[.string a0, .string a1] w fun e w' => e = .returned (.bool r) ∧ yO_ w w' := by
 have H : (if (a0.size : Int) ≥ (a1.size : Int) then (if 0 ≤ (a1.size : Int) then (if (a1.size : Int) ≤ (a0.size : Int) then (some ((a0.extract 0 ((a1.size : Int) : Int).toNat).toList == a1.toList)) else (none)) else (none)) else (some false)) = some r := h
 clear h
 by_cases c3 : (a0.size : Int) ≥ (a1.size : Int)
 ·
  rw [if_pos c3] at H
  have c3b0 : decide ((a1.size : Int) ≤ (a0.size : Int)) = true := decide_eq_true c3
  have c3b1 : decide (a1.size ≤ a0.size) = true := decide_eq_true (Int.ofNat_le.mp c3)
  clear c3
  by_cases c4 : 0 ≤ (a1.size : Int)
  ·
   rw [if_pos c4] at H
   have c4b0 := eq_true c4
   have c4b1 : decide (0 ≤ (a1.size : Int)) = true := decide_eq_true c4
   clear c4
   by_cases c5 : (a1.size : Int) ≤ (a0.size : Int)
   ·
    rw [if_pos c5] at H
    have c5b0 := eq_true c5
    have c5b1 : decide ((a1.size : Int) ≤ (a0.size : Int)) = true := decide_eq_true c5
    clear c5
    obtain rfl := Option.some.inj H
    go_enter Tryd.func112, Tryd.ntmps112
    go_wp2
    go_ret
    exact ⟨re_, dr_⟩
   ·
    rw [if_neg c5] at H
    exact absurd H (by simp)
  ·
   rw [if_neg c4] at H
   exact absurd H (by simp)
 ·
  rw [if_neg c3] at H
  have c3b0 : decide ((a1.size : Int) ≤ (a0.size : Int)) = false := decide_eq_false c3
  have c3b1 : decide (a1.size ≤ a0.size) = false := decide_eq_false (fun h => c3 (Int.ofNat_le.mpr h))
  clear c3
  obtain rfl := Option.some.inj H
  go_enter Tryd.func112, Tryd.ntmps112
  go_wp2
  go_ret
  exact ⟨re_, dr_⟩
/-! ### strings_HasPrefix: function 74 -/
def strings_HasPrefix.f (a0 : ByteArray) (a1 : ByteArray) : Option (Bool) := (stringslite_HasPrefix.f a0 a1).bind fun t238 => (some t238)
theorem strings_HasPrefix.calls (a0 : ByteArray) (a1 : ByteArray) (r : Bool) (w : World) (h : strings_HasPrefix.f a0 a1 = some r) :
 Calls Tryd.prog 74 #[.string a0, .string a1] w fun e w' => e = .returned (.bool r) ∧ yO_ w w' := by
 have H : ((stringslite_HasPrefix.f a0 a1).bind fun t238 => (some t238)) = some r := h
 clear h
 obtain ⟨t238, A3, H⟩ := OB H
 try dsimp only at H
 replace A3 := AM A3
 obtain rfl := Option.some.inj H
 go_enter Tryd.func74, Tryd.ntmps74
 go_wp2_with (first | ((with_reducible refine zg_ (f := 112) rfl ?_); refine gl_ (some 7) Tryd.func112 #[.string a0, .string a1] ?_; (with_reducible refine (stringslite_HasPrefix.calls a0 a1 t238 _ A3.out).mono ?_); rintro e w' ⟨rfl, ⟨nd, rfl⟩⟩; refine ⟨_, rfl, ?_⟩))
 go_ret
 exact ⟨re_, dr_⟩
/-! ### bits_Mul32: function 142 -/
def bits_Mul32.f (a0 : Int) (a1 : Int) : Option (Int × Int) := some (((IntKind.u64.wrap ((IntKind.u64.wrap (a0)) * (IntKind.u64.wrap (a1)))) / 4294967296) % 4294967296, (IntKind.u64.wrap ((IntKind.u64.wrap (a0)) * (IntKind.u64.wrap (a1)))) % 4294967296)
theorem bits_Mul32.calls (a0 : Int) (a1 : Int) (r1 : Int) (r2 : Int) (w : World) (h : bits_Mul32.f a0 a1 = some (r1, r2)) :
 Calls Tryd.prog 142 #[.int .u32 a0, .int .u32 a1] w fun e w' => e = .returned (.tuple #[.int .u32 r1, .int .u32 r2]) ∧ yO_ w w' := by
 have H : (some (((IntKind.u64.wrap ((IntKind.u64.wrap (a0)) * (IntKind.u64.wrap (a1)))) / 4294967296) % 4294967296, (IntKind.u64.wrap ((IntKind.u64.wrap (a0)) * (IntKind.u64.wrap (a1)))) % 4294967296)) = some (r1, r2) := h
 clear h
 simp only [Option.some.injEq, Prod.mk.injEq] at H
 obtain ⟨rfl, rfl⟩ := H
 go_enter Tryd.func142, Tryd.ntmps142
 go_wp2
 go_ret2
 exact ⟨re_, dr_⟩
/-! ### bits_Mul64: function 143 -/
def bits_Mul64.f (a0 : Int) (a1 : Int) : Option (Int × Int) := some (IntKind.u64.wrap ((IntKind.u64.wrap ((IntKind.u64.wrap ((a0 / 4294967296) * (a1 / 4294967296))) + ((IntKind.u64.wrap ((IntKind.u64.wrap ((a0 / 4294967296) * (Go.bits .and .u64 a1 4294967295))) + ((IntKind.u64.wrap ((Go.bits .and .u64 a0 4294967295) * (Go.bits .and .u64 a1 4294967295))) / 4294967296))) / 4294967296))) + ((IntKind.u64.wrap ((Go.bits .and .u64 (IntKind.u64.wrap ((IntKind.u64.wrap ((a0 / 4294967296) * (Go.bits .and .u64 a1 4294967295))) + ((IntKind.u64.wrap ((Go.bits .and .u64 a0 4294967295) * (Go.bits .and .u64 a1 4294967295))) / 4294967296))) 4294967295) + (IntKind.u64.wrap ((Go.bits .and .u64 a0 4294967295) * (a1 / 4294967296))))) / 4294967296)), IntKind.u64.wrap (a0 * a1))
theorem bits_Mul64.calls (a0 : Int) (a1 : Int) (r1 : Int) (r2 : Int) (w : World) (h : bits_Mul64.f a0 a1 = some (r1, r2)) :
 Calls Tryd.prog 143 #[.int .u64 a0, .int .u64 a1] w fun e w' => e = .returned (.tuple #[.int .u64 r1, .int .u64 r2]) ∧ yO_ w w' := by
 have H : (some (IntKind.u64.wrap ((IntKind.u64.wrap ((IntKind.u64.wrap ((a0 / 4294967296) * (a1 / 4294967296))) + ((IntKind.u64.wrap ((IntKind.u64.wrap ((a0 / 4294967296) * (Go.bits .and .u64 a1 4294967295))) + ((IntKind.u64.wrap ((Go.bits .and .u64 a0 4294967295) * (Go.bits .and .u64 a1 4294967295))) / 4294967296))) / 4294967296))) + ((IntKind.u64.wrap ((Go.bits .and .u64 (IntKind.u64.wrap ((IntKind.u64.wrap ((a0 / 4294967296) * (Go.bits .and .u64 a1 4294967295))) + ((IntKind.u64.wrap ((Go.bits .and .u64 a0 4294967295) * (Go.bits .and .u64 a1 4294967295))) / 4294967296))) 4294967295) + (IntKind.u64.wrap ((Go.bits .and .u64 a0 4294967295) * (a1 / 4294967296))))) / 4294967296)), IntKind.u64.wrap (a0 * a1))) = some (r1, r2) := h
 clear h
 simp only [Option.some.injEq, Prod.mk.injEq] at H
 obtain ⟨rfl, rfl⟩ := H
 go_enter Tryd.func143, Tryd.ntmps143
 go_wp2
 go_ret2
 exact ⟨re_, dr_⟩
/-! ### bits_Mul: function 129 -/
def bits_Mul.f (a0 : Int) (a1 : Int) : Option (Int × Int) := (bits_Mul64.f a0 a1).bind fun bt239 => (some (bt239.1, bt239.2))
theorem bits_Mul.calls (a0 : Int) (a1 : Int) (r1 : Int) (r2 : Int) (w : World) (h : bits_Mul.f a0 a1 = some (r1, r2)) :
 Calls Tryd.prog 129 #[.int .u64 a0, .int .u64 a1] w fun e w' => e = .returned (.tuple #[.int .u64 r1, .int .u64 r2]) ∧ yO_ w w' := by
 have H : ((bits_Mul64.f a0 a1).bind fun bt239 => (some (bt239.1, bt239.2))) = some (r1, r2) := h
 clear h
 obtain ⟨⟨t239, t240⟩, A3, H⟩ := OB H
 try dsimp only at H
 replace A3 := AM A3
 simp only [Option.some.injEq, Prod.mk.injEq] at H
 obtain ⟨rfl, rfl⟩ := H
 go_enter Tryd.func129, Tryd.ntmps129
 go_wp2_with (first | ((with_reducible refine zg_ (f := 143) rfl ?_); refine gl_ (some 25) Tryd.func143 #[.int .u64 a0, .int .u64 a1] ?_; (with_reducible refine (bits_Mul64.calls a0 a1 t239 t240 _ A3.out).mono ?_); rintro e w' ⟨rfl, ⟨nd, rfl⟩⟩; refine ⟨_, rfl, ?_⟩))
 go_ret2
 exact ⟨re_, dr_⟩
-- NOT PRINTED: function 160 (abi_NoEscape)
-- NOT PRINTED: function 144 (strings_Builder_copyCheck)
-- NOT PRINTED: function 161 (bytealg_MakeNoZero)
-- NOT PRINTED: function 145 (strings_Builder_grow)
-- NOT PRINTED: function 130 (strings_Builder_Grow)
-- NOT PRINTED: function 131 (strings_Builder_WriteString)
-- NOT PRINTED: function 132 (strings_Builder_Len)
-- NOT PRINTED: function 133 (strings_Builder_String)
-- NOT PRINTED: function 103 (strings_Repeat)
/-! ### y0_: function 104 -/
def y0_.f (a0 : Int) : Option (ByteArray) := some (strOfNums (([a0] : List Int)))
theorem y0_.calls (a0 : Int) (r : ByteArray) (w : World) (h : y0_.f a0 = some r) :
 Calls Tryd.prog 104 #[.int .u8 a0] w fun e w' => e = .returned (.string r) ∧ Below w.heap.size w w' := by
 have HB := AM (Below.refl w.heap.size w)
 have H : (some (strOfNums (([a0] : List Int)))) = some r := h
 clear h
 obtain ⟨y241, hy241⟩ : ∃ y_ : List Int, y_ = (([a0] : List Int)) := ⟨_, rfl⟩
 replace H : (some (strOfNums y241)) = some r := hy_ hy241 H
 have Ny241 := AM hy241
 clear hy241
 obtain rfl := Option.some.inj H
 go_enter Tryd.func104, Tryd.ntmps104
 go_wp2_with (first | ((with_reducible refine zy_ (N := 4) rfl ?_); refine Kd.R_lit (Kd.int .u8) _ 5 ?hgL2 (N := 4) ?hdL2 (xs := ([a0] : List Int)) (inner := [.int .u8 a0]) (ok := fun _ => True) (okp := fun _ => True) ?hrL2 ?hpL2 (fun _ hk => hk) trivial (Below.refl _ _) (Nat.le_refl _) (by simp) ?_; (case hdL2 => rfl); (case hgL2 => rfl); (case hrL2 => first | (go_simp; done) | (go_simp; rfl)); (case hpL2 => exact (Reps.one (show Kd.M (Kd.int .u8) _ _ _ a0 [.int .u8 a0] from rfl) (Reps.none _ _))); intro v242 w2 ho3 hb hg_ hnew_; clear hg_ hnew_; (first | rw [← Ny241.out] at ho3 | (simp only [Int.reduceToNat] at ho3; rw [← Ny241.out] at ho3)); have HO243 := AM (Kd.ya_ ho3 (zf_ bel_)); replace HB := AM (zc_ bel_ hb); clear hb ho3; have hcv4 := yF_ (P := Tryd.prog) Tryd.underlying29 Tryd.underlying5 Tryd.underlying9 (Kd.yL_ HO243.out)))
 go_ret
 exact ⟨ri_, bel_⟩
-- NOT PRINTED: function 66 (impl_summed)
/-! ### yW_: function 54 -/
def yW_.f (a0 : ByteArray) : Option (ByteArray) := if a0.size ≤ 1099511627776 then some (Hand.digestL a0) else none
theorem yW_.calls (a0 : ByteArray) (r : ByteArray) (w : World) (h : yW_.f a0 = some r) (hL : Hand.LaidG w := by first | exact hL | exact Hand.LaidG.below hL bel_) :
 Calls Tryd.prog 54 #[.string a0] w fun e w' => e = .returned (.string r) ∧ Below w.heap.size w w' := by
 unfold yW_.f at h
 by_cases hc : a0.size ≤ 1099511627776
 ·
  rw [if_pos hc] at h
  obtain rfl := Option.some.inj h
  exact Hand.digest_whole a0 hc w hL
 ·
  rw [if_neg hc] at h
  cases h
/-! ### zS_: function 123 -/
def zS_.l0 : Nat → Int → List Int → Option (ByteArray)
 | 0, _, _ => none
 | k + 1, x3, x4 => if x3 > 127 then (if x4.length < 140737488355328 then (zS_.l0 k (x3 / 128) (x4 ++ [Go.bits .or .u8 ((Go.bits .and .u64 x3 127) % 256) 128])) else (none)) else (if x4.length < 140737488355328 then (some (strOfNums (x4 ++ [(x3) % 256]))) else (none))
def zS_.f (k : Nat) (a0 : Int) : Option (ByteArray) := zS_.l0 k (Go.bits .xor .u64 (IntKind.u64.wrap ((IntKind.u64.wrap (a0)) * 2)) (IntKind.u64.wrap (a0 / 9223372036854775808))) ([] : List Int)
theorem zS_.mono_l : ∀ k, (∀ y0 y1, LeO (zS_.l0 k y0 y1) (zS_.l0 (k + 1) y0 y1))
 | 0 => fun _ _ r h => by simp [zS_.l0] at h
 | k + 1 => by
  have ih0 := zS_.mono_l k
  ·
   intro y0 y1
   unfold zS_.l0
   repeat' with_reducible first | exact ih0 _ _ | exact LeO.refl _ | exact LeO.none _ | refine LeO.ite ?_ ?_ | refine LeO.bind ?_ (fun _ => ?_)
theorem zS_.mono : ∀ a0 k, LeO (zS_.f k a0) (zS_.f (k + 1) a0) := by
 intro a0 k
 have ih0 := zS_.mono_l k
 unfold zS_.f
 repeat' with_reducible first | exact ih0 _ _ | exact LeO.refl _ | exact LeO.none _ | refine LeO.ite ?_ ?_ | refine LeO.bind ?_ (fun _ => ?_)
theorem zS_.calls (k : Nat) (a0 : Int) (r : ByteArray) (w : World) (h : zS_.f k a0 = some r) :
 Calls Tryd.prog 123 #[.int .i64 a0] w fun e w' => e = .returned (.string r) ∧ Below w.heap.size w w' := by
 have HB := AM (Below.refl w.heap.size w)
 have H : (zS_.l0 k (Go.bits .xor .u64 (IntKind.u64.wrap ((IntKind.u64.wrap (a0)) * 2)) (IntKind.u64.wrap (a0 / 9223372036854775808))) ([] : List Int)) = some r := h
 clear h
 have H' := AM H
 clear H
 go_enter Tryd.func123, Tryd.ntmps123
 go_wp2
 go_loopg [3, 4] k (fun kq v3 v4 w' => ∃ (x3_1 : Int) (x4_1 : List Int), v3 = .int .u64 x3_1 ∧ zd_ (zS_.l0 kq x3_1 x4_1 = some r) ∧ zd_ (kq ≤ k) ∧ zd_ (Kd.R (Kd.int .u8) 5 w' w.heap.size (fun _ => True) v4 x4_1) ∧ zd_ (Below w.heap.size w w'))
 case atStart => exact ⟨(Go.bits .xor .u64 (IntKind.u64.wrap ((IntKind.u64.wrap (a0)) * 2)) (IntKind.u64.wrap (a0 / 9223372036854775808))), (([] : List Int)), re_, H', ⟨Nat.le_refl _⟩, ⟨by first | exact Kd.R_nil _ _ _ _ _ | exact Kd.N_nil _ _ _ _ _ | exact Kd.V_nil _ _ _ _ _ | exact Kd.Q_nil _ _ _ _ _ | exact Kd.S_nil _ _ _ _ _⟩, ⟨bel_⟩⟩
 case round =>
  clear H'
  obtain ⟨x3_1, x4_1, rfl, HA, HK1, HO_4, HB⟩ := hrel
  cases gk with
  | zero => exact absurd HA.out (by simp [zS_.l0])
  | succ k1 =>
   have H := HA.out
   clear HA
   simp only [zS_.l0] at H
   by_cases c2 : x3_1 > 127
   ·
    rw [if_pos c2] at H
    have c2b0 : decide (127 < x3_1) = true := decide_eq_true c2
    clear c2
    by_cases c3 : x4_1.length < 140737488355328
    ·
     rw [if_pos c3] at H
     have LMc3 := AM c3
     clear c3
     obtain ⟨y244, hy244⟩ : ∃ y_ : List Int, y_ = (x4_1 ++ [Go.bits .or .u8 ((Go.bits .and .u64 x3_1 127) % 256) 128]) := ⟨_, rfl⟩
     replace H : (zS_.l0 k1 (x3_1 / 128) y244) = some r := hy_ hy244 H
     have Ny244 := AM hy244
     clear hy244
     have H' := AM H
     clear H
     go_wp2_with (first | ((with_reducible refine ye_ (b := .append) (xs := #[.tmp 14, .tmp 19]) rfl ?_); at_builtin; refine Kd.y7_ (Kd.int .u8) (w0 := w) w.heap.size rfl (.tmp 14) (.tmp 19) 29 5 (.int .u8 0) 1 rfl Tryd.underlying29 info5 rfl (by decide) (by omega) u4 x4_1 (Go.bits .or .u8 ((Go.bits .and .u64 x3_1 127) % 256) 128) [.int .u8 (Go.bits .or .u8 ((Go.bits .and .u64 x3_1 127) % 256) 128)] (fun _ => True) (fun _ => False) rfl rfl ?aP (fun _ hk => hk.elim) ?aF ?aO ?aB ?aS ?aL ?_; (case aP => exact rfl); (case aB => exact bel_); (case aF => exact (fun _ _ => trivial)); (case aO => exact (ro_ HO_4.out)); (case aS => exact (zf_ bel_)); (case aL => have := LMc3.out; omega); intro v245 w4 ho hb hg hat; rw [← Ny244.out] at ho; have n0_ := AM hb; have n1_ := AM ho; clear HB; clear HO_4; have HB := n0_; have HO246 := n1_; clear n0_ n1_; clear ho hb hg hat))
     go_roundg k1
     case measure => have := HK1.out; omega
     case rel => exact ⟨(x3_1 / 128), (y244), re_, H', ⟨by have := HK1.out; omega⟩, ⟨ro_ HO246.out⟩, ⟨bel_⟩⟩
    ·
     rw [if_neg c3] at H
     exact absurd H (by simp)
   ·
    rw [if_neg c2] at H
    have c2b0 : decide (127 < x3_1) = false := decide_eq_false c2
    clear c2
    by_cases c5 : x4_1.length < 140737488355328
    ·
     rw [if_pos c5] at H
     have LMc5 := AM c5
     clear c5
     obtain ⟨y247, hy247⟩ : ∃ y_ : List Int, y_ = (x4_1 ++ [(x3_1) % 256]) := ⟨_, rfl⟩
     replace H : (some (strOfNums y247)) = some r := hy_ hy247 H
     have Ny247 := AM hy247
     clear hy247
     obtain rfl := Option.some.inj H
     go_wp2_with (first | ((with_reducible refine ye_ (b := .append) (xs := #[.tmp 23, .tmp 26]) rfl ?_); at_builtin; refine Kd.y7_ (Kd.int .u8) (w0 := w) w.heap.size rfl (.tmp 23) (.tmp 26) 29 5 (.int .u8 0) 1 rfl Tryd.underlying29 info5 rfl (by decide) (by omega) u4 x4_1 ((x3_1) % 256) [.int .u8 ((x3_1) % 256)] (fun _ => True) (fun _ => False) rfl rfl ?aP (fun _ hk => hk.elim) ?aF ?aO ?aB ?aS ?aL ?_; (case aP => exact rfl); (case aB => exact bel_); (case aF => exact (fun _ _ => trivial)); (case aO => exact (ro_ HO_4.out)); (case aS => exact (zf_ bel_)); (case aL => have := LMc5.out; omega); intro v248 w6 ho hb hg hat; rw [← Ny247.out] at ho; have n0_ := AM hb; have n1_ := AM ho; clear HB; clear HO_4; have HB := n0_; have HO249 := n1_; clear n0_ n1_; clear ho hb hg hat; have hcv7 := yF_ (P := Tryd.prog) Tryd.underlying29 Tryd.underlying5 Tryd.underlying9 (Kd.yL_ HO249.out)))
     go_ret
     exact ⟨ri_, bel_⟩
    ·
     rw [if_neg c5] at H
     exact absurd H (by simp)
/-! ### zO_: function 88 -/
def zO_.f (k : Nat) (a0_0 : Int) (a0_1 : ByteArray) : Option (ByteArray) := (zS_.f k a0_0).bind fun t251 => (if t251.size + a0_1.size ≤ 9223372036854775807 then ((yW_.f (t251 ++ a0_1)).bind fun t252 => (some t252)) else (none))
theorem zO_.mono : ∀ a0 a1 k, LeO (zO_.f k a0 a1) (zO_.f (k + 1) a0 a1) := by
 intro a0 a1 k
 unfold zO_.f
 repeat' with_reducible first | exact zS_.mono _ _ | exact LeO.refl _ | exact LeO.none _ | refine LeO.ite ?_ ?_ | refine LeO.bind ?_ (fun _ => ?_)
def zO_.T1 : Bool × List (List Nat × List Nat) := (true, [([], []), ([0], [0]), ([1], [1]), ([], []), ([3], [3]), ([2, 4], [2, 4]), ([5, 2], [5]), ([6, 6, 0, 1, 2, 3, 4, 5, 6], [6])])
def zO_.B1 : List Nat := [0, 1, 3, 0, 8, 31, 63, 127]
theorem zO_.tab1 : rtab .any (opsOf Tryd.f88 1) = zO_.T1 := by kernel_rfl
theorem zO_.bits1 : yR_ zO_.T1.2 zO_.B1 = true := by kernel_rfl
theorem zO_.calls (k : Nat) (a0_0 : Int) (a0_1 : ByteArray) (r : ByteArray) (w : World) (h : zO_.f k a0_0 a0_1 = some r) (hL : Hand.LaidG w := by first | exact hL | exact Hand.LaidG.below hL bel_) :
 Calls Tryd.prog 88 #[.agg #[.int .i64 a0_0, .string a0_1]] w fun e w' => e = .returned (.string r) ∧ Below w.heap.size w w' := by
 have hu60 := Tryd.underlying60
 have HB := AM (Below.refl w.heap.size w)
 have H : ((zS_.f k a0_0).bind fun t251 => (if t251.size + a0_1.size ≤ 9223372036854775807 then ((yW_.f (t251 ++ a0_1)).bind fun t252 => (some t252)) else (none))) = some r := h
 clear h
 obtain ⟨t251, A2, H⟩ := OB H
 try dsimp only at H
 replace A2 := AM A2
 by_cases c3 : t251.size + a0_1.size ≤ 9223372036854775807
 ·
  rw [if_pos c3] at H
  have c3b0 := eq_true c3
  have c3b1 : decide (t251.size + a0_1.size ≤ 9223372036854775807) = true := decide_eq_true c3
  try have c3b2 : (9223372036854775807 < t251.size + a0_1.size) = False := eq_false (Nat.not_lt.2 c3)
  obtain ⟨t252, A4, H⟩ := OB H
  try dsimp only at H
  replace A4 := AM A4
  obtain rfl := Option.some.inj H
  go_enter Tryd.func88, Tryd.ntmps88
  try go_wp2_with (first | ((with_reducible refine zy_ (N := 1) rfl ?_); refine be_ 1 #[.int .i64 a0_0, .string a0_1] 60 ?_; intro gb250 hg w5 hbox hb; have BK250 := AM hbox; have GW250 := AM ((by rw [hg]; exact (zf_ bel_) : w.heap.size ≤ gb250)); have GE250 := AM ((by rw [hg]; exact (zf_ bel_) : w.heap.size ≤ gb250)); replace HB := AM (zc_ bel_ hb); clear hb hbox hg))
  replace BK250 := AM (zN_ BK250.out)
  replace HB := AM (zF_ HB.out)
  refine yU_ (n := 8) (S := fun w' => w'.cell? ⟨gb250, 0, none⟩ = some (.int .i64 a0_0) ∧ w'.cell? ⟨gb250, 1, none⟩ = some (.string a0_1)) (ds := []) #[false, false, false, false, false, false, false, false] (by kernel_rfl) rfl rfl ⟨(zb_ BK250.out 0).trans rfl, (zb_ BK250.out 1).trans rfl⟩ (fun hHeld => ?_); refine yx_ zO_.tab1 zO_.bits1 (fun HT_ HW_ => ?_)
  generalize w5.drew = w6 at BK250 HB hHeld ⊢
  refine pu_ HT_ 0 (some 3) (bA 8 1) ?_
  refine pu_ HT_ 3 (some 6) (bA 8 9) ?_
  refine ta_ HT_ HW_ 1 (some 4) (bA 8 11) hHeld ?_
  refine ta_ HT_ HW_ 4 (some 7) (bA 8 27) hHeld ?_
  refine on_ HT_ 2 (some 5) (bA 8 31) (fun K hK => ?_)
  refine go1_ Tryd.func123 #[.int .i64 a0_0] ?_
  with_reducible refine (zS_.calls k a0_0 t251 _ A2.out).mono ?_
  rintro e w7 ⟨rfl, hb⟩
  refine ⟨_, rfl, ?_⟩
  replace BK250 := AM (zh_ (g := gb250) (o := .cells #[.int .i64 a0_0, .string a0_1] 60 (0, 0)) (bk_ BK250.out) hb)
  replace HB := AM (zc_ bel_ hb)
  (try clear hb)
  refine hK.out _ _ ⟨(zb_ BK250.out 0).trans rfl, (zb_ BK250.out 1).trans rfl⟩ (fun hHeld => ?_)
  clear hK K
  refine nm_ ?_
  refine pu_ HT_ 5 (some 8) (bA 8 63) ?_
  refine on_ HT_ 6 (some 9) (bA 8 127) (fun K hK => ?_)
  refine go1_ Tryd.func54 #[.string (t251 ++ a0_1)] ?_
  with_reducible refine (yW_.calls (t251 ++ a0_1) t252 _ A4.out).mono ?_
  rintro e w8 ⟨rfl, hb⟩
  refine ⟨_, rfl, ?_⟩
  replace BK250 := AM (zh_ (g := gb250) (o := .cells #[.int .i64 a0_0, .string a0_1] 60 (0, 0)) (bk_ BK250.out) hb)
  replace HB := AM (zc_ bel_ hb)
  (try clear hb)
  refine hK.out _ _ ⟨(zb_ BK250.out 0).trans rfl, (zb_ BK250.out 1).trans rfl⟩ (fun hHeld => ?_)
  clear hK K
  refine nm_ ?_
  refine pu_ HT_ 7 (some 2) (bA 8 255) ?_
  refine dn_ HT_ ?_
  try go_wp2
  go_ret
  exact ⟨ri_, bel_⟩
 ·
  rw [if_neg c3] at H
  exact absurd H (by simp)
/-! ### impl_Blob: function 93 -/
def impl_Blob.f (l0 : List (S60)) : Option (Int) := some (l0.length : Int)
theorem impl_Blob.calls (A0 : Option Addr) (c0 : Nat) (l0 : List (S60)) (r : Int) (w : World) (hr0 : Kd.C k60 w A0 l0.length l0) (hc0 : l0.length ≤ c0) (h : impl_Blob.f l0 = some r) :
 Calls Tryd.prog 93 #[.slice A0 l0.length c0] w fun e w' => e = .returned (.int .i64 r) ∧ yO_ w w' := by
 have HR0 := AM hr0
 have HC0 := AM hc0
 clear hr0 hc0
 have H : (some (l0.length : Int)) = some r := h
 clear h
 obtain rfl := Option.some.inj H
 go_enter Tryd.func93, Tryd.ntmps93
 go_wp2
 go_ret
 exact ⟨re_, dr_⟩
/-! ### yy_: function 124 -/
def yy_.f (k : Nat) (a0 : ByteArray) : Option (ByteArray) := (z6_.f a0).bind fun t253 => ((zS_.f k t253).bind fun t254 => (if t254.size + a0.size ≤ 9223372036854775807 then (some (t254 ++ a0)) else (none)))
theorem yy_.mono : ∀ a0 k, LeO (yy_.f k a0) (yy_.f (k + 1) a0) := by
 intro a0 k
 unfold yy_.f
 repeat' with_reducible first | exact zS_.mono _ _ | exact LeO.refl _ | exact LeO.none _ | refine LeO.ite ?_ ?_ | refine LeO.bind ?_ (fun _ => ?_)
theorem yy_.calls (k : Nat) (a0 : ByteArray) (r : ByteArray) (w : World) (h : yy_.f k a0 = some r) :
 Calls Tryd.prog 124 #[.string a0] w fun e w' => e = .returned (.string r) ∧ Below w.heap.size w w' := by
 have HB := AM (Below.refl w.heap.size w)
 have H : ((z6_.f a0).bind fun t253 => ((zS_.f k t253).bind fun t254 => (if t254.size + a0.size ≤ 9223372036854775807 then (some (t254 ++ a0)) else (none)))) = some r := h
 clear h
 obtain ⟨t253, A2, H⟩ := OB H
 try dsimp only at H
 replace A2 := AM A2
 obtain ⟨t254, A3, H⟩ := OB H
 try dsimp only at H
 replace A3 := AM A3
 by_cases c4 : t254.size + a0.size ≤ 9223372036854775807
 ·
  rw [if_pos c4] at H
  have c4b0 := eq_true c4
  have c4b1 : decide (t254.size + a0.size ≤ 9223372036854775807) = true := decide_eq_true c4
  try have c4b2 : (9223372036854775807 < t254.size + a0.size) = False := eq_false (Nat.not_lt.2 c4)
  obtain rfl := Option.some.inj H
  go_enter Tryd.func124, Tryd.ntmps124
  go_wp2_with (first | ((with_reducible refine zg_ (f := 42) rfl ?_); refine gl_ (some 4) Tryd.func42 #[.string a0] ?_; (with_reducible refine (z6_.calls a0 t253 _ A2.out).mono ?_); rintro e w' ⟨rfl, ⟨nd, rfl⟩⟩; refine ⟨_, rfl, ?_⟩) | ((with_reducible refine zg_ (f := 123) rfl ?_); refine gl_ (some 5) Tryd.func123 #[.int .i64 t253] ?_; (with_reducible refine (zS_.calls k t253 t254 _ A3.out).mono ?_); rintro e w5 ⟨rfl, hb⟩; refine ⟨_, rfl, ?_⟩; replace HB := AM (zc_ bel_ hb); (try clear hb)))
  go_ret
  exact ⟨ri_, bel_⟩
 ·
  rw [if_neg c4] at H
  exact absurd H (by simp)
end Go.Proofs.YtfffdndeccipnaaDoor.PFnPack
