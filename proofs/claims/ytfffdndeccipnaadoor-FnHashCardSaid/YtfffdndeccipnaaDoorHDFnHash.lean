/- The digest's functions of the program, walked by hand. No statement is proved here. -/
import Derived.Test.YtfffdndeccipnaaDoorHAFnHash
namespace Go.Proofs.YtfffdndeccipnaaDoor.Hand
open Go.RowKit Go.Proofs.YtfffdndeccipnaaDoorW.PrintWords Go.Proofs.YtfffdndeccipnaaDoorW.PrintLast Go.Proofs.YtfffdndeccipnaaDoorW.PrintMore Go.Proofs.YtfffdndeccipnaaDoor.Reg Go.Proofs.YtfffdndeccipnaaDoor.Aut
set_option linter.unusedVariables false
set_option linter.unusedSimpArgs false
theorem or_comm32 (a b : Int) : Go.bits .or .u32 a b = Go.bits .or .u32 b a := by
  show IntKind.u32.wrap ((BitVec.ofInt 32 a ||| BitVec.ofInt 32 b).toNat : Int) = IntKind.u32.wrap ((BitVec.ofInt 32 b ||| BitVec.ofInt 32 a).toNat : Int)
  rw [BitVec.or_comm]
theorem or_nat32 (a b : Nat) (ha : a < 4294967296) (hb : b < 4294967296) : Go.bits .or .u32 (a : Int) (b : Int) = ((a ||| b : Nat) : Int) := by
  have hx : a ||| b < 2 ^ 32 := Nat.or_lt_two_pow (by omega) (by omega)
  have h1 : (BitVec.ofInt 32 (a : Int)).toNat = a := by
    rw [BitVec.ofInt_natCast, BitVec.toNat_ofNat]; exact Nat.mod_eq_of_lt (by omega)
  have h2 : (BitVec.ofInt 32 (b : Int)).toNat = b := by
    rw [BitVec.ofInt_natCast, BitVec.toNat_ofNat]; exact Nat.mod_eq_of_lt (by omega)
  show IntKind.u32.wrap ((BitVec.ofInt 32 (a : Int) ||| BitVec.ofInt 32 (b : Int)).toNat : Int) = _
  rw [BitVec.toNat_or, h1, h2, IntKind.wrap_u32]
  omega
/-- or of what does not overlap is the sum. -/
theorem or_add32 (i : Nat) (a b : Int) (ha : 0 ≤ a) (hb : 0 ≤ b) (hbi : b < 2 ^ i) (h : a * 2 ^ i + b < 4294967296) : Go.bits .or .u32 (a * 2 ^ i) b = a * 2 ^ i + b := by
  obtain ⟨x, rfl⟩ := Int.eq_ofNat_of_zero_le ha
  obtain ⟨y, rfl⟩ := Int.eq_ofNat_of_zero_le hb
  have e : ((x : Int) * 2 ^ i) = ((x * 2 ^ i : Nat) : Int) := by simp
  rw [e] at h ⊢
  have h1 : y < 2 ^ i := by
    have : ((2 ^ i : Nat) : Int) = (2 : Int) ^ i := by simp
    omega
  have h3 : x * 2 ^ i + y < 4294967296 := by omega
  rw [or_nat32 _ _ (by omega) (by omega), ← Nat.shiftLeft_eq, ← Nat.shiftLeft_add_eq_or_of_lt h1]
  simp
theorem bt_rng (s : ByteArray) (i : Int) : 0 ≤ bt s i ∧ bt s i ≤ 255 := by
  unfold bt
  split
  · rename_i h
    have := (s[i.toNat]'h).toNat_lt
    omega
  · omega
theorem w4_eq (b : ByteArray) (i : Nat) (j : Int) (hj : j = ((4 * i : Nat) : Int)) : Go.bits .or .u32 (Go.bits .or .u32 (Go.bits .or .u32 ((bt b j % 4294967296) * 16777216 % 4294967296) ((bt b (j + 1) % 4294967296) * 65536 % 4294967296)) ((bt b (j + 2) % 4294967296) * 256 % 4294967296)) (bt b (j + 3) % 4294967296) = w4 b i 4 := by
  subst hj
  obtain ⟨p0, q0⟩ := bt_rng b ((4 * i : Nat) : Int)
  obtain ⟨p1, q1⟩ := bt_rng b (((4 * i : Nat) : Int) + 1)
  obtain ⟨p2, q2⟩ := bt_rng b (((4 * i : Nat) : Int) + 2)
  obtain ⟨p3, q3⟩ := bt_rng b (((4 * i : Nat) : Int) + 3)
  unfold w4 w4 w4 w4 w4
  rw [show ((4 * i + 0 : Nat) : Int) = ((4 * i : Nat) : Int) by simp, show ((4 * i + 1 : Nat) : Int) = ((4 * i : Nat) : Int) + 1 by omega, show ((4 * i + 2 : Nat) : Int) = ((4 * i : Nat) : Int) + 2 by omega, show ((4 * i + 3 : Nat) : Int) = ((4 * i : Nat) : Int) + 3 by omega]
  generalize bt b ((4 * i : Nat) : Int) = a at *
  generalize bt b (((4 * i : Nat) : Int) + 1) = c at *
  generalize bt b (((4 * i : Nat) : Int) + 2) = d at *
  generalize bt b (((4 * i : Nat) : Int) + 3) = e at *
  have e1 : a % 4294967296 = a := by omega
  have e2 : c % 4294967296 = c := by omega
  have e3 : d % 4294967296 = d := by omega
  have e4 : e % 4294967296 = e := by omega
  rw [e1, e2, e3, e4]
  have f1 : a * 16777216 % 4294967296 = a * 2 ^ 24 := by omega
  have f2 : c * 65536 % 4294967296 = c * 65536 := by omega
  have f3 : d * 256 % 4294967296 = d * 256 := by omega
  rw [f1, f2, f3, or_add32 24 a (c * 65536) p0 (by omega) (by omega) (by omega)]
  rw [show a * 2 ^ 24 + c * 65536 = (a * 256 + c) * 2 ^ 16 by omega, or_add32 16 (a * 256 + c) (d * 256) (by omega) (by omega) (by omega) (by omega)]
  rw [show (a * 256 + c) * 2 ^ 16 + d * 256 = (a * 65536 + c * 256 + d) * 2 ^ 8 by omega, or_add32 8 (a * 65536 + c * 256 + d) e (by omega) (by omega) (by omega) (by omega)]
  rw [show (0 : Int) * 256 % 4294967296 = 0 * 2 ^ 8 by decide, or_add32 8 0 a (by omega) (by omega) (by omega) (by omega)]
  rw [show (0 * 2 ^ 8 + a) * 256 % 4294967296 = a * 2 ^ 8 by omega, or_add32 8 a c (by omega) (by omega) (by omega) (by omega)]
  rw [show (a * 2 ^ 8 + c) * 256 % 4294967296 = (a * 256 + c) * 2 ^ 8 by omega, or_add32 8 _ d (by omega) (by omega) (by omega) (by omega)]
  rw [show ((a * 256 + c) * 2 ^ 8 + d) * 256 % 4294967296 = (a * 65536 + c * 256 + d) * 2 ^ 8 by omega, or_add32 8 _ e (by omega) (by omega) (by omega) (by omega)]
theorem turn_ok (x : Int) (n : Int) (h : n = 7 ∨ n = 18 ∨ n = 17 ∨ n = 19 ∨ n = 6 ∨ n = 11 ∨ n = 25 ∨ n = 2 ∨ n = 13 ∨ n = 22) : spec_l05Turn.f x n = some (rr x n) := by
  have k : Go.bits .and .u64 (IntKind.u64.wrap (wrap64 (-n))) 31 = 32 - n ∧ IntKind.u64.wrap (32 - n) = 32 - n ∧ IntKind.u64.wrap (32 - (32 - n)) = n ∧ 0 ≤ n ∧ 0 ≤ 32 - n := by
    rcases h with rfl | rfl | rfl | rfl | rfl | rfl | rfl | rfl | rfl | rfl <;> decide +kernel
  obtain ⟨k1, k2, k3, k4, k5⟩ := k
  unfold spec_l05Turn.f rr
  rw [k1, k2, k3, if_pos k4, if_pos k5, or_comm32]
set_option maxHeartbeats 8000000 in
set_option maxRecDepth 100000 in
theorem turn_s (a0 : Int) (a1 : Int) (r : Int) (w : World) (h : spec_l05Turn.f a0 a1 = some r) :
    Calls Tryd.prog 126 #[.int .u32 a0, .int .u64 a1] w fun e w' => e = .returned (.int .u32 r) ∧ w' = w := by
  have H : (if 0 ≤ a1 then (if 0 ≤ (IntKind.u64.wrap (32 - a1)) then (some (Go.bits .or .u32 (shr .u32 a0 a1) (shl .u32 a0 (IntKind.u64.wrap (32 - a1))))) else (none)) else (none)) = some r := h
  clear h
  by_cases c3 : 0 ≤ a1
  · rw [if_pos c3] at H
    have c3b0 := eq_true c3
    have c3b1 : decide (0 ≤ a1) = true := decide_eq_true c3
    clear c3
    obtain ⟨ji4, hji4⟩ : ∃ j_ : Int, (shr .u32 a0 a1) = j_ := ⟨_, rfl⟩
    replace H : (if 0 ≤ (IntKind.u64.wrap (32 - a1)) then (some (Go.bits .or .u32 (ji4) (shl .u32 a0 (IntKind.u64.wrap (32 - a1))))) else (none)) = some r := by first | (rw [hji4] at H; exact H) | (simp only [hji4] at H ⊢; exact H)
    have hji4_ : (a0 / 2 ^ min a1.toNat 32) = ji4 := hji4
    have hji4z : a1 ≤ 32 → (a0 / 2 ^ a1.toNat) = ji4 := shr_small hji4
    obtain ⟨ji5, hji5⟩ : ∃ j_ : Int, (IntKind.u64.wrap (32 - a1)) = j_ := ⟨_, rfl⟩
    replace H : (if 0 ≤ (ji5) then (some (Go.bits .or .u32 (ji4) (shl .u32 a0 (ji5)))) else (none)) = some r := by first | (rw [hji5] at H; exact H) | (simp only [hji5] at H ⊢; exact H)
    by_cases c6 : 0 ≤ (ji5)
    · rw [if_pos c6] at H
      have c6b0 := eq_true c6
      have c6b1 : decide (0 ≤ (ji5)) = true := decide_eq_true c6
      clear c6
      obtain ⟨ji7, hji7⟩ : ∃ j_ : Int, (shl .u32 a0 (ji5)) = j_ := ⟨_, rfl⟩
      replace H : (some (Go.bits .or .u32 (ji4) (ji7))) = some r := by first | (rw [hji7] at H; exact H) | (simp only [hji7] at H ⊢; exact H)
      have hji7_ : (IntKind.u32.wrap (a0 * 2 ^ min (ji5).toNat 32)) = ji7 := hji7
      have hji7z : (ji5) ≤ 32 → (IntKind.u32.wrap (a0 * 2 ^ (ji5).toNat)) = ji7 := shl_small hji7
      obtain rfl := Option.some.inj H
      go_enter Tryd.func126, Tryd.ntmps126
      go_wp2
      go_ret
      exact ⟨by first | rfl | (simp; done) | (simp only [← hji4, ← hji5, ← hji7] <;> (first | rfl | simp)) | (simp [*]; done), rfl⟩
    · rw [if_neg c6] at H
      exact absurd H (by simp)
  · rw [if_neg c3] at H
    exact absurd H (by simp)
theorem turn_w (x : Int) (n : Int) (h : n = 7 ∨ n = 18 ∨ n = 17 ∨ n = 19 ∨ n = 6 ∨ n = 11 ∨ n = 25 ∨ n = 2 ∨ n = 13 ∨ n = 22) (w : World) : Calls Tryd.prog 126 #[.int .u32 x, .int .u64 n] w fun e w' => e = .returned (.int .u32 (rr x n)) ∧ w' = w := turn_s x n _ w (turn_ok x n h)
/-- a slice of numbers of the call's own. -/
def RU (w : World) (base g n cap : Nat) (xs : List Int) : Prop := Kd.R (Kd.int .u32) 76 w base (fun _ => True) (.slice (some ⟨g, 0, none⟩) n cap) xs
theorem RU.cell {w : World} {base g n cap : Nat} {xs : List Int} (h : RU w base g n cap xs) (i : Nat) (hi : i < n) : w.cell? ⟨g, i, none⟩ = some (.int .u32 (xs.getD i 0)) := (Kd.R_celln 0 h (i : Int) (by omega) (by omega)).1
theorem RU.frozen {w : World} {base g n cap : Nat} {xs : List Int} (h : RU w base g n cap xs) (i : Nat) (hi : i < n) : w.frozen? ⟨g, i, none⟩ = false := (Kd.R_celln 0 h (i : Int) (by omega) (by omega)).2
theorem RU.put {w : World} {base g n cap : Nat} {xs : List Int} (h : RU w base g n cap xs) (i : Nat) (x : Int) : RU (w.setCell ⟨g, i, none⟩ (.int .u32 x)) base g n cap (xs.set i x) := Kd.R_putn h (i : Int) x
theorem RU.drew {w : World} {base g n cap : Nat} {xs : List Int} (h : RU w base g n cap xs) : RU w.drew base g n cap xs := Kd.R_drew h
theorem RU.drewN {w : World} {base g n cap : Nat} {xs : List Int} (h : RU w base g n cap xs) (k : Nat) : RU (w.drewN k) base g n cap xs := Kd.R_drewN h k
/-- the state that the caller handed in. -/
def Src (w : World) (ad : Addr) (l : List Int) : Prop := ∀ i : Nat, i < 8 → w.cell? (ad.add i) = some (.int .i64 (l.getD i 0))
theorem Src.below {w W : World} {ad : Addr} {l : List Int} (h : Src w ad l) (hb : Below w.heap.size w W) : Src W ad l := fun i hi => (hb.cell (World.block_lt_of_cell? w _ (h i hi))).trans (h i hi)
theorem sumw (A C : Int) : wrap64 (IntKind.u32.wrap (IntKind.u32.wrap A + C)) = (A % 4294967296 + C) % 4294967296 := by
  rw [IntKind.wrap_u32, IntKind.wrap_u32]
  unfold wrap64
  omega
theorem m1 (a b : Int) : (a % 4294967296 + b) % 4294967296 = (a + b) % 4294967296 := by omega
theorem m2 (a b : Int) : (a + b % 4294967296) % 4294967296 = (a + b) % 4294967296 := by omega
/-- the block's answer, built up. -/
def outK (S T : List Int) : Nat → List Int
  | 0 => []
  | i + 1 => outK S T i ++ [(S.getD i 0 + T.getD i 0) % 4294967296]
theorem outK_length (S T : List Int) : ∀ i, (outK S T i).length = i
  | 0 => rfl
  | i + 1 => by rw [outK, List.length_append, outK_length S T i]; rfl
theorem outK_eq (S T : List Int) (hS : S.length = 8) (hT : T.length = 8) : outK S T 8 = addAll S T 8 := by
  obtain ⟨a, b, c, d, e, f, g, h, rfl⟩ := eight S hS
  obtain ⟨a', b', c', d', e', f', g', h', rfl⟩ := eight T hT
  rfl
def T33 : Bool × List (List Nat × List Nat) := (true, [([], []), ([], []), ([], []), ([1, 2], [1, 2]), ([3], [3]), ([4], [4]), ([], []), ([], []), ([6, 7], [6, 7]), ([8], [8]), ([5, 9], [5, 9]), ([10], [10]), ([11], [11]), ([0, 12], [0, 12]), ([13, 13, 0, 1, 2, 3, 4, 5, 6, 7, 8, 9, 10, 11, 12, 13], [0, 13])])
def B33 : List Nat := [0, 0, 0, 6, 14, 30, 0, 0, 192, 448, 1022, 2046, 4094, 8191, 16383]
theorem tab33 : rtab .any (opsOf Tryd.f99 33) = T33 := by kernel_rfl
theorem bits33 : waitsOk T33.2 B33 = true := by kernel_rfl
set_option maxHeartbeats 4000000 in
set_option maxRecDepth 100000 in
theorem block_calls (A0 : Option Addr) (c0 : Nat) (s0 s1 s2 s3 s4 s5 s6 s7 : Int) (b : ByteArray) (w : World) (hr0 : Kd.C (Kd.int .i64) w A0 8 [s0, s1, s2, s3, s4, s5, s6, s7]) (hb : b.size = 64) :
    Calls Tryd.prog 99 #[.slice A0 8 c0, .string b] w fun e w' => ∃ v0_ : Value, e = .returned v0_ ∧ Kd.R (Kd.int .i64) 2 w' w.heap.size (fun _ => True) v0_ (takenL [s0 % 4294967296, s1 % 4294967296, s2 % 4294967296, s3 % 4294967296, s4 % 4294967296, s5 % 4294967296, s6 % 4294967296, s7 % 4294967296] b) ∧ Below w.heap.size w w' := by
  obtain ⟨ad, rfl, hc0⟩ := Kd.at_int hr0 0 (by omega) (by omega)
  have SRC : Aside0 (Src w ad [s0, s1, s2, s3, s4, s5, s6, s7]) := ⟨by
    intro i hi
    obtain ⟨ad', e, h⟩ := Kd.at_int hr0 (i : Int) (by omega) (by omega)
    injection e with e
    subst e
    exact h⟩
  have HBS := AM hb
  clear hr0 hb hc0
  go_enter Tryd.func99, Tryd.ntmps99
  have HB0 := AM (Below.refl w.heap.size w)
  go_wp2_with (((with_reducible refine gate_dst (N := 25) rfl ?_); refine Kd.R_make (Kd.int .u32) _ 76 rfl (N := 25) rfl 140 _ _ rfl 64 rfl rfl Tryd.underlying140 (.int .u32 0) 4 info76 rfl (by decide) (by omega) 0 (ok := fun _ => True) (okp := fun _ => True) rfl (fun _ hk => hk) trivial (by omega) (by omega) HB0.out (Nat.le_refl _) ?_; intro v105 w1 ho5 hb hg_ hnew_; clear hg_ hnew_; have HO5 := AM ho5; have HB := AM hb; clear ho5 hb HB0; obtain ⟨g, cap, ev, hge, _, _⟩ := Kd.R_form HO5.out (by decide); have HGE := AM hge; clear hge; subst ev))
  have R5 : Aside0 (RU w1 w.heap.size g 64 cap (wAll b 0)) := ⟨HO5.out⟩
  clear HO5
  have NG := AM HGE.out
  clear HGE
  go_loopg [6] (16 : Nat) (fun (q : Nat) v6 w' => ∃ (x : Int) (i : Nat), i + q = 16 ∧ v6 = .int .i64 x ∧ Aside0 (x = (i : Int)) ∧ Aside0 (RU w' w.heap.size g 64 cap (wAll b i)) ∧ Aside0 (Below w.heap.size w w'))
  case atStart => exact ⟨0, 0, by omega, rfl, ⟨rfl⟩, R5, HB⟩
  case round =>
    clear R5 HB
    obtain ⟨x, i, hi, rfl, HX, R5, HB⟩ := hrel
    have HI := AM hi
    clear hi
    by_cases c1 : i < 16
    · have x1 : decide (x < 16) = true := decide_eq_true (by have := HX.out; omega)
      have C1 := AM c1
      clear c1
      obtain ⟨j0, hj0⟩ : ∃ j, IntKind.i64.wrap (4 * x) = j := ⟨_, rfl⟩
      have J0 : Aside0 (j0 = ((4 * i : Nat) : Int)) := ⟨by have h1 := C1.out; rw [← hj0, HX.out, IntWalk.i64_in (4 * (i : Int)) (by omega)]; omega⟩
      have cell : ∀ (n : Int) (m : Nat), (n = 1 ∧ m = 1) ∨ (n = 2 ∧ m = 2) ∨ (n = 3 ∧ m = 3) → ∃ j : Int, IntKind.i64.wrap (j0 + n) = j ∧ (0 ≤ j) = True ∧ (j < (b.size : Int)) = True ∧ (∀ h : j.toNat < b.size, ((b[j.toNat]'h).toNat : Int) = bt b j) ∧ Aside0 (j = j0 + n) := by
        intro n m hnm
        have h1 := C1.out
        have h2 := HBS.out
        refine ⟨j0 + n, ?_, eq_true (by rw [J0.out]; omega), eq_true (by rw [J0.out]; omega), bt_at b _, ⟨rfl⟩⟩
        rw [J0.out, IntWalk.i64_in _ (by omega)]
      obtain ⟨j1, h1, p1, q1, b1, J1⟩ := cell 1 1 (by simp)
      obtain ⟨j2, h2, p2, q2, b2, J2⟩ := cell 2 2 (by simp)
      obtain ⟨j3, h3, p3, q3, b3, J3⟩ := cell 3 3 (by simp)
      have p0 : (0 ≤ j0) = True := eq_true (by rw [J0.out]; omega)
      have q0 : (j0 < (b.size : Int)) = True := eq_true (by rw [J0.out, HBS.out]; have := C1.out; omega)
      have b0 := bt_at b j0
      have px : (0 ≤ x) = True := eq_true (by rw [HX.out]; omega)
      have qx : (x < 64) = True := eq_true (by rw [HX.out]; have := C1.out; omega)
      have hx : wr.cell? ⟨g, x.toNat, none⟩ = some (.int .u32 ((wAll b i).getD i 0)) := by
        rw [HX.out, Int.toNat_natCast]; exact R5.out.cell i (by have := C1.out; omega)
      have hf : wr.frozen? ⟨g, x.toNat, none⟩ = false := by
        rw [HX.out, Int.toNat_natCast]; exact R5.out.frozen i (by have := C1.out; omega)
      clear cell
      go_wp2
      go_region
      generalize hq : World.drew _ = w2
      have hxi : x.toNat = i := by rw [HX.out]; rfl
      have R5' : Aside0 (RU w2 w.heap.size g 64 cap (wAll b (i + 1))) := ⟨by
        have h := (R5.out.put i (w4 b i 4)).drew
        rw [wAll, if_pos C1.out]
        rw [← w4_eq b i j0 J0.out, ← J1.out, ← J2.out, ← J3.out] at h ⊢
        rw [← hq, hxi]
        exact h⟩
      have HB' : Aside0 (Below w.heap.size w w2) := ⟨by rw [← hq]; exact below_drew1 (below_set HB.out NG.out)⟩
      clear hq hx hf R5 HB hxi p0 q0 b0 p1 q1 b1 p2 q2 b2 p3 q3 b3 px qx hj0 h1 h2 h3 J1 J2 J3 J0
      go_wp2
      go_roundg (15 - i)
      case measure => have := HI.out; have := C1.out; omega
      case rel => exact ⟨_, i + 1, (by have := HI.out; have := C1.out; omega), rfl, ⟨by first | exact nxtw x i HX.out (by have := C1.out; omega) | exact nxt x i HX.out (by have := C1.out; omega)⟩, R5', HB'⟩
    · have x1 : decide (x < 16) = false := decide_eq_false (by rw [HX.out]; omega)
      obtain rfl : i = 16 := by have := HI.out; omega
      clear c1
      go_wp2
      go_loopg [7] (48 : Nat) (fun (q : Nat) v7 w' => ∃ (x : Int) (i : Nat), 16 ≤ i ∧ i + q = 64 ∧ v7 = .int .i64 x ∧ Aside0 (x = (i : Int)) ∧ Aside0 (RU w' w.heap.size g 64 cap (wAll b i)) ∧ Aside0 (Below w.heap.size w w'))
      case atStart => exact ⟨16, 16, by omega, by omega, rfl, ⟨rfl⟩, R5, HB⟩
      case round =>
        clear R5 HB HI HX x1
        obtain ⟨x, i, h16, hi, rfl, HX, R5, HB⟩ := hrel
        have HI := AM (And.intro hi h16)
        clear hi h16
        by_cases c1 : i < 64
        · have x1 : decide (x < 64) = true := decide_eq_true (by have := HX.out; omega)
          have C1 : Aside0 (16 ≤ i ∧ i < 64) := ⟨by have := HI.out; omega⟩
          clear c1
          have cell : ∀ (n : Int) (m : Nat), (n = 15 ∧ m = 15) ∨ (n = 2 ∧ m = 2) ∨ (n = 16 ∧ m = 16) ∨ (n = 7 ∧ m = 7) → ∃ j : Int, IntKind.i64.wrap (x - n) = j ∧ (0 ≤ j) = True ∧ (j < 64) = True ∧ wr.cell? ⟨g, j.toNat, none⟩ = some (.int .u32 ((wAll b i).getD (i - m) 0)) := by
            intro n m hnm
            have h1 := C1.out
            refine ⟨((i - m : Nat) : Int), ?_, eq_true (by omega), eq_true (by omega), ?_⟩
            · rw [HX.out, IntWalk.i64_in _ (by omega)]; omega
            · rw [Int.toNat_natCast]; exact R5.out.cell _ (by omega)
          obtain ⟨ja, hja, pa, qa, ca⟩ := cell 15 15 (by simp)
          obtain ⟨jb, hjb, pb, qb, cb⟩ := cell 2 2 (by simp)
          obtain ⟨jc, hjc, pc, qc, cc⟩ := cell 16 16 (by simp)
          obtain ⟨jd, hjd, pd, qd, cd⟩ := cell 7 7 (by simp)
          have p2 : (0 ≤ x) = True := eq_true (by rw [HX.out]; omega)
          have q2 : (x < 64) = True := eq_true (by rw [HX.out]; have := C1.out; omega)
          have hf : wr.frozen? ⟨g, x.toNat, none⟩ = false := by
            rw [HX.out, Int.toNat_natCast]; exact R5.out.frozen i C1.out.2
          have hx : wr.cell? ⟨g, x.toNat, none⟩ = some (.int .u32 0) := by
            rw [HX.out, Int.toNat_natCast, R5.out.cell i C1.out.2, wAll_zero b i i (Nat.le_refl _)]
          clear cell
          generalize hA : (wAll b i).getD (i - 15) 0 = A at ca
          generalize hC : (wAll b i).getD (i - 2) 0 = C at cb
          generalize hG : (wAll b i).getD (i - 16) 0 = G at cc
          generalize hD : (wAll b i).getD (i - 7) 0 = D at cd
          have HA := AM hA
          have HC := AM hC
          have HG := AM hG
          have HD := AM hD
          clear hA hC hG hD
          go_wp2
          refine wp_region_still_tail 32 (by kernel_rfl) (by kernel_rfl) ?_
          simp only [List.take_succ_cons, List.take_zero, List.drop_succ_cons, List.drop_zero]
          repeat (first | still_step | still_call (turn_w _ _ (by simp) _))
          try refine wpStill_nil ?_
          change wpList _ _ _ _ _ wr.drew
          generalize hq : wr.drew = w3
          have R5' : Aside0 (RU w3 w.heap.size g 64 cap (wAll b i)) := ⟨by rw [← hq]; exact R5.out.drew⟩
          have HB' : Aside0 (Below w.heap.size w w3) := ⟨by rw [← hq]; exact below_drew1 HB.out⟩
          have hf3 : w3.frozen? ⟨g, x.toNat, none⟩ = false := by rw [← hq]; exact hf
          have hx3 : w3.cell? ⟨g, x.toNat, none⟩ = some (.int .u32 0) := by rw [← hq]; exact hx
          clear hq hf hx R5 HB ca cb cc cd hja hjb hjc hjd pa qa pb qb pc qc pd qd p2 q2
          go_wp2
          go_roundg (63 - i)
          case measure => have := HI.out; have := C1.out; omega
          case rel =>
            refine ⟨_, i + 1, (by have := HI.out; have := C1.out; omega), (by have := HI.out; have := C1.out; omega), rfl, ⟨by first | exact nxtw x i HX.out (by have := C1.out; omega) | exact nxt x i HX.out (by have := C1.out; omega)⟩, ?_, ?_⟩
            · constructor
              have hxi : x.toNat = i := by rw [HX.out]; rfl
              rw [hxi, wAll, if_neg (by have := C1.out; omega)]
              unfold wNext
              simp only [HA.out, HC.out, HG.out, HD.out]
              exact R5'.out.put i _
            · exact ⟨below_set HB'.out NG.out⟩
        · have x1 : decide (x < 64) = false := decide_eq_false (by rw [HX.out]; have := HI.out; omega)
          obtain rfl : i = 64 := by have := HI.out; omega
          clear c1
          have SW := AM (SRC.out.below HB.out)
          have d0 : wr.cell? ad = some (.int .i64 s0) := by have h := SW.out 0 (by omega); rw [Addr.add_zero'] at h; exact h
          have d1 : wr.cell? ⟨ad.block, ad.off + 1, none⟩ = some (.int .i64 s1) := by have h := SW.out 1 (by omega); rw [Addr.add_succ'] at h; exact h
          have d2 : wr.cell? ⟨ad.block, ad.off + 2, none⟩ = some (.int .i64 s2) := by have h := SW.out 2 (by omega); rw [Addr.add_succ'] at h; exact h
          have d3 : wr.cell? ⟨ad.block, ad.off + 3, none⟩ = some (.int .i64 s3) := by have h := SW.out 3 (by omega); rw [Addr.add_succ'] at h; exact h
          have d4 : wr.cell? ⟨ad.block, ad.off + 4, none⟩ = some (.int .i64 s4) := by have h := SW.out 4 (by omega); rw [Addr.add_succ'] at h; exact h
          have d5 : wr.cell? ⟨ad.block, ad.off + 5, none⟩ = some (.int .i64 s5) := by have h := SW.out 5 (by omega); rw [Addr.add_succ'] at h; exact h
          have d6 : wr.cell? ⟨ad.block, ad.off + 6, none⟩ = some (.int .i64 s6) := by have h := SW.out 6 (by omega); rw [Addr.add_succ'] at h; exact h
          have d7 : wr.cell? ⟨ad.block, ad.off + 7, none⟩ = some (.int .i64 s7) := by have h := SW.out 7 (by omega); rw [Addr.add_succ'] at h; exact h
          go_wp2
          go_quiet (fail)
          generalize hq : World.drewN _ _ = w4
          have CD : Aside0 (∀ p, w4.cell? p = wr.cell? p) := ⟨fun p => by rw [← hq]; rfl⟩
          have R5' : Aside0 (RU w4 w.heap.size g 64 cap (wAll b 64)) := ⟨by rw [← hq]; exact R5.out.drewN _⟩
          have HB' : Aside0 (Below w.heap.size w w4) := ⟨by rw [← hq]; exact pw_below_drewN HB.out _⟩
          rw [← CD.out] at d4 d5 d6 d7
          clear hq d0 d1 d2 d3 R5 HB CD SW x1 HX HI
          go_wp2
          go_quiet (fail)
          generalize hq : World.drewN _ _ = w5
          have R5 : Aside0 (RU w5 w.heap.size g 64 cap (wAll b 64)) := ⟨by rw [← hq]; exact R5'.out.drewN _⟩
          have HB : Aside0 (Below w.heap.size w w5) := ⟨by rw [← hq]; exact pw_below_drewN HB'.out _⟩
          clear hq d4 d5 d6 d7 R5' HB'
          go_wp2_with (go_at_call 127; refine (spec_l05Keys.calls rootsL _ rfl).mono ?_; rintro e w6 ⟨v126, rfl, ho0, hb⟩; obtain ⟨g2, cap2, ev2, hge2, _, _⟩ := Kd.R_form ho0 (by decide); replace ev2 : v126 = .slice (some ⟨g2, 0, none⟩) 64 cap2 := ev2; subst ev2; have R18 : Aside0 (RU w6 w.heap.size g2 64 cap2 rootsL) := ⟨Kd.R_lower ho0 HB.out.size⟩; have R5' : Aside0 (RU w6 w.heap.size g 64 cap (wAll b 64)) := ⟨Kd.R_below R5.out hb⟩; have HB' := AM (below_step HB.out hb); clear ho0 hb hge2 R5 HB)
          obtain ⟨S, hS⟩ : ∃ S : List Int, [s0 % 4294967296, s1 % 4294967296, s2 % 4294967296, s3 % 4294967296, s4 % 4294967296, s5 % 4294967296, s6 % 4294967296, s7 % 4294967296] = S := ⟨_, rfl⟩
          have HS := AM hS
          clear hS
          go_loopg [10, 11, 12, 13, 14, 15, 16, 17, 19] (64 : Nat) (fun (q : Nat) v10 v11 v12 v13 v14 v15 v16 v17 v19 w' => ∃ (x : Int) (i : Nat) (a b1 c d e f g1 h : Int), i + q = 64 ∧ v19 = .int .i64 x ∧ v10 = .int .u32 a ∧ v11 = .int .u32 b1 ∧ v12 = .int .u32 c ∧ v13 = .int .u32 d ∧ v14 = .int .u32 e ∧ v15 = .int .u32 f ∧ v16 = .int .u32 g1 ∧ v17 = .int .u32 h ∧ Aside0 (sAll (wAll b 64) S i = [a, b1, c, d, e, f, g1, h]) ∧ Aside0 (x = (i : Int)) ∧ Aside0 (RU w' w.heap.size g 64 cap (wAll b 64)) ∧ Aside0 (RU w' w.heap.size g2 64 cap2 rootsL) ∧ Aside0 (Below w.heap.size w w'))
          case atStart => exact ⟨0, 0, _, _, _, _, _, _, _, _, by omega, rfl, rfl, rfl, rfl, rfl, rfl, rfl, rfl, rfl, ⟨HS.out.symm⟩, ⟨rfl⟩, R5', R18, HB'⟩
          case round =>
            clear R5' R18 HB'
            obtain ⟨x, i, a, b1, c, d, e, f, g1, h, hi, rfl, rfl, rfl, rfl, rfl, rfl, rfl, rfl, rfl, ES, HX, R5, R18, HB⟩ := hrel
            have HI := AM hi
            clear hi
            by_cases c1 : i < 64
            · have x1 : decide (x < 64) = true := decide_eq_true (by have := HX.out; omega)
              have C1 := AM c1
              clear c1
              have p2 : (0 ≤ x) = True := eq_true (by rw [HX.out]; omega)
              have q2 : (x < 64) = True := eq_true (by rw [HX.out]; have := C1.out; omega)
              have cw : wr.cell? ⟨g, x.toNat, none⟩ = some (.int .u32 ((wAll b 64).getD i 0)) := by
                rw [HX.out, Int.toNat_natCast]; exact R5.out.cell i C1.out
              have cr : wr.cell? ⟨g2, x.toNat, none⟩ = some (.int .u32 (rootsL.getD i 0)) := by
                rw [HX.out, Int.toNat_natCast]; exact R18.out.cell i C1.out
              generalize hG : (wAll b 64).getD i 0 = G at cw
              generalize hD : rootsL.getD i 0 = D at cr
              have HG := AM hG
              have HD := AM hD
              clear hG hD
              have hsg : IntKind.signed .u32 = false := rfl
              have hmx : IntKind.max .u32 = 4294967295 := rfl
              go_wp2
              go_quiet ((first | (go_at_call 126; exact Calls.quiet_of_same (turn_w _ _ (by simp) _)) | (exact Calls.quiet_of_same (turn_w _ _ (by simp) _))))
              generalize hq : World.drewN _ _ = w7
              have R5' : Aside0 (RU w7 w.heap.size g 64 cap (wAll b 64)) := ⟨by rw [← hq]; exact R5.out.drewN _⟩
              have R18' : Aside0 (RU w7 w.heap.size g2 64 cap2 rootsL) := ⟨by rw [← hq]; exact R18.out.drewN _⟩
              have HB' : Aside0 (Below w.heap.size w w7) := ⟨by rw [← hq]; exact pw_below_drewN HB.out _⟩
              clear hq cw cr R5 R18 HB p2 q2
              go_wp2_with (go_at_call 126; refine (turn_w _ _ (by simp) _).mono ?_; rintro e w' ⟨rfl, rfl⟩)
              go_roundg (63 - i)
              case measure => have := HI.out; have := C1.out; omega
              case rel =>
                refine ⟨_, i + 1, _, _, _, _, _, _, _, _, (by have := HI.out; have := C1.out; omega), rfl, rfl, rfl, rfl, rfl, rfl, rfl, rfl, rfl, ?_, ⟨by first | exact nxtw x i HX.out (by have := C1.out; omega) | exact nxt x i HX.out (by have := C1.out; omega)⟩, R5', R18', HB'⟩
                constructor
                rw [sAll, ES.out, HD.out, HG.out]
                unfold rnd
                simp only [m1, m2]
            · have x1 : decide (x < 64) = false := decide_eq_false (by have := HX.out; omega)
              obtain rfl : i = 64 := by have := HI.out; omega
              clear c1
              go_wp2_with (first | ((with_reducible refine gate_dst (N := 214) rfl ?_); refine Kd.R_lit (Kd.int .u32) _ 76 ?hg (N := 214) ?hd (xs := ([a, b1, c, d, e, f, g1, h] : List Int)) (inner := [.int .u32 a, .int .u32 b1, .int .u32 c, .int .u32 d, .int .u32 e, .int .u32 f, .int .u32 g1, .int .u32 h]) (ok := fun _ => True) (okp := fun _ => True) ?hr ?hp (fun _ hk => hk) trivial (Below.refl _ _) (Nat.le_refl _) (by simp) ?_; (case hd => rfl); (case hg => rfl); (case hr => first | (go_simp; done) | (go_simp; rfl)); (case hp => exact (Reps.one (show Kd.M (Kd.int .u32) _ _ _ a [.int .u32 a] from rfl) (Reps.one (show Kd.M (Kd.int .u32) _ _ _ b1 [.int .u32 b1] from rfl) (Reps.one (show Kd.M (Kd.int .u32) _ _ _ c [.int .u32 c] from rfl) (Reps.one (show Kd.M (Kd.int .u32) _ _ _ d [.int .u32 d] from rfl) (Reps.one (show Kd.M (Kd.int .u32) _ _ _ e [.int .u32 e] from rfl) (Reps.one (show Kd.M (Kd.int .u32) _ _ _ f [.int .u32 f] from rfl) (Reps.one (show Kd.M (Kd.int .u32) _ _ _ g1 [.int .u32 g1] from rfl) (Reps.one (show Kd.M (Kd.int .u32) _ _ _ h [.int .u32 h] from rfl) (Reps.none _ _)))))))))); intro v137 w8 ho hb hg_ hnew_; clear hg_ hnew_; obtain ⟨g3, cap3, ev3, hge3, _, _⟩ := Kd.R_form ho (by simp); replace ev3 : v137 = .slice (some ⟨g3, 0, none⟩) 8 cap3 := ev3; subst ev3; have R22 : Aside0 (RU w8 w.heap.size g3 8 cap3 [a, b1, c, d, e, f, g1, h]) := ⟨Kd.R_lower ho HB.out.size⟩; have HB' := AM (below_step HB.out hb); clear ho hb hge3 HB R5 R18) | ((with_reducible refine gate_dst (N := 215) rfl ?_); refine Kd.R_lit (Kd.int .i64) _ 2 ?hg (N := 215) ?hd (xs := ([] : List Int)) (inner := []) (ok := fun _ => True) (okp := fun _ => True) ?hr ?hp (fun _ hk => hk) trivial (Below.refl _ _) (Nat.le_refl _) (by simp) ?_; (case hd => rfl); (case hg => rfl); (case hr => first | (go_simp; done) | (go_simp; rfl)); (case hp => exact (Reps.none _ _)); intro v140 w9 ho hb hg_ hnew_; clear hg_ hnew_; have R23 : Aside0 (Kd.R (Kd.int .i64) 2 w9 w.heap.size (fun _ => True) v140 []) := ⟨Kd.R_lower ho HB'.out.size⟩; have R22' : Aside0 (RU w9 w.heap.size g3 8 cap3 [a, b1, c, d, e, f, g1, h]) := ⟨Kd.R_below R22.out hb⟩; have HB := AM (below_step HB'.out hb); clear ho hb HB' R22))
              rw [← ES.out] at R22'
              obtain ⟨T, hT⟩ : ∃ T, sAll (wAll b 64) S 64 = T := ⟨_, rfl⟩
              have T8 : Aside0 (T.length = 8) := ⟨by rw [← hT, ES.out]; rfl⟩
              rw [hT] at R22'
              have HT := AM hT
              clear hT ES x1 HX HI
              go_loopg [23, 24] (8 : Nat) (fun (q : Nat) v23 v24 w' => ∃ (x : Int) (i : Nat), i + q = 8 ∧ v24 = .int .i64 x ∧ Aside0 (x = (i : Int)) ∧ Aside0 (RU w' w.heap.size g3 8 cap3 T) ∧ Aside0 (Kd.R (Kd.int .i64) 2 w' w.heap.size (fun _ => True) v23 (outK S T i)) ∧ Aside0 (Below w.heap.size w w'))
              case atStart => exact ⟨0, 0, by omega, rfl, ⟨rfl⟩, R22', R23, HB⟩
              case round =>
                clear R22' R23 HB
                obtain ⟨x, i, hi, rfl, HX, R22, R23, HB⟩ := hrel
                have HI := AM hi
                clear hi
                by_cases c1 : i < 8
                · have x1 : decide (x < 8) = true := decide_eq_true (by have := HX.out; omega)
                  have C1 := AM c1
                  clear c1
                  have p2 : (0 ≤ x) = True := eq_true (by rw [HX.out]; omega)
                  have q2 : (x < 8) = True := eq_true (by rw [HX.out]; have := C1.out; omega)
                  have ca : wr.cell? (ad.add x.toNat) = some (.int .i64 ([s0, s1, s2, s3, s4, s5, s6, s7].getD i 0)) := by
                    rw [HX.out, Int.toNat_natCast]; exact (SRC.out.below HB.out) i C1.out
                  have cb : wr.cell? ⟨g3, x.toNat, none⟩ = some (.int .u32 (T.getD i 0)) := by
                    rw [HX.out, Int.toNat_natCast]; exact R22.out.cell i C1.out
                  have hSi : S.getD i 0 = ([s0, s1, s2, s3, s4, s5, s6, s7].getD i 0) % 4294967296 := by
                    rw [← HS.out]
                    have h8 := C1.out
                    match i, h8 with
                    | 0, _ => rfl
                    | 1, _ => rfl
                    | 2, _ => rfl
                    | 3, _ => rfl
                    | 4, _ => rfl
                    | 5, _ => rfl
                    | 6, _ => rfl
                    | 7, _ => rfl
                  generalize hA : ([s0, s1, s2, s3, s4, s5, s6, s7].getD i 0) = A at ca hSi
                  generalize hC : T.getD i 0 = C at cb
                  have HC := AM hC
                  have HA := AM hSi
                  clear hA hC hSi
                  go_wp2
                  have R22' : Aside0 (RU wr.drew w.heap.size g3 8 cap3 T) := ⟨R22.out.drew⟩
                  have R23' : Aside0 (Kd.R (Kd.int .i64) 2 wr.drew w.heap.size (fun _ => True) u23 (outK S T i)) := ⟨Kd.R_drew R23.out⟩
                  have HB' : Aside0 (Below w.heap.size w wr.drew) := ⟨below_drew1 HB.out⟩
                  replace ca : wr.drew.cell? (ad.add x.toNat) = some (.int .i64 A) := ca
                  replace cb : wr.drew.cell? ⟨g3, x.toNat, none⟩ = some (.int .u32 C) := cb
                  clear R22 R23 HB
                  refine start_ (n := 15) (S := fun w' => w'.cell? (ad.add x.toNat) = some (.int .i64 A) ∧ w'.cell? ((⟨g3, x.toNat, none⟩ : Addr)) = some (.int .u32 C)) (ds := [12, 13]) #[false, false, false, false, false, false, false, false, false, false, false, false, false, false, false] (by kernel_rfl) rfl rfl ⟨ca, cb⟩ (fun hHeld => ?_); refine with_tabW tab33 bits33 (fun HT_ HW_ => ?_)
                  generalize wr.drew = w10 at R22' R23' HB' ca cb hHeld ⊢
                  refine pure_ (i := 0) (N := some 220) (v := ?_) (a' := ?_) #[true, false, false, false, false, false, false, false, false, false, false, false, false, false, false] rfl rfl (any_of HT_.out (by kernel_rfl)) (fun _ _ _ h => h) (Or.inl ⟨by rfl, ?_⟩) ?_ ?_
                  rotate_left
                  · intro w'
                    go_simp
                    with_reducible rfl
                  rotate_left
                  · simp only [Act.put, List.setIfInBounds_toArray, List.set_cons_zero, List.set_cons_succ, i64_w, i32_w]
                    rfl
                  refine pure_ (i := 1) (N := some 221) (v := ?_) (a' := ?_) #[true, true, false, false, false, false, false, false, false, false, false, false, false, false, false] rfl rfl (any_of HT_.out (by kernel_rfl)) (fun _ _ _ h => h) (Or.inl ⟨by rfl, ?_⟩) ?_ ?_
                  rotate_left
                  · intro w'
                    go_simp
                    with_reducible rfl
                  rotate_left
                  · simp only [Act.put, List.setIfInBounds_toArray, List.set_cons_zero, List.set_cons_succ, i64_w, i32_w]
                    rfl
                  refine pure_ (i := 2) (N := some 222) (v := ?_) (a' := ?_) #[true, true, true, false, false, false, false, false, false, false, false, false, false, false, false] rfl rfl (any_of HT_.out (by kernel_rfl)) (fun _ _ _ h => h) (Or.inl ⟨by rfl, ?_⟩) ?_ ?_
                  rotate_left
                  · intro w'
                    go_simp
                    with_reducible rfl
                  rotate_left
                  · simp only [Act.put, List.setIfInBounds_toArray, List.set_cons_zero, List.set_cons_succ, i64_w, i32_w]
                    rfl
                  refine pure_ (i := 3) (N := some 223) (v := ?_) (a' := ?_) #[true, true, true, true, false, false, false, false, false, false, false, false, false, false, false] rfl rfl (any_of HT_.out (by kernel_rfl)) (fun _ _ _ h => h) (Or.inl ⟨by rfl, ?_⟩) ?_ ?_
                  rotate_left
                  · intro w'
                    go_simp
                    with_reducible rfl
                  rotate_left
                  · simp only [Act.put, List.setIfInBounds_toArray, List.set_cons_zero, List.set_cons_succ, i64_w, i32_w]
                    rfl
                  refine pure_ (i := 6) (N := some 226) (v := ?_) (a' := ?_) #[true, true, true, true, false, false, true, false, false, false, false, false, false, false, false] rfl rfl (any_of HT_.out (by kernel_rfl)) (fun _ _ _ h => h) (Or.inl ⟨by rfl, ?_⟩) ?_ ?_
                  rotate_left
                  · intro w'
                    go_simp
                    with_reducible rfl
                  rotate_left
                  · simp only [Act.put, List.setIfInBounds_toArray, List.set_cons_zero, List.set_cons_succ, i64_w, i32_w]
                    rfl
                  refine pure_ (i := 7) (N := some 227) (v := ?_) (a' := ?_) #[true, true, true, true, false, false, true, true, false, false, false, false, false, false, false] rfl rfl (any_of HT_.out (by kernel_rfl)) (fun _ _ _ h => h) (Or.inl ⟨by rfl, ?_⟩) ?_ ?_
                  rotate_left
                  · intro w'
                    go_simp
                    with_reducible rfl
                  rotate_left
                  · simp only [Act.put, List.setIfInBounds_toArray, List.set_cons_zero, List.set_cons_succ, i64_w, i32_w]
                    rfl
                  refine pure_ (i := 8) (N := some 228) (v := ?_) (a' := ?_) #[true, true, true, true, false, false, true, true, true, false, false, false, false, false, false] rfl rfl (any_of HT_.out (by kernel_rfl)) (fun _ _ _ h => h) (Or.inl ⟨by rfl, ?_⟩) ?_ ?_
                  rotate_left
                  · intro w'
                    go_simp
                    with_reducible rfl
                  rotate_left
                  · simp only [Act.put, List.setIfInBounds_toArray, List.set_cons_zero, List.set_cons_succ, i64_w, i32_w]
                    rfl
                  refine take_ (i := 4) (N := some 224) (v := ?_) (a' := ?_) #[true, true, true, true, true, false, true, true, true, false, false, false, false, false, false] rfl rfl (take_ofW HT_.out HW_.out (by kernel_rfl)) (fun _ _ _ h => h) (Or.inl ⟨by rfl, ?_⟩) hHeld ?_ ?_
                  rotate_left
                  · rintro w' ⟨s0, s1⟩
                    go_simp
                    with_reducible rfl
                  rotate_left
                  · simp only [Act.put, List.setIfInBounds_toArray, List.set_cons_zero, List.set_cons_succ, i64_w, i32_w]
                    rfl
                  refine pure_ (i := 5) (N := some 225) (v := ?_) (a' := ?_) #[true, true, true, true, true, true, true, true, true, false, false, false, false, false, false] rfl rfl (any_of HT_.out (by kernel_rfl)) (fun _ _ _ h => h) (Or.inl ⟨by rfl, ?_⟩) ?_ ?_
                  rotate_left
                  · intro w'
                    go_simp
                    with_reducible rfl
                  rotate_left
                  · simp only [Act.put, List.setIfInBounds_toArray, List.set_cons_zero, List.set_cons_succ, i64_w, i32_w]
                    rfl
                  refine take_ (i := 9) (N := some 229) (v := ?_) (a' := ?_) #[true, true, true, true, true, true, true, true, true, true, false, false, false, false, false] rfl rfl (take_ofW HT_.out HW_.out (by kernel_rfl)) (fun _ _ _ h => h) (Or.inl ⟨by rfl, ?_⟩) hHeld ?_ ?_
                  rotate_left
                  · rintro w' ⟨s0, s1⟩
                    go_simp
                    with_reducible rfl
                  rotate_left
                  · simp only [Act.put, List.setIfInBounds_toArray, List.set_cons_zero, List.set_cons_succ, i64_w, i32_w]
                    rfl
                  refine pure_ (i := 10) (N := some 230) (v := ?_) (a' := ?_) #[true, true, true, true, true, true, true, true, true, true, true, false, false, false, false] rfl rfl (any_of HT_.out (by kernel_rfl)) (fun _ _ _ h => h) (Or.inl ⟨by rfl, ?_⟩) ?_ ?_
                  rotate_left
                  · intro w'
                    go_simp
                    with_reducible rfl
                  rotate_left
                  · simp only [Act.put, List.setIfInBounds_toArray, List.set_cons_zero, List.set_cons_succ, i64_w, i32_w]
                    rfl
                  refine pure_ (i := 11) (N := some 231) (v := ?_) (a' := ?_) #[true, true, true, true, true, true, true, true, true, true, true, true, false, false, false] rfl rfl (any_of HT_.out (by kernel_rfl)) (fun _ _ _ h => h) (Or.inl ⟨by rfl, ?_⟩) ?_ ?_
                  rotate_left
                  · intro w'
                    go_simp
                    with_reducible rfl
                  rotate_left
                  · simp only [Act.put, List.setIfInBounds_toArray, List.set_cons_zero, List.set_cons_succ, i64_w, i32_w]
                    rfl
                  refine last_ (i := 12) (N := some 232) #[true, true, true, true, true, true, true, true, true, true, true, true, true, false, false] rfl rfl (one_of HT_.out (by kernel_rfl)) (by decide) (fun K hK => ?_)
                  refine value_ (w1 := ?_) (v := ?_) (by rfl) rfl ?_ ?_
                  rotate_left 2
                  · go_simp
                    constructor
                    · rfl
                    · rfl
                  refine hK.out _ _ ?_
                  clear hK K
                  refine norm_ (a' := ?_) ?_ ?_
                  rotate_left
                  · show Act.put _ (some 232) _ = _
                    simp only [Act.put, List.setIfInBounds_toArray, List.set_cons_zero, List.set_cons_succ, i64_w, i32_w]
                    rfl
                  refine last_ (i := 13) (N := some 233) #[true, true, true, true, true, true, true, true, true, true, true, true, true, true, false] rfl rfl (one_of HT_.out (by kernel_rfl)) (by decide) (fun K hK => ?_)
                  refine Kd.R_append_step (Kd.int .i64) (w0 := w) w.heap.size (by rfl) (.tmp 220) (.tmp 232) 37 2 (.int .i64 0) 8 rfl Tryd.underlying37 info2 rfl (by decide) (by omega) u23 (outK S T i) (wrap64 (IntKind.u32.wrap (IntKind.u32.wrap A + C))) [.int .i64 (wrap64 (IntKind.u32.wrap (IntKind.u32.wrap A + C)))] (fun _ => True) (fun _ => False) rfl rfl ?aP (fun _ hk => hk.elim) ?aF ?aO ?aB ?aS ?aL ?_
                  (case aP => exact rfl)
                  (case aB => exact HB'.out)
                  (case aF => exact (fun _ _ => trivial))
                  (case aO => exact R23'.out)
                  (case aS => exact HB'.out.size)
                  (case aL => rw [outK_length]; have := C1.out; omega)
                  intro v145 w87 ho hb hg hat
                  have R22 : Aside0 (RU w87 w.heap.size g3 8 cap3 T) := ⟨Kd.R_over' R22'.out (Kd.R_typed R23'.out) (by decide) hg⟩
                  have HB := AM hb
                  have R23 : Aside0 (Kd.R (Kd.int .i64) 2 w87 w.heap.size (fun _ => True) v145 (outK S T (i + 1))) := ⟨by rw [outK, HA.out, HC.out, ← sumw]; exact ho⟩
                  clear ho hb hg hat R22' R23' HB' ca cb
                  refine hK.out _ _ ?_
                  clear hK K
                  refine norm_ (a' := ?_) ?_ ?_
                  rotate_left
                  · show Act.put _ (some 233) _ = _
                    simp only [Act.put, List.setIfInBounds_toArray, List.set_cons_zero, List.set_cons_succ, i64_w, i32_w]
                    rfl
                  refine pure_ (i := 14) (N := some 23) (v := ?_) (a' := ?_) #[true, true, true, true, true, true, true, true, true, true, true, true, true, true, true] rfl rfl (any_of HT_.out (by kernel_rfl)) (fun _ _ _ h => h) (Or.inl ⟨by rfl, ?_⟩) ?_ ?_
                  rotate_left
                  · intro w'
                    go_simp
                    with_reducible rfl
                  rotate_left
                  · simp only [Act.put, List.setIfInBounds_toArray, List.set_cons_zero, List.set_cons_succ, i64_w, i32_w]
                    rfl
                  refine done_ (done_of HT_.out (by kernel_rfl)) ?_
                  try go_wp2
                  go_roundg (7 - i)
                  case measure => have := HI.out; have := C1.out; omega
                  case rel => exact ⟨_, i + 1, (by have := HI.out; have := C1.out; omega), rfl, ⟨by first | exact nxtw x i HX.out (by have := C1.out; omega) | exact nxt x i HX.out (by have := C1.out; omega)⟩, R22, R23, HB⟩
                · have x1 : decide (x < 8) = false := decide_eq_false (by rw [HX.out]; have := HI.out; omega)
                  obtain rfl : i = 8 := by have := HI.out; omega
                  clear c1
                  go_wp2
                  go_ret
                  refine ⟨_, rfl, ?_, HB.out⟩
                  have e : takenL S b = outK S T 8 := by
                    rw [outK_eq S T (by rw [← HS.out]; rfl) T8.out, ← HT.out]
                    rfl
                  rw [HS.out, e]
                  exact R23.out

end Go.Proofs.YtfffdndeccipnaaDoor.Hand
