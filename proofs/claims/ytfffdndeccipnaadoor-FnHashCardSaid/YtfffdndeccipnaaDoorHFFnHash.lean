/- The digest's functions of the program, walked by hand. No statement is proved here. -/
import Derived.Test.YtfffdndeccipnaaDoorHEFnHash
namespace Go.Proofs.YtfffdndeccipnaaDoor.Hand
open Go.RowKit Go.Proofs.YtfffdndeccipnaaDoorW.PrintWords Go.Proofs.YtfffdndeccipnaaDoorW.PrintLast Go.Proofs.YtfffdndeccipnaaDoorW.PrintMore Go.Proofs.YtfffdndeccipnaaDoor.Reg Go.Proofs.YtfffdndeccipnaaDoor.Aut
set_option linter.unusedVariables false
set_option linter.unusedSimpArgs false
/-- eight numbers of 32 bits. -/
def Ok8 (l : List Int) : Prop := l.length = 8 ∧ ∀ i, i < 8 → 0 ≤ l.getD i 0 ∧ l.getD i 0 < 4294967296
/-- a right hash. -/
def HOk (l : List Int) (r : ByteArray) (n : Int) : Prop := Ok8 l ∧ 0 ≤ n ∧ n ≤ 1099511627776 ∧ (r.size : Int) = n % 64
theorem eight_lit (l : List Int) (h : l.length = 8) : l = [l.getD 0 0, l.getD 1 0, l.getD 2 0, l.getD 3 0, l.getD 4 0, l.getD 5 0, l.getD 6 0, l.getD 7 0] := by
  obtain ⟨a, b, c, d, e, f, g, k, rfl⟩ := eight l h
  rfl
theorem size_s (A : Option Addr) (n c : Nat) (w : World) : Calls Tryd.prog 62 #[.slice A n c] w fun e w' => e = .returned (.int .i64 (n : Int)) ∧ w' = w := by
  go_enter Tryd.func62, Tryd.ntmps62
  go_wp2
  go_ret
  exact ⟨rfl, rfl⟩
theorem within_s (n a b : Int) (h1 : a ≤ n) (h2 : n ≤ b) (w : World) : Calls Tryd.prog 65 #[.int .i64 n, .int .i64 a, .int .i64 b] w fun e w' => e = .returned (.bool true) ∧ w' = w := by
  have x1 : decide (a ≤ n) = true := decide_eq_true h1
  have x2 : decide (n ≤ b) = true := decide_eq_true h2
  go_enter Tryd.func65, Tryd.ntmps65
  go_wp2
  go_ret
  exact ⟨rfl, rfl⟩
theorem islong_s (t : ByteArray) (h : t.size ≤ 20000) (w : World) : Calls Tryd.prog 41 #[.string t] w fun e w' => e = .returned (.bool false) ∧ w' = w := by
  have x1 : decide (20000 < (t.size : Int)) = false := decide_eq_false (by omega)
  have x2 : decide (20000 < t.size) = false := decide_eq_false (by omega)
  go_enter Tryd.func41, Tryd.ntmps41
  go_wp2
  go_ret
  exact ⟨rfl, rfl⟩
theorem pred_s (n : Int) (h : 0 ≤ n ∧ n < 4294967296) (w : World) : Calls Tryd.prog 64 #[.int .i64 n] w fun e w' => e = .returned (.bool false) ∧ w' = w := by
  go_enter Tryd.func64, Tryd.ntmps64
  go_wp2_with (go_at_call 65; refine (within_s n 0 4294967295 h.1 (by omega) _).mono ?_; rintro e w2 ⟨rfl, rfl⟩)
  go_ret
  exact ⟨rfl, rfl⟩
set_option maxHeartbeats 4000000 in
set_option maxRecDepth 100000 in
theorem idx_s (A : Option Addr) (c : Nat) (l : List Int) (h8 : Ok8 l) (w : World) (hr : Kd.C (Kd.int .i64) w A 8 l) : Calls Tryd.prog 102 #[.slice A 8 c, .func (.func 64) #[] #[]] w fun e w' => e = .returned (.int .i64 (-1)) ∧ w' = w := by
  obtain ⟨ad, rfl, hz_⟩ := Kd.at_int hr 0 (by omega) (by omega)
  have SRC : Aside0 (Src w ad l) := ⟨by
    intro i hi
    obtain ⟨ad', e, h⟩ := Kd.at_int hr (i : Int) (by omega) (by omega)
    injection e with e
    subst e
    exact h⟩
  have HOK := AM h8
  clear hr h8 hz_
  go_enter Tryd.func102, Tryd.ntmps102
  go_wp2
  go_loopg [8] (8 : Nat) (fun (q : Nat) v8 w' => ∃ (x : Int) (i : Nat), i + q = 8 ∧ v8 = .int .i64 x ∧ Aside0 (x = (i : Int)) ∧ Aside0 (w' = w))
  case atStart => exact ⟨0, 0, by omega, rfl, ⟨rfl⟩, ⟨rfl⟩⟩
  case round =>
    obtain ⟨x, i, hi, rfl, HX, HW⟩ := hrel
    have HI := AM hi
    clear hi
    by_cases c1 : i < 8
    · have x1 : decide (x < 8) = true := decide_eq_true (by have := HX.out; omega)
      have C1 := AM c1
      clear c1
      have p2 : (0 ≤ x) = True := eq_true (by rw [HX.out]; omega)
      have q2 : (x < 8) = True := eq_true (by rw [HX.out]; have := C1.out; omega)
      have ca : wr.cell? (ad.add x.toNat) = some (.int .i64 (l.getD i 0)) := by
        rw [HW.out, HX.out, Int.toNat_natCast]; exact SRC.out i C1.out
      have HQ := AM (HOK.out.2 i C1.out)
      generalize l.getD i 0 = y at ca HQ
      go_wp2_with (go_at_call 64; refine (pred_s y HQ.out _).mono ?_; rintro e w2 ⟨rfl, rfl⟩)
      go_roundg (7 - i)
      case measure => have := HI.out; have := C1.out; omega
      case rel => exact ⟨_, i + 1, (by have := HI.out; have := C1.out; omega), rfl, ⟨by first | exact nxtw x i HX.out (by have := C1.out; omega) | exact nxt x i HX.out (by have := C1.out; omega)⟩, HW⟩
    · have x1 : decide (x < 8) = false := decide_eq_false (by rw [HX.out]; have := HI.out; omega)
      clear c1
      go_wp2
      go_ret
      exact ⟨rfl, HW.out⟩
theorem has_s (A : Option Addr) (c : Nat) (l : List Int) (h8 : Ok8 l) (w : World) (hr : Kd.C (Kd.int .i64) w A 8 l) : Calls Tryd.prog 63 #[.slice A 8 c, .func (.func 64) #[] #[]] w fun e w' => e = .returned (.bool false) ∧ w' = w := by
  go_enter Tryd.func63, Tryd.ntmps63
  go_wp2_with (go_at_call 102; refine (idx_s A c l h8 _ hr).mono ?_; rintro e w2 ⟨rfl, rfl⟩)
  go_ret
  exact ⟨rfl, rfl⟩
def hr1.T : Bool × List (List Nat × List Nat) := (true, [([], []), ([0], [0]), ([1], [1]), ([2], [2]), ([3, 2], [3]), ([4], [4]), ([5, 4], [4, 5]), ([6, 4, 4], [4, 6]), ([7, 4], [4, 7]), ([4, 8], [4, 8]), ([9, 7], [9]), ([10], [10]), ([11, 10], [10, 11]), ([12, 10, 10], [10, 12]), ([10, 13], [10, 13]), ([14, 13], [14]), ([15], [15]), ([16, 15], [15, 16]), ([17, 15, 15], [15, 17]), ([15], [15]), ([19, 15], [15, 19]), ([20, 15], [15, 20]), ([18, 21, 15], [15, 18, 21]), ([15, 22], [15, 22]), ([23, 18, 0, 1, 2, 3, 4, 5, 6, 7, 8, 9, 10, 11, 12, 13, 14, 15, 16, 17, 18, 19, 20, 21, 22, 23], [23])])
def hr1.B : List Nat := [0, 1, 3, 7, 15, 31, 63, 127, 255, 511, 1023, 2047, 4095, 8191, 16383, 32767, 65535, 131071, 262143, 65535, 589823, 1638399, 4194303, 8388607, 16777215]
theorem hr1.tab : rtab .any (opsOf Tryd.f25 1) = hr1.T := by kernel_rfl
theorem hr1.bits : waitsOk hr1.T.2 hr1.B = true := by kernel_rfl
set_option maxHeartbeats 4000000 in
set_option maxRecDepth 100000 in
theorem hright_x (A : Option Addr) (c : Nat) (l : List Int) (r : ByteArray) (n : Int) (h : HOk l r n) (w : World) (hr : Kd.C (Kd.int .i64) w A 8 l) :
    Calls Tryd.prog 25 #[.agg #[.slice A 8 c, .string r, .int .i64 n]] w fun e w' => e = .returned (.bool true) ∧ Below w.heap.size w w' := by
  have HR := AM hr
  have HO := AM h
  have e1 : Int.tmod n 64 = (r.size : Int) := by rw [Int.tmod_eq_emod_of_nonneg h.2.1, h.2.2.2]
  clear hr h
  go_enter Tryd.func25, Tryd.ntmps25
  go_wp2_with (((with_reducible refine gate_dst (N := 1) rfl ?_); refine be_ 1 #[.slice A 8 c, .string r, .int .i64 n] 39 ?_; intro g hg w1 hbox hb; have BK := AM hbox; have HB := AM hb; clear hb hbox hg))
  replace BK := AM (blk_drew BK.out)
  replace HB := AM (below_drew1 HB.out)
  refine start_ (n := 25) (S := fun w' => w'.cell? ⟨g, 0, none⟩ = some (.slice A 8 c) ∧ w'.cell? ⟨g, 1, none⟩ = some (.string r) ∧ w'.cell? ⟨g, 2, none⟩ = some (.int .i64 n)) (ds := []) #[false, false, false, false, false, false, false, false, false, false, false, false, false, false, false, false, false, false, false, false, false, false, false, false, false] (by kernel_rfl) rfl rfl ⟨(blk_cell BK.out 0).trans rfl, (blk_cell BK.out 1).trans rfl, (blk_cell BK.out 2).trans rfl⟩ (fun hHeld => ?_)
  refine with_tabW hr1.tab hr1.bits (fun HT_ HW_ => ?_)
  generalize w1.drew = w2 at BK HB hHeld ⊢
  refine pu_ HT_ 0 (some 3) #[true, false, false, false, false, false, false, false, false, false, false, false, false, false, false, false, false, false, false, false, false, false, false, false, false] ?_
  refine ta_ HT_ HW_ 1 (some 4) #[true, true, false, false, false, false, false, false, false, false, false, false, false, false, false, false, false, false, false, false, false, false, false, false, false] hHeld ?_
  refine on_ HT_ 2 (some 5) #[true, true, true, false, false, false, false, false, false, false, false, false, false, false, false, false, false, false, false, false, false, false, false, false, false] (fun K hK => ?_)
  refine go1_ Tryd.func62 #[.slice A 8 c] ?_
  refine (size_s A 8 c _).mono ?_
  rintro e w_ ⟨rfl, hw_⟩
  rw [hw_]
  clear hw_ w_
  refine ⟨_, rfl, ?_⟩
  refine hK.out _ _ hHeld (fun hHeld => ?_)
  clear hK K
  refine nm_ ?_
  refine pu_ HT_ 3 (some 6) #[true, true, true, true, false, false, false, false, false, false, false, false, false, false, false, false, false, false, false, false, false, false, false, false, false] ?_
  refine pu_ HT_ 4 (some 7) #[true, true, true, true, true, false, false, false, false, false, false, false, false, false, false, false, false, false, false, false, false, false, false, false, false] ?_
  refine pu_ HT_ 5 (some 8) #[true, true, true, true, true, true, false, false, false, false, false, false, false, false, false, false, false, false, false, false, false, false, false, false, false] ?_
  refine ta_ HT_ HW_ 6 (some 9) #[true, true, true, true, true, true, true, false, false, false, false, false, false, false, false, false, false, false, false, false, false, false, false, false, false] hHeld ?_
  refine on_ HT_ 7 (some 10) #[true, true, true, true, true, true, true, true, false, false, false, false, false, false, false, false, false, false, false, false, false, false, false, false, false] (fun K hK => ?_)
  refine go1_ Tryd.func63 #[.slice A 8 c, .func (.func 64) #[] #[]] ?_
  refine (has_s A c l HO.out.1 _ (Kd.C_below HR.out HB.out)).mono ?_
  rintro e w_ ⟨rfl, hw_⟩
  rw [hw_]
  clear hw_ w_
  refine ⟨_, rfl, ?_⟩
  refine hK.out _ _ hHeld (fun hHeld => ?_)
  clear hK K
  refine nm_ ?_
  refine pu_ HT_ 8 (some 11) #[true, true, true, true, true, true, true, true, true, false, false, false, false, false, false, false, false, false, false, false, false, false, false, false, false] ?_
  refine pu_ HT_ 9 (some 12) #[true, true, true, true, true, true, true, true, true, true, false, false, false, false, false, false, false, false, false, false, false, false, false, false, false] ?_
  refine pu_ HT_ 10 (some 13) #[true, true, true, true, true, true, true, true, true, true, true, false, false, false, false, false, false, false, false, false, false, false, false, false, false] ?_
  refine pu_ HT_ 11 (some 14) #[true, true, true, true, true, true, true, true, true, true, true, true, false, false, false, false, false, false, false, false, false, false, false, false, false] ?_
  refine ta_ HT_ HW_ 12 (some 15) #[true, true, true, true, true, true, true, true, true, true, true, true, true, false, false, false, false, false, false, false, false, false, false, false, false] hHeld ?_
  refine on_ HT_ 13 (some 16) #[true, true, true, true, true, true, true, true, true, true, true, true, true, true, false, false, false, false, false, false, false, false, false, false, false] (fun K hK => ?_)
  refine go1_ Tryd.func65 #[.int .i64 n, .int .i64 0, .int .i64 1099511627776] ?_
  refine (within_s n 0 1099511627776 HO.out.2.1 HO.out.2.2.1 _).mono ?_
  rintro e w_ ⟨rfl, hw_⟩
  rw [hw_]
  clear hw_ w_
  refine ⟨_, rfl, ?_⟩
  refine hK.out _ _ hHeld (fun hHeld => ?_)
  clear hK K
  refine nm_ ?_
  refine pu_ HT_ 14 (some 17) #[true, true, true, true, true, true, true, true, true, true, true, true, true, true, true, false, false, false, false, false, false, false, false, false, false] ?_
  refine pu_ HT_ 15 (some 18) #[true, true, true, true, true, true, true, true, true, true, true, true, true, true, true, true, false, false, false, false, false, false, false, false, false] ?_
  refine pu_ HT_ 16 (some 19) #[true, true, true, true, true, true, true, true, true, true, true, true, true, true, true, true, true, false, false, false, false, false, false, false, false] ?_
  refine pu_ HT_ 19 (some 22) #[true, true, true, true, true, true, true, true, true, true, true, true, true, true, true, true, true, false, false, true, false, false, false, false, false] ?_
  refine ta_ HT_ HW_ 17 (some 20) #[true, true, true, true, true, true, true, true, true, true, true, true, true, true, true, true, true, true, false, true, false, false, false, false, false] hHeld ?_
  refine ta_ HT_ HW_ 20 (some 23) #[true, true, true, true, true, true, true, true, true, true, true, true, true, true, true, true, true, true, false, true, true, false, false, false, false] hHeld ?_
  refine pu_ HT_ 21 (some 24) #[true, true, true, true, true, true, true, true, true, true, true, true, true, true, true, true, true, true, false, true, true, true, false, false, false] ?_
  refine on_ HT_ 18 (some 21) #[true, true, true, true, true, true, true, true, true, true, true, true, true, true, true, true, true, true, true, true, true, true, false, false, false] (fun K hK => ?_)
  refine go1_ Tryd.func42 #[.string r] ?_
  refine (long_s r _).mono ?_
  rintro e w_ ⟨rfl, hw_⟩
  rw [hw_]
  clear hw_ w_
  refine ⟨_, rfl, ?_⟩
  refine hK.out _ _ hHeld (fun hHeld => ?_)
  clear hK K
  refine nm_ ?_
  refine pu_ HT_ 22 (some 25) #[true, true, true, true, true, true, true, true, true, true, true, true, true, true, true, true, true, true, true, true, true, true, true, false, false] ?_
  refine pu_ HT_ 23 (some 26) #[true, true, true, true, true, true, true, true, true, true, true, true, true, true, true, true, true, true, true, true, true, true, true, true, false] ?_
  refine pu_ HT_ 24 (some 2) #[true, true, true, true, true, true, true, true, true, true, true, true, true, true, true, true, true, true, true, true, true, true, true, true, true] ?_
  refine dn_ HT_ ?_
  try go_wp2
  go_ret
  exact ⟨rfl, HB.out⟩

end Go.Proofs.YtfffdndeccipnaaDoor.Hand
