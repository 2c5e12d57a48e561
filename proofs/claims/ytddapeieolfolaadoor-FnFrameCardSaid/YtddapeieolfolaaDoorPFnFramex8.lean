/- Functions of the law FnFrame: the print's, with walks of this session's own. No statement is proved here. -/
import Derived.Test.YtddapeieolfolaaDoorHEFnFrame
import Derived.WalkLawsBesides
import Derived.Test.YtddapeieolfolaaDoorVRegFnFrame
-- A program of this session wrote this text: a changed copy of the kit print, with given functions.
import Derived.Test.YtddapeieolfolaaDoorPFnFramex0
import Derived.Test.YtddapeieolfolaaDoorPFnFramex7
namespace Go.Proofs.YtddapeieolfolaaDoor.PFnFrame
open Go.RowKit Go.Proofs.YtddapeieolfolaaDoorW.PrintWords Go.Proofs.YtddapeieolfolaaDoorW.PrintLast Go.Proofs.YtddapeieolfolaaDoorW.PrintMore Go.Proofs.YtddapeieolfolaaDoor.Reg Go.Proofs.YtddapeieolfolaaDoor.Aut
attribute [local go_sem] max2_int min2_int max_two min_two max_three min_three max_four min_four   -- for this text's walks alone
set_option linter.unusedVariables false
set_option linter.unusedSimpArgs false

/-! ### bits_RotateLeft32: function 135 -/
def bits_RotateLeft32.f (a0 : Int) (a1 : Int) : Option (Int) := if 0 ≤ (Go.bits .and .u64 (IntKind.u64.wrap (a1)) 31) then (if 0 ≤ (IntKind.u64.wrap (32 - (Go.bits .and .u64 (IntKind.u64.wrap (a1)) 31))) then (some (Go.bits .or .u32 (shl .u32 a0 (Go.bits .and .u64 (IntKind.u64.wrap (a1)) 31)) (shr .u32 a0 (IntKind.u64.wrap (32 - (Go.bits .and .u64 (IntKind.u64.wrap (a1)) 31)))))) else (none)) else (none)
set_option maxHeartbeats 8000000 in
set_option maxRecDepth 100000 in
theorem bits_RotateLeft32.calls (a0 : Int) (a1 : Int) (r : Int) (w : World) (h : bits_RotateLeft32.f a0 a1 = some r) :
    Calls Tryd.prog 135 #[.int .u32 a0, .int .i64 a1] w fun e w' => e = .returned (.int .u32 r) ∧ Drawn0 w w' := by
  have H : (if 0 ≤ (Go.bits .and .u64 (IntKind.u64.wrap (a1)) 31) then (if 0 ≤ (IntKind.u64.wrap (32 - (Go.bits .and .u64 (IntKind.u64.wrap (a1)) 31))) then (some (Go.bits .or .u32 (shl .u32 a0 (Go.bits .and .u64 (IntKind.u64.wrap (a1)) 31)) (shr .u32 a0 (IntKind.u64.wrap (32 - (Go.bits .and .u64 (IntKind.u64.wrap (a1)) 31)))))) else (none)) else (none)) = some r := h
  clear h
  obtain ⟨ji3, hji3⟩ : ∃ j_ : Int, (Go.bits .and .u64 (IntKind.u64.wrap (a1)) 31) = j_ := ⟨_, rfl⟩
  replace H : (if 0 ≤ (ji3) then (if 0 ≤ (IntKind.u64.wrap (32 - (ji3))) then (some (Go.bits .or .u32 (shl .u32 a0 (ji3)) (shr .u32 a0 (IntKind.u64.wrap (32 - (ji3)))))) else (none)) else (none)) = some r := by first | (rw [hji3] at H; exact H) | (simp only [hji3] at H ⊢; exact H)
  by_cases c4 : 0 ≤ (ji3)
  · rw [if_pos c4] at H
    have c4b0 := eq_true c4
    have c4b1 : decide (0 ≤ (ji3)) = true := decide_eq_true c4
    clear c4
    obtain ⟨ji5, hji5⟩ : ∃ j_ : Int, (shl .u32 a0 (ji3)) = j_ := ⟨_, rfl⟩
    replace H : (if 0 ≤ (IntKind.u64.wrap (32 - (ji3))) then (some (Go.bits .or .u32 (ji5) (shr .u32 a0 (IntKind.u64.wrap (32 - (ji3)))))) else (none)) = some r := by first | (rw [hji5] at H; exact H) | (simp only [hji5] at H ⊢; exact H)
    have hji5_ : (IntKind.u32.wrap (a0 * 2 ^ min (ji3).toNat 32)) = ji5 := hji5
    have hji5z : (ji3) ≤ 32 → (IntKind.u32.wrap (a0 * 2 ^ (ji3).toNat)) = ji5 := shl_small hji5
    obtain ⟨ji6, hji6⟩ : ∃ j_ : Int, (IntKind.u64.wrap (32 - (ji3))) = j_ := ⟨_, rfl⟩
    replace H : (if 0 ≤ (ji6) then (some (Go.bits .or .u32 (ji5) (shr .u32 a0 (ji6)))) else (none)) = some r := by first | (rw [hji6] at H; exact H) | (simp only [hji6] at H ⊢; exact H)
    by_cases c7 : 0 ≤ (ji6)
    · rw [if_pos c7] at H
      have c7b0 := eq_true c7
      have c7b1 : decide (0 ≤ (ji6)) = true := decide_eq_true c7
      clear c7
      obtain ⟨ji8, hji8⟩ : ∃ j_ : Int, (shr .u32 a0 (ji6)) = j_ := ⟨_, rfl⟩
      replace H : (some (Go.bits .or .u32 (ji5) (ji8))) = some r := by first | (rw [hji8] at H; exact H) | (simp only [hji8] at H ⊢; exact H)
      have hji8_ : (a0 / 2 ^ min (ji6).toNat 32) = ji8 := hji8
      have hji8z : (ji6) ≤ 32 → (a0 / 2 ^ (ji6).toNat) = ji8 := shr_small hji8
      obtain rfl := Option.some.inj H
      go_enter Tryd.func135, Tryd.ntmps135
      go_wp2
      go_ret
      exact ⟨by first | rfl | (simp; done) | (simp only [← hji3, ← hji5, ← hji6, ← hji8] <;> (first | rfl | simp)) | (simp [*]; done), by repeat (first | exact Drawn0.refl _ | apply Drawn0.step)⟩
    · rw [if_neg c7] at H
      exact absurd H (by simp)
  · rw [if_neg c4] at H
    exact absurd H (by simp)

/-! ### impl_right: function 110 -/
def impl_right.f (a0 : Int) (a1 : Int) : Option (Int) := (bits_RotateLeft32.f a0 (wrap64 (-a1))).bind fun t199 => (some t199)
set_option maxHeartbeats 8000000 in
set_option maxRecDepth 100000 in
theorem impl_right.calls (a0 : Int) (a1 : Int) (r : Int) (w : World) (h : impl_right.f a0 a1 = some r) :
    Calls Tryd.prog 110 #[.int .u32 a0, .int .i64 a1] w fun e w' => e = .returned (.int .u32 r) ∧ Drawn0 w w' := by
  have H : ((bits_RotateLeft32.f a0 (wrap64 (-a1))).bind fun t199 => (some t199)) = some r := h
  clear h
  obtain ⟨t199, A3, H⟩ := OB H
  try dsimp only at H
  replace A3 := AM A3
  obtain rfl := Option.some.inj H
  go_enter Tryd.func110, Tryd.ntmps110
  go_wp2_with (first | ((with_reducible refine gate_callee (f := 135) rfl ?_); refine gl_ (some 8) Tryd.func135 #[.int .u32 a0, .int .i64 (wrap64 (-a1))] ?_; (with_reducible refine (bits_RotateLeft32.calls a0 (wrap64 (-a1)) t199 _ A3.out).mono ?_); rintro e w' ⟨rfl, ⟨nd, rfl⟩⟩; refine ⟨_, rfl, ?_⟩))
  go_ret
  exact ⟨by first | rfl | (simp; done) | (simp [*]; done), by repeat (first | exact Drawn0.refl _ | apply Drawn0.step)⟩

-- NOT PRINTED: function 73 (impl_taken)

/-! ### stringslite_HasPrefix: function 107 -/
def stringslite_HasPrefix.f (a0 : ByteArray) (a1 : ByteArray) : Option (Bool) := if (a0.size : Int) ≥ (a1.size : Int) then (if 0 ≤ (a1.size : Int) then (if (a1.size : Int) ≤ (a0.size : Int) then (some ((a0.extract 0 ((a1.size : Int) : Int).toNat).toList == a1.toList)) else (none)) else (none)) else (some false)
set_option maxHeartbeats 8000000 in
set_option maxRecDepth 100000 in
theorem stringslite_HasPrefix.calls (a0 : ByteArray) (a1 : ByteArray) (r : Bool) (w : World) (h : stringslite_HasPrefix.f a0 a1 = some r) :
    Calls Tryd.prog 107 #[.string a0, .string a1] w fun e w' => e = .returned (.bool r) ∧ Drawn0 w w' := by
  have H : (if (a0.size : Int) ≥ (a1.size : Int) then (if 0 ≤ (a1.size : Int) then (if (a1.size : Int) ≤ (a0.size : Int) then (some ((a0.extract 0 ((a1.size : Int) : Int).toNat).toList == a1.toList)) else (none)) else (none)) else (some false)) = some r := h
  clear h
  by_cases c3 : (a0.size : Int) ≥ (a1.size : Int)
  · rw [if_pos c3] at H
    have c3b0 : decide ((a1.size : Int) ≤ (a0.size : Int)) = true := decide_eq_true c3
    have c3b1 : decide (a1.size ≤ a0.size) = true := decide_eq_true (Int.ofNat_le.mp c3)
    clear c3
    by_cases c4 : 0 ≤ (a1.size : Int)
    · rw [if_pos c4] at H
      have c4b0 := eq_true c4
      have c4b1 : decide (0 ≤ (a1.size : Int)) = true := decide_eq_true c4
      clear c4
      by_cases c5 : (a1.size : Int) ≤ (a0.size : Int)
      · rw [if_pos c5] at H
        have c5b0 := eq_true c5
        have c5b1 : decide ((a1.size : Int) ≤ (a0.size : Int)) = true := decide_eq_true c5
        clear c5
        obtain rfl := Option.some.inj H
        go_enter Tryd.func107, Tryd.ntmps107
        go_wp2
        go_ret
        exact ⟨by first | rfl | (simp; done) | (simp [*]; done), by repeat (first | exact Drawn0.refl _ | apply Drawn0.step)⟩
      · rw [if_neg c5] at H
        exact absurd H (by simp)
    · rw [if_neg c4] at H
      exact absurd H (by simp)
  · rw [if_neg c3] at H
    have c3b0 : decide ((a1.size : Int) ≤ (a0.size : Int)) = false := decide_eq_false c3
    have c3b1 : decide (a1.size ≤ a0.size) = false := decide_eq_false (fun h => c3 (Int.ofNat_le.mpr h))
    clear c3
    obtain rfl := Option.some.inj H
    go_enter Tryd.func107, Tryd.ntmps107
    go_wp2
    go_ret
    exact ⟨by first | rfl | (simp; done) | (simp [*]; done), by repeat (first | exact Drawn0.refl _ | apply Drawn0.step)⟩

/-! ### strings_HasPrefix: function 60 -/
def strings_HasPrefix.f (a0 : ByteArray) (a1 : ByteArray) : Option (Bool) := (stringslite_HasPrefix.f a0 a1).bind fun t200 => (some t200)
set_option maxHeartbeats 8000000 in
set_option maxRecDepth 100000 in
theorem strings_HasPrefix.calls (a0 : ByteArray) (a1 : ByteArray) (r : Bool) (w : World) (h : strings_HasPrefix.f a0 a1 = some r) :
    Calls Tryd.prog 60 #[.string a0, .string a1] w fun e w' => e = .returned (.bool r) ∧ Drawn0 w w' := by
  have H : ((stringslite_HasPrefix.f a0 a1).bind fun t200 => (some t200)) = some r := h
  clear h
  obtain ⟨t200, A3, H⟩ := OB H
  try dsimp only at H
  replace A3 := AM A3
  obtain rfl := Option.some.inj H
  go_enter Tryd.func60, Tryd.ntmps60
  go_wp2_with (first | ((with_reducible refine gate_callee (f := 107) rfl ?_); refine gl_ (some 7) Tryd.func107 #[.string a0, .string a1] ?_; (with_reducible refine (stringslite_HasPrefix.calls a0 a1 t200 _ A3.out).mono ?_); rintro e w' ⟨rfl, ⟨nd, rfl⟩⟩; refine ⟨_, rfl, ?_⟩))
  go_ret
  exact ⟨by first | rfl | (simp; done) | (simp [*]; done), by repeat (first | exact Drawn0.refl _ | apply Drawn0.step)⟩

/-! ### bits_Mul32: function 147 -/
def bits_Mul32.f (a0 : Int) (a1 : Int) : Option (Int × Int) := some (((IntKind.u64.wrap ((IntKind.u64.wrap (a0)) * (IntKind.u64.wrap (a1)))) / 4294967296) % 4294967296, (IntKind.u64.wrap ((IntKind.u64.wrap (a0)) * (IntKind.u64.wrap (a1)))) % 4294967296)
set_option maxHeartbeats 8000000 in
set_option maxRecDepth 100000 in
theorem bits_Mul32.calls (a0 : Int) (a1 : Int) (r1 : Int) (r2 : Int) (w : World) (h : bits_Mul32.f a0 a1 = some (r1, r2)) :
    Calls Tryd.prog 147 #[.int .u32 a0, .int .u32 a1] w fun e w' => e = .returned (.tuple #[.int .u32 r1, .int .u32 r2]) ∧ Drawn0 w w' := by
  have H : (some (((IntKind.u64.wrap ((IntKind.u64.wrap (a0)) * (IntKind.u64.wrap (a1)))) / 4294967296) % 4294967296, (IntKind.u64.wrap ((IntKind.u64.wrap (a0)) * (IntKind.u64.wrap (a1)))) % 4294967296)) = some (r1, r2) := h
  clear h
  simp only [Option.some.injEq, Prod.mk.injEq] at H
  obtain ⟨rfl, rfl⟩ := H
  go_enter Tryd.func147, Tryd.ntmps147
  go_wp2
  go_ret2
  exact ⟨by first | rfl | (simp; done) | (simp [*]; done), by repeat (first | exact Drawn0.refl _ | apply Drawn0.step)⟩

/-! ### bits_Mul64: function 148 -/
def bits_Mul64.f (a0 : Int) (a1 : Int) : Option (Int × Int) := some (IntKind.u64.wrap ((IntKind.u64.wrap ((IntKind.u64.wrap ((a0 / 4294967296) * (a1 / 4294967296))) + ((IntKind.u64.wrap ((IntKind.u64.wrap ((a0 / 4294967296) * (Go.bits .and .u64 a1 4294967295))) + ((IntKind.u64.wrap ((Go.bits .and .u64 a0 4294967295) * (Go.bits .and .u64 a1 4294967295))) / 4294967296))) / 4294967296))) + ((IntKind.u64.wrap ((Go.bits .and .u64 (IntKind.u64.wrap ((IntKind.u64.wrap ((a0 / 4294967296) * (Go.bits .and .u64 a1 4294967295))) + ((IntKind.u64.wrap ((Go.bits .and .u64 a0 4294967295) * (Go.bits .and .u64 a1 4294967295))) / 4294967296))) 4294967295) + (IntKind.u64.wrap ((Go.bits .and .u64 a0 4294967295) * (a1 / 4294967296))))) / 4294967296)), IntKind.u64.wrap (a0 * a1))
set_option maxHeartbeats 8000000 in
set_option maxRecDepth 100000 in
theorem bits_Mul64.calls (a0 : Int) (a1 : Int) (r1 : Int) (r2 : Int) (w : World) (h : bits_Mul64.f a0 a1 = some (r1, r2)) :
    Calls Tryd.prog 148 #[.int .u64 a0, .int .u64 a1] w fun e w' => e = .returned (.tuple #[.int .u64 r1, .int .u64 r2]) ∧ Drawn0 w w' := by
  have H : (some (IntKind.u64.wrap ((IntKind.u64.wrap ((IntKind.u64.wrap ((a0 / 4294967296) * (a1 / 4294967296))) + ((IntKind.u64.wrap ((IntKind.u64.wrap ((a0 / 4294967296) * (Go.bits .and .u64 a1 4294967295))) + ((IntKind.u64.wrap ((Go.bits .and .u64 a0 4294967295) * (Go.bits .and .u64 a1 4294967295))) / 4294967296))) / 4294967296))) + ((IntKind.u64.wrap ((Go.bits .and .u64 (IntKind.u64.wrap ((IntKind.u64.wrap ((a0 / 4294967296) * (Go.bits .and .u64 a1 4294967295))) + ((IntKind.u64.wrap ((Go.bits .and .u64 a0 4294967295) * (Go.bits .and .u64 a1 4294967295))) / 4294967296))) 4294967295) + (IntKind.u64.wrap ((Go.bits .and .u64 a0 4294967295) * (a1 / 4294967296))))) / 4294967296)), IntKind.u64.wrap (a0 * a1))) = some (r1, r2) := h
  clear h
  simp only [Option.some.injEq, Prod.mk.injEq] at H
  obtain ⟨rfl, rfl⟩ := H
  go_enter Tryd.func148, Tryd.ntmps148
  go_wp2
  go_ret2
  exact ⟨by first | rfl | (simp; done) | (simp [*]; done), by repeat (first | exact Drawn0.refl _ | apply Drawn0.step)⟩

/-! ### bits_Mul: function 136 -/
def bits_Mul.f (a0 : Int) (a1 : Int) : Option (Int × Int) := (bits_Mul64.f a0 a1).bind fun bt201 => (some (bt201.1, bt201.2))
set_option maxHeartbeats 8000000 in
set_option maxRecDepth 100000 in
theorem bits_Mul.calls (a0 : Int) (a1 : Int) (r1 : Int) (r2 : Int) (w : World) (h : bits_Mul.f a0 a1 = some (r1, r2)) :
    Calls Tryd.prog 136 #[.int .u64 a0, .int .u64 a1] w fun e w' => e = .returned (.tuple #[.int .u64 r1, .int .u64 r2]) ∧ Drawn0 w w' := by
  have H : ((bits_Mul64.f a0 a1).bind fun bt201 => (some (bt201.1, bt201.2))) = some (r1, r2) := h
  clear h
  obtain ⟨⟨t201, t202⟩, A3, H⟩ := OB H
  try dsimp only at H
  replace A3 := AM A3
  simp only [Option.some.injEq, Prod.mk.injEq] at H
  obtain ⟨rfl, rfl⟩ := H
  go_enter Tryd.func136, Tryd.ntmps136
  go_wp2_with (first | ((with_reducible refine gate_callee (f := 148) rfl ?_); refine gl_ (some 25) Tryd.func148 #[.int .u64 a0, .int .u64 a1] ?_; (with_reducible refine (bits_Mul64.calls a0 a1 t201 t202 _ A3.out).mono ?_); rintro e w' ⟨rfl, ⟨nd, rfl⟩⟩; refine ⟨_, rfl, ?_⟩))
  go_ret2
  exact ⟨by first | rfl | (simp; done) | (simp [*]; done), by repeat (first | exact Drawn0.refl _ | apply Drawn0.step)⟩

-- NOT PRINTED: function 156 (abi_NoEscape)

-- NOT PRINTED: function 149 (strings_Builder_copyCheck)

-- NOT PRINTED: function 157 (bytealg_MakeNoZero)

-- NOT PRINTED: function 150 (strings_Builder_grow)

-- NOT PRINTED: function 137 (strings_Builder_Grow)

-- NOT PRINTED: function 138 (strings_Builder_WriteString)

-- NOT PRINTED: function 139 (strings_Builder_Len)

-- NOT PRINTED: function 140 (strings_Builder_String)

-- NOT PRINTED: function 112 (strings_Repeat)

/-! ### impl_oneByte: function 113 -/
def impl_oneByte.f (a0 : Int) : Option (ByteArray) := some (strOfNums (([a0] : List Int)))
set_option maxHeartbeats 8000000 in
set_option maxRecDepth 100000 in
theorem impl_oneByte.calls (a0 : Int) (r : ByteArray) (w : World) (h : impl_oneByte.f a0 = some r) :
    Calls Tryd.prog 113 #[.int .u8 a0] w fun e w' => e = .returned (.string r) ∧ Below w.heap.size w w' := by
  have HB := AM (Below.refl w.heap.size w)
  have H : (some (strOfNums (([a0] : List Int)))) = some r := h
  clear h
  obtain ⟨y203, hy203⟩ : ∃ y_ : List Int, y_ = (([a0] : List Int)) := ⟨_, rfl⟩
  replace H : (some (strOfNums y203)) = some r := by first | (rw [hy203]; with_reducible exact H) | (have H2_ := (Option.bind_some _ _).symm.trans H; rw [hy203]; with_reducible exact H2_) | (have H2_ := (Option.bind_some _ _).symm.trans H; with_reducible exact H2_) | with_reducible exact H | (rw [hy203]; exact H) | exact H
  have Ny203 := AM hy203
  clear hy203
  obtain rfl := Option.some.inj H
  go_enter Tryd.func113, Tryd.ntmps113
  go_wp2_with (first | ((with_reducible refine gate_dst (N := 4) rfl ?_); refine Kd.R_lit (Kd.int .u8) _ 5 ?hgL1 (N := 4) ?hdL1 (xs := ([a0] : List Int)) (inner := [.int .u8 a0]) (ok := fun _ => True) (okp := fun _ => True) ?hrL1 ?hpL1 (fun _ hk => hk) trivial (Below.refl _ _) (Nat.le_refl _) (by simp) ?_; (case hdL1 => rfl); (case hgL1 => rfl); (case hrL1 => first | (go_simp; done) | (go_simp; rfl)); (case hpL1 => exact (Reps.one (show Kd.M (Kd.int .u8) _ _ _ a0 [.int .u8 a0] from rfl) (Reps.none _ _))); intro v204 w2 ho3 hb hg_ hnew_; clear hg_ hnew_; (first | rw [← Ny203.out] at ho3 | (simp only [Int.reduceToNat] at ho3; rw [← Ny203.out] at ho3)); have HO205 := AM (Kd.R_lower ho3 (below_size bel_)); replace HB := AM (below_step bel_ hb); clear hb ho3; have hcv4 := own_string (P := Tryd.prog) Tryd.underlying38 Tryd.underlying5 Tryd.underlying9 (Kd.own_of_R HO205.out)))
  go_ret
  exact ⟨ri_, bel_⟩

-- NOT PRINTED: function 78 (impl_summed)

/-! ### impl_digest: function 65 -/
def impl_digest.f (a0 : ByteArray) : Option (ByteArray) := if a0.size ≤ 1099511627776 then some (Hand.digestL a0) else none
theorem impl_digest.calls (a0 : ByteArray) (r : ByteArray) (w : World) (h : impl_digest.f a0 = some r) (hL : Hand.LaidG w := by first | exact hL | exact Hand.LaidG.below hL bel_) :
    Calls Tryd.prog 65 #[.string a0] w fun e w' => e = .returned (.string r) ∧ Below w.heap.size w w' := by
  unfold impl_digest.f at h
  by_cases hc : a0.size ≤ 1099511627776
  · rw [if_pos hc] at h
    obtain rfl := Option.some.inj h
    exact Hand.digest_whole a0 hc w hL
  · rw [if_neg hc] at h
    cases h

/-! ### impl_PutNum: function 99 -/
def impl_PutNum.l0 : Nat → Int → List Int → Option (ByteArray)
  | 0, _, _ => none
  | k + 1, x3, x4 => if x3 > 127 then (if x4.length < 140737488355328 then (impl_PutNum.l0 k (x3 / 128) (x4 ++ [Go.bits .or .u8 ((Go.bits .and .u64 x3 127) % 256) 128])) else (none)) else (if x4.length < 140737488355328 then (some (strOfNums (x4 ++ [(x3) % 256]))) else (none))
def impl_PutNum.f (k : Nat) (a0 : Int) : Option (ByteArray) := impl_PutNum.l0 k (Go.bits .xor .u64 (IntKind.u64.wrap ((IntKind.u64.wrap (a0)) * 2)) (IntKind.u64.wrap (a0 / 9223372036854775808))) ([] : List Int)
theorem impl_PutNum.mono_l : ∀ k, (∀ y0 y1, LeO (impl_PutNum.l0 k y0 y1) (impl_PutNum.l0 (k + 1) y0 y1))
  | 0 => fun _ _ r h => by simp [impl_PutNum.l0] at h
  | k + 1 => by
    have ih0 := impl_PutNum.mono_l k
    · intro y0 y1
      unfold impl_PutNum.l0
      repeat' first
      | (with_reducible exact ih0 _ _)
      | (with_reducible exact LeO.refl _)
      | (with_reducible exact LeO.none _)
      | (with_reducible refine LeO.ite ?_ ?_)
      | (with_reducible refine LeO.bind ?_ (fun _ => ?_))
      | exact ih0 _ _
      | exact LeO.none _
      | refine LeO.ite ?_ ?_
      | refine LeO.bind ?_ (fun _ => ?_)
theorem impl_PutNum.mono : ∀ a0 k, LeO (impl_PutNum.f k a0) (impl_PutNum.f (k + 1) a0) := by
  intro a0 k
  have ih0 := impl_PutNum.mono_l k
  unfold impl_PutNum.f
  repeat' first
      | (with_reducible exact ih0 _ _)
      | (with_reducible exact LeO.refl _)
      | (with_reducible exact LeO.none _)
      | (with_reducible refine LeO.ite ?_ ?_)
      | (with_reducible refine LeO.bind ?_ (fun _ => ?_))
      | exact ih0 _ _
      | exact LeO.none _
      | refine LeO.ite ?_ ?_
      | refine LeO.bind ?_ (fun _ => ?_)
set_option maxHeartbeats 8000000 in
set_option maxRecDepth 100000 in
theorem impl_PutNum.calls (k : Nat) (a0 : Int) (r : ByteArray) (w : World) (h : impl_PutNum.f k a0 = some r) :
    Calls Tryd.prog 99 #[.int .i64 a0] w fun e w' => e = .returned (.string r) ∧ Below w.heap.size w w' := by
  have HB := AM (Below.refl w.heap.size w)
  have H : (impl_PutNum.l0 k (Go.bits .xor .u64 (IntKind.u64.wrap ((IntKind.u64.wrap (a0)) * 2)) (IntKind.u64.wrap (a0 / 9223372036854775808))) ([] : List Int)) = some r := h
  clear h
  have H' := AM H
  clear H
  go_enter Tryd.func99, Tryd.ntmps99
  go_wp2
  go_loopg [3, 4] k (fun kq v3 v4 w' => ∃ (x3_1 : Int) (x4_1 : List Int), v3 = .int .u64 x3_1 ∧ Aside0 (impl_PutNum.l0 kq x3_1 x4_1 = some r) ∧ Aside0 (kq ≤ k) ∧ Aside0 (Kd.R (Kd.int .u8) 5 w' w.heap.size (fun _ => True) v4 x4_1) ∧ Aside0 (Below w.heap.size w w'))
  case atStart => exact ⟨(Go.bits .xor .u64 (IntKind.u64.wrap ((IntKind.u64.wrap (a0)) * 2)) (IntKind.u64.wrap (a0 / 9223372036854775808))), (([] : List Int)), (by first | rfl | (simp; done) | (simp [*]; done)), H', ⟨Nat.le_refl _⟩, ⟨by first | exact Kd.R_nil _ _ _ _ _ | exact Kd.N_nil _ _ _ _ _ | exact Kd.V_nil _ _ _ _ _ | exact Kd.Q_nil _ _ _ _ _ | exact Kd.S_nil _ _ _ _ _⟩, ⟨bel_⟩⟩
  case round =>
    clear H'
    obtain ⟨x3_1, x4_1, rfl, HA, HK1, HO_4, HB⟩ := hrel
    cases gk with
    | zero => exact absurd HA.out (by simp [impl_PutNum.l0])
    | succ k1 =>
      have H := HA.out
      clear HA
      simp only [impl_PutNum.l0] at H
      by_cases c2 : x3_1 > 127
      · rw [if_pos c2] at H
        have c2b0 : decide (127 < x3_1) = true := decide_eq_true c2
        clear c2
        by_cases c3 : x4_1.length < 140737488355328
        · rw [if_pos c3] at H
          have LMc3 := AM c3
          clear c3
          obtain ⟨y206, hy206⟩ : ∃ y_ : List Int, y_ = (x4_1 ++ [Go.bits .or .u8 ((Go.bits .and .u64 x3_1 127) % 256) 128]) := ⟨_, rfl⟩
          replace H : (impl_PutNum.l0 k1 (x3_1 / 128) y206) = some r := by first | (rw [hy206]; with_reducible exact H) | (have H2_ := (Option.bind_some _ _).symm.trans H; rw [hy206]; with_reducible exact H2_) | (have H2_ := (Option.bind_some _ _).symm.trans H; with_reducible exact H2_) | with_reducible exact H | (rw [hy206]; exact H) | exact H
          have Ny206 := AM hy206
          clear hy206
          have H' := AM H
          clear H
          go_wp2_with (first | ((with_reducible refine gate_builtin (b := .append) (xs := #[.tmp 14, .tmp 19]) rfl ?_); at_builtin; refine Kd.R_append (Kd.int .u8) (w0 := w) w.heap.size rfl (.tmp 14) (.tmp 19) 38 5 (.int .u8 0) 1 rfl Tryd.underlying38 info5 rfl (by decide) (by omega) u4 x4_1 (Go.bits .or .u8 ((Go.bits .and .u64 x3_1 127) % 256) 128) [.int .u8 (Go.bits .or .u8 ((Go.bits .and .u64 x3_1 127) % 256) 128)] (fun _ => True) (fun _ => False) rfl rfl ?aP (fun _ hk => hk.elim) ?aF ?aO ?aB ?aS ?aL ?_; (case aP => exact rfl); (case aB => exact bel_); (case aF => exact (fun _ _ => trivial)); (case aO => exact (ro_ HO_4.out)); (case aS => exact (below_size bel_)); (case aL => have := LMc3.out; omega); intro v207 w4 ho hb hg hat; rw [← Ny206.out] at ho; have n0_ := AM hb; have n1_ := AM ho; clear HB; clear HO_4; have HB := n0_; have HO208 := n1_; clear n0_ n1_; clear ho hb hg hat))
          go_roundg k1
          case measure => have := HK1.out; omega
          case rel => exact ⟨(x3_1 / 128), (y206), (by first | rfl | (simp; done) | (simp [*]; done)), H', ⟨by have := HK1.out; omega⟩, ⟨ro_ HO208.out⟩, ⟨bel_⟩⟩
        · rw [if_neg c3] at H
          exact absurd H (by simp)
      · rw [if_neg c2] at H
        have c2b0 : decide (127 < x3_1) = false := decide_eq_false c2
        clear c2
        by_cases c5 : x4_1.length < 140737488355328
        · rw [if_pos c5] at H
          have LMc5 := AM c5
          clear c5
          obtain ⟨y209, hy209⟩ : ∃ y_ : List Int, y_ = (x4_1 ++ [(x3_1) % 256]) := ⟨_, rfl⟩
          replace H : (some (strOfNums y209)) = some r := by first | (rw [hy209]; with_reducible exact H) | (have H2_ := (Option.bind_some _ _).symm.trans H; rw [hy209]; with_reducible exact H2_) | (have H2_ := (Option.bind_some _ _).symm.trans H; with_reducible exact H2_) | with_reducible exact H | (rw [hy209]; exact H) | exact H
          have Ny209 := AM hy209
          clear hy209
          obtain rfl := Option.some.inj H
          go_wp2_with (first | ((with_reducible refine gate_builtin (b := .append) (xs := #[.tmp 23, .tmp 26]) rfl ?_); at_builtin; refine Kd.R_append (Kd.int .u8) (w0 := w) w.heap.size rfl (.tmp 23) (.tmp 26) 38 5 (.int .u8 0) 1 rfl Tryd.underlying38 info5 rfl (by decide) (by omega) u4 x4_1 ((x3_1) % 256) [.int .u8 ((x3_1) % 256)] (fun _ => True) (fun _ => False) rfl rfl ?aP (fun _ hk => hk.elim) ?aF ?aO ?aB ?aS ?aL ?_; (case aP => exact rfl); (case aB => exact bel_); (case aF => exact (fun _ _ => trivial)); (case aO => exact (ro_ HO_4.out)); (case aS => exact (below_size bel_)); (case aL => have := LMc5.out; omega); intro v210 w6 ho hb hg hat; rw [← Ny209.out] at ho; have n0_ := AM hb; have n1_ := AM ho; clear HB; clear HO_4; have HB := n0_; have HO211 := n1_; clear n0_ n1_; clear ho hb hg hat; have hcv7 := own_string (P := Tryd.prog) Tryd.underlying38 Tryd.underlying5 Tryd.underlying9 (Kd.own_of_R HO211.out)))
          go_ret
          exact ⟨ri_, bel_⟩
        · rw [if_neg c5] at H
          exact absurd H (by simp)

/-! ### impl_Frame_bytes: function 53 -/
def impl_Frame_bytes.f (k : Nat) (a0_0 : Int) (a0_1 : Int) (a0_2 : Int) (a0_3 : Int) (a0_4 : ByteArray) (a0_5 : ByteArray) : Option (ByteArray) := (impl_PutNum.f k a0_0).bind fun t213 => (if 1 + t213.size ≤ 9223372036854775807 then ((impl_PutNum.f k a0_1).bind fun t214 => (if ((⟨#[70]⟩ : ByteArray) ++ t213).size + t214.size ≤ 9223372036854775807 then ((impl_PutNum.f k a0_2).bind fun t215 => (if (((⟨#[70]⟩ : ByteArray) ++ t213) ++ t214).size + t215.size ≤ 9223372036854775807 then ((impl_PutNum.f k a0_3).bind fun t216 => (if ((((⟨#[70]⟩ : ByteArray) ++ t213) ++ t214) ++ t215).size + t216.size ≤ 9223372036854775807 then (if (((((⟨#[70]⟩ : ByteArray) ++ t213) ++ t214) ++ t215) ++ t216).size + a0_4.size ≤ 9223372036854775807 then (if ((((((⟨#[70]⟩ : ByteArray) ++ t213) ++ t214) ++ t215) ++ t216) ++ a0_4).size + a0_5.size ≤ 9223372036854775807 then ((impl_digest.f (((((((⟨#[70]⟩ : ByteArray) ++ t213) ++ t214) ++ t215) ++ t216) ++ a0_4) ++ a0_5)).bind fun t217 => (if ((((((⟨#[70]⟩ : ByteArray) ++ t213) ++ t214) ++ t215) ++ t216) ++ a0_4).size + t217.size ≤ 9223372036854775807 then (if (((((((⟨#[70]⟩ : ByteArray) ++ t213) ++ t214) ++ t215) ++ t216) ++ a0_4) ++ t217).size + a0_5.size ≤ 9223372036854775807 then (some ((((((((⟨#[70]⟩ : ByteArray) ++ t213) ++ t214) ++ t215) ++ t216) ++ a0_4) ++ t217) ++ a0_5)) else (none)) else (none))) else (none)) else (none)) else (none))) else (none))) else (none))) else (none))
theorem impl_Frame_bytes.mono : ∀ a0 a1 a2 a3 a4 a5 k, LeO (impl_Frame_bytes.f k a0 a1 a2 a3 a4 a5) (impl_Frame_bytes.f (k + 1) a0 a1 a2 a3 a4 a5) := by
  intro a0 a1 a2 a3 a4 a5 k
  unfold impl_Frame_bytes.f
  repeat' first
      | (with_reducible exact impl_PutNum.mono _ _)
      | (with_reducible exact LeO.refl _)
      | (with_reducible exact LeO.none _)
      | (with_reducible refine LeO.ite ?_ ?_)
      | (with_reducible refine LeO.bind ?_ (fun _ => ?_))
      | exact impl_PutNum.mono _ _
      | exact LeO.none _
      | refine LeO.ite ?_ ?_
      | refine LeO.bind ?_ (fun _ => ?_)
def impl_Frame_bytes.T1 : Bool × List (List Nat × List Nat) := (true, [([], []), ([0], [0]), ([1], [1]), ([2], [2]), ([], []), ([4], [4]), ([5, 2], [5]), ([3, 6], [3, 6]), ([], []), ([8], [8]), ([9, 6], [9]), ([7, 10], [7, 10]), ([], []), ([12], [12]), ([13, 10], [13]), ([11, 14], [11, 14]), ([], []), ([16], [16]), ([15, 17], [15, 17]), ([18, 14, 0, 1, 2, 3, 4, 5, 6, 7, 8, 9, 10, 11, 12, 13, 14, 15, 16, 17, 18], [18])])
def impl_Frame_bytes.B1 : List Nat := [0, 1, 3, 7, 0, 16, 55, 127, 0, 256, 887, 2047, 0, 4096, 14199, 32767, 0, 65536, 262143, 524287]
theorem impl_Frame_bytes.tab1 : rtab .any (opsOf Tryd.f53 1) = impl_Frame_bytes.T1 := by kernel_rfl
theorem impl_Frame_bytes.bits1 : waitsOk impl_Frame_bytes.T1.2 impl_Frame_bytes.B1 = true := by kernel_rfl
def impl_Frame_bytes.T2 : Bool × List (List Nat × List Nat) := (true, [([], []), ([], []), ([], []), ([2], [2]), ([1, 3], [1, 3]), ([4], [4]), ([0, 5], [0, 5]), ([], []), ([7], [7]), ([6, 8], [6, 8]), ([9, 5, 0, 1, 2, 3, 4, 5, 6, 7, 8, 9], [9])])
def impl_Frame_bytes.B2 : List Nat := [0, 0, 0, 4, 14, 30, 63, 0, 128, 511, 1023]
theorem impl_Frame_bytes.tab2 : rtab .any (opsOf Tryd.f53 2) = impl_Frame_bytes.T2 := by kernel_rfl
theorem impl_Frame_bytes.bits2 : waitsOk impl_Frame_bytes.T2.2 impl_Frame_bytes.B2 = true := by kernel_rfl
set_option maxHeartbeats 8000000 in
set_option maxRecDepth 100000 in
theorem impl_Frame_bytes.calls (k : Nat) (a0_0 : Int) (a0_1 : Int) (a0_2 : Int) (a0_3 : Int) (a0_4 : ByteArray) (a0_5 : ByteArray) (r : ByteArray) (w : World) (h : impl_Frame_bytes.f k a0_0 a0_1 a0_2 a0_3 a0_4 a0_5 = some r) (hL : Hand.LaidG w := by first | exact hL | exact Hand.LaidG.below hL bel_) :
    Calls Tryd.prog 53 #[.agg #[.int .i64 a0_0, .int .i64 a0_1, .int .i64 a0_2, .int .i64 a0_3, .string a0_4, .string a0_5]] w fun e w' => e = .returned (.string r) ∧ Below w.heap.size w w' := by
  have hu28 := Tryd.underlying28
  have HB := AM (Below.refl w.heap.size w)
  have H : ((impl_PutNum.f k a0_0).bind fun t213 => (if 1 + t213.size ≤ 9223372036854775807 then ((impl_PutNum.f k a0_1).bind fun t214 => (if ((⟨#[70]⟩ : ByteArray) ++ t213).size + t214.size ≤ 9223372036854775807 then ((impl_PutNum.f k a0_2).bind fun t215 => (if (((⟨#[70]⟩ : ByteArray) ++ t213) ++ t214).size + t215.size ≤ 9223372036854775807 then ((impl_PutNum.f k a0_3).bind fun t216 => (if ((((⟨#[70]⟩ : ByteArray) ++ t213) ++ t214) ++ t215).size + t216.size ≤ 9223372036854775807 then (if (((((⟨#[70]⟩ : ByteArray) ++ t213) ++ t214) ++ t215) ++ t216).size + a0_4.size ≤ 9223372036854775807 then (if ((((((⟨#[70]⟩ : ByteArray) ++ t213) ++ t214) ++ t215) ++ t216) ++ a0_4).size + a0_5.size ≤ 9223372036854775807 then ((impl_digest.f (((((((⟨#[70]⟩ : ByteArray) ++ t213) ++ t214) ++ t215) ++ t216) ++ a0_4) ++ a0_5)).bind fun t217 => (if ((((((⟨#[70]⟩ : ByteArray) ++ t213) ++ t214) ++ t215) ++ t216) ++ a0_4).size + t217.size ≤ 9223372036854775807 then (if (((((((⟨#[70]⟩ : ByteArray) ++ t213) ++ t214) ++ t215) ++ t216) ++ a0_4) ++ t217).size + a0_5.size ≤ 9223372036854775807 then (some ((((((((⟨#[70]⟩ : ByteArray) ++ t213) ++ t214) ++ t215) ++ t216) ++ a0_4) ++ t217) ++ a0_5)) else (none)) else (none))) else (none)) else (none)) else (none))) else (none))) else (none))) else (none))) = some r := h
  clear h
  obtain ⟨t213, A2, H⟩ := OB H
  try dsimp only at H
  replace A2 := AM A2
  by_cases c3 : 1 + t213.size ≤ 9223372036854775807
  · rw [if_pos c3] at H
    have c3b0 := eq_true c3
    have c3b1 : decide (1 + t213.size ≤ 9223372036854775807) = true := decide_eq_true c3
    try have c3b2 : (9223372036854775807 < 1 + t213.size) = False := eq_false (Nat.not_lt.2 c3)
    obtain ⟨t214, A4, H⟩ := OB H
    try dsimp only at H
    replace A4 := AM A4
    by_cases c5 : ((⟨#[70]⟩ : ByteArray) ++ t213).size + t214.size ≤ 9223372036854775807
    · rw [if_pos c5] at H
      have c5b0 := eq_true c5
      have c5b1 : decide (((⟨#[70]⟩ : ByteArray) ++ t213).size + t214.size ≤ 9223372036854775807) = true := decide_eq_true c5
      try have c5b2 : (9223372036854775807 < ((⟨#[70]⟩ : ByteArray) ++ t213).size + t214.size) = False := eq_false (Nat.not_lt.2 c5)
      try have c5b3 : (9223372036854775807 < 1 + t213.size + t214.size) = False := eq_false (Nat.not_lt.2 (by have z := c5; simp only [ByteArray.size_append] at z; exact z))
      obtain ⟨t215, A6, H⟩ := OB H
      try dsimp only at H
      replace A6 := AM A6
      by_cases c7 : (((⟨#[70]⟩ : ByteArray) ++ t213) ++ t214).size + t215.size ≤ 9223372036854775807
      · rw [if_pos c7] at H
        have c7b0 := eq_true c7
        have c7b1 : decide ((((⟨#[70]⟩ : ByteArray) ++ t213) ++ t214).size + t215.size ≤ 9223372036854775807) = true := decide_eq_true c7
        try have c7b2 : (9223372036854775807 < (((⟨#[70]⟩ : ByteArray) ++ t213) ++ t214).size + t215.size) = False := eq_false (Nat.not_lt.2 c7)
        try have c7b3 : (9223372036854775807 < 1 + t213.size + t214.size + t215.size) = False := eq_false (Nat.not_lt.2 (by have z := c7; simp only [ByteArray.size_append] at z; exact z))
        obtain ⟨t216, A8, H⟩ := OB H
        try dsimp only at H
        replace A8 := AM A8
        by_cases c9 : ((((⟨#[70]⟩ : ByteArray) ++ t213) ++ t214) ++ t215).size + t216.size ≤ 9223372036854775807
        · rw [if_pos c9] at H
          have c9b0 := eq_true c9
          have c9b1 : decide (((((⟨#[70]⟩ : ByteArray) ++ t213) ++ t214) ++ t215).size + t216.size ≤ 9223372036854775807) = true := decide_eq_true c9
          try have c9b2 : (9223372036854775807 < ((((⟨#[70]⟩ : ByteArray) ++ t213) ++ t214) ++ t215).size + t216.size) = False := eq_false (Nat.not_lt.2 c9)
          try have c9b3 : (9223372036854775807 < 1 + t213.size + t214.size + t215.size + t216.size) = False := eq_false (Nat.not_lt.2 (by have z := c9; simp only [ByteArray.size_append] at z; exact z))
          by_cases c10 : (((((⟨#[70]⟩ : ByteArray) ++ t213) ++ t214) ++ t215) ++ t216).size + a0_4.size ≤ 9223372036854775807
          · rw [if_pos c10] at H
            have c10b0 := eq_true c10
            have c10b1 : decide ((((((⟨#[70]⟩ : ByteArray) ++ t213) ++ t214) ++ t215) ++ t216).size + a0_4.size ≤ 9223372036854775807) = true := decide_eq_true c10
            try have c10b2 : (9223372036854775807 < (((((⟨#[70]⟩ : ByteArray) ++ t213) ++ t214) ++ t215) ++ t216).size + a0_4.size) = False := eq_false (Nat.not_lt.2 c10)
            try have c10b3 : (9223372036854775807 < 1 + t213.size + t214.size + t215.size + t216.size + a0_4.size) = False := eq_false (Nat.not_lt.2 (by have z := c10; simp only [ByteArray.size_append] at z; exact z))
            by_cases c11 : ((((((⟨#[70]⟩ : ByteArray) ++ t213) ++ t214) ++ t215) ++ t216) ++ a0_4).size + a0_5.size ≤ 9223372036854775807
            · rw [if_pos c11] at H
              have c11b0 := eq_true c11
              have c11b1 : decide (((((((⟨#[70]⟩ : ByteArray) ++ t213) ++ t214) ++ t215) ++ t216) ++ a0_4).size + a0_5.size ≤ 9223372036854775807) = true := decide_eq_true c11
              try have c11b2 : (9223372036854775807 < ((((((⟨#[70]⟩ : ByteArray) ++ t213) ++ t214) ++ t215) ++ t216) ++ a0_4).size + a0_5.size) = False := eq_false (Nat.not_lt.2 c11)
              try have c11b3 : (9223372036854775807 < 1 + t213.size + t214.size + t215.size + t216.size + a0_4.size + a0_5.size) = False := eq_false (Nat.not_lt.2 (by have z := c11; simp only [ByteArray.size_append] at z; exact z))
              obtain ⟨t217, A12, H⟩ := OB H
              try dsimp only at H
              replace A12 := AM A12
              by_cases c13 : ((((((⟨#[70]⟩ : ByteArray) ++ t213) ++ t214) ++ t215) ++ t216) ++ a0_4).size + t217.size ≤ 9223372036854775807
              · rw [if_pos c13] at H
                have c13b0 := eq_true c13
                have c13b1 : decide (((((((⟨#[70]⟩ : ByteArray) ++ t213) ++ t214) ++ t215) ++ t216) ++ a0_4).size + t217.size ≤ 9223372036854775807) = true := decide_eq_true c13
                try have c13b2 : (9223372036854775807 < ((((((⟨#[70]⟩ : ByteArray) ++ t213) ++ t214) ++ t215) ++ t216) ++ a0_4).size + t217.size) = False := eq_false (Nat.not_lt.2 c13)
                try have c13b3 : (9223372036854775807 < 1 + t213.size + t214.size + t215.size + t216.size + a0_4.size + t217.size) = False := eq_false (Nat.not_lt.2 (by have z := c13; simp only [ByteArray.size_append] at z; exact z))
                by_cases c14 : (((((((⟨#[70]⟩ : ByteArray) ++ t213) ++ t214) ++ t215) ++ t216) ++ a0_4) ++ t217).size + a0_5.size ≤ 9223372036854775807
                · rw [if_pos c14] at H
                  have c14b0 := eq_true c14
                  have c14b1 : decide ((((((((⟨#[70]⟩ : ByteArray) ++ t213) ++ t214) ++ t215) ++ t216) ++ a0_4) ++ t217).size + a0_5.size ≤ 9223372036854775807) = true := decide_eq_true c14
                  try have c14b2 : (9223372036854775807 < (((((((⟨#[70]⟩ : ByteArray) ++ t213) ++ t214) ++ t215) ++ t216) ++ a0_4) ++ t217).size + a0_5.size) = False := eq_false (Nat.not_lt.2 c14)
                  try have c14b3 : (9223372036854775807 < 1 + t213.size + t214.size + t215.size + t216.size + a0_4.size + t217.size + a0_5.size) = False := eq_false (Nat.not_lt.2 (by have z := c14; simp only [ByteArray.size_append] at z; exact z))
                  obtain rfl := Option.some.inj H
                  go_enter Tryd.func53, Tryd.ntmps53
                  try go_wp2_with (first | ((with_reducible refine gate_dst (N := 1) rfl ?_); refine be_ 1 #[.int .i64 a0_0, .int .i64 a0_1, .int .i64 a0_2, .int .i64 a0_3, .string a0_4, .string a0_5] 28 ?_; intro gb212 hg w15 hbox hb; have BK212 := AM hbox; have GW212 := AM ((by rw [hg]; exact (below_size bel_) : w.heap.size ≤ gb212)); have GE212 := AM ((by rw [hg]; exact (below_size bel_) : w.heap.size ≤ gb212)); replace HB := AM (below_step bel_ hb); clear hb hbox hg))
                  replace BK212 := AM (blk_drew BK212.out)
                  replace HB := AM (below_drew1 HB.out)
                  refine start_ (n := 20) (S := fun w' => w'.cell? ⟨gb212, 0, none⟩ = some (.int .i64 a0_0) ∧ w'.cell? ⟨gb212, 1, none⟩ = some (.int .i64 a0_1) ∧ w'.cell? ⟨gb212, 2, none⟩ = some (.int .i64 a0_2) ∧ w'.cell? ⟨gb212, 3, none⟩ = some (.int .i64 a0_3) ∧ w'.cell? ⟨gb212, 4, none⟩ = some (.string a0_4) ∧ w'.cell? ⟨gb212, 5, none⟩ = some (.string a0_5)) (ds := []) (Array.replicate 20 false) (by kernel_rfl) rfl rfl ⟨(blk_cell BK212.out 0).trans rfl, (blk_cell BK212.out 1).trans rfl, (blk_cell BK212.out 2).trans rfl, (blk_cell BK212.out 3).trans rfl, (blk_cell BK212.out 4).trans rfl, (blk_cell BK212.out 5).trans rfl⟩ (fun hHeld => ?_); refine with_tabW impl_Frame_bytes.tab1 impl_Frame_bytes.bits1 (fun HT_ HW_ => ?_)
                  generalize w15.drew = w16 at BK212 HB hHeld ⊢
                  refine pu_ HT_ 0 (some 4) (bA 20 1) ?_
                  refine pu_ HT_ 4 (some 8) (bA 20 17) ?_
                  refine pu_ HT_ 8 (some 12) (bA 20 273) ?_
                  refine pu_ HT_ 12 (some 16) (bA 20 4369) ?_
                  refine pu_ HT_ 16 (some 20) (bA 20 69905) ?_
                  refine ta_ HT_ HW_ 1 (some 5) (bA 20 69907) hHeld ?_
                  refine ta_ HT_ HW_ 5 (some 9) (bA 20 69939) hHeld ?_
                  refine ta_ HT_ HW_ 9 (some 13) (bA 20 70451) hHeld ?_
                  refine ta_ HT_ HW_ 13 (some 17) (bA 20 78643) hHeld ?_
                  refine ta_ HT_ HW_ 17 (some 21) (bA 20 209715) hHeld ?_
                  refine on_ HT_ 2 (some 6) (bA 20 209719) (fun K hK => ?_)
                  refine go1_ Tryd.func99 #[.int .i64 a0_0] ?_
                  with_reducible refine (impl_PutNum.calls k a0_0 t213 _ A2.out).mono ?_
                  rintro e w17 ⟨rfl, hb⟩
                  refine ⟨_, rfl, ?_⟩
                  replace BK212 := AM (blk_below (g := gb212) (o := .cells #[.int .i64 a0_0, .int .i64 a0_1, .int .i64 a0_2, .int .i64 a0_3, .string a0_4, .string a0_5] 28 (0, 0)) (bk_ BK212.out) hb)
                  replace HB := AM (below_step bel_ hb)
                  (try clear hb); (try clear hb2); (try clear hk); (try clear hi)
                  refine hK.out _ _ ⟨(blk_cell BK212.out 0).trans rfl, (blk_cell BK212.out 1).trans rfl, (blk_cell BK212.out 2).trans rfl, (blk_cell BK212.out 3).trans rfl, (blk_cell BK212.out 4).trans rfl, (blk_cell BK212.out 5).trans rfl⟩ (fun hHeld => ?_)
                  clear hK K
                  refine nm_ ?_
                  refine pu_ HT_ 3 (some 7) (bA 20 209727) ?_
                  refine on_ HT_ 6 (some 10) (bA 20 209791) (fun K hK => ?_)
                  refine go1_ Tryd.func99 #[.int .i64 a0_1] ?_
                  with_reducible refine (impl_PutNum.calls k a0_1 t214 _ A4.out).mono ?_
                  rintro e w18 ⟨rfl, hb⟩
                  refine ⟨_, rfl, ?_⟩
                  replace BK212 := AM (blk_below (g := gb212) (o := .cells #[.int .i64 a0_0, .int .i64 a0_1, .int .i64 a0_2, .int .i64 a0_3, .string a0_4, .string a0_5] 28 (0, 0)) (bk_ BK212.out) hb)
                  replace HB := AM (below_step bel_ hb)
                  (try clear hb); (try clear hb2); (try clear hk); (try clear hi)
                  refine hK.out _ _ ⟨(blk_cell BK212.out 0).trans rfl, (blk_cell BK212.out 1).trans rfl, (blk_cell BK212.out 2).trans rfl, (blk_cell BK212.out 3).trans rfl, (blk_cell BK212.out 4).trans rfl, (blk_cell BK212.out 5).trans rfl⟩ (fun hHeld => ?_)
                  clear hK K
                  refine nm_ ?_
                  refine pu_ HT_ 7 (some 11) (bA 20 209919) ?_
                  refine on_ HT_ 10 (some 14) (bA 20 210943) (fun K hK => ?_)
                  refine go1_ Tryd.func99 #[.int .i64 a0_2] ?_
                  with_reducible refine (impl_PutNum.calls k a0_2 t215 _ A6.out).mono ?_
                  rintro e w19 ⟨rfl, hb⟩
                  refine ⟨_, rfl, ?_⟩
                  replace BK212 := AM (blk_below (g := gb212) (o := .cells #[.int .i64 a0_0, .int .i64 a0_1, .int .i64 a0_2, .int .i64 a0_3, .string a0_4, .string a0_5] 28 (0, 0)) (bk_ BK212.out) hb)
                  replace HB := AM (below_step bel_ hb)
                  (try clear hb); (try clear hb2); (try clear hk); (try clear hi)
                  refine hK.out _ _ ⟨(blk_cell BK212.out 0).trans rfl, (blk_cell BK212.out 1).trans rfl, (blk_cell BK212.out 2).trans rfl, (blk_cell BK212.out 3).trans rfl, (blk_cell BK212.out 4).trans rfl, (blk_cell BK212.out 5).trans rfl⟩ (fun hHeld => ?_)
                  clear hK K
                  refine nm_ ?_
                  refine pu_ HT_ 11 (some 15) (bA 20 212991) ?_
                  refine on_ HT_ 14 (some 18) (bA 20 229375) (fun K hK => ?_)
                  refine go1_ Tryd.func99 #[.int .i64 a0_3] ?_
                  with_reducible refine (impl_PutNum.calls k a0_3 t216 _ A8.out).mono ?_
                  rintro e w20 ⟨rfl, hb⟩
                  refine ⟨_, rfl, ?_⟩
                  replace BK212 := AM (blk_below (g := gb212) (o := .cells #[.int .i64 a0_0, .int .i64 a0_1, .int .i64 a0_2, .int .i64 a0_3, .string a0_4, .string a0_5] 28 (0, 0)) (bk_ BK212.out) hb)
                  replace HB := AM (below_step bel_ hb)
                  (try clear hb); (try clear hb2); (try clear hk); (try clear hi)
                  refine hK.out _ _ ⟨(blk_cell BK212.out 0).trans rfl, (blk_cell BK212.out 1).trans rfl, (blk_cell BK212.out 2).trans rfl, (blk_cell BK212.out 3).trans rfl, (blk_cell BK212.out 4).trans rfl, (blk_cell BK212.out 5).trans rfl⟩ (fun hHeld => ?_)
                  clear hK K
                  refine nm_ ?_
                  refine pu_ HT_ 15 (some 19) (bA 20 262143) ?_
                  refine pu_ HT_ 18 (some 22) (bA 20 524287) ?_
                  refine pu_ HT_ 19 (some 3) (bA 20 1048575) ?_
                  refine dn_ HT_ ?_
                  try go_wp2
                  replace BK212 := AM (blk_drew BK212.out)
                  replace HB := AM (below_drew1 HB.out)
                  refine start_ (n := 11) (S := fun w' => w'.cell? ⟨gb212, 0, none⟩ = some (.int .i64 a0_0) ∧ w'.cell? ⟨gb212, 1, none⟩ = some (.int .i64 a0_1) ∧ w'.cell? ⟨gb212, 2, none⟩ = some (.int .i64 a0_2) ∧ w'.cell? ⟨gb212, 3, none⟩ = some (.int .i64 a0_3) ∧ w'.cell? ⟨gb212, 4, none⟩ = some (.string a0_4) ∧ w'.cell? ⟨gb212, 5, none⟩ = some (.string a0_5)) (ds := []) (Array.replicate 11 false) (by kernel_rfl) rfl rfl ⟨(blk_cell BK212.out 0).trans rfl, (blk_cell BK212.out 1).trans rfl, (blk_cell BK212.out 2).trans rfl, (blk_cell BK212.out 3).trans rfl, (blk_cell BK212.out 4).trans rfl, (blk_cell BK212.out 5).trans rfl⟩ (fun hHeld => ?_); refine with_tabW impl_Frame_bytes.tab2 impl_Frame_bytes.bits2 (fun HT_ HW_ => ?_)
                  generalize w20.drew = w21 at BK212 HB hHeld ⊢
                  refine pu_ HT_ 0 (some 23) (bA 11 1) ?_
                  refine pu_ HT_ 1 (some 24) (bA 11 3) ?_
                  refine pu_ HT_ 2 (some 25) (bA 11 7) ?_
                  refine pu_ HT_ 7 (some 30) (bA 11 135) ?_
                  refine ta_ HT_ HW_ 3 (some 26) (bA 11 143) hHeld ?_
                  refine pu_ HT_ 4 (some 27) (bA 11 159) ?_
                  refine ta_ HT_ HW_ 8 (some 31) (bA 11 415) hHeld ?_
                  refine on_ HT_ 5 (some 28) (bA 11 447) (fun K hK => ?_)
                  refine go1_ Tryd.func65 #[.string (((((((⟨#[70]⟩ : ByteArray) ++ t213) ++ t214) ++ t215) ++ t216) ++ a0_4) ++ a0_5)] ?_
                  with_reducible refine (impl_digest.calls (((((((⟨#[70]⟩ : ByteArray) ++ t213) ++ t214) ++ t215) ++ t216) ++ a0_4) ++ a0_5) t217 _ A12.out).mono ?_
                  rintro e w22 ⟨rfl, hb⟩
                  refine ⟨_, rfl, ?_⟩
                  replace BK212 := AM (blk_below (g := gb212) (o := .cells #[.int .i64 a0_0, .int .i64 a0_1, .int .i64 a0_2, .int .i64 a0_3, .string a0_4, .string a0_5] 28 (0, 0)) (bk_ BK212.out) hb)
                  replace HB := AM (below_step bel_ hb)
                  (try clear hb); (try clear hb2); (try clear hk); (try clear hi)
                  refine hK.out _ _ ⟨(blk_cell BK212.out 0).trans rfl, (blk_cell BK212.out 1).trans rfl, (blk_cell BK212.out 2).trans rfl, (blk_cell BK212.out 3).trans rfl, (blk_cell BK212.out 4).trans rfl, (blk_cell BK212.out 5).trans rfl⟩ (fun hHeld => ?_)
                  clear hK K
                  refine nm_ ?_
                  refine pu_ HT_ 6 (some 29) (bA 11 511) ?_
                  refine pu_ HT_ 9 (some 32) (bA 11 1023) ?_
                  refine pu_ HT_ 10 (some 2) (bA 11 2047) ?_
                  refine dn_ HT_ ?_
                  try go_wp2
                  go_ret
                  exact ⟨ri_, bel_⟩
                · rw [if_neg c14] at H
                  exact absurd H (by simp)
              · rw [if_neg c13] at H
                exact absurd H (by simp)
            · rw [if_neg c11] at H
              exact absurd H (by simp)
          · rw [if_neg c10] at H
            exact absurd H (by simp)
        · rw [if_neg c9] at H
          exact absurd H (by simp)
      · rw [if_neg c7] at H
        exact absurd H (by simp)
    · rw [if_neg c5] at H
      exact absurd H (by simp)
  · rw [if_neg c3] at H
    exact absurd H (by simp)

/-! ### impl_FrameBytes: function 16 -/
def impl_FrameBytes.f (k : Nat) (a0_0 : Int) (a0_1 : Int) (a0_2 : Int) (a0_3 : Int) (a0_4 : ByteArray) (a0_5 : ByteArray) : Option (ByteArray) := (impl_FrameRight.f a0_0 a0_1 a0_2 a0_3 a0_4 a0_5).bind fun t219 => (if t219 = true then ((impl_Frame_bytes.f k a0_0 a0_1 a0_2 a0_3 a0_4 a0_5).bind fun t220 => (some t220)) else (some (⟨#[]⟩ : ByteArray)))
theorem impl_FrameBytes.mono : ∀ a0 a1 a2 a3 a4 a5 k, LeO (impl_FrameBytes.f k a0 a1 a2 a3 a4 a5) (impl_FrameBytes.f (k + 1) a0 a1 a2 a3 a4 a5) := by
  intro a0 a1 a2 a3 a4 a5 k
  unfold impl_FrameBytes.f
  repeat' first
      | (with_reducible exact impl_Frame_bytes.mono _ _ _ _ _ _ _)
      | (with_reducible exact LeO.refl _)
      | (with_reducible exact LeO.none _)
      | (with_reducible refine LeO.ite ?_ ?_)
      | (with_reducible refine LeO.bind ?_ (fun _ => ?_))
      | exact impl_Frame_bytes.mono _ _ _ _ _ _ _
      | exact LeO.none _
      | refine LeO.ite ?_ ?_
      | refine LeO.bind ?_ (fun _ => ?_)
set_option maxHeartbeats 8000000 in
set_option maxRecDepth 100000 in
theorem impl_FrameBytes.calls (k : Nat) (a0_0 : Int) (a0_1 : Int) (a0_2 : Int) (a0_3 : Int) (a0_4 : ByteArray) (a0_5 : ByteArray) (r : ByteArray) (w : World) (h : impl_FrameBytes.f k a0_0 a0_1 a0_2 a0_3 a0_4 a0_5 = some r) (hL : Hand.LaidG w := by first | exact hL | exact Hand.LaidG.below hL bel_) :
    Calls Tryd.prog 16 #[.agg #[.int .i64 a0_0, .int .i64 a0_1, .int .i64 a0_2, .int .i64 a0_3, .string a0_4, .string a0_5]] w fun e w' => e = .returned (.string r) ∧ Below w.heap.size w w' := by
  have hu28 := Tryd.underlying28
  have HB := AM (Below.refl w.heap.size w)
  have H : ((impl_FrameRight.f a0_0 a0_1 a0_2 a0_3 a0_4 a0_5).bind fun t219 => (if t219 = true then ((impl_Frame_bytes.f k a0_0 a0_1 a0_2 a0_3 a0_4 a0_5).bind fun t220 => (some t220)) else (some (⟨#[]⟩ : ByteArray)))) = some r := h
  clear h
  obtain ⟨t219, A2, H⟩ := OB H
  try dsimp only at H
  replace A2 := AM A2
  by_cases c3 : t219 = true
  · subst c3
    rw [if_pos rfl] at H
    obtain ⟨t220, A4, H⟩ := OB H
    try dsimp only at H
    replace A4 := AM A4
    obtain rfl := Option.some.inj H
    go_enter Tryd.func16, Tryd.ntmps16
    go_wp2_with (first | ((with_reducible refine gate_dst (N := 1) rfl ?_); refine be_ 1 #[.int .i64 a0_0, .int .i64 a0_1, .int .i64 a0_2, .int .i64 a0_3, .string a0_4, .string a0_5] 28 ?_; intro gb218 hg w5 hbox hb; have BK218 := AM hbox; have GW218 := AM ((by rw [hg]; exact (below_size bel_) : w.heap.size ≤ gb218)); have GE218 := AM ((by rw [hg]; exact (below_size bel_) : w.heap.size ≤ gb218)); replace HB := AM (below_step bel_ hb); clear hb hbox hg; have hcz6_0 : w5.cell? ⟨gb218, 0, none⟩ = some (.int .i64 a0_0) := (blk_cell BK218.out 0).trans rfl; have hcz6_1 : w5.cell? ⟨gb218, 1, none⟩ = some (.int .i64 a0_1) := (blk_cell BK218.out 1).trans rfl; have hcz6_2 : w5.cell? ⟨gb218, 2, none⟩ = some (.int .i64 a0_2) := (blk_cell BK218.out 2).trans rfl; have hcz6_3 : w5.cell? ⟨gb218, 3, none⟩ = some (.int .i64 a0_3) := (blk_cell BK218.out 3).trans rfl; have hcz6_4 : w5.cell? ⟨gb218, 4, none⟩ = some (.string a0_4) := (blk_cell BK218.out 4).trans rfl; have hcz6_5 : w5.cell? ⟨gb218, 5, none⟩ = some (.string a0_5) := (blk_cell BK218.out 5).trans rfl; have hfz6_0 := blk_frozen BK218.out 0; have hfz6_1 := blk_frozen BK218.out 1; have hfz6_2 := blk_frozen BK218.out 2; have hfz6_3 := blk_frozen BK218.out 3; have hfz6_4 := blk_frozen BK218.out 4; have hfz6_5 := blk_frozen BK218.out 5) | ((with_reducible refine gate_callee (f := 45) rfl ?_); refine gl_ (some 4) Tryd.func45 #[.agg #[.int .i64 a0_0, .int .i64 a0_1, .int .i64 a0_2, .int .i64 a0_3, .string a0_4, .string a0_5]] ?_; (with_reducible refine (impl_FrameRight.calls a0_0 a0_1 a0_2 a0_3 a0_4 a0_5 true _ A2.out).mono ?_); rintro e w7 ⟨rfl, hb⟩; refine ⟨_, rfl, ?_⟩; replace BK218 := AM (blk_below (g := gb218) (o := .cells #[.int .i64 a0_0, .int .i64 a0_1, .int .i64 a0_2, .int .i64 a0_3, .string a0_4, .string a0_5] 28 (0, 0)) (bk_ BK218.out) hb); replace HB := AM (below_step bel_ hb); (try clear hb); (try clear hb2); (try clear hk); (try clear hi); have hcz8_0 : w7.cell? ⟨gb218, 0, none⟩ = some (.int .i64 a0_0) := (blk_cell BK218.out 0).trans rfl; have hcz8_1 : w7.cell? ⟨gb218, 1, none⟩ = some (.int .i64 a0_1) := (blk_cell BK218.out 1).trans rfl; have hcz8_2 : w7.cell? ⟨gb218, 2, none⟩ = some (.int .i64 a0_2) := (blk_cell BK218.out 2).trans rfl; have hcz8_3 : w7.cell? ⟨gb218, 3, none⟩ = some (.int .i64 a0_3) := (blk_cell BK218.out 3).trans rfl; have hcz8_4 : w7.cell? ⟨gb218, 4, none⟩ = some (.string a0_4) := (blk_cell BK218.out 4).trans rfl; have hcz8_5 : w7.cell? ⟨gb218, 5, none⟩ = some (.string a0_5) := (blk_cell BK218.out 5).trans rfl; have hfz8_0 := blk_frozen BK218.out 0; have hfz8_1 := blk_frozen BK218.out 1; have hfz8_2 := blk_frozen BK218.out 2; have hfz8_3 := blk_frozen BK218.out 3; have hfz8_4 := blk_frozen BK218.out 4; have hfz8_5 := blk_frozen BK218.out 5) | ((with_reducible refine gate_callee (f := 53) rfl ?_); refine gl_ (some 7) Tryd.func53 #[.agg #[.int .i64 a0_0, .int .i64 a0_1, .int .i64 a0_2, .int .i64 a0_3, .string a0_4, .string a0_5]] ?_; (with_reducible refine (impl_Frame_bytes.calls k a0_0 a0_1 a0_2 a0_3 a0_4 a0_5 t220 _ A4.out).mono ?_); rintro e w9 ⟨rfl, hb⟩; refine ⟨_, rfl, ?_⟩; replace BK218 := AM (blk_below (g := gb218) (o := .cells #[.int .i64 a0_0, .int .i64 a0_1, .int .i64 a0_2, .int .i64 a0_3, .string a0_4, .string a0_5] 28 (0, 0)) (bk_ BK218.out) hb); replace HB := AM (below_step bel_ hb); (try clear hb); (try clear hb2); (try clear hk); (try clear hi)))
    go_ret
    exact ⟨ri_, bel_⟩
  · replace c3 := Bool.eq_false_iff.mpr c3
    subst c3
    rw [if_neg (show ¬ (false = true) by decide)] at H
    obtain rfl := Option.some.inj H
    go_enter Tryd.func16, Tryd.ntmps16
    go_wp2_with (first | ((with_reducible refine gate_dst (N := 1) rfl ?_); refine be_ 1 #[.int .i64 a0_0, .int .i64 a0_1, .int .i64 a0_2, .int .i64 a0_3, .string a0_4, .string a0_5] 28 ?_; intro gb218 hg w10 hbox hb; have BK218 := AM hbox; have GW218 := AM ((by rw [hg]; exact (below_size bel_) : w.heap.size ≤ gb218)); have GE218 := AM ((by rw [hg]; exact (below_size bel_) : w.heap.size ≤ gb218)); replace HB := AM (below_step bel_ hb); clear hb hbox hg; have hcz11_0 : w10.cell? ⟨gb218, 0, none⟩ = some (.int .i64 a0_0) := (blk_cell BK218.out 0).trans rfl; have hcz11_1 : w10.cell? ⟨gb218, 1, none⟩ = some (.int .i64 a0_1) := (blk_cell BK218.out 1).trans rfl; have hcz11_2 : w10.cell? ⟨gb218, 2, none⟩ = some (.int .i64 a0_2) := (blk_cell BK218.out 2).trans rfl; have hcz11_3 : w10.cell? ⟨gb218, 3, none⟩ = some (.int .i64 a0_3) := (blk_cell BK218.out 3).trans rfl; have hcz11_4 : w10.cell? ⟨gb218, 4, none⟩ = some (.string a0_4) := (blk_cell BK218.out 4).trans rfl; have hcz11_5 : w10.cell? ⟨gb218, 5, none⟩ = some (.string a0_5) := (blk_cell BK218.out 5).trans rfl; have hfz11_0 := blk_frozen BK218.out 0; have hfz11_1 := blk_frozen BK218.out 1; have hfz11_2 := blk_frozen BK218.out 2; have hfz11_3 := blk_frozen BK218.out 3; have hfz11_4 := blk_frozen BK218.out 4; have hfz11_5 := blk_frozen BK218.out 5) | ((with_reducible refine gate_callee (f := 45) rfl ?_); refine gl_ (some 4) Tryd.func45 #[.agg #[.int .i64 a0_0, .int .i64 a0_1, .int .i64 a0_2, .int .i64 a0_3, .string a0_4, .string a0_5]] ?_; (with_reducible refine (impl_FrameRight.calls a0_0 a0_1 a0_2 a0_3 a0_4 a0_5 false _ A2.out).mono ?_); rintro e w12 ⟨rfl, hb⟩; refine ⟨_, rfl, ?_⟩; replace BK218 := AM (blk_below (g := gb218) (o := .cells #[.int .i64 a0_0, .int .i64 a0_1, .int .i64 a0_2, .int .i64 a0_3, .string a0_4, .string a0_5] 28 (0, 0)) (bk_ BK218.out) hb); replace HB := AM (below_step bel_ hb); (try clear hb); (try clear hb2); (try clear hk); (try clear hi)))
    go_ret
    exact ⟨ri_, bel_⟩

end Go.Proofs.YtddapeieolfolaaDoor.PFnFrame
