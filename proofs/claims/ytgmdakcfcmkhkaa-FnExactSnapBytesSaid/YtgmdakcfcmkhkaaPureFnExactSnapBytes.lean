/- The plain law of FnExactSnapBytes: at every snapshot SnapBytes answers as the reference. -/
import Derived.Test.YtgmdakcfcmkhkaaOkFnExactSnapBytes
import Derived.Test.YtgmdakcfcmkhkaaLib
namespace Go.Proofs.Ytgmdakcfcmkhkaa.Pure
open Go.RowKit Go.Proofs.Ytgmdakcfcmkhkaa.PFnExactSnapBytes Go.Proofs.Ytgmdakcfcmkhkaa.Lib Go.Proofs.YtgmdakcfcmkhkaaW.PrintWords Go.Proofs.YtgmdakcfcmkhkaaW.PrintLast
set_option linter.unusedVariables false
set_option linter.unusedSimpArgs false
theorem nameRight_l0 (s : ByteArray) (hs : s.size ≤ 9223372036854775807) (d : Nat) : ∀ (i k : Nat), i + d = s.size → d < k → spec_NameRight.l0 k s (i : Int) = some (nameOk s d i) := by
  induction d with
  | zero =>
    intro i k hi hk
    obtain ⟨k, rfl⟩ : ∃ m, k = m + 1 := ⟨k - 1, by omega⟩
    simp only [spec_NameRight.l0]
    rw [if_neg (by omega)]
    rfl
  | succ d ih =>
    intro i k hi hk
    obtain ⟨k, rfl⟩ : ∃ m, k = m + 1 := ⟨k - 1, by omega⟩
    have e : wrap64 ((i : Int) + 1) = ((i + 1 : Nat) : Int) := by rw [w64 (by omega) (by omega)]; omega
    have h := ih (i + 1) k (by omega) (by omega)
    simp only [spec_NameRight.l0, e, h]
    rw [if_pos (by omega), if_pos (by omega)]
    exact nameStep _ _ _
theorem nameRight_ev (s : ByteArray) (hs : s.size ≤ 9223372036854775807) : Ev (fun k => spec_NameRight.f k s) (isName s 80) := by
  refine ev_from (s.size + 3) fun k hk => ?_
  obtain ⟨k, rfl⟩ : ∃ m, k = m + 1 := ⟨k - 1, by omega⟩
  have h := nameRight_l0 s hs s.size 0 k (by omega) (by omega)
  simp only [spec_NameRight.f, spec_NameRight.j0]
  have h' : spec_NameRight.l0 k s 0 = some (nameOk s s.size 0) := h
  rw [h']
  unfold isName
  generalize nameOk s s.size 0 = X
  grind
theorem isName_l0 (s : ByteArray) (most : Int) (hs : s.size ≤ 9223372036854775807) (d : Nat) : ∀ (i k : Nat), i + d = s.size → d < k → impl_isName.l0 k s most s.size (i : Int) = some (nameOk s d i && (decide ((s.size : Int) ≥ 1) && decide ((s.size : Int) ≤ most))) := by
  induction d with
  | zero =>
    intro i k hi hk
    obtain ⟨k, rfl⟩ : ∃ m, k = m + 1 := ⟨k - 1, by omega⟩
    simp only [impl_isName.l0, impl_long.f, impl_within.f, Option.bind_some, nameOk]
    rw [if_neg (by omega)]
    grind
  | succ d ih =>
    intro i k hi hk
    obtain ⟨k, rfl⟩ : ∃ m, k = m + 1 := ⟨k - 1, by omega⟩
    have e : wrap64 ((i : Int) + 1) = ((i + 1 : Nat) : Int) := by rw [w64 (by omega) (by omega)]; omega
    have h := ih (i + 1) k (by omega) (by omega)
    simp only [impl_isName.l0, e, h]
    rw [if_pos (by omega), if_pos (by omega), if_pos (by omega)]
    refine (nameStep _ _ _).trans ?_
    simp [nameOk, Bool.and_assoc]
theorem isName_ev (s : ByteArray) (most : Int) (hs : s.size ≤ 9223372036854775807) : Ev (fun k => impl_isName.f k s most) (isName s most) := by
  refine ev_from (s.size + 3) fun k hk => ?_
  have h := isName_l0 s most hs s.size 0 k (by omega) (by omega)
  simp only [impl_isName.f]
  exact h
theorem within_eq (a b c : Int) : impl_within.f a b c = some (decide (b ≤ a) && decide (a ≤ c)) := by
  unfold impl_within.f
  by_cases h : a ≥ b <;> simp [h]
def snapRight (n : ByteArray) (d : Int) (r : ByteArray) : Bool := isName n 20 && ((decide (0 ≤ d) && decide (d ≤ 1000000)) && ((r.size : Int) == 32))
theorem snapRight_s (n : ByteArray) (d : Int) (r : ByteArray) (hn : n.size ≤ 9223372036854775807) : Ev (fun k => spec_SnapRight.f k n d r) (snapRight n d r) := by
  unfold spec_SnapRight.f spec_l12Name.f
  have e1 := nameRight_ev n hn
  have e2 : Ev (fun k => (spec_NameRight.f k n).bind fun t102 => (if t102 = true then (some (decide ((n.size : Int) ≤ 20))) else (some false))) (isName n 20) := by
    refine Ev.bind e1 ?_
    refine ev_from 0 fun k _ => ?_
    unfold isName
    by_cases h : (nameOk n n.size 0 && (decide ((n.size : Int) ≥ 1) && decide ((n.size : Int) ≤ 80))) = true
    · rw [if_pos h]
      simp at h
      simp [h]
    · rw [if_neg h]
      simp at h
      congr 1
      symm
      simp
      intro h1 h2
      have := h h1 h2
      omega
  refine Ev.bind e2 ?_
  refine ev_from 0 fun k _ => ?_
  unfold snapRight spec_l12Day.f
  by_cases h1 : isName n 20 = true <;> by_cases h2 : d ≥ 0 <;> by_cases h3 : d ≤ 1000000 <;> simp [h1, h2, h3]
theorem snapRight_i (n : ByteArray) (d : Int) (r : ByteArray) (hn : n.size ≤ 9223372036854775807) : Ev (fun k => impl_SnapRight.f k n d r) (snapRight n d r) := by
  unfold impl_SnapRight.f impl_isSnapName.f impl_isDay.f
  have e1 := isName_ev n 20 hn
  refine Ev.bind (Ev.bind e1 (Ev.now _)) ?_
  refine ev_from 0 fun k _ => ?_
  simp only [within_eq, Option.bind_some, snapRight]
  by_cases h1 : isName n 20 = true <;> by_cases h2 : 0 ≤ d <;> by_cases h3 : d ≤ 1000000 <;> simp [h1, h2, h3]
theorem putNum_s_l0 (m : Nat) : ∀ (v k : Nat) (acc : List Int), v < 128 ^ (m + 1) → v < 18446744073709551616 → acc.length + m + 1 ≤ 140737488355328 → m < k → spec_PutNum.l0 k (v : Int) acc = some (strOfNums (acc ++ numL v)) := by
  induction m with
  | zero =>
    intro v k acc hv hv2 ha hk
    obtain ⟨k, rfl⟩ : ∃ m, k = m + 1 := ⟨k - 1, by omega⟩
    have hv' : v < 128 := by simpa using hv
    simp only [spec_PutNum.l0]
    rw [if_neg (by omega), if_pos (by omega), numL_lt hv']
    congr 4
    omega
  | succ m ih =>
    intro v k acc hv hv2 ha hk
    obtain ⟨k, rfl⟩ : ∃ m, k = m + 1 := ⟨k - 1, by omega⟩
    by_cases h : v < 128
    · simp only [spec_PutNum.l0]
      rw [if_neg (by omega), if_pos (by omega), numL_lt h]
      congr 4
      omega
    · have e1 : IntKind.u64.wrap (Int.tdiv (v : Int) 128) = ((v / 128 : Nat) : Int) := by
        rw [Int.tdiv_eq_ediv_of_nonneg (by omega), IntKind.wrap_u64]
        omega
      have e2 : (IntKind.u64.wrap ((Int.tmod (v : Int) 128) + 128)) % 256 = ((v % 128 + 128 : Nat) : Int) := by
        rw [Int.tmod_eq_emod_of_nonneg (by omega), IntKind.wrap_u64]
        omega
      simp only [spec_PutNum.l0, e1, e2]
      rw [if_pos (by omega), if_pos (by omega), ih (v / 128) k _ (by rw [Nat.div_lt_iff_lt_mul (by decide)]; rw [← Nat.pow_succ]; exact hv) (by omega) (by simp; omega) (by omega), numL_ge h]
      simp
theorem putNum_s (n : Int) (h0 : -9223372036854775808 ≤ n) (h1 : n ≤ 9223372036854775807) (k : Nat) (hk : 10 ≤ k) : spec_PutNum.f k n = some (putNum n) := by
  have e : spec_l01Fold.f n = some ((fold n : Nat) : Int) := by
    unfold spec_l01Fold.f fold
    by_cases h : n < 0
    · rw [if_pos h, if_pos h]
      simp only [IntKind.wrap_u64, wrap64]
      congr 1
      omega
    · rw [if_neg h, if_neg h]
      simp only [IntKind.wrap_u64]
      congr 1
      omega
  have hf := fold_lt n h0 h1
  unfold spec_PutNum.f
  rw [e, Option.bind_some, putNum_s_l0 9 _ k _ (Nat.lt_of_lt_of_le hf (by decide)) hf (by simp) (by omega)]
  simp [putNum]
theorem or128 (y : Nat) (h : y < 128) : Go.bits .or .u8 (((y : Nat) : Int) % 256) 128 = ((y + 128 : Nat) : Int) := by
  have e : ((y : Nat) : Int) % 256 = (y : Int) := by omega
  rw [e]
  refine (u8_or_nat y 128 (by omega) (by omega)).trans ?_
  have := nat_join 7 128 y (by decide) (by omega)
  rw [Nat.or_comm, this]
  congr 1
  omega
theorem putNum_i_l0 (m : Nat) : ∀ (v k : Nat) (acc : List Int), v < 128 ^ (m + 1) → v < 18446744073709551616 → acc.length + m + 1 ≤ 140737488355328 → m < k → impl_PutNum.l0 k (v : Int) acc = some (strOfNums (acc ++ numL v)) := by
  induction m with
  | zero =>
    intro v k acc hv hv2 ha hk
    obtain ⟨k, rfl⟩ : ∃ m, k = m + 1 := ⟨k - 1, by omega⟩
    have hv' : v < 128 := by simpa using hv
    simp only [impl_PutNum.l0]
    rw [if_neg (by omega), if_pos (by omega), numL_lt hv']
    congr 4
    omega
  | succ m ih =>
    intro v k acc hv hv2 ha hk
    obtain ⟨k, rfl⟩ : ∃ m, k = m + 1 := ⟨k - 1, by omega⟩
    by_cases h : v < 128
    · simp only [impl_PutNum.l0]
      rw [if_neg (by omega), if_pos (by omega), numL_lt h]
      congr 4
      omega
    · have e1 : (v : Int) / 128 = ((v / 128 : Nat) : Int) := by omega
      have e2 : Go.bits .or .u8 ((Go.bits .and .u64 (v : Int) 127) % 256) 128 = ((v % 128 + 128 : Nat) : Int) := by
        have e3 : Go.bits .and .u64 (v : Int) 127 = ((v % 128 : Nat) : Int) := by
          have := u64_and_nat v 127 hv2 (by decide)
          rw [nat_mask7] at this
          exact this
        rw [e3, or128 _ (by omega)]
      simp only [impl_PutNum.l0, e1, e2]
      rw [if_pos (by omega), if_pos (by omega), ih (v / 128) k _ (by rw [Nat.div_lt_iff_lt_mul (by decide)]; rw [← Nat.pow_succ]; exact hv) (by omega) (by simp; omega) (by omega), numL_ge h]
      simp
theorem fold_bits (n : Int) (h0 : -9223372036854775808 ≤ n) (h1 : n ≤ 9223372036854775807) : Go.bits .xor .u64 (IntKind.u64.wrap ((IntKind.u64.wrap n) * 2)) (IntKind.u64.wrap (n / 9223372036854775808)) = ((fold n : Nat) : Int) := by
  simp only [IntKind.wrap_u64]
  unfold fold
  by_cases h : n < 0
  · rw [if_pos h]
    have e1 : n / 9223372036854775808 % 18446744073709551616 = ((18446744073709551615 : Nat) : Int) := by omega
    have e2 : n % 18446744073709551616 * 2 % 18446744073709551616 = (((n % 18446744073709551616 * 2 % 18446744073709551616).toNat : Nat) : Int) := by omega
    rw [e1, e2, u64_xor_nat _ _ (by omega) (by omega), xor_ones _ (by omega)]
    omega
  · rw [if_neg h]
    have e1 : n / 9223372036854775808 % 18446744073709551616 = ((0 : Nat) : Int) := by omega
    have e2 : n % 18446744073709551616 * 2 % 18446744073709551616 = (((2 * n).toNat : Nat) : Int) := by omega
    rw [e1, e2, u64_xor_nat _ _ (by omega) (by omega)]
    simp
theorem putNum_i (n : Int) (h0 : -9223372036854775808 ≤ n) (h1 : n ≤ 9223372036854775807) (k : Nat) (hk : 10 ≤ k) : impl_PutNum.f k n = some (putNum n) := by
  have hf := fold_lt n h0 h1
  unfold impl_PutNum.f
  rw [fold_bits n h0 h1, putNum_i_l0 9 _ k _ (Nat.lt_of_lt_of_le hf (by decide)) hf (by simp) (by omega)]
  simp [putNum]
def snapBytes (n : ByteArray) (d : Int) (r : ByteArray) : ByteArray := (((⟨#[83]⟩ : ByteArray) ++ (putNum n.size ++ n)) ++ putNum d) ++ r
theorem one_size : (⟨#[83]⟩ : ByteArray).size = 1 := rfl
theorem snapBytes_i (n : ByteArray) (d : Int) (r : ByteArray) (h : snapRight n d r = true) : Ev (fun k => impl_Snap_bytes.f k n d r) (snapBytes n d r) := by
  simp [snapRight, isName] at h
  refine ev_from 10 fun k hk => ?_
  have s1 := putNum_size n.size (by omega) (by omega)
  have s2 := putNum_size d (by omega) (by omega)
  have e1 := putNum_i n.size (by omega) (by omega) k hk
  have e2 := putNum_i d (by omega) (by omega) k hk
  simp only [impl_Snap_bytes.f, impl_putText.f, impl_long.f, e1, e2, Option.bind_some, ByteArray.size_append, one_size]
  rw [if_pos (by omega)]
  simp only [Option.bind_some, ByteArray.size_append]
  rw [if_pos (by omega), if_pos (by omega), if_pos (by omega)]
  rfl
theorem snapBytes_s (n : ByteArray) (d : Int) (r : ByteArray) (hn : n.size ≤ 9223372036854775807) : Ev (fun k => spec_SnapBytes.f k n d r) (if snapRight n d r = true then snapBytes n d r else ⟨#[]⟩) := by
  unfold spec_SnapBytes.f
  refine Ev.bind (snapRight_s n d r hn) ?_
  by_cases h : snapRight n d r = true
  · refine ev_if_pos h ?_
    rw [if_pos h]
    simp [snapRight, isName] at h
    refine ev_from 10 fun k hk => ?_
    have s1 := putNum_size n.size (by omega) (by omega)
    have s2 := putNum_size d (by omega) (by omega)
    have e1 := putNum_s n.size (by omega) (by omega) k hk
    have e2 := putNum_s d (by omega) (by omega) k hk
    simp only [spec_PutText.f, e1, e2, Option.bind_some, ByteArray.size_append, one_size]
    rw [if_neg (by omega), if_pos (by omega)]
    simp only [Option.bind_some, ByteArray.size_append]
    rw [if_pos (by omega), if_pos (by omega), if_pos (by omega)]
    rfl
  · refine ev_if_neg h ?_
    rw [if_neg h]
    exact Ev.now _
theorem FnExactSnapBytes : FnExactSnapBytes_Pure := by
  intro a0 a1 a2 h0 _ h2
  refine Ev.rounds (g := fun k => laws_FnExactSnapBytes.f k a0 a1 a2) ?_
  have ⟨r, hr⟩ : ∃ r, laws_szSnap.f a0 a1 a2 1048576 = some r := by
    unfold laws_szSnap.f
    split
    · exact ⟨_, rfl⟩
    · split <;> exact ⟨_, rfl⟩
  unfold laws_FnExactSnapBytes.f
  refine ev_bind1 hr ?_
  by_cases hneg : r < 0
  · exact ev_if_pos hneg (Ev.now _)
  refine ev_if_neg hneg ?_
  have e : Ev (fun k => impl_SnapBytes.f k a0 a1 a2) (if snapRight a0 a1 a2 = true then snapBytes a0 a1 a2 else ⟨#[]⟩) := by
    unfold impl_SnapBytes.f
    refine Ev.bind (snapRight_i a0 a1 a2 h0) ?_
    by_cases h : snapRight a0 a1 a2 = true
    · refine ev_if_pos h ?_
      rw [if_pos h]
      exact Ev.bind (snapBytes_i a0 a1 a2 h) (Ev.now _)
    · refine ev_if_neg h ?_
      rw [if_neg h]
      exact Ev.now _
  refine ev_bind1 rfl (Ev.bind (snapBytes_s a0 a1 a2 h0) (ev_bind1 rfl (Ev.bind e ?_)))
  refine ev_from 0 fun k _ => ?_
  simp
end Go.Proofs.Ytgmdakcfcmkhkaa.Pure
