/- The plain law of FnExactFrameRight: at every frame FrameRight answers as the reference. -/
import Derived.Test.YtgmdakcfcmkhkaaOkFnExactFrameRight
import Derived.Test.YtgmdakcfcmkhkaaLib
namespace Go.Proofs.Ytgmdakcfcmkhkaa.Pure
open Go.RowKit Go.Proofs.Ytgmdakcfcmkhkaa.PFnExactFrameRight Go.Proofs.Ytgmdakcfcmkhkaa.Lib Go.Proofs.YtgmdakcfcmkhkaaW.PrintWords Go.Proofs.YtgmdakcfcmkhkaaW.PrintLast
set_option linter.unusedVariables false
set_option linter.unusedSimpArgs false
theorem within_eq (a b c : Int) : impl_within.f a b c = some (decide (b ≤ a) && decide (a ≤ c)) := by
  unfold impl_within.f
  by_cases h : a ≥ b <;> simp [h]
theorem codeRight_s (a b : Int) : spec_CodeRight.f a b = some ((decide (1 ≤ a) && decide (a ≤ 8)) && (decide (0 ≤ b) && decide (b ≤ 6))) := by
  unfold spec_CodeRight.f
  by_cases h1 : a ≥ 1 <;> by_cases h2 : a ≤ 8 <;> by_cases h3 : b ≥ 0 <;> simp [h1, h2, h3]
theorem codeRight_i (a b : Int) : impl_CodeRight.f a b = some ((decide (1 ≤ a) && decide (a ≤ 8)) && (decide (0 ≤ b) && decide (b ≤ 6))) := by
  unfold impl_CodeRight.f
  rw [within_eq]
  simp only [within_eq, Option.bind_some]
  by_cases h1 : 1 ≤ a <;> by_cases h2 : a ≤ 8 <;> simp [h1, h2]
def shardSize (k n : Int) : Int := if (1 ≤ k ∧ k ≤ 8) ∧ (0 ≤ n ∧ n ≤ 20000) then (n + k - 1) / k else 0
theorem shardDiv (k n : Int) (h1 : 1 ≤ k) (h2 : k ≤ 8) (h3 : 0 ≤ n) (h4 : n ≤ 20000) : wrap64 (Int.tdiv (wrap64 ((wrap64 (n + k)) - 1)) k) = (n + k - 1) / k := by
  have e0 : wrap64 (n + k) = n + k := by rw [w64 (by omega) (by omega)]
  rw [e0]
  have e1 : wrap64 (n + k - 1) = n + k - 1 := by rw [w64 (by omega) (by omega)]
  rw [e1]
  rw [Int.tdiv_eq_ediv_of_nonneg (by omega)]
  have h5 : 0 ≤ (n + k - 1) / k := Int.ediv_nonneg (by omega) (by omega)
  have h6 : (n + k - 1) / k ≤ n + k - 1 := Int.ediv_le_self _ (by omega)
  rw [w64 (by omega) (by omega)]
theorem shardSize_s (k n : Int) : spec_ShardSize.f k n = some (shardSize k n) := by
  unfold spec_ShardSize.f
  rw [codeRight_s]
  have e : spec_l04Size.f n = some (decide (0 ≤ n) && decide (n ≤ 20000)) := by
    unfold spec_l04Size.f
    by_cases h : n ≥ 0 <;> simp [h]
  rw [e]
  simp only [Option.bind_some, shardSize]
  by_cases h1 : 1 ≤ k
  · by_cases h2 : k ≤ 8
    · by_cases h3 : 0 ≤ n
      · by_cases h4 : n ≤ 20000
        · rw [shardDiv k n h1 h2 h3 h4, if_pos (by simp [h1, h2]), if_pos (by simp [h3, h4]), if_neg (by omega), if_pos ⟨⟨h1, h2⟩, h3, h4⟩]
        · simp [h1, h2, h3, h4]
      · simp [h1, h2, h3]
    · simp [h1, h2]
  · simp [h1]
theorem shardSize_i (k n : Int) : impl_ShardSize.f k n = some (shardSize k n) := by
  unfold impl_ShardSize.f
  simp only [within_eq, Option.bind_some, shardSize]
  by_cases h1 : 1 ≤ k
  · by_cases h2 : k ≤ 8
    · by_cases h3 : 0 ≤ n
      · by_cases h4 : n ≤ 20000
        · rw [shardDiv k n h1 h2 h3 h4, if_pos (by simp [h1, h2]), if_pos (by simp [h3, h4]), if_neg (by omega), if_pos ⟨⟨h1, h2⟩, h3, h4⟩]
        · simp [h1, h2, h3, h4]
      · simp [h1, h2, h3]
    · simp [h1, h2]
  · simp [h1]
def frameRight (k m i n : Int) (w t : ByteArray) : Bool := ((decide (1 ≤ k) && decide (k ≤ 8)) && (decide (0 ≤ m) && decide (m ≤ 6))) && ((decide (0 ≤ i) && decide (i < k + m)) && ((decide (0 ≤ n) && decide (n ≤ 12000)) && (((w.size : Int) == 32) && ((t.size : Int) == shardSize k n))))
theorem frameRight_s (k m i n : Int) (w t : ByteArray) : spec_FrameRight.f k m i n w t = some (frameRight k m i n w t) := by
  unfold spec_FrameRight.f
  simp only [codeRight_s, shardSize_s, Option.bind_some, frameRight]
  by_cases h1 : (decide (1 ≤ k) && decide (k ≤ 8) && (decide (0 ≤ m) && decide (m ≤ 6))) = true
  · rw [if_pos h1]
    have e : wrap64 (k + m) = k + m := by
      simp at h1
      rw [w64 (by omega) (by omega)]
    rw [e]
    simp only [h1, Bool.true_and]
    by_cases h2 : i ≥ 0 <;> by_cases h3 : i < k + m <;> by_cases h4 : n ≥ 0 <;> by_cases h5 : n ≤ 12000 <;> by_cases h6 : (w.size : Int) = 32 <;> simp [h2, h3, h4, h5, h6]
  · rw [if_neg h1]
    simp only [Bool.not_eq_true] at h1
    rw [h1]
    rfl
theorem frameRight_i (k m i n : Int) (w t : ByteArray) : impl_FrameRight.f k m i n w t = some (frameRight k m i n w t) := by
  unfold impl_FrameRight.f
  simp only [codeRight_i, shardSize_i, within_eq, impl_long.f, Option.bind_some, frameRight]
  by_cases h1 : (decide (1 ≤ k) && decide (k ≤ 8) && (decide (0 ≤ m) && decide (m ≤ 6))) = true
  · rw [if_pos h1]
    have e : wrap64 (wrap64 (k + m) - 1) = k + m - 1 := by
      simp at h1
      rw [w64 (n := k + m) (by omega) (by omega), w64 (by omega) (by omega)]
    rw [e]
    have e2 : decide (i ≤ k + m - 1) = decide (i < k + m) := decide_eq_decide.2 (by omega)
    simp only [h1, Bool.true_and, e2]
    by_cases h2 : i ≥ 0 <;> by_cases h3 : i < k + m <;> by_cases h4 : n ≥ 0 <;> by_cases h5 : n ≤ 12000 <;> by_cases h6 : (w.size : Int) = 32 <;> simp [h2, h3, h4, h5, h6]
  · rw [if_neg h1]
    simp only [Bool.not_eq_true] at h1
    rw [h1]
    rfl
theorem FnExactFrameRight : FnExactFrameRight_Pure := by
  intro a0 a1 a2 a3 a4 a5 _ _ _ _ _ _
  refine ⟨0, ?_⟩
  have ⟨r, hr⟩ : ∃ r, laws_szFrame.f a0 a1 a2 a3 a4 a5 1048576 = some r := by
    unfold laws_szFrame.f
    split
    · exact ⟨_, rfl⟩
    · split <;> exact ⟨_, rfl⟩
  simp only [laws_FnExactFrameRight.f, laws_toFrame.f, frameRight_s, frameRight_i, hr, Option.bind_some]
  simp
end Go.Proofs.Ytgmdakcfcmkhkaa.Pure
