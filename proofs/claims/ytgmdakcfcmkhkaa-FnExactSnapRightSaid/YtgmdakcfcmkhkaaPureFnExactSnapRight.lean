/- The plain law of FnExactSnapRight: at every snapshot SnapRight answers as the reference. -/
import Derived.Test.YtgmdakcfcmkhkaaOkFnExactSnapRight
import Derived.Test.YtgmdakcfcmkhkaaLib
namespace Go.Proofs.Ytgmdakcfcmkhkaa.Pure
open Go.RowKit Go.Proofs.Ytgmdakcfcmkhkaa.PFnExactSnapRight Go.Proofs.Ytgmdakcfcmkhkaa.Lib Go.Proofs.YtgmdakcfcmkhkaaW.PrintWords Go.Proofs.YtgmdakcfcmkhkaaW.PrintLast
set_option linter.unusedVariables false
set_option linter.unusedSimpArgs false
theorem nameRight_l0 (s : ByteArray) (hs : s.size ≤ 9223372036854775807) (d : Nat) : ∀ (i k : Nat), i + d = s.size → d < k → spec_NameRight.l0 k s (i : Int) = some (nameOk s d i) := by
  induction d with
  | zero =>
    intro i k hi hk
    obtain ⟨k, rfl⟩ : ∃ m, k = m + 1 := ⟨k - 1, by omega⟩
    simp only [spec_NameRight.l0]
    rw [if_neg (by omega)]
    rfl
  | succ d ih =>
    intro i k hi hk
    obtain ⟨k, rfl⟩ : ∃ m, k = m + 1 := ⟨k - 1, by omega⟩
    have e : wrap64 ((i : Int) + 1) = ((i + 1 : Nat) : Int) := by rw [w64 (by omega) (by omega)]; omega
    have h := ih (i + 1) k (by omega) (by omega)
    simp only [spec_NameRight.l0, e, h]
    rw [if_pos (by omega), if_pos (by omega)]
    exact nameStep _ _ _
theorem nameRight_ev (s : ByteArray) (hs : s.size ≤ 9223372036854775807) : Ev (fun k => spec_NameRight.f k s) (isName s 80) := by
  refine ev_from (s.size + 3) fun k hk => ?_
  obtain ⟨k, rfl⟩ : ∃ m, k = m + 1 := ⟨k - 1, by omega⟩
  have h := nameRight_l0 s hs s.size 0 k (by omega) (by omega)
  simp only [spec_NameRight.f, spec_NameRight.j0]
  have h' : spec_NameRight.l0 k s 0 = some (nameOk s s.size 0) := h
  rw [h']
  unfold isName
  generalize nameOk s s.size 0 = X
  grind
theorem isName_l0 (s : ByteArray) (most : Int) (hs : s.size ≤ 9223372036854775807) (d : Nat) : ∀ (i k : Nat), i + d = s.size → d < k → impl_isName.l0 k s most s.size (i : Int) = some (nameOk s d i && (decide ((s.size : Int) ≥ 1) && decide ((s.size : Int) ≤ most))) := by
  induction d with
  | zero =>
    intro i k hi hk
    obtain ⟨k, rfl⟩ : ∃ m, k = m + 1 := ⟨k - 1, by omega⟩
    simp only [impl_isName.l0, impl_long.f, impl_within.f, Option.bind_some, nameOk]
    rw [if_neg (by omega)]
    grind
  | succ d ih =>
    intro i k hi hk
    obtain ⟨k, rfl⟩ : ∃ m, k = m + 1 := ⟨k - 1, by omega⟩
    have e : wrap64 ((i : Int) + 1) = ((i + 1 : Nat) : Int) := by rw [w64 (by omega) (by omega)]; omega
    have h := ih (i + 1) k (by omega) (by omega)
    simp only [impl_isName.l0, e, h]
    rw [if_pos (by omega), if_pos (by omega), if_pos (by omega)]
    refine (nameStep _ _ _).trans ?_
    simp [nameOk, Bool.and_assoc]
theorem isName_ev (s : ByteArray) (most : Int) (hs : s.size ≤ 9223372036854775807) : Ev (fun k => impl_isName.f k s most) (isName s most) := by
  refine ev_from (s.size + 3) fun k hk => ?_
  have h := isName_l0 s most hs s.size 0 k (by omega) (by omega)
  simp only [impl_isName.f]
  exact h
theorem within_eq (a b c : Int) : impl_within.f a b c = some (decide (b ≤ a) && decide (a ≤ c)) := by
  unfold impl_within.f
  by_cases h : a ≥ b <;> simp [h]
def snapRight (n : ByteArray) (d : Int) (r : ByteArray) : Bool := isName n 20 && ((decide (0 ≤ d) && decide (d ≤ 1000000)) && ((r.size : Int) == 32))
theorem snapRight_s (n : ByteArray) (d : Int) (r : ByteArray) (hn : n.size ≤ 9223372036854775807) : Ev (fun k => spec_SnapRight.f k n d r) (snapRight n d r) := by
  unfold spec_SnapRight.f spec_l12Name.f
  have e1 := nameRight_ev n hn
  have e2 : Ev (fun k => (spec_NameRight.f k n).bind fun t102 => (if t102 = true then (some (decide ((n.size : Int) ≤ 20))) else (some false))) (isName n 20) := by
    refine Ev.bind e1 ?_
    refine ev_from 0 fun k _ => ?_
    unfold isName
    by_cases h : (nameOk n n.size 0 && (decide ((n.size : Int) ≥ 1) && decide ((n.size : Int) ≤ 80))) = true
    · rw [if_pos h]
      simp at h
      simp [h]
    · rw [if_neg h]
      simp at h
      congr 1
      symm
      simp
      intro h1 h2
      have := h h1 h2
      omega
  refine Ev.bind e2 ?_
  refine ev_from 0 fun k _ => ?_
  unfold snapRight spec_l12Day.f
  by_cases h1 : isName n 20 = true <;> by_cases h2 : d ≥ 0 <;> by_cases h3 : d ≤ 1000000 <;> simp [h1, h2, h3]
theorem snapRight_i (n : ByteArray) (d : Int) (r : ByteArray) (hn : n.size ≤ 9223372036854775807) : Ev (fun k => impl_SnapRight.f k n d r) (snapRight n d r) := by
  unfold impl_SnapRight.f impl_isSnapName.f impl_isDay.f
  have e1 := isName_ev n 20 hn
  refine Ev.bind (Ev.bind e1 (Ev.now _)) ?_
  refine ev_from 0 fun k _ => ?_
  simp only [within_eq, Option.bind_some, snapRight]
  by_cases h1 : isName n 20 = true <;> by_cases h2 : 0 ≤ d <;> by_cases h3 : d ≤ 1000000 <;> simp [h1, h2, h3]
theorem FnExactSnapRight : FnExactSnapRight_Pure := by
  intro a0 a1 a2 h0 _ h2
  refine Ev.rounds (g := fun k => laws_FnExactSnapRight.f k a0 a1 a2) ?_
  have ⟨r, hr⟩ : ∃ r, laws_szSnap.f a0 a1 a2 1048576 = some r := by
    unfold laws_szSnap.f
    split
    · exact ⟨_, rfl⟩
    · split <;> exact ⟨_, rfl⟩
  unfold laws_FnExactSnapRight.f
  refine ev_bind1 hr ?_
  by_cases hneg : r < 0
  · exact ev_if_pos hneg (Ev.now _)
  refine ev_if_neg hneg ?_
  refine ev_bind1 rfl (Ev.bind (snapRight_s a0 a1 a2 h0) (ev_bind1 rfl (Ev.bind (snapRight_i a0 a1 a2 h0) ?_)))
  refine ev_from 0 fun k _ => ?_
  simp
end Go.Proofs.Ytgmdakcfcmkhkaa.Pure
