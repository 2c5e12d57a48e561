/- The plain law of FnExactOpRight: at every op OpRight answers as the reference. -/
import Derived.Test.YtgmdakcfcmkhkaaOkFnExactOpRight
import Derived.Test.YtgmdakcfcmkhkaaLib
namespace Go.Proofs.Ytgmdakcfcmkhkaa.Pure
open Go.RowKit Go.Proofs.Ytgmdakcfcmkhkaa.PFnExactOpRight Go.Proofs.Ytgmdakcfcmkhkaa.Lib Go.Proofs.YtgmdakcfcmkhkaaW.PrintWords Go.Proofs.YtgmdakcfcmkhkaaW.PrintLast
set_option linter.unusedVariables false
set_option linter.unusedSimpArgs false
theorem nameRight_l0 (s : ByteArray) (hs : s.size ≤ 9223372036854775807) (d : Nat) : ∀ (i k : Nat), i + d = s.size → d < k → spec_NameRight.l0 k s (i : Int) = some (nameOk s d i) := by
  induction d with
  | zero =>
    intro i k hi hk
    obtain ⟨k, rfl⟩ : ∃ m, k = m + 1 := ⟨k - 1, by omega⟩
    simp only [spec_NameRight.l0]
    rw [if_neg (by omega)]
    rfl
  | succ d ih =>
    intro i k hi hk
    obtain ⟨k, rfl⟩ : ∃ m, k = m + 1 := ⟨k - 1, by omega⟩
    have e : wrap64 ((i : Int) + 1) = ((i + 1 : Nat) : Int) := by rw [w64 (by omega) (by omega)]; omega
    have h := ih (i + 1) k (by omega) (by omega)
    simp only [spec_NameRight.l0, e, h]
    rw [if_pos (by omega), if_pos (by omega)]
    exact nameStep _ _ _
theorem nameRight_ev (s : ByteArray) (hs : s.size ≤ 9223372036854775807) : Ev (fun k => spec_NameRight.f k s) (isName s 80) := by
  refine ev_from (s.size + 3) fun k hk => ?_
  obtain ⟨k, rfl⟩ : ∃ m, k = m + 1 := ⟨k - 1, by omega⟩
  have h := nameRight_l0 s hs s.size 0 k (by omega) (by omega)
  simp only [spec_NameRight.f, spec_NameRight.j0]
  have h' : spec_NameRight.l0 k s 0 = some (nameOk s s.size 0) := h
  rw [h']
  unfold isName
  generalize nameOk s s.size 0 = X
  grind
theorem isName_l0 (s : ByteArray) (most : Int) (hs : s.size ≤ 9223372036854775807) (d : Nat) : ∀ (i k : Nat), i + d = s.size → d < k → impl_isName.l0 k s most s.size (i : Int) = some (nameOk s d i && (decide ((s.size : Int) ≥ 1) && decide ((s.size : Int) ≤ most))) := by
  induction d with
  | zero =>
    intro i k hi hk
    obtain ⟨k, rfl⟩ : ∃ m, k = m + 1 := ⟨k - 1, by omega⟩
    simp only [impl_isName.l0, impl_long.f, impl_within.f, Option.bind_some, nameOk]
    rw [if_neg (by omega)]
    grind
  | succ d ih =>
    intro i k hi hk
    obtain ⟨k, rfl⟩ : ∃ m, k = m + 1 := ⟨k - 1, by omega⟩
    have e : wrap64 ((i : Int) + 1) = ((i + 1 : Nat) : Int) := by rw [w64 (by omega) (by omega)]; omega
    have h := ih (i + 1) k (by omega) (by omega)
    simp only [impl_isName.l0, e, h]
    rw [if_pos (by omega), if_pos (by omega), if_pos (by omega)]
    refine (nameStep _ _ _).trans ?_
    simp [nameOk, Bool.and_assoc]
theorem isName_ev (s : ByteArray) (most : Int) (hs : s.size ≤ 9223372036854775807) : Ev (fun k => impl_isName.f k s most) (isName s most) := by
  refine ev_from (s.size + 3) fun k hk => ?_
  have h := isName_l0 s most hs s.size 0 k (by omega) (by omega)
  simp only [impl_isName.f]
  exact h
def opRight (k : Int) (n t x : ByteArray) : Bool := isName n 80 && (if k = 1 then (t.toList == ([] : List UInt8)) && decide ((x.size : Int) ≤ 20000) else if k = 3 then isName t 80 && (x.toList == ([] : List UInt8)) else if k = 2 ∨ k = 4 then (t.toList == ([] : List UInt8)) && (x.toList == ([] : List UInt8)) else false)
theorem opRight_s (k : Int) (n t x : ByteArray) (hn : n.size ≤ 9223372036854775807) (ht : t.size ≤ 9223372036854775807) : Ev (fun j => spec_OpRight.f j k n t x) (opRight k n t x) := by
  unfold spec_OpRight.f opRight
  refine Ev.bind (nameRight_ev n hn) ?_
  cases isName n 80
  · exact ev_if_neg (by simp) (Ev.now _)
  refine ev_if_pos rfl ?_
  have e := nameRight_ev t ht
  by_cases h1 : k = 1
  · refine ev_if_pos h1 ?_
    rw [if_pos h1]
    refine ev_from 0 fun _ _ => ?_
    by_cases h : t.toList = ([] : List UInt8) <;> simp [h]
  refine ev_if_neg h1 ?_
  rw [if_neg h1]
  by_cases h3 : k = 3
  · refine ev_if_pos h3 (Ev.bind e ?_)
    rw [if_pos h3]
    refine ev_from 0 fun _ _ => ?_
    by_cases h : isName t 80 = true <;> simp [h]
  refine ev_if_neg h3 ?_
  rw [if_neg h3]
  refine ev_from 0 fun _ _ => ?_
  by_cases h2 : k = 2
  · by_cases h : t.toList = ([] : List UInt8) <;> simp [h, h2]
  · by_cases h4 : k = 4
    · by_cases h : t.toList = ([] : List UInt8) <;> simp [h, h4]
    · simp [h2, h4]
theorem opRight_i (k : Int) (n t x : ByteArray) (hn : n.size ≤ 9223372036854775807) (ht : t.size ≤ 9223372036854775807) : Ev (fun j => impl_OpRight.f j k n t x) (opRight k n t x) := by
  unfold impl_OpRight.f opRight impl_NameRight.f
  refine Ev.bind (Ev.bind (isName_ev n 80 hn) (Ev.now _)) ?_
  cases isName n 80
  · exact ev_if_neg (by simp) (Ev.now _)
  refine ev_if_pos rfl ?_
  have e := isName_ev t 80 ht
  have ej : ∀ b, k ≠ 1 → (b = true ↔ (k = 2 ∨ k = 4)) → Ev (fun j => impl_OpRight.j0 j k b k n t x) (if k = 3 then isName t 80 && (x.toList == ([] : List UInt8)) else if k = 2 ∨ k = 4 then (t.toList == ([] : List UInt8)) && (x.toList == ([] : List UInt8)) else false) := by
    intro b hk hb
    refine Ev.step (f := fun j => if b = true then (if t.toList = ([] : List UInt8) then (some (x.toList == ([] : List UInt8))) else (some false)) else (if k = 3 then ((impl_NameRight.f j t).bind fun t114 => (if t114 = true then (some (x.toList == ([] : List UInt8))) else (some false))) else (some false))) (fun _ => rfl) ?_
    by_cases hb' : b = true
    · refine ev_if_pos hb' ?_
      have hq := hb.1 hb'
      rw [if_neg (show ¬ k = 3 by omega), if_pos hq]
      refine ev_from 0 fun _ _ => ?_
      by_cases h : t.toList = ([] : List UInt8) <;> simp [h]
    · refine ev_if_neg hb' ?_
      have hq : ¬ (k = 2 ∨ k = 4) := fun h => hb' (hb.2 h)
      by_cases h3 : k = 3
      · refine ev_if_pos h3 ?_
        rw [if_pos h3]
        unfold impl_NameRight.f
        refine Ev.bind (Ev.bind e (Ev.now _)) ?_
        refine ev_from 0 fun _ _ => ?_
        by_cases h : isName t 80 = true <;> simp [h]
      · refine ev_if_neg h3 ?_
        rw [if_neg h3, if_neg hq]
        exact Ev.now _
  by_cases h1 : k = 1
  · refine ev_if_pos h1 ?_
    rw [if_pos h1]
    refine ev_from 0 fun _ _ => ?_
    simp only [impl_isLong.f, Option.bind_some]
    by_cases h : t.toList = ([] : List UInt8)
    · rw [if_pos h, h]
      simp
      by_cases h5 : 20000 < (x.size : Int)
      · simp [h5]
        try omega
      · simp [h5]
        try omega
    · simp [h]
  refine ev_if_neg h1 ?_
  rw [if_neg h1]
  by_cases h2 : k = 2
  · refine ev_if_pos h2 ?_
    exact ej _ h1 (by simp [h2])
  · refine ev_if_neg h2 ?_
    exact ej _ h1 (by simp [h2])
theorem FnExactOpRight : FnExactOpRight_Pure := by
  intro a0 a1 a2 a3 _ h1 h2 _
  refine Ev.rounds (g := fun k => laws_FnExactOpRight.f k a0 a1 a2 a3) ?_
  have ⟨r, hr⟩ : ∃ r, laws_szOp.f a0 a1 a2 a3 1048576 = some r := by
    unfold laws_szOp.f
    split
    · exact ⟨_, rfl⟩
    · split
      · exact ⟨_, rfl⟩
      · split <;> exact ⟨_, rfl⟩
  unfold laws_FnExactOpRight.f
  refine ev_bind1 hr ?_
  by_cases hneg : r < 0
  · exact ev_if_pos hneg (Ev.now _)
  refine ev_if_neg hneg ?_
  refine ev_bind1 rfl (Ev.bind (opRight_s a0 a1 a2 a3 h1 h2) (ev_bind1 rfl (Ev.bind (opRight_i a0 a1 a2 a3 h1 h2) ?_)))
  refine ev_from 0 fun k _ => ?_
  simp
end Go.Proofs.Ytgmdakcfcmkhkaa.Pure
