/- The plain law of FnExactObjectRight: of every text ObjectRight answers as the reference. -/
import Derived.Test.YtgmdakcfcmkhkaaOkFnExactObjectRight
import Derived.Test.YtgmdakcfcmkhkaaLib
namespace Go.Proofs.Ytgmdakcfcmkhkaa.Pure
open Go.RowKit Go.Proofs.Ytgmdakcfcmkhkaa.PFnExactObjectRight Go.Proofs.Ytgmdakcfcmkhkaa.Lib Go.Proofs.YtgmdakcfcmkhkaaW.PrintWords Go.Proofs.YtgmdakcfcmkhkaaW.PrintLast
set_option linter.unusedVariables false
set_option linter.unusedSimpArgs false
theorem nameRight_l0 (s : ByteArray) (hs : s.size ≤ 9223372036854775807) (d : Nat) : ∀ (i k : Nat), i + d = s.size → d < k → spec_NameRight.l0 k s (i : Int) = some (nameOk s d i) := by
  induction d with
  | zero =>
    intro i k hi hk
    obtain ⟨k, rfl⟩ : ∃ m, k = m + 1 := ⟨k - 1, by omega⟩
    simp only [spec_NameRight.l0]
    rw [if_neg (by omega)]
    rfl
  | succ d ih =>
    intro i k hi hk
    obtain ⟨k, rfl⟩ : ∃ m, k = m + 1 := ⟨k - 1, by omega⟩
    have e : wrap64 ((i : Int) + 1) = ((i + 1 : Nat) : Int) := by rw [w64 (by omega) (by omega)]; omega
    have h := ih (i + 1) k (by omega) (by omega)
    simp only [spec_NameRight.l0, e, h]
    rw [if_pos (by omega), if_pos (by omega)]
    exact nameStep _ _ _
theorem nameRight_ev (s : ByteArray) (hs : s.size ≤ 9223372036854775807) : Ev (fun k => spec_NameRight.f k s) (isName s 80) := by
  refine ev_from (s.size + 3) fun k hk => ?_
  obtain ⟨k, rfl⟩ : ∃ m, k = m + 1 := ⟨k - 1, by omega⟩
  have h := nameRight_l0 s hs s.size 0 k (by omega) (by omega)
  simp only [spec_NameRight.f, spec_NameRight.j0]
  have h' : spec_NameRight.l0 k s 0 = some (nameOk s s.size 0) := h
  rw [h']
  unfold isName
  generalize nameOk s s.size 0 = X
  grind
theorem isName_l0 (s : ByteArray) (most : Int) (hs : s.size ≤ 9223372036854775807) (d : Nat) : ∀ (i k : Nat), i + d = s.size → d < k → impl_isName.l0 k s most s.size (i : Int) = some (nameOk s d i && (decide ((s.size : Int) ≥ 1) && decide ((s.size : Int) ≤ most))) := by
  induction d with
  | zero =>
    intro i k hi hk
    obtain ⟨k, rfl⟩ : ∃ m, k = m + 1 := ⟨k - 1, by omega⟩
    simp only [impl_isName.l0, impl_long.f, impl_within.f, Option.bind_some, nameOk]
    rw [if_neg (by omega)]
    grind
  | succ d ih =>
    intro i k hi hk
    obtain ⟨k, rfl⟩ : ∃ m, k = m + 1 := ⟨k - 1, by omega⟩
    have e : wrap64 ((i : Int) + 1) = ((i + 1 : Nat) : Int) := by rw [w64 (by omega) (by omega)]; omega
    have h := ih (i + 1) k (by omega) (by omega)
    simp only [impl_isName.l0, e, h]
    rw [if_pos (by omega), if_pos (by omega), if_pos (by omega)]
    refine (nameStep _ _ _).trans ?_
    simp [nameOk, Bool.and_assoc]
theorem isName_ev (s : ByteArray) (most : Int) (hs : s.size ≤ 9223372036854775807) : Ev (fun k => impl_isName.f k s most) (isName s most) := by
  refine ev_from (s.size + 3) fun k hk => ?_
  have h := isName_l0 s most hs s.size 0 k (by omega) (by omega)
  simp only [impl_isName.f]
  exact h
theorem FnExactObjectRight : FnExactObjectRight_Pure := by
  intro a0 w0
  refine Ev.rounds (g := fun k => laws_FnExactObjectRight.f k a0) ?_
  unfold laws_FnExactObjectRight.f
  by_cases hl : (a0.size : Int) > 1048576
  · exact ev_if_pos hl (Ev.now _)
  refine ev_if_neg hl ?_
  have e1 := nameRight_ev a0 (by omega)
  have e2 := isName_ev a0 60 (by omega)
  have s1 : Ev (fun k => spec_ObjectRight.f k a0) (isName a0 60 && !(decide ((a0.size : Int) ≥ 2) && (a0.extract 0 2).toList == ([116, 45] : List UInt8))) := by
    unfold spec_ObjectRight.f
    refine Ev.bind e1 ?_
    unfold isName
    generalize nameOk a0 a0.size 0 = X
    generalize (a0.extract 0 2).toList = L
    refine ev_from 0 fun k _ => ?_
    grind
  have s2 : Ev (fun k => impl_ObjectRight.f k a0) (isName a0 60 && !(decide ((a0.size : Int) ≥ 2) && (a0.extract 0 2).toList == ([116, 45] : List UInt8))) := by
    unfold impl_ObjectRight.f
    refine Ev.bind e2 ?_
    have e3 : (⟨#[116, 45]⟩ : ByteArray).toList = ([116, 45] : List UInt8) := by rw [ByteArray.toList_eq]
    have e4 : (⟨#[116, 45]⟩ : ByteArray).size = 2 := rfl
    have e5 : ((2 : Nat) : Int).toNat = 2 := rfl
    simp only [strings_HasPrefix.f, stringslite_HasPrefix.f, e3, e4, e5]
    generalize isName a0 60 = X
    generalize (a0.extract 0 2).toList = L
    refine ev_from 0 fun k _ => ?_
    grind
  refine Ev.bind s1 (Ev.bind s2 ?_)
  refine ev_from 0 fun k _ => ?_
  simp
end Go.Proofs.Ytgmdakcfcmkhkaa.Pure
