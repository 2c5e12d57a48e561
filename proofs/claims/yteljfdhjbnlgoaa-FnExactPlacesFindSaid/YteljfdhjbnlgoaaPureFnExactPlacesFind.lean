/- The plain law of FnExactPlacesFind: at every list of places and every key PlacesFind answers as the reference. -/
import Derived.Test.YteljfdhjbnlgoaaOkFnExactPlacesFind
import Derived.Test.YteljfdhjbnlgoaaLib
import Derived.Lib.Bytealg
namespace Go.Proofs.Yteljfdhjbnlgoaa.Pure
open Go.RowKit Go.Proofs.Yteljfdhjbnlgoaa.PFnExactPlacesFind Go.Proofs.Yteljfdhjbnlgoaa.Lib Go.Proofs.YteljfdhjbnlgoaaW.PrintWords Go.Proofs.YteljfdhjbnlgoaaW.PrintLast
set_option linter.unusedVariables false
set_option linter.unusedSimpArgs false
theorem nameRight_l0 (s : ByteArray) (hs : s.size ≤ 9223372036854775807) (d : Nat) : ∀ (i k : Nat), i + d = s.size → d < k → spec_NameRight.l0 k s (i : Int) = some (nameOk s d i) := by
  induction d with
  | zero =>
    intro i k hi hk
    obtain ⟨k, rfl⟩ : ∃ m, k = m + 1 := ⟨k - 1, by omega⟩
    simp only [spec_NameRight.l0]
    rw [if_neg (by omega)]
    rfl
  | succ d ih =>
    intro i k hi hk
    obtain ⟨k, rfl⟩ : ∃ m, k = m + 1 := ⟨k - 1, by omega⟩
    have e : wrap64 ((i : Int) + 1) = ((i + 1 : Nat) : Int) := by rw [w64 (by omega) (by omega)]; omega
    have h := ih (i + 1) k (by omega) (by omega)
    simp only [spec_NameRight.l0, e, h]
    rw [if_pos (by omega), if_pos (by omega)]
    exact nameStep _ _ _
theorem nameRight_ev (s : ByteArray) (hs : s.size ≤ 9223372036854775807) : Ev (fun k => spec_NameRight.f k s) (isName s 80) := by
  refine ev_from (s.size + 3) fun k hk => ?_
  obtain ⟨k, rfl⟩ : ∃ m, k = m + 1 := ⟨k - 1, by omega⟩
  have h := nameRight_l0 s hs s.size 0 k (by omega) (by omega)
  simp only [spec_NameRight.f, spec_NameRight.j0]
  have h' : spec_NameRight.l0 k s 0 = some (nameOk s s.size 0) := h
  rw [h']
  unfold isName
  generalize nameOk s s.size 0 = X
  grind
theorem isName_l0 (s : ByteArray) (most : Int) (hs : s.size ≤ 9223372036854775807) (d : Nat) : ∀ (i k : Nat), i + d = s.size → d < k → impl_isName.l0 k s most s.size (i : Int) = some (nameOk s d i && (decide ((s.size : Int) ≥ 1) && decide ((s.size : Int) ≤ most))) := by
  induction d with
  | zero =>
    intro i k hi hk
    obtain ⟨k, rfl⟩ : ∃ m, k = m + 1 := ⟨k - 1, by omega⟩
    simp only [impl_isName.l0, impl_long.f, impl_within.f, Option.bind_some, nameOk]
    rw [if_neg (by omega)]
    grind
  | succ d ih =>
    intro i k hi hk
    obtain ⟨k, rfl⟩ : ∃ m, k = m + 1 := ⟨k - 1, by omega⟩
    have e : wrap64 ((i : Int) + 1) = ((i + 1 : Nat) : Int) := by rw [w64 (by omega) (by omega)]; omega
    have h := ih (i + 1) k (by omega) (by omega)
    simp only [impl_isName.l0, e, h]
    rw [if_pos (by omega), if_pos (by omega), if_pos (by omega)]
    refine (nameStep _ _ _).trans ?_
    simp [nameOk, Bool.and_assoc]
theorem isName_ev (s : ByteArray) (most : Int) (hs : s.size ≤ 9223372036854775807) : Ev (fun k => impl_isName.f k s most) (isName s most) := by
  refine ev_from (s.size + 3) fun k hk => ?_
  have h := isName_l0 s most hs s.size 0 k (by omega) (by omega)
  simp only [impl_isName.f]
  exact h
def isObject (s : ByteArray) : Bool := isName s 60 && !(decide ((s.size : Int) ≥ 2) && (s.extract 0 2).toList == ([116, 45] : List UInt8))
theorem object_s (s : ByteArray) (hs : s.size ≤ 9223372036854775807) : Ev (fun k => spec_ObjectRight.f k s) (isObject s) := by
  unfold spec_ObjectRight.f isObject
  refine Ev.bind (nameRight_ev s hs) ?_
  unfold isName
  generalize nameOk s s.size 0 = X
  generalize (s.extract 0 2).toList = L
  refine ev_from 0 fun k _ => ?_
  grind
theorem object_i (s : ByteArray) (hs : s.size ≤ 9223372036854775807) : Ev (fun k => impl_ObjectRight.f k s) (isObject s) := by
  unfold impl_ObjectRight.f isObject
  refine Ev.bind (isName_ev s 60 hs) ?_
  have e3 : (⟨#[116, 45]⟩ : ByteArray).toList = ([116, 45] : List UInt8) := by rw [ByteArray.toList_eq]
  have e4 : (⟨#[116, 45]⟩ : ByteArray).size = 2 := rfl
  have e5 : ((2 : Nat) : Int).toNat = 2 := rfl
  simp only [strings_HasPrefix.f, stringslite_HasPrefix.f, e3, e4, e5]
  generalize isName s 60 = X
  generalize (s.extract 0 2).toList = L
  refine ev_from 0 fun k _ => ?_
  grind
theorem within_eq (a b c : Int) : impl_within.f a b c = some (decide (b ≤ a) && decide (a ≤ c)) := by
  unfold impl_within.f
  by_cases h : a ≥ b <;> simp [h]
abbrev IP := S50
abbrev zP := z50
abbrev rdP := rd_T50
def placeLess (a b : IP) : Bool := Op.bytesLess a.f0.toList b.f0.toList || (a.f0.toList == b.f0.toList && Op.bytesLess a.f1.toList b.f1.toList)
def placeOk (x : IP) : Bool := decide ((x.f0.size : Int) = 32) && (isObject x.f1 && ((x.f2 == 1 || x.f2 == 2) && ((decide (0 ≤ x.f3) && decide (x.f3 ≤ 12000)) && (decide (0 ≤ x.f4) && decide (x.f4 ≤ 2000)))))
def placeAt (l : List IP) (i : Nat) : Bool := placeOk (l.getD i zP) && (i == 0 || placeLess (l.getD (i - 1) zP) (l.getD i zP))
def placesRight (l : List IP) : Bool := decide (l.length ≤ 300) && (List.range l.length).all (placeAt l)
theorem rdP_nat (l : List IP) (i : Nat) : rdP l (i : Int) = l.getD i zP := by
  unfold rdP rd_T50
  rw [Int.toNat_natCast]
theorem memP (l : List IP) (i : Nat) (h : i < l.length) : l.getD i zP ∈ l := by
  rw [List.getD_eq_getElem?_getD, List.getElem?_eq_getElem h]
  exact List.getElem_mem h
theorem prevP (l : List IP) (i : Nat) (h0 : 0 < i) (h : i < l.length) (hl : l.length ≤ 300) : rdP l (wrap64 ((i : Int) - 1)) = l.getD (i - 1) zP ∧ 0 ≤ wrap64 ((i : Int) - 1) ∧ wrap64 ((i : Int) - 1) < (l.length : Int) := getD_prev l i _ h0 h (by omega)
theorem less_irrefl (l : List UInt8) : Op.bytesLess l l = false := by
  induction l with
  | nil => rfl
  | cons a l ih => simp [Op.bytesLess, ih]
theorem compare_eq : ∀ (a b : List UInt8), Lib.compareBytes a b = if Op.bytesLess a b = true then -1 else if a = b then 0 else 1
  | [], [] => rfl
  | [], _ :: _ => rfl
  | _ :: _, [] => rfl
  | a :: xs, b :: bs => by
    have ih := compare_eq xs bs
    simp only [Lib.compareBytes, ih, Op.bytesLess]
    by_cases h1 : a < b
    · simp [h1]
    · by_cases h2 : b < a
      · have h3 : a ≠ b := fun e => by subst e; exact h1 h2
        simp [h1, h2, h3]
      · have h3 : a = b := UInt8.le_antisymm (UInt8.not_lt.1 h2) (UInt8.not_lt.1 h1)
        subst h3
        simp [h1]
theorem l10Less_eq (a b : IP) : spec_l10Less.f a.f0 a.f1 a.f2 a.f3 a.f4 b.f0 b.f1 b.f2 b.f3 b.f4 = some (placeLess a b) := by
  unfold spec_l10Less.f placeLess
  by_cases h : Op.bytesLess a.f0.toList b.f0.toList = true
  · rw [if_pos h, h]; rfl
  · rw [if_neg h]
    rw [Bool.not_eq_true] at h
    by_cases h2 : a.f0.toList = b.f0.toList
    · rw [if_pos h2, h2]; simp [less_irrefl]
    · rw [if_neg h2, h]; simp [h2]
/-- how places compare: below 0 where the one is less. -/
def placeCmp (a b : IP) : Int := if placeLess a b = true then -1 else if a.f0.toList = b.f0.toList ∧ a.f1.toList = b.f1.toList then 0 else 1
theorem or_two (x y : Int) (k : Nat) (hk : 3 ≤ k) : cmp_Or_int.f k [x, y] = some (if x = 0 then y else x) := by
  obtain ⟨k, rfl⟩ : ∃ m, k = m + 3 := ⟨k - 3, by omega⟩
  have e1 : wrap64 ((0 : Int) + 1) = 1 := w64 (by omega) (by omega)
  have e2 : wrap64 ((1 : Int) + 1) = 2 := w64 (by omega) (by omega)
  have r0 : rd [x, y] 0 = x := rfl
  have r1 : rd [x, y] 1 = y := rfl
  unfold cmp_Or_int.f
  simp only [cmp_Or_int.l0, List.length_cons, List.length_nil, e1, e2, r0, r1]
  by_cases h : x = 0 <;> by_cases h2 : y = 0 <;> simp [h, h2]
theorem cmp_ev (a b : IP) : Ev (fun k => impl_Place_compare.f k a.f0 a.f1 a.f2 a.f3 a.f4 b.f0 b.f1 b.f2 b.f3 b.f4) (placeCmp a b) := by
  unfold impl_Place_compare.f
  simp only [strings_Compare.f, bytealg_CompareString.f, Option.bind_some]
  refine ev_from 3 fun k hk => ?_
  rw [or_two _ _ k hk]
  simp only [Option.bind_some, compare_eq, placeCmp, placeLess, ← ByteArray.toList_eq]
  by_cases h1 : Op.bytesLess a.f0.toList b.f0.toList = true
  · simp [h1]
  · rw [Bool.not_eq_true] at h1
    by_cases h2 : a.f0.toList = b.f0.toList
    · by_cases h3 : Op.bytesLess a.f1.toList b.f1.toList = true
      · simp [h2, h3, less_irrefl]
      · rw [Bool.not_eq_true] at h3
        by_cases h4 : a.f1.toList = b.f1.toList <;> simp [h2, h3, h4, less_irrefl]
    · simp [h1, h2]
theorem cmp_neg (a b : IP) : placeCmp a b ≥ 0 ↔ ¬ placeLess a b = true := by
  unfold placeCmp
  by_cases h : placeLess a b = true
  · simp [h]
  · by_cases h2 : a.f0.toList = b.f0.toList ∧ a.f1.toList = b.f1.toList <;> simp [h, h2]
theorem placesRight_s (l : List IP) (hs : ∀ x ∈ l, x.f1.size ≤ 9223372036854775807) : Ev (fun k => spec_PlacesRight.f k l) (placesRight l) := by
  unfold spec_PlacesRight.f placesRight
  by_cases h : (l.length : Int) > 300
  · refine ev_if_pos h ?_
    rw [decide_eq_false (by omega)]
    exact Ev.now _
  refine ev_if_neg h ?_
  rw [decide_eq_true (by omega), Bool.true_and]
  obtain ⟨K, hK⟩ := ev_all (fun (x : IP) k => spec_ObjectRight.f k x.f1) (fun x => isObject x.f1) l (fun x hx => object_s _ (hs x hx))
  have ht := loop_allC 2 (fun k i => spec_PlacesRight.l0 k l i) l.length (by omega) K (placeAt l) true (fun k i hi hk hw => ?_) (fun k _ => by simp only [spec_PlacesRight.l0]; rw [if_neg (by omega)])
  · rw [Bool.and_true] at ht
    exact ht
  have hr := hK _ (memP l i hi) (k + 1) (by omega)
  have e0 := rdP_nat l i
  simp only [rdP] at e0
  simp only [spec_PlacesRight.l0, spec_PlacesRight.j1, e0, hr, hw, Option.bind_some]
  rw [if_pos (by omega), if_pos (by omega)]
  unfold placeAt placeOk
  generalize l.getD i zP = x
  have tail : ∀ A B : Option Bool, ∀ u : Bool, (if u = true then B else A) = if u = true then B else A := fun _ _ _ => rfl
  by_cases c1 : ((x.f0).size : Int) = 32
  case neg => rw [if_neg c1, decide_eq_false c1]; rfl
  rw [if_pos c1, decide_eq_true c1]
  by_cases c2 : isObject x.f1 = true
  case neg => rw [if_neg c2]; rw [Bool.not_eq_true] at c2; rw [c2]; rfl
  rw [if_pos c2, c2]
  by_cases c3 : (x.f2 == 1 || x.f2 == 2) = true
  case neg =>
    have c3' : x.f2 ≠ 1 ∧ x.f2 ≠ 2 := by simpa using c3
    rw [if_neg c3'.1, if_neg c3'.2, Bool.not_eq_true] at *
    rw [c3]; rfl
  have c3' : ∀ A B : Option Bool, (if x.f2 = 1 then A else if x.f2 = 2 then A else B) = A := by
    intro A B
    by_cases h1 : x.f2 = 1
    · rw [if_pos h1]
    · rw [if_neg h1, if_pos (by simpa [h1] using c3)]
  rw [c3', c3]
  by_cases c4 : x.f3 < 0
  case pos => rw [if_pos c4, decide_eq_false (show ¬ 0 ≤ x.f3 by omega)]; rfl
  rw [if_neg c4, decide_eq_true (show 0 ≤ x.f3 by omega)]
  by_cases c5 : x.f3 > 12000
  case pos => rw [if_pos c5, decide_eq_false (show ¬ x.f3 ≤ 12000 by omega)]; rfl
  rw [if_neg c5, decide_eq_true (show x.f3 ≤ 12000 by omega)]
  by_cases c6 : x.f4 < 0
  case pos => rw [if_pos c6, decide_eq_false (show ¬ 0 ≤ x.f4 by omega)]; rfl
  rw [if_neg c6, decide_eq_true (show 0 ≤ x.f4 by omega)]
  by_cases c7 : x.f4 > 2000
  case pos => rw [decide_eq_true c7, decide_eq_false (show ¬ x.f4 ≤ 2000 by omega)]; rfl
  rw [decide_eq_false c7, decide_eq_true (show x.f4 ≤ 2000 by omega)]
  by_cases h0 : 0 < i
  · obtain ⟨q1, q2, q3⟩ := prevP l i h0 hi (by omega)
    simp only [rdP] at q1
    rw [if_neg (by simp), if_pos (by omega), if_pos q2, if_pos q3, q1, l10Less_eq]
    have hi0 : (i == 0) = false := beq_eq_false_iff_ne.2 (by omega)
    rw [hi0]
    rfl
  · obtain rfl : i = 0 := by omega
    rfl
theorem placesRight_i (l : List IP) (hs : ∀ x ∈ l, x.f1.size ≤ 9223372036854775807) : Ev (fun k => impl_PlacesRight.f k l) (placesRight l) := by
  unfold impl_PlacesRight.f placesRight
  by_cases h : (l.length : Int) > 300
  · refine ev_if_pos h ?_
    rw [decide_eq_false (by omega)]
    exact Ev.now _
  refine ev_if_neg h ?_
  rw [decide_eq_true (by omega), Bool.true_and]
  obtain ⟨K, hK⟩ := ev_all (fun (x : IP) k => impl_ObjectRight.f k x.f1) (fun x => isObject x.f1) l (fun x hx => object_i _ (hs x hx))
  have hc : ∃ K2, ∀ i, i < l.length → ∀ k, K2 ≤ k → impl_Place_compare.f k (l.getD (i - 1) zP).f0 (l.getD (i - 1) zP).f1 (l.getD (i - 1) zP).f2 (l.getD (i - 1) zP).f3 (l.getD (i - 1) zP).f4 (l.getD i zP).f0 (l.getD i zP).f1 (l.getD i zP).f2 (l.getD i zP).f3 (l.getD i zP).f4 = some (placeCmp (l.getD (i - 1) zP) (l.getD i zP)) := by
    obtain ⟨K, hK⟩ := ev_all (fun (i : Nat) k => impl_Place_compare.f k (l.getD (i - 1) zP).f0 (l.getD (i - 1) zP).f1 (l.getD (i - 1) zP).f2 (l.getD (i - 1) zP).f3 (l.getD (i - 1) zP).f4 (l.getD i zP).f0 (l.getD i zP).f1 (l.getD i zP).f2 (l.getD i zP).f3 (l.getD i zP).f4) (fun i => placeCmp (l.getD (i - 1) zP) (l.getD i zP)) (List.range l.length) (fun i _ => cmp_ev _ _)
    exact ⟨K, fun i hi k hk => hK i (List.mem_range.2 hi) k hk⟩
  obtain ⟨K2, hK2⟩ := hc
  refine loop_all (fun k i => impl_PlacesRight.l0 k l l (l.length : Int) i) l.length (by omega) (K + K2) (placeAt l) (fun k i hi hk hw => ?_) (fun k => by simp only [impl_PlacesRight.l0]; rw [if_neg (by omega)])
  have hr := hK _ (memP l i hi) k (by omega)
  have hr2 := hK2 i hi k (by omega)
  have e0 := rdP_nat l i
  simp only [rdP] at e0
  simp only [impl_PlacesRight.l0, e0, hr, hw, Option.bind_some, within_eq]
  rw [if_pos (by omega), if_pos (by omega), if_pos (by omega)]
  have hk : ∀ v : Int, impl_isKind.f v = some (v == 1 || v == 2) := by
    intro v
    unfold impl_isKind.f
    by_cases h1 : v = 1 <;> simp [h1]
  simp only [hk, Option.bind_some]
  unfold placeAt placeOk
  by_cases h0 : 0 < i
  · obtain ⟨q1, q2, q3⟩ := prevP l i h0 hi (by omega)
    simp only [rdP] at q1
    have hi0 : (i == 0) = false := beq_eq_false_iff_ne.2 (by omega)
    simp only [q1, hr2, Option.bind_some, cmp_neg, hi0]
    rw [if_pos (show (i : Int) > 0 by omega), if_pos q2, if_pos q3]
    generalize l.getD i zP = x at *
    generalize placeLess (l.getD (i - 1) zP) x = pl
    generalize isObject x.f1 = ob
    generalize (x.f2 == 1 || x.f2 == 2) = kd
    generalize (decide (0 ≤ x.f3) && decide (x.f3 ≤ 12000)) = wa
    generalize (decide (0 ≤ x.f4) && decide (x.f4 ≤ 2000)) = wz
    by_cases c1 : ((x.f0).size : Int) = 32
    · rw [if_pos c1, decide_eq_true c1]
      cases ob <;> cases kd <;> cases wa <;> cases wz <;> cases pl <;> rfl
    · rw [if_neg c1, decide_eq_false c1]; rfl
  · obtain rfl : i = 0 := by omega
    rw [if_neg (show ¬ (((0 : Nat) : Int) > 0) by omega)]
    generalize l.getD 0 zP = x at *
    generalize isObject x.f1 = ob
    generalize (x.f2 == 1 || x.f2 == 2) = kd
    generalize (decide (0 ≤ x.f3) && decide (x.f3 ≤ 12000)) = wa
    generalize (decide (0 ≤ x.f4) && decide (x.f4 ≤ 2000)) = wz
    by_cases c1 : ((x.f0).size : Int) = 32
    · rw [if_pos c1, decide_eq_true c1]
      cases ob <;> cases kd <;> cases wa <;> cases wz <;> rfl
    · rw [if_neg c1, decide_eq_false c1]; rfl
abbrev PO := ByteArray × ByteArray × Int × Int × Int × Bool
def keyIs (key : ByteArray) (p : IP) : Bool := p.f0.toList == key.toList
def findOut (o : Option IP) : PO := match o with
  | some p => (p.f0, p.f1, p.f2, p.f3, p.f4, true)
  | none => ((⟨#[]⟩ : ByteArray), (⟨#[]⟩ : ByteArray), 0, 0, 0, false)
theorem dropP (l : List IP) (i : Nat) (h : i < l.length) : l.drop i = l.getD i zP :: l.drop (i + 1) := by
  rw [List.drop_eq_getElem_cons h, List.getD_eq_getElem?_getD, List.getElem?_eq_getElem h]
  rfl
theorem l10Find_l0 (l : List IP) (key : ByteArray) (hl : l.length ≤ 9223372036854775807) (d : Nat) : ∀ (i k : Nat), i + d = l.length → d < k → spec_l10Find.l0 k l key (i : Int) = some (findOut ((l.drop i).find? (keyIs key))) := by
  induction d with
  | zero =>
    intro i k hi hk
    obtain ⟨k, rfl⟩ : ∃ m, k = m + 1 := ⟨k - 1, by omega⟩
    simp only [spec_l10Find.l0]
    rw [if_neg (by omega), List.drop_of_length_le (by omega)]
    rfl
  | succ d ih =>
    intro i k hi hk
    obtain ⟨k, rfl⟩ : ∃ m, k = m + 1 := ⟨k - 1, by omega⟩
    have e : wrap64 ((i : Int) + 1) = ((i + 1 : Nat) : Int) := by rw [w64 (by omega) (by omega)]; omega
    have h := ih (i + 1) k (by omega) (by omega)
    have e0 := rdP_nat l i
    simp only [rdP] at e0
    simp only [spec_l10Find.l0, e, h, e0]
    rw [if_pos (by omega), if_pos (by omega), dropP l i (by omega), List.find?_cons]
    by_cases c : (l.getD i zP).f0.toList = key.toList
    · rw [if_pos c, show keyIs key (l.getD i zP) = true from beq_iff_eq.2 c]
      rfl
    · rw [if_neg c, show keyIs key (l.getD i zP) = false from beq_eq_false_iff_ne.2 c]
theorem l10Find_ev (l : List IP) (key : ByteArray) (hl : l.length ≤ 9223372036854775807) : Ev (fun k => spec_l10Find.f k l key) (findOut (l.find? (keyIs key))) :=
  ev_from (l.length + 1) fun k hk => l10Find_l0 l key hl l.length 0 k (by omega) (by omega)
theorem idx_l0 (l : List IP) (key : ByteArray) (hl : l.length ≤ 9223372036854775807) (d : Nat) : ∀ (i : Nat), i + d = l.length → ∃ j : Int, (∀ k, d < k → impl_findPlace.l0 k l key (i : Int) = some j) ∧ ((j < 0 ∧ (l.drop i).find? (keyIs key) = none) ∨ (0 ≤ j ∧ j < (l.length : Int) ∧ (l.drop i).find? (keyIs key) = some (rdP l j))) := by
  induction d with
  | zero =>
    intro i hi
    refine ⟨-1, fun k hk => ?_, .inl ⟨by omega, ?_⟩⟩
    · obtain ⟨k, rfl⟩ : ∃ m, k = m + 1 := ⟨k - 1, by omega⟩
      simp only [impl_findPlace.l0]
      rw [if_neg (by omega)]
    · rw [List.drop_of_length_le (by omega)]
      rfl
  | succ d ih =>
    intro i hi
    have e : wrap64 ((i : Int) + 1) = ((i + 1 : Nat) : Int) := by rw [w64 (by omega) (by omega)]; omega
    have e0 := rdP_nat l i
    by_cases c : (l.getD i zP).f0.toList = key.toList
    · refine ⟨i, fun k hk => ?_, .inr ⟨by omega, by omega, ?_⟩⟩
      · obtain ⟨k, rfl⟩ : ∃ m, k = m + 1 := ⟨k - 1, by omega⟩
        simp only [rdP] at e0
        simp only [impl_findPlace.l0, e0]
        rw [if_pos (by omega), if_pos (by omega), if_pos c]
      · rw [dropP l i (by omega), List.find?_cons, show keyIs key (l.getD i zP) = true from beq_iff_eq.2 c, e0]
    · obtain ⟨j, hj, hjj⟩ := ih (i + 1) (by omega)
      refine ⟨j, fun k hk => ?_, ?_⟩
      · obtain ⟨k, rfl⟩ : ∃ m, k = m + 1 := ⟨k - 1, by omega⟩
        simp only [rdP] at e0
        simp only [impl_findPlace.l0, e0, e, hj k (by omega)]
        rw [if_pos (by omega), if_pos (by omega), if_neg c]
      · rw [dropP l i (by omega), List.find?_cons, show keyIs key (l.getD i zP) = false from beq_eq_false_iff_ne.2 c]
        exact hjj
theorem findPlace_ev (l : List IP) (key : ByteArray) (hl : l.length ≤ 9223372036854775807) : Ev (fun k => impl_findPlace.f k l key) (findOut (l.find? (keyIs key))) := by
  obtain ⟨j, hj, hjj⟩ := idx_l0 l key hl l.length 0 (by omega)
  unfold impl_findPlace.f
  refine Ev.bind (ev_from (l.length + 1) fun k hk => hj k (by omega)) ?_
  rcases hjj with ⟨h1, h2⟩ | ⟨h1, h2, h3⟩
  · refine ev_if_pos h1 ?_
    rw [List.drop_zero] at h2
    rw [h2]
    exact Ev.now _
  · refine ev_if_neg (by omega) (ev_if_pos h2 ?_)
    rw [List.drop_zero] at h3
    rw [h3]
    exact Ev.now _
abbrev QO := ByteArray × ByteArray × Int × Int × Int × Int
def badOut (c : Int) : QO := ((⟨#[]⟩ : ByteArray), (⟨#[]⟩ : ByteArray), 0, 0, 0, c)
def okOut (p : PO) : QO := if p.2.2.2.2.2 = true then (p.1, p.2.1, p.2.2.1, p.2.2.2.1, p.2.2.2.2.1, 0) else badOut 8
def placesFind (l : List IP) (key : ByteArray) : QO := if (decide ((l.length : Int) > 400) || decide ((key.size : Int) > 20000)) = true then badOut 2 else if placesRight l = true then okOut (findOut (l.find? (keyIs key))) else badOut 1
theorem placesFind_s (l : List IP) (key : ByteArray) (hl : l.length ≤ 9223372036854775807) (hs : ∀ x ∈ l, x.f1.size ≤ 9223372036854775807) : Ev (fun k => spec_PlacesFind.f k l key) (placesFind l key) := by
  have hj : ∀ b : Bool, Ev (fun k => spec_PlacesFind.j0 k l key b) (if b = true then badOut 2 else if placesRight l = true then okOut (findOut (l.find? (keyIs key))) else badOut 1) := by
    intro b
    have h2 : Ev (fun k => (spec_PlacesRight.f k l).bind fun t116 => (if t116 = true then ((spec_l10Find.f k l key).bind fun bt117 => (if bt117.2.2.2.2.2 = true then (some (bt117.1, bt117.2.1, bt117.2.2.1, bt117.2.2.2.1, bt117.2.2.2.2.1, 0)) else (some ((⟨#[]⟩ : ByteArray), (⟨#[]⟩ : ByteArray), 0, 0, 0, 8)))) else (some ((⟨#[]⟩ : ByteArray), (⟨#[]⟩ : ByteArray), 0, 0, 0, 1)))) (if placesRight l = true then okOut (findOut (l.find? (keyIs key))) else badOut 1) := by
      refine Ev.bind (placesRight_s l hs) ?_
      by_cases c : placesRight l = true
      · rw [if_pos c]
        refine ev_if_pos c (Ev.bind (l10Find_ev l key hl) ?_)
        unfold okOut
        generalize findOut (l.find? (keyIs key)) = o
        refine ev_from 0 fun k _ => ?_
        by_cases c2 : o.2.2.2.2.2 = true <;> simp [c2, badOut]
      · rw [if_neg c]
        exact ev_if_neg c (Ev.now _)
    refine Ev.step (f := fun k => if b = true then (some ((⟨#[]⟩ : ByteArray), (⟨#[]⟩ : ByteArray), 0, 0, 0, 2)) else ((spec_PlacesRight.f k l).bind fun t116 => (if t116 = true then ((spec_l10Find.f k l key).bind fun bt117 => (if bt117.2.2.2.2.2 = true then (some (bt117.1, bt117.2.1, bt117.2.2.1, bt117.2.2.2.1, bt117.2.2.2.2.1, 0)) else (some ((⟨#[]⟩ : ByteArray), (⟨#[]⟩ : ByteArray), 0, 0, 0, 8)))) else (some ((⟨#[]⟩ : ByteArray), (⟨#[]⟩ : ByteArray), 0, 0, 0, 1))))) (fun k => by simp only [spec_PlacesFind.j0]) ?_
    cases b
    · exact ev_if_neg (by simp) h2
    · exact ev_if_pos rfl (Ev.now _)
  unfold spec_PlacesFind.f placesFind
  by_cases c : (l.length : Int) > 400
  · refine ev_if_pos c ?_
    rw [decide_eq_true c]
    exact hj true
  · refine ev_if_neg c ?_
    rw [decide_eq_false c]
    exact hj _
theorem placesFind_i (l : List IP) (key : ByteArray) (hl : l.length ≤ 9223372036854775807) (hs : ∀ x ∈ l, x.f1.size ≤ 9223372036854775807) : Ev (fun k => impl_PlacesFind.f k l key) (placesFind l key) := by
  have hj : ∀ b : Bool, Ev (fun k => impl_PlacesFind.j0 k l key b) (if b = true then badOut 2 else if placesRight l = true then okOut (findOut (l.find? (keyIs key))) else badOut 1) := by
    intro b
    have h2 : Ev (fun k => (impl_PlacesRight.f k l).bind fun t116 => (if t116 = true then ((impl_findPlace.f k l key).bind fun bt117 => (if bt117.2.2.2.2.2 = true then (some (bt117.1, bt117.2.1, bt117.2.2.1, bt117.2.2.2.1, bt117.2.2.2.2.1, 0)) else (some ((⟨#[]⟩ : ByteArray), (⟨#[]⟩ : ByteArray), 0, 0, 0, 8)))) else (some ((⟨#[]⟩ : ByteArray), (⟨#[]⟩ : ByteArray), 0, 0, 0, 1)))) (if placesRight l = true then okOut (findOut (l.find? (keyIs key))) else badOut 1) := by
      refine Ev.bind (placesRight_i l hs) ?_
      by_cases c : placesRight l = true
      · rw [if_pos c]
        refine ev_if_pos c (Ev.bind (findPlace_ev l key hl) ?_)
        unfold okOut
        generalize findOut (l.find? (keyIs key)) = o
        refine ev_from 0 fun k _ => ?_
        by_cases c2 : o.2.2.2.2.2 = true <;> simp [c2, badOut]
      · rw [if_neg c]
        exact ev_if_neg c (Ev.now _)
    refine Ev.step (f := fun k => if b = true then (some ((⟨#[]⟩ : ByteArray), (⟨#[]⟩ : ByteArray), 0, 0, 0, 2)) else ((impl_PlacesRight.f k l).bind fun t116 => (if t116 = true then ((impl_findPlace.f k l key).bind fun bt117 => (if bt117.2.2.2.2.2 = true then (some (bt117.1, bt117.2.1, bt117.2.2.1, bt117.2.2.2.1, bt117.2.2.2.2.1, 0)) else (some ((⟨#[]⟩ : ByteArray), (⟨#[]⟩ : ByteArray), 0, 0, 0, 8)))) else (some ((⟨#[]⟩ : ByteArray), (⟨#[]⟩ : ByteArray), 0, 0, 0, 1))))) (fun k => by simp only [impl_PlacesFind.j0]) ?_
    cases b
    · exact ev_if_neg (by simp) h2
    · exact ev_if_pos rfl (Ev.now _)
  unfold impl_PlacesFind.f placesFind impl_Place_105.f impl_isLong.f
  simp only [Option.bind_some]
  by_cases c : (l.length : Int) > 400
  · refine ev_if_pos (decide_eq_true c) ?_
    rw [decide_eq_true c]
    exact hj true
  · refine ev_if_neg (by simpa using c) ?_
    rw [decide_eq_false c]
    exact hj _
def wPlace (x : S117) : Int := (x.f0.size : Int) + (x.f1.size : Int)
theorem wPlace_pos (x : S117) : 0 ≤ wPlace x := by
  unfold wPlace
  omega
theorem szPlace_ev (x : S117) (left : Int) (h0 : 0 ≤ left) (h1 : left ≤ 1048576) (hx : ok117 x) : Evs (fun k => laws_szPlace.f x.f0 x.f1 x.f2 x.f3 x.f4 left) (fun r => 0 ≤ r → r + wPlace x = left) := by
  obtain ⟨hf0, hf1, hf2, hf3, hf4⟩ := hx
  unfold wPlace laws_szPlace.f
  rw [sz_wrap (left := left) (s := (x.f0.size : Int)) (by omega) (by omega) (by omega) (by omega)]
  refine Evs.ite (fun _ => Evs.now _ (by omega)) (fun n0 => ?_)
  rw [sz_wrap (left := (left - (x.f0.size : Int))) (s := (x.f1.size : Int)) (by omega) (by omega) (by omega) (by omega)]
  refine Evs.ite (fun _ => Evs.now _ (by omega)) (fun n1 => ?_)
  exact Evs.now _ (by omega)
theorem szPlaceS_ev (l : List (S117)) (left : Int) (h0 : 0 ≤ left) (h1 : left ≤ 1048576) (hlo : (l.length ≤ 9223372036854775807 ∧ ∀ x ∈ l, ok117 x)) : Evs (fun k => laws_szPlaceS.f k l left) (fun r => 0 ≤ r → r + ((l.length : Int) + (l.map (fun x => wPlace x)).sum) = left) := by
  obtain ⟨hl, hok⟩ := hlo
  unfold laws_szPlaceS.f
  rw [sz_wrap h0 h1 (by omega) (by omega)]
  refine Evs.ite (fun _ => Evs.now _ (by have := sum_pos (fun x => wPlace x) l (fun x => wPlace_pos x); omega)) (fun hneg => ?_)
  have hpos : ∀ x : S117, 0 ≤ wPlace x := fun x => wPlace_pos x
  refine Evs.mon (fun k => (laws_szPlaceS.mono_l k) _ _ _) ?_
  obtain ⟨r, h3, h4⟩ := loop_up (fun k (s : Int) i => laws_szPlaceS.l0 k l s i) l.length hl 0 (fun i s => 0 ≤ s ∧ s + ((l.take i).map (fun x => wPlace x)).sum = left - l.length) (fun r => 0 ≤ r → r + (l.map (fun x => wPlace x)).sum = left - l.length)
    (fun k i s hi hs hK hw => by
      obtain ⟨hs0, hs1⟩ := hs
      have hsum := sum_pos (fun x => wPlace x) (l.take i) hpos
      have hp := hpos l[i]
      have e : rd_T117 l (i : Int) = l[i] := getD_nat l i _ hi
      have ht := sum_take_succ (fun x => wPlace x) l i hi
      obtain ⟨r0, hr0, hq0⟩ := szPlace_ev l[i] s hs0 (by omega) (hok l[i] (List.getElem_mem hi))
      obtain ⟨r1, hr1⟩ : ∃ r1, laws_szPlace.f l[i].f0 l[i].f1 l[i].f2 l[i].f3 l[i].f4 s = some r1 := ⟨r0, (hr0.choose_spec _ (Nat.le_refl _))⟩
      obtain rfl : r1 = r0 := Option.some.inj (hr1.symm.trans (hr0.choose_spec _ (Nat.le_refl _)))
      simp only [laws_szPlaceS.l0, e]
      rw [if_pos (by omega), if_pos (by omega), hr1, hw]
      simp only [Option.bind_some]
      by_cases hr : r1 < 0
      · exact Or.inr ⟨-1, by rw [if_pos hr], by omega⟩
      · exact Or.inl ⟨r1, ⟨by omega, by rw [ht]; have := hq0 (by omega); omega⟩, by rw [if_neg hr]⟩      )
    (fun k s hs => by
      obtain ⟨hs0, hs1⟩ := hs
      refine ⟨s, by simp only [laws_szPlaceS.l0]; rw [if_neg (by omega)], fun _ => ?_⟩
      rw [List.take_of_length_le (Nat.le_refl _)] at hs1
      exact hs1)
    l.length 0 (l.length + 0 + 1) (left - l.length) (by omega) ⟨by omega, by simp⟩ (by omega)
  exact ⟨_, r, h3, fun h => by have := h4 h; omega⟩
def toPlace (x : S117) : S50 := ⟨x.f0, x.f1, x.f2, x.f3, x.f4⟩
theorem toPlaceS_ev (l : List (S117)) (hl : l.length ≤ 1048576) : Ev (fun k => laws_toPlaceS.f k l) (l.map toPlace) := by
  have hn : ((l.length : Int)).toNat = l.length := Int.toNat_natCast _
  refine Ev.congr (f := fun k => laws_toPlaceS.l0 k l (List.replicate l.length z50) 0) (fun k => ?_) ?_
  · unfold laws_toPlaceS.f
    rw [if_pos (by omega), if_pos (by omega), hn]
  · exact loop_ev (fun k (s : List (S50)) i => laws_toPlaceS.l0 k l s i) l.length (by omega) 0 (fun i s => s.length = l.length ∧ ∀ j, j < i → s[j]? = (l.map toPlace)[j]?) _
      (fun k i s hi hv hK hw => by
      have e : rd_T117 l (i : Int) = l[i] := getD_nat l i _ hi
      have hlen := hv.1
      simp only [laws_toPlaceS.l0, e, laws_toPlace.f]
      rw [if_pos (by omega), if_pos (by omega), hw]
      simp only [Option.bind_some]
      rw [if_pos (by omega)]
      exact Or.inl ⟨_, fill_step toPlace l s i hi hv.1 hv.2 _ rfl, rfl⟩)
      (fun k s hv => by
      simp only [laws_toPlaceS.l0]
      rw [if_neg (by omega)]
      exact congrArg some (fill_done toPlace l s hv.1 hv.2))
      _ ⟨by simp, fun j hj => absurd hj (by omega)⟩
theorem eqPlace_refl (a0 : ByteArray) (a1 : ByteArray) (a2 : Int) (a3 : Int) (a4 : Int) : laws_eqPlace.f a0 a1 a2 a3 a4 a0 a1 a2 a3 a4 = some true := by
  unfold laws_eqPlace.f
  rw [if_pos rfl]
  rw [if_pos rfl]
  rw [if_pos rfl]
  rw [if_pos rfl]
  rw [if_pos rfl]
theorem eqPlaceS_refl (l : List (S50)) (hl : l.length ≤ 9223372036854775807) : Ev (fun k => laws_eqPlaceS.f k l l) true := by
  unfold laws_eqPlaceS.f
  refine ev_if_pos rfl ?_
  exact loop_ev (fun k (s : Unit) i => laws_eqPlaceS.l0 k l l i) l.length hl 0 (fun _ _ => True) true
    (fun k i s hi _ hK hw => Or.inl ⟨(), trivial, by
      simp only [laws_eqPlaceS.l0, eqPlace_refl, Option.bind_some]
      rw [if_pos (by omega), if_pos (by omega), if_pos (by omega), if_pos trivial, hw]⟩)
    (fun k s _ => by simp only [laws_eqPlaceS.l0]; rw [if_neg (by omega)]) () trivial
theorem eqOut_refl (q : QO) : laws_eqPlaceOut.f q.1 q.2.1 q.2.2.1 q.2.2.2.1 q.2.2.2.2.1 q.2.2.2.2.2 q.1 q.2.1 q.2.2.1 q.2.2.2.1 q.2.2.2.2.1 q.2.2.2.2.2 = some true := by
  unfold laws_eqPlaceOut.f laws_eqPlace.f
  simp
theorem FnExactPlacesFind : FnExactPlacesFind_Pure := by
  intro l key hl hok hkey
  refine Ev.rounds (g := fun k => laws_FnExactPlacesFind.f k l key) (Evs.ev ?_)
  unfold laws_FnExactPlacesFind.f
  refine Evs.ite (fun _ => Evs.now _ rfl) (fun hk => ?_)
  refine Evs.bind (szPlaceS_ev l 1048576 (by omega) (by omega) ⟨hl, hok⟩) (fun r hr => Evs.ite (fun _ => Evs.now _ rfl) (fun hn => ?_))
  have hsum := hr (by omega)
  have hpos := sum_pos (fun x => wPlace x) l (fun x => wPlace_pos x)
  have hto := toPlaceS_ev l (by omega)
  have hs : ∀ x ∈ l.map toPlace, x.f1.size ≤ 9223372036854775807 := by
    intro x hx
    obtain ⟨y, hy, rfl⟩ := List.mem_map.1 hx
    exact (hok y hy).2.1
  have hl2 : (l.map toPlace).length ≤ 9223372036854775807 := by simp; omega
  refine ⟨_, Ev.bind hto (Ev.bind (placesFind_s _ key hl2 hs) (Ev.bind hto (Ev.bind (placesFind_i _ key hl2 hs) (ev_bind1 (eqOut_refl _) (ev_if_pos rfl (Ev.bind hto (Ev.bind (eqPlaceS_refl _ hl2) (ev_if_pos rfl (Ev.now _))))))))), rfl⟩
end Go.Proofs.Yteljfdhjbnlgoaa.Pure
