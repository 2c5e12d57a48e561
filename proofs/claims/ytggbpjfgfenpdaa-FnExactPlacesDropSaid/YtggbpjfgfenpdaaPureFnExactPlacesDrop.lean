/- The plain law of FnExactPlacesDrop: of right places both sides leave those of other packs, and what PlacesDrop gives shares nothing. -/
import Derived.Test.YtggbpjfgfenpdaaOkFnExactPlacesDrop
import Derived.Test.YtggbpjfgfenpdaaVLibFnExactPlacesDrop
import Derived.Lib.Bytealg
namespace Go.Proofs.Ytggbpjfgfenpdaa.Pure
open Go.RowKit Go.Proofs.Ytggbpjfgfenpdaa.PFnExactPlacesDrop Go.Proofs.Ytggbpjfgfenpdaa.Lib Go.Proofs.YtggbpjfgfenpdaaW.PrintWords Go.Proofs.YtggbpjfgfenpdaaW.PrintLast Go.Proofs.YtggbpjfgfenpdaaW.PrintMore
set_option linter.unusedVariables false
set_option linter.unusedSimpArgs false
/-- a loop whose rounds each go on or end. -/
theorem loop_evx {σ ρ : Type} (F : Nat → σ → Int → Option ρ) (n : Nat) (inv : Nat → σ → Prop) (Q : ρ → Prop)
    (hstep : ∀ (i : Nat) (s : σ), i < n → inv i s → (∃ s', inv (i + 1) s' ∧ ∀ v, Ev (fun k => F k s' ((i + 1 : Nat) : Int)) v → Ev (fun k => F k s (i : Int)) v) ∨ Evs (fun k => F k s (i : Int)) Q)
    (hend : ∀ (s : σ), inv n s → Evs (fun k => F k s (n : Int)) Q) : ∀ (s : σ), inv 0 s → Evs (fun k => F k s 0) Q := by
  have main : ∀ (d i : Nat) (s : σ), i + d = n → inv i s → Evs (fun k => F k s (i : Int)) Q := by
    intro d
    induction d with
    | zero =>
      intro i s hi hv
      obtain rfl : i = n := by omega
      exact hend s hv
    | succ d ih =>
      intro i s hi hv
      rcases hstep i s (by omega) hv with ⟨s', hs', hv'⟩ | h
      · obtain ⟨v, h1, h2⟩ := ih (i + 1) s' (by omega) hs'
        exact ⟨v, hv' v h1, h2⟩
      · exact h
  intro s hs
  exact main n 0 s (by omega) hs
theorem wnat' (i n : Nat) (hi : i < n) (hn : n ≤ 9223372036854775807) : wrap64 ((i : Int) + 1) = ((i + 1 : Nat) : Int) := by rw [w64 (by omega) (by omega)]; omega
theorem nameRight_l0 (s : ByteArray) (hs : s.size ≤ 9223372036854775807) (d : Nat) : ∀ (i k : Nat), i + d = s.size → d < k → spec_NameRight.l0 k s (i : Int) = some (nameOk s d i) := by
  induction d with
  | zero =>
    intro i k hi hk
    obtain ⟨k, rfl⟩ : ∃ m, k = m + 1 := ⟨k - 1, by omega⟩
    simp only [spec_NameRight.l0]
    rw [if_neg (by omega)]
    rfl
  | succ d ih =>
    intro i k hi hk
    obtain ⟨k, rfl⟩ : ∃ m, k = m + 1 := ⟨k - 1, by omega⟩
    have e : wrap64 ((i : Int) + 1) = ((i + 1 : Nat) : Int) := by rw [w64 (by omega) (by omega)]; omega
    have h := ih (i + 1) k (by omega) (by omega)
    simp only [spec_NameRight.l0, e, h]
    rw [if_pos (by omega), if_pos (by omega)]
    exact nameStep _ _ _
theorem nameRight_ev (s : ByteArray) (hs : s.size ≤ 9223372036854775807) : Ev (fun k => spec_NameRight.f k s) (isName s 80) := by
  refine ev_from (s.size + 3) fun k hk => ?_
  obtain ⟨k, rfl⟩ : ∃ m, k = m + 1 := ⟨k - 1, by omega⟩
  have h := nameRight_l0 s hs s.size 0 k (by omega) (by omega)
  simp only [spec_NameRight.f, spec_NameRight.j0]
  have h' : spec_NameRight.l0 k s 0 = some (nameOk s s.size 0) := h
  rw [h']
  unfold isName
  generalize nameOk s s.size 0 = X
  grind
theorem isName_l0 (s : ByteArray) (most : Int) (hs : s.size ≤ 9223372036854775807) (d : Nat) : ∀ (i k : Nat), i + d = s.size → d < k → impl_isName.l0 k s most s.size (i : Int) = some (nameOk s d i && (decide ((s.size : Int) ≥ 1) && decide ((s.size : Int) ≤ most))) := by
  induction d with
  | zero =>
    intro i k hi hk
    obtain ⟨k, rfl⟩ : ∃ m, k = m + 1 := ⟨k - 1, by omega⟩
    simp only [impl_isName.l0, impl_long.f, impl_within.f, Option.bind_some, nameOk]
    rw [if_neg (by omega)]
    grind
  | succ d ih =>
    intro i k hi hk
    obtain ⟨k, rfl⟩ : ∃ m, k = m + 1 := ⟨k - 1, by omega⟩
    have e : wrap64 ((i : Int) + 1) = ((i + 1 : Nat) : Int) := by rw [w64 (by omega) (by omega)]; omega
    have h := ih (i + 1) k (by omega) (by omega)
    simp only [impl_isName.l0, e, h]
    rw [if_pos (by omega), if_pos (by omega), if_pos (by omega)]
    refine (nameStep _ _ _).trans ?_
    simp [nameOk, Bool.and_assoc]
theorem isName_ev (s : ByteArray) (most : Int) (hs : s.size ≤ 9223372036854775807) : Ev (fun k => impl_isName.f k s most) (isName s most) := by
  refine ev_from (s.size + 3) fun k hk => ?_
  have h := isName_l0 s most hs s.size 0 k (by omega) (by omega)
  simp only [impl_isName.f]
  exact h
def isObject (s : ByteArray) : Bool := isName s 60 && !(decide ((s.size : Int) ≥ 2) && (s.extract 0 2).toList == ([116, 45] : List UInt8))
theorem object_s (s : ByteArray) (hs : s.size ≤ 9223372036854775807) : Ev (fun k => spec_ObjectRight.f k s) (isObject s) := by
  unfold spec_ObjectRight.f isObject
  refine Ev.bind (nameRight_ev s hs) ?_
  unfold isName
  generalize nameOk s s.size 0 = X
  generalize (s.extract 0 2).toList = L
  refine ev_from 0 fun k _ => ?_
  grind
theorem object_i (s : ByteArray) (hs : s.size ≤ 9223372036854775807) : Ev (fun k => impl_ObjectRight.f k s) (isObject s) := by
  unfold impl_ObjectRight.f isObject
  refine Ev.bind (isName_ev s 60 hs) ?_
  have e3 : (⟨#[116, 45]⟩ : ByteArray).toList = ([116, 45] : List UInt8) := by rw [ByteArray.toList_eq]
  have e4 : (⟨#[116, 45]⟩ : ByteArray).size = 2 := rfl
  have e5 : ((2 : Nat) : Int).toNat = 2 := rfl
  simp only [strings_HasPrefix.f, stringslite_HasPrefix.f, e3, e4, e5]
  generalize isName s 60 = X
  generalize (s.extract 0 2).toList = L
  refine ev_from 0 fun k _ => ?_
  grind
theorem within_eq (a b c : Int) : impl_within.f a b c = some (decide (b ≤ a) && decide (a ≤ c)) := by
  unfold impl_within.f
  by_cases h : a ≥ b <;> simp [h]
theorem less_irrefl (l : List UInt8) : Op.bytesLess l l = false := by
  induction l with
  | nil => rfl
  | cons a l ih => simp [Op.bytesLess, ih]
theorem compare_eq : ∀ (a b : List UInt8), Lib.compareBytes a b = if Op.bytesLess a b = true then -1 else if a = b then 0 else 1
  | [], [] => rfl
  | [], _ :: _ => rfl
  | _ :: _, [] => rfl
  | a :: xs, b :: bs => by
    have ih := compare_eq xs bs
    simp only [Lib.compareBytes, ih, Op.bytesLess]
    by_cases h1 : a < b
    · simp [h1]
    · by_cases h2 : b < a
      · have h3 : a ≠ b := fun e => by subst e; exact h1 h2
        simp [h1, h2, h3]
      · have h3 : a = b := UInt8.le_antisymm (UInt8.not_lt.1 h2) (UInt8.not_lt.1 h1)
        subst h3
        simp [h1]
theorem less_trans : ∀ (a b c : List UInt8), Op.bytesLess a b = true → Op.bytesLess b c = true → Op.bytesLess a c = true
  | [], [], _, h, _ => by cases h
  | [], _ :: _, [], _, h => by cases h
  | [], _ :: _, _ :: _, _, _ => rfl
  | _ :: _, [], _, h, _ => by cases h
  | _ :: _, _ :: _, [], _, h => by cases h
  | a :: xs, b :: ys, c :: zs, h, g => by
    have ih := less_trans xs ys zs
    simp only [Op.bytesLess] at h g ⊢
    simp only [Bool.or_eq_true, Bool.and_eq_true, decide_eq_true_eq, beq_iff_eq] at h g ⊢
    rcases h with h | ⟨rfl, h⟩
    · rcases g with g | ⟨rfl, g⟩
      · exact .inl (UInt8.lt_trans h g)
      · exact .inl h
    · rcases g with g | ⟨rfl, g⟩
      · exact .inl g
      · exact .inr ⟨rfl, ih h g⟩
abbrev IP := S66
abbrev zP := z66
abbrev rdP := rd_T66
def placeLess (a b : IP) : Bool := Op.bytesLess a.f0.toList b.f0.toList || (a.f0.toList == b.f0.toList && Op.bytesLess a.f1.toList b.f1.toList)
def placeOk (x : IP) : Bool := decide ((x.f0.size : Int) = 32) && (isObject x.f1 && ((x.f2 == 1 || x.f2 == 2) && ((decide (0 ≤ x.f3) && decide (x.f3 ≤ 12000)) && (decide (0 ≤ x.f4) && decide (x.f4 ≤ 2000)))))
def placeAt (l : List IP) (i : Nat) : Bool := placeOk (l.getD i zP) && (i == 0 || placeLess (l.getD (i - 1) zP) (l.getD i zP))
def placesRight (l : List IP) : Bool := decide (l.length ≤ 300) && (List.range l.length).all (placeAt l)
theorem rdP_nat (l : List IP) (i : Nat) : rdP l (i : Int) = l.getD i zP := by
  unfold rdP rd_T66
  rw [Int.toNat_natCast]
theorem memP (l : List IP) (i : Nat) (h : i < l.length) : l.getD i zP ∈ l := by
  rw [List.getD_eq_getElem?_getD, List.getElem?_eq_getElem h]
  exact List.getElem_mem h
theorem prevP (l : List IP) (i : Nat) (h0 : 0 < i) (h : i < l.length) (hl : l.length ≤ 300) : rdP l (wrap64 ((i : Int) - 1)) = l.getD (i - 1) zP ∧ 0 ≤ wrap64 ((i : Int) - 1) ∧ wrap64 ((i : Int) - 1) < (l.length : Int) := getD_prev l i _ h0 h (by omega)
theorem l10Less_eq (a b : IP) : spec_l10Less.f a.f0 a.f1 a.f2 a.f3 a.f4 b.f0 b.f1 b.f2 b.f3 b.f4 = some (placeLess a b) := by
  unfold spec_l10Less.f placeLess
  by_cases h : Op.bytesLess a.f0.toList b.f0.toList = true
  · rw [if_pos h, h]; rfl
  · rw [if_neg h]
    rw [Bool.not_eq_true] at h
    by_cases h2 : a.f0.toList = b.f0.toList
    · rw [if_pos h2, h2]; simp [less_irrefl]
    · rw [if_neg h2, h]; simp [h2]
/-- how places compare: below 0 where the one is less. -/
def placeCmp (a b : IP) : Int := if placeLess a b = true then -1 else if a.f0.toList = b.f0.toList ∧ a.f1.toList = b.f1.toList then 0 else 1
theorem or_two (x y : Int) (k : Nat) (hk : 3 ≤ k) : cmp_Or_int.f k [x, y] = some (if x = 0 then y else x) := by
  obtain ⟨k, rfl⟩ : ∃ m, k = m + 3 := ⟨k - 3, by omega⟩
  have e1 : wrap64 ((0 : Int) + 1) = 1 := w64 (by omega) (by omega)
  have e2 : wrap64 ((1 : Int) + 1) = 2 := w64 (by omega) (by omega)
  have r0 : rd [x, y] 0 = x := rfl
  have r1 : rd [x, y] 1 = y := rfl
  unfold cmp_Or_int.f
  simp only [cmp_Or_int.l0, List.length_cons, List.length_nil, e1, e2, r0, r1]
  by_cases h : x = 0 <;> by_cases h2 : y = 0 <;> simp [h, h2]
theorem cmp_ev (a b : IP) : Ev (fun k => impl_Place_compare.f k a.f0 a.f1 a.f2 a.f3 a.f4 b.f0 b.f1 b.f2 b.f3 b.f4) (placeCmp a b) := by
  unfold impl_Place_compare.f
  simp only [strings_Compare.f, bytealg_CompareString.f, Option.bind_some]
  refine ev_from 3 fun k hk => ?_
  rw [or_two _ _ k hk]
  simp only [Option.bind_some, compare_eq, placeCmp, placeLess, ← ByteArray.toList_eq]
  by_cases h1 : Op.bytesLess a.f0.toList b.f0.toList = true
  · simp [h1]
  · rw [Bool.not_eq_true] at h1
    by_cases h2 : a.f0.toList = b.f0.toList
    · by_cases h3 : Op.bytesLess a.f1.toList b.f1.toList = true
      · simp [h2, h3, less_irrefl]
      · rw [Bool.not_eq_true] at h3
        by_cases h4 : a.f1.toList = b.f1.toList <;> simp [h2, h3, h4, less_irrefl]
    · simp [h1, h2]
theorem cmp_neg (a b : IP) : placeCmp a b ≥ 0 ↔ ¬ placeLess a b = true := by
  unfold placeCmp
  by_cases h : placeLess a b = true
  · simp [h]
  · by_cases h2 : a.f0.toList = b.f0.toList ∧ a.f1.toList = b.f1.toList <;> simp [h, h2]
theorem placesRight_s (l : List IP) (hs : ∀ x ∈ l, x.f1.size ≤ 9223372036854775807) : Ev (fun k => spec_PlacesRight.f k l) (placesRight l) := by
  unfold spec_PlacesRight.f placesRight
  by_cases h : (l.length : Int) > 300
  · refine ev_if_pos h ?_
    rw [decide_eq_false (by omega)]
    exact Ev.now _
  refine ev_if_neg h ?_
  rw [decide_eq_true (by omega), Bool.true_and]
  obtain ⟨K, hK⟩ := ev_all (fun (x : IP) k => spec_ObjectRight.f k x.f1) (fun x => isObject x.f1) l (fun x hx => object_s _ (hs x hx))
  have ht := loop_allC 2 (fun k i => spec_PlacesRight.l0 k l i) l.length (by omega) K (placeAt l) true (fun k i hi hk hw => ?_) (fun k _ => by simp only [spec_PlacesRight.l0]; rw [if_neg (by omega)])
  · rw [Bool.and_true] at ht
    exact ht
  have hr := hK _ (memP l i hi) (k + 1) (by omega)
  have e0 := rdP_nat l i
  simp only [rdP] at e0
  simp only [spec_PlacesRight.l0, spec_PlacesRight.j1, e0, hr, hw, Option.bind_some]
  rw [if_pos (by omega), if_pos (by omega)]
  unfold placeAt placeOk
  generalize l.getD i zP = x
  have tail : ∀ A B : Option Bool, ∀ u : Bool, (if u = true then B else A) = if u = true then B else A := fun _ _ _ => rfl
  by_cases c1 : ((x.f0).size : Int) = 32
  case neg => rw [if_neg c1, decide_eq_false c1]; rfl
  rw [if_pos c1, decide_eq_true c1]
  by_cases c2 : isObject x.f1 = true
  case neg => rw [if_neg c2]; rw [Bool.not_eq_true] at c2; rw [c2]; rfl
  rw [if_pos c2, c2]
  by_cases c3 : (x.f2 == 1 || x.f2 == 2) = true
  case neg =>
    have c3' : x.f2 ≠ 1 ∧ x.f2 ≠ 2 := by simpa using c3
    rw [if_neg c3'.1, if_neg c3'.2, Bool.not_eq_true] at *
    rw [c3]; rfl
  have c3' : ∀ A B : Option Bool, (if x.f2 = 1 then A else if x.f2 = 2 then A else B) = A := by
    intro A B
    by_cases h1 : x.f2 = 1
    · rw [if_pos h1]
    · rw [if_neg h1, if_pos (by simpa [h1] using c3)]
  rw [c3', c3]
  by_cases c4 : x.f3 < 0
  case pos => rw [if_pos c4, decide_eq_false (show ¬ 0 ≤ x.f3 by omega)]; rfl
  rw [if_neg c4, decide_eq_true (show 0 ≤ x.f3 by omega)]
  by_cases c5 : x.f3 > 12000
  case pos => rw [if_pos c5, decide_eq_false (show ¬ x.f3 ≤ 12000 by omega)]; rfl
  rw [if_neg c5, decide_eq_true (show x.f3 ≤ 12000 by omega)]
  by_cases c6 : x.f4 < 0
  case pos => rw [if_pos c6, decide_eq_false (show ¬ 0 ≤ x.f4 by omega)]; rfl
  rw [if_neg c6, decide_eq_true (show 0 ≤ x.f4 by omega)]
  by_cases c7 : x.f4 > 2000
  case pos => rw [decide_eq_true c7, decide_eq_false (show ¬ x.f4 ≤ 2000 by omega)]; rfl
  rw [decide_eq_false c7, decide_eq_true (show x.f4 ≤ 2000 by omega)]
  by_cases h0 : 0 < i
  · obtain ⟨q1, q2, q3⟩ := prevP l i h0 hi (by omega)
    simp only [rdP] at q1
    rw [if_neg (by simp), if_pos (by omega), if_pos q2, if_pos q3, q1, l10Less_eq]
    have hi0 : (i == 0) = false := beq_eq_false_iff_ne.2 (by omega)
    rw [hi0]
    rfl
  · obtain rfl : i = 0 := by omega
    rfl
theorem placesRight_i (l : List IP) (hs : ∀ x ∈ l, x.f1.size ≤ 9223372036854775807) : Ev (fun k => impl_PlacesRight.f k l) (placesRight l) := by
  unfold impl_PlacesRight.f placesRight
  by_cases h : (l.length : Int) > 300
  · refine ev_if_pos h ?_
    rw [decide_eq_false (by omega)]
    exact Ev.now _
  refine ev_if_neg h ?_
  rw [decide_eq_true (by omega), Bool.true_and]
  obtain ⟨K, hK⟩ := ev_all (fun (x : IP) k => impl_ObjectRight.f k x.f1) (fun x => isObject x.f1) l (fun x hx => object_i _ (hs x hx))
  have hc : ∃ K2, ∀ i, i < l.length → ∀ k, K2 ≤ k → impl_Place_compare.f k (l.getD (i - 1) zP).f0 (l.getD (i - 1) zP).f1 (l.getD (i - 1) zP).f2 (l.getD (i - 1) zP).f3 (l.getD (i - 1) zP).f4 (l.getD i zP).f0 (l.getD i zP).f1 (l.getD i zP).f2 (l.getD i zP).f3 (l.getD i zP).f4 = some (placeCmp (l.getD (i - 1) zP) (l.getD i zP)) := by
    obtain ⟨K, hK⟩ := ev_all (fun (i : Nat) k => impl_Place_compare.f k (l.getD (i - 1) zP).f0 (l.getD (i - 1) zP).f1 (l.getD (i - 1) zP).f2 (l.getD (i - 1) zP).f3 (l.getD (i - 1) zP).f4 (l.getD i zP).f0 (l.getD i zP).f1 (l.getD i zP).f2 (l.getD i zP).f3 (l.getD i zP).f4) (fun i => placeCmp (l.getD (i - 1) zP) (l.getD i zP)) (List.range l.length) (fun i _ => cmp_ev _ _)
    exact ⟨K, fun i hi k hk => hK i (List.mem_range.2 hi) k hk⟩
  obtain ⟨K2, hK2⟩ := hc
  refine loop_all (fun k i => impl_PlacesRight.l0 k l l (l.length : Int) i) l.length (by omega) (K + K2) (placeAt l) (fun k i hi hk hw => ?_) (fun k => by simp only [impl_PlacesRight.l0]; rw [if_neg (by omega)])
  have hr := hK _ (memP l i hi) k (by omega)
  have hr2 := hK2 i hi k (by omega)
  have e0 := rdP_nat l i
  simp only [rdP] at e0
  simp only [impl_PlacesRight.l0, e0, hr, hw, Option.bind_some, within_eq]
  rw [if_pos (by omega), if_pos (by omega), if_pos (by omega)]
  have hk : ∀ v : Int, impl_isKind.f v = some (v == 1 || v == 2) := by
    intro v
    unfold impl_isKind.f
    by_cases h1 : v = 1 <;> simp [h1]
  simp only [hk, Option.bind_some]
  unfold placeAt placeOk
  by_cases h0 : 0 < i
  · obtain ⟨q1, q2, q3⟩ := prevP l i h0 hi (by omega)
    simp only [rdP] at q1
    have hi0 : (i == 0) = false := beq_eq_false_iff_ne.2 (by omega)
    simp only [q1, hr2, Option.bind_some, cmp_neg, hi0]
    rw [if_pos (show (i : Int) > 0 by omega), if_pos q2, if_pos q3]
    generalize l.getD i zP = x at *
    generalize placeLess (l.getD (i - 1) zP) x = pl
    generalize isObject x.f1 = ob
    generalize (x.f2 == 1 || x.f2 == 2) = kd
    generalize (decide (0 ≤ x.f3) && decide (x.f3 ≤ 12000)) = wa
    generalize (decide (0 ≤ x.f4) && decide (x.f4 ≤ 2000)) = wz
    by_cases c1 : ((x.f0).size : Int) = 32
    · rw [if_pos c1, decide_eq_true c1]
      cases ob <;> cases kd <;> cases wa <;> cases wz <;> cases pl <;> rfl
    · rw [if_neg c1, decide_eq_false c1]; rfl
  · obtain rfl : i = 0 := by omega
    rw [if_neg (show ¬ (((0 : Nat) : Int) > 0) by omega)]
    generalize l.getD 0 zP = x at *
    generalize isObject x.f1 = ob
    generalize (x.f2 == 1 || x.f2 == 2) = kd
    generalize (decide (0 ≤ x.f3) && decide (x.f3 ≤ 12000)) = wa
    generalize (decide (0 ≤ x.f4) && decide (x.f4 ≤ 2000)) = wz
    by_cases c1 : ((x.f0).size : Int) = 32
    · rw [if_pos c1, decide_eq_true c1]
      cases ob <;> cases kd <;> cases wa <;> cases wz <;> rfl
    · rw [if_neg c1, decide_eq_false c1]; rfl
/-- one more letter. -/
theorem one_size (a : Int) : (strOfNums [a]).size = 1 := by
  simp [strOfNums, ByteArray.size]
theorem markText_l0 : ∀ (b : Nat) (n : Nat) (x : ByteArray), n ≤ b → b ≤ 4611686018427387904 → x.size + n ≤ 4611686018427387904 → ∃ v, Ev (fun k => laws_markText.l0 k (n : Int) x) v := by
  intro b
  induction b with
  | zero =>
    intro n x hn _ hx
    obtain rfl : n = 0 := by omega
    refine ⟨(⟨#[109]⟩ : ByteArray) ++ x, Ev.step (f := fun _ => some ((⟨#[109]⟩ : ByteArray) ++ x)) (fun k => ?_) (Ev.now _)⟩
    simp only [laws_markText.l0]
    rw [if_neg (by omega), if_pos (by omega)]
  | succ b ih =>
    intro n x hn hb hx
    by_cases h0 : n = 0
    · subst h0
      refine ⟨(⟨#[109]⟩ : ByteArray) ++ x, Ev.step (f := fun _ => some ((⟨#[109]⟩ : ByteArray) ++ x)) (fun k => ?_) (Ev.now _)⟩
      simp only [laws_markText.l0]
      rw [if_neg (by omega), if_pos (by omega)]
    · have e : wrap64 (Int.tdiv (n : Int) 10) = ((n / 10 : Nat) : Int) := by
        rw [show Int.tdiv (n : Int) 10 = ((n / 10 : Nat) : Int) from rfl]
        exact w64 (by omega) (by omega)
      have hs : ∀ y : ByteArray, (strOfNums [(wrap64 (48 + Int.tmod (n : Int) 10)) % 256] ++ y).size = 1 + y.size := by
        intro y
        rw [ByteArray.size_append, one_size]
      obtain ⟨v, hv⟩ := ih (n / 10) (strOfNums [(wrap64 (48 + Int.tmod (n : Int) 10)) % 256] ++ x) (by omega) (by omega) (by rw [hs]; omega)
      refine ⟨v, Ev.step (fun k => ?_) hv⟩
      simp only [laws_markText.l0, Option.bind_some, e]
      rw [if_pos (by omega), if_pos (by rw [one_size]; omega)]
theorem markText_ex (n : Nat) (hn : n ≤ 4611686018427387904) : ∃ v, Ev (fun k => laws_markText.f k (n : Int)) v := by
  by_cases h0 : n = 0
  · refine ⟨_, ev_if_pos (show (n : Int) ≤ 0 by omega) (Ev.now (⟨#[109, 48]⟩ : ByteArray))⟩
  · obtain ⟨v, hv⟩ := markText_l0 n n (⟨#[]⟩ : ByteArray) (by omega) hn (by show 0 + n ≤ _; omega)
    exact ⟨v, ev_if_neg (show ¬ (n : Int) ≤ 0 by omega) hv⟩
/-- the mark of number n: what text it is does not matter. -/
noncomputable def mText (n : Nat) : ByteArray := if h : n ≤ 4611686018427387904 then Classical.choose (markText_ex n h) else default
theorem mText_ev (n : Nat) (hn : n ≤ 4611686018427387904) : Ev (fun k => laws_markText.f k (n : Int)) (mText n) := by
  unfold mText
  rw [dif_pos hn]
  exact Classical.choose_spec (markText_ex n hn)
/-- a loop whose rounds each end, with what is known of where it stands. -/
theorem loop_evs {σ ρ : Type} (F : Nat → σ → Int → Option ρ) (n : Nat) (inv : Nat → σ → Prop) (Q : ρ → Prop)
    (hstep : ∀ (i : Nat) (s : σ), i < n → inv i s → (∃ s', inv (i + 1) s' ∧ ∀ v, Ev (fun k => F k s' ((i + 1 : Nat) : Int)) v → Ev (fun k => F k s (i : Int)) v))
    (hend : ∀ (s : σ), inv n s → Evs (fun k => F k s (n : Int)) Q) : ∀ (s : σ), inv 0 s → Evs (fun k => F k s 0) Q := by
  have main : ∀ (d i : Nat) (s : σ), i + d = n → inv i s → Evs (fun k => F k s (i : Int)) Q := by
    intro d
    induction d with
    | zero =>
      intro i s hi hv
      obtain rfl : i = n := by omega
      exact hend s hv
    | succ d ih =>
      intro i s hi hv
      obtain ⟨s', hs', hv'⟩ := hstep i s (by omega) hv
      obtain ⟨v, h1, h2⟩ := ih (i + 1) s' (by omega) hs'
      exact ⟨v, hv' v h1, h2⟩
  intro s hs
  exact main n 0 s (by omega) hs
theorem wnat (i : Nat) (hi : i ≤ 9223372036854775806) : wrap64 ((i : Int) + 1) = ((i + 1 : Nat) : Int) := by rw [w64 (by omega) (by omega)]; omega
noncomputable def markP (q : Nat) : IP := ⟨mText q, mText (q + 1), ((q + 2 : Nat) : Int), ((q + 3 : Nat) : Int), ((q + 4 : Nat) : Int)⟩
noncomputable def markedP (n m : Nat) : List IP := (List.range n).map (fun i => markP (m + 5 * i))
theorem rdP_set (x : List IP) (i : Nat) (v : IP) (h : i < x.length) : rdP (x.set i v) (i : Int) = v := by
  rw [rdP_nat, List.getD_eq_getElem?_getD, List.getElem?_set_self h]
  rfl
theorem markPlaceS_ev (l : List IP) (m : Nat) (hl : l.length ≤ 4294967296) (hm : m ≤ 4294967296) : Ev (fun k => laws_markPlaceS.f k l (m : Int)) (((m + 5 * l.length : Nat) : Int), markedP l.length m) := by
  unfold laws_markPlaceS.f
  refine Evs.ev (loop_evs (fun k (s : List IP × Int) i => laws_markPlaceS.l0 k s.1 s.2 i) l.length (fun i s => s.2 = ((m + 5 * i : Nat) : Int) ∧ s.1.length = l.length ∧ ∀ j, j < i → s.1[j]? = (markedP l.length m)[j]?) _ (fun i s hi hv => ?_) (fun s hv => ?_) (l, (m : Int)) ⟨rfl, rfl, fun j hj => absurd hj (by omega)⟩)
  · obtain ⟨x, k1⟩ := s
    obtain ⟨rfl, h2, h3⟩ := hv
    simp only at h2 h3 ⊢
    refine ⟨(x.set i (markP (m + 5 * i)), ((m + 5 * (i + 1) : Nat) : Int)), ⟨rfl, by simp [h2], fun j hj => ?_⟩, fun v hv => ?_⟩
    · show (x.set i (markP (m + 5 * i)))[j]? = _
      rw [List.getElem?_set]
      by_cases e : i = j
      · subst e
        rw [if_pos rfl, if_pos (by omega)]
        simp [markedP, hi]
      · rw [if_neg e]
        exact h3 j (by omega)
    · obtain ⟨K1, g1⟩ := mText_ev (m + 5 * i) (by omega)
      obtain ⟨K3, g3⟩ := mText_ev (m + 5 * i + 1) (by omega)
      obtain ⟨K2, g2⟩ := hv
      refine ev_from (K1 + K2 + K3 + 1) fun k hk => ?_
      obtain ⟨k, rfl⟩ : ∃ q, k = q + 1 := ⟨k - 1, by omega⟩
      have g1' : laws_markText.f k ((m + 5 * i : Nat) : Int) = some (mText (m + 5 * i)) := g1 k (by omega)
      have g3' : laws_markText.f k ((m + 5 * i + 1 : Nat) : Int) = some (mText (m + 5 * i + 1)) := g3 k (by omega)
      have r : ∀ (y : List IP) (v : IP), y.length = l.length → rd_T66 (y.set i v) (i : Int) = v := fun y v hy => rdP_set y i v (by omega)
      simp only [laws_markPlaceS.l0, Int.toNat_natCast, wnat i (by omega), wnat (m + 5 * i) (by omega), wnat (m + 5 * i + 1) (by omega), wnat (m + 5 * i + 1 + 1) (by omega), wnat (m + 5 * i + 1 + 1 + 1) (by omega), wnat (m + 5 * i + 1 + 1 + 1 + 1) (by omega), g1', g3', Option.bind_some]
      rw [if_pos (by omega), if_pos (by omega)]
      simp only [r x _ h2, List.set_set]
      exact g2 k (by omega)
  · obtain ⟨x, k1⟩ := s
    obtain ⟨rfl, h2, h3⟩ := hv
    simp only at h2 h3 ⊢
    refine ⟨_, Ev.step (f := fun _ => some (((m + 5 * l.length : Nat) : Int), x)) (fun k => ?_) (Ev.now _), ?_⟩
    · simp only [laws_markPlaceS.l0]
      rw [if_neg (by omega)]
    · congr 1
      refine List.ext_getElem? fun j => ?_
      by_cases hj : j < l.length
      · exact h3 j hj
      · rw [List.getElem?_eq_none (by omega), List.getElem?_eq_none (by simp [markedP]; omega)]
theorem heldPlaceS_ev (n m : Nat) (hl : n ≤ 4294967296) (hm : m ≤ 4294967296) : Ev (fun k => laws_heldPlaceS.f k (markedP n m) (m : Int)) ((m + 5 * n : Nat) : Int) := by
  unfold laws_heldPlaceS.f
  have hlen : (markedP n m).length = n := by simp [markedP]
  refine Evs.ev (loop_evs (fun k (s : Int) i => laws_heldPlaceS.l0 k (markedP n m) s i) n (fun i s => s = ((m + 5 * i : Nat) : Int)) _ (fun i s hi hv => ?_) (fun s hv => ?_) (m : Int) rfl)
  · subst hv
    refine ⟨((m + 5 * (i + 1) : Nat) : Int), rfl, fun v hv => ?_⟩
    have e : rd_T66 (markedP n m) (i : Int) = markP (m + 5 * i) := by
      show rdP (markedP n m) (i : Int) = _
      rw [rdP_nat]
      simp [markedP, hi]
    obtain ⟨K1, g1⟩ := mText_ev (m + 5 * i) (by omega)
    obtain ⟨K3, g3⟩ := mText_ev (m + 5 * i + 1) (by omega)
    obtain ⟨K2, g2⟩ := hv
    refine ev_from (K1 + K2 + K3 + 1) fun k hk => ?_
    obtain ⟨k, rfl⟩ : ∃ q, k = q + 1 := ⟨k - 1, by omega⟩
    have g1' : laws_markText.f k ((m + 5 * i : Nat) : Int) = some (mText (m + 5 * i)) := g1 k (by omega)
    have g3' : laws_markText.f k ((m + 5 * i + 1 : Nat) : Int) = some (mText (m + 5 * i + 1)) := g3 k (by omega)
    simp only [laws_heldPlaceS.l0, wnat i (by omega), wnat (m + 5 * i) (by omega), wnat (m + 5 * i + 1) (by omega), wnat (m + 5 * i + 1 + 1) (by omega), wnat (m + 5 * i + 1 + 1 + 1) (by omega), wnat (m + 5 * i + 1 + 1 + 1 + 1) (by omega), e, hlen, g1', g3', Option.bind_some]
    rw [if_pos (by omega), if_pos (by omega)]
    simp only [markP, if_true]
    exact g2 k (by omega)
  · subst hv
    refine ⟨_, Ev.step (f := fun _ => some ((m + 5 * n : Nat) : Int)) (fun k => ?_) (Ev.now _), rfl⟩
    simp only [laws_heldPlaceS.l0, hlen]
    rw [if_neg (by omega)]
theorem eqPlace_refl (x : IP) : laws_eqPlace.f x.f0 x.f1 x.f2 x.f3 x.f4 x.f0 x.f1 x.f2 x.f3 x.f4 = some true := by
  unfold laws_eqPlace.f
  simp
theorem eqPlaceS_refl' (l : List IP) (hl : l.length ≤ 9223372036854775807) : Ev (fun k => laws_eqPlaceS.f k l l) true := by
  unfold laws_eqPlaceS.f
  refine ev_if_pos rfl ?_
  have h := loop_all (fun k i => laws_eqPlaceS.l0 k l l i) l.length hl 0 (fun _ => true) (fun k i hi _ hw => by simp only [laws_eqPlaceS.l0, hw, eqPlace_refl, Option.bind_some]; rw [if_pos (by omega), if_pos (by omega), if_pos (by omega), if_pos trivial]) (fun k => by simp only [laws_eqPlaceS.l0]; rw [if_neg (by omega)])
  have e : (List.range l.length).all (fun _ => true) = true := by simp
  rw [e] at h
  exact h
def wPlace (x : S63) : Int := (x.f0.size : Int) + (x.f1.size : Int)
theorem wPlace_pos (x : S63) : 0 ≤ wPlace x := by
  unfold wPlace
  omega
theorem szPlace_ev (x : S63) (left : Int) (h0 : 0 ≤ left) (h1 : left ≤ 1048576) (hx : ok63 x) : Evs (fun k => laws_szPlace.f x.f0 x.f1 x.f2 x.f3 x.f4 left) (fun r => 0 ≤ r → r + wPlace x = left) := by
  obtain ⟨hf0, hf1, hf2, hf3, hf4⟩ := hx
  unfold wPlace laws_szPlace.f
  rw [sz_wrap (left := left) (s := (x.f0.size : Int)) (by omega) (by omega) (by omega) (by omega)]
  refine Evs.ite (fun _ => Evs.now _ (by omega)) (fun n0 => ?_)
  rw [sz_wrap (left := (left - (x.f0.size : Int))) (s := (x.f1.size : Int)) (by omega) (by omega) (by omega) (by omega)]
  refine Evs.ite (fun _ => Evs.now _ (by omega)) (fun n1 => ?_)
  exact Evs.now _ (by omega)
theorem szPlaceS_ev (l : List (S63)) (left : Int) (h0 : 0 ≤ left) (h1 : left ≤ 1048576) (hlo : (l.length ≤ 9223372036854775807 ∧ ∀ x ∈ l, ok63 x)) : Evs (fun k => laws_szPlaceS.f k l left) (fun r => 0 ≤ r → r + ((l.length : Int) + (l.map (fun x => wPlace x)).sum) = left) := by
  obtain ⟨hl, hok⟩ := hlo
  unfold laws_szPlaceS.f
  rw [sz_wrap h0 h1 (by omega) (by omega)]
  refine Evs.ite (fun _ => Evs.now _ (by have := sum_pos (fun x => wPlace x) l (fun x => wPlace_pos x); omega)) (fun hneg => ?_)
  have hpos : ∀ x : S63, 0 ≤ wPlace x := fun x => wPlace_pos x
  refine Evs.mon (fun k => (laws_szPlaceS.mono_l k) _ _ _) ?_
  obtain ⟨r, h3, h4⟩ := loop_up (fun k (s : Int) i => laws_szPlaceS.l0 k l s i) l.length hl 0 (fun i s => 0 ≤ s ∧ s + ((l.take i).map (fun x => wPlace x)).sum = left - l.length) (fun r => 0 ≤ r → r + (l.map (fun x => wPlace x)).sum = left - l.length)
    (fun k i s hi hs hK hw => by
      obtain ⟨hs0, hs1⟩ := hs
      have hsum := sum_pos (fun x => wPlace x) (l.take i) hpos
      have hp := hpos l[i]
      have e : rd_T63 l (i : Int) = l[i] := getD_nat l i _ hi
      have ht := sum_take_succ (fun x => wPlace x) l i hi
      obtain ⟨r0, hr0, hq0⟩ := szPlace_ev l[i] s hs0 (by omega) (hok l[i] (List.getElem_mem hi))
      obtain ⟨r1, hr1⟩ : ∃ r1, laws_szPlace.f l[i].f0 l[i].f1 l[i].f2 l[i].f3 l[i].f4 s = some r1 := ⟨r0, (hr0.choose_spec _ (Nat.le_refl _))⟩
      obtain rfl : r1 = r0 := Option.some.inj (hr1.symm.trans (hr0.choose_spec _ (Nat.le_refl _)))
      simp only [laws_szPlaceS.l0, e]
      rw [if_pos (by omega), if_pos (by omega), hr1, hw]
      simp only [Option.bind_some]
      by_cases hr : r1 < 0
      · exact Or.inr ⟨-1, by rw [if_pos hr], by omega⟩
      · exact Or.inl ⟨r1, ⟨by omega, by rw [ht]; have := hq0 (by omega); omega⟩, by rw [if_neg hr]⟩      )
    (fun k s hs => by
      obtain ⟨hs0, hs1⟩ := hs
      refine ⟨s, by simp only [laws_szPlaceS.l0]; rw [if_neg (by omega)], fun _ => ?_⟩
      rw [List.take_of_length_le (Nat.le_refl _)] at hs1
      exact hs1)
    l.length 0 (l.length + 0 + 1) (left - l.length) (by omega) ⟨by omega, by simp⟩ (by omega)
  exact ⟨_, r, h3, fun h => by have := h4 h; omega⟩
def toPlace (x : S63) : S66 := ⟨x.f0, x.f1, x.f2, x.f3, x.f4⟩
theorem toPlaceS_ev (l : List (S63)) (hl : l.length ≤ 1048576) : Ev (fun k => laws_toPlaceS.f k l) (l.map toPlace) := by
  have hn : ((l.length : Int)).toNat = l.length := Int.toNat_natCast _
  refine Ev.congr (f := fun k => laws_toPlaceS.l0 k l (List.replicate l.length z66) 0) (fun k => ?_) ?_
  · unfold laws_toPlaceS.f
    rw [if_pos (by omega), if_pos (by omega), hn]
  · exact loop_ev (fun k (s : List (S66)) i => laws_toPlaceS.l0 k l s i) l.length (by omega) 0 (fun i s => s.length = l.length ∧ ∀ j, j < i → s[j]? = (l.map toPlace)[j]?) _
      (fun k i s hi hv hK hw => by
      have e : rd_T63 l (i : Int) = l[i] := getD_nat l i _ hi
      have hlen := hv.1
      simp only [laws_toPlaceS.l0, e, laws_toPlace.f]
      rw [if_pos (by omega), if_pos (by omega), hw]
      simp only [Option.bind_some]
      rw [if_pos (by omega)]
      exact Or.inl ⟨_, fill_step toPlace l s i hi hv.1 hv.2 _ rfl, rfl⟩)
      (fun k s hv => by
      simp only [laws_toPlaceS.l0]
      rw [if_neg (by omega)]
      exact congrArg some (fill_done toPlace l s hv.1 hv.2))
      _ ⟨by simp, fun j hj => absurd hj (by omega)⟩
def other (key : ByteArray) (x : IP) : Bool := !(x.f1.toList == key.toList)
theorem rd_at (l : List IP) (i : Nat) (h : i < l.length) : rd_T66 l (i : Int) = l[i] := by
  show rdP l (i : Int) = _
  rw [rdP_nat, List.getD_eq_getElem?_getD, List.getElem?_eq_getElem h]
  rfl
theorem filter_snoc (key : ByteArray) (l : List IP) (j : Nat) (h : j < l.length) : (l.take (j + 1)).filter (other key) = (l.take j).filter (other key) ++ (if other key l[j] = true then [l[j]] else []) := by
  rw [List.take_add_one, List.getElem?_eq_getElem h, List.filter_append]
  congr 1
  show [l[j]].filter (other key) = _
  by_cases c : other key l[j] = true
  · rw [if_pos c, List.filter_cons_of_pos c]
    rfl
  · rw [if_neg c, List.filter_cons_of_neg c]
    rfl
/-! the first match -/
theorem idx_ev (l : List IP) (key : ByteArray) (hl : l.length ≤ 1000) : ∀ (d i : Nat), i + d = l.length → (l.take i).filter (other key) = l.take i →
    ∃ v : Int, Ev (fun k => impl_PlacesDrop.l0 k l key (i : Int)) v ∧ ((v = -1 ∧ l.filter (other key) = l) ∨ ∃ n : Nat, v = (n : Int) ∧ n < l.length ∧ (l.take n).filter (other key) = l.take n ∧ (l.take (n + 1)).filter (other key) = l.take n) := by
  intro d
  induction d with
  | zero =>
    intro i hi hf
    obtain rfl : i = l.length := by omega
    rw [List.take_length] at hf
    exact ⟨-1, Ev.step (f := fun _ => some (-1)) (fun k => by simp only [impl_PlacesDrop.l0]; rw [if_neg (by omega)]) (Ev.now _), .inl ⟨rfl, hf⟩⟩
  | succ d ih =>
    intro i hi hf
    have hlt : i < l.length := by omega
    have hs := filter_snoc key l i hlt
    by_cases c : (l[i]).f1.toList = key.toList
    · have ho : ¬ other key l[i] = true := by unfold other; rw [beq_iff_eq.2 c]; simp
      refine ⟨(i : Int), Ev.step (f := fun _ => some (i : Int)) (fun k => ?_) (Ev.now _), .inr ⟨i, rfl, hlt, hf, ?_⟩⟩
      · simp only [impl_PlacesDrop.l0, rd_at l i hlt]
        rw [if_pos (by omega), if_pos (by omega), if_pos c]
      · rw [hs, if_neg ho, List.append_nil, hf]
    · have ho : other key l[i] = true := by unfold other; rw [beq_eq_false_iff_ne.2 c]; rfl
      obtain ⟨v, h1, h2⟩ := ih (i + 1) (by omega) (by rw [hs, if_pos ho, hf, List.take_add_one, List.getElem?_eq_getElem hlt]; rfl)
      refine ⟨v, Ev.step (fun k => ?_) h1, h2⟩
      simp only [impl_PlacesDrop.l0, rd_at l i hlt]
      rw [if_pos (by omega), if_pos (by omega), if_neg c, show wrap64 ((i : Int) + 1) = ((i + 1 : Nat) : Int) by rw [w64 (by omega) (by omega)]; omega]
/-! the rest is moved down -/
theorem l1_ev (l : List IP) (key : ByteArray) (hl : l.length ≤ 1000) : ∀ (d i j : Nat) (xs : List IP), j + d = l.length → i < j → xs.length = l.length → xs.take i = (l.take j).filter (other key) → xs.drop j = l.drop j →
    Evs (fun k => impl_PlacesDrop.l1 k xs key (i : Int) (j : Int)) (fun r => r.1.take r.2.toNat = l.filter (other key)) := by
  intro d
  induction d with
  | zero =>
    intro i j xs hj hij hx ht _
    obtain rfl : j = l.length := by omega
    rw [List.take_length] at ht
    refine ⟨(xs, (i : Int)), Ev.step (f := fun _ => some (xs, (i : Int))) (fun k => ?_) (Ev.now _), by show xs.take ((i : Int)).toNat = _; rw [Int.toNat_natCast]; exact ht⟩
    simp only [impl_PlacesDrop.l1]
    rw [if_neg (by omega), if_pos (by omega), if_pos (by omega)]
  | succ d ih =>
    intro i j xs hj hij hx ht hd
    have hlt : j < l.length := by omega
    have hltx : j < xs.length := by omega
    have he : xs[j] = l[j] := by
      have h1 := List.drop_eq_getElem_cons hltx
      have h2 := List.drop_eq_getElem_cons hlt
      rw [hd, h2] at h1
      exact (List.cons.inj h1).1.symm
    have hd1 : xs.drop (j + 1) = l.drop (j + 1) := by
      have h1 := List.drop_eq_getElem_cons hltx
      have h2 := List.drop_eq_getElem_cons hlt
      rw [hd, h2] at h1
      exact (List.cons.inj h1).2.symm
    have hs := filter_snoc key l j hlt
    have ewj : wrap64 ((j : Int) + 1) = ((j + 1 : Nat) : Int) := by rw [w64 (by omega) (by omega)]; omega
    have ewi : wrap64 ((i : Int) + 1) = ((i + 1 : Nat) : Int) := by rw [w64 (by omega) (by omega)]; omega
    by_cases c : (l[j]).f1.toList = key.toList
    · have ho : ¬ other key l[j] = true := by unfold other; rw [beq_iff_eq.2 c]; simp
      obtain ⟨r, h1, h2⟩ := ih i (j + 1) xs (by omega) (by omega) hx (by rw [hs, if_neg ho, List.append_nil]; exact ht) hd1
      refine ⟨r, Ev.step (fun k => ?_) h1, h2⟩
      simp only [impl_PlacesDrop.l1, rd_at xs j hltx, he, ewj]
      rw [if_pos (by omega), if_pos (by omega), if_pos c]
    · have ho : other key l[j] = true := by unfold other; rw [beq_eq_false_iff_ne.2 c]; rfl
      obtain ⟨r, h1, h2⟩ := ih (i + 1) (j + 1) (xs.set i l[j]) (by omega) (by omega) (by rw [List.length_set]; exact hx) (by
        rw [hs, if_pos ho, ← ht, List.take_add_one, List.getElem?_set_self (by omega), List.take_set_of_le (Nat.le_refl i)]
        rfl) (by rw [List.drop_set_of_lt (by omega)]; exact hd1)
      refine ⟨r, Ev.step (fun k => ?_) h1, h2⟩
      simp only [impl_PlacesDrop.l1, rd_at xs j hltx, he, ewj, ewi, Int.toNat_natCast]
      rw [if_pos (by omega), if_pos (by omega), if_neg c, if_pos (by omega), if_pos (by omega)]
theorem g_ev (l : List IP) (key : ByteArray) (hl : l.length ≤ 1000) : Ev (fun k => impl_PlacesDrop.g k l key) (l.filter (other key)) := by
  unfold impl_PlacesDrop.g
  obtain ⟨v, h1, h2⟩ := idx_ev l key hl l.length 0 (by omega) rfl
  refine Ev.bind h1 ?_
  rcases h2 with ⟨rfl, h2⟩ | ⟨n, rfl, hn, h2, h3⟩
  · exact ev_if_pos rfl (ev_eq h2.symm)
  · refine ev_if_neg (by omega) ?_
    have ew : wrap64 ((n : Int) + 1) = ((n + 1 : Nat) : Int) := by rw [w64 (by omega) (by omega)]; omega
    rw [ew]
    obtain ⟨r, g1, g2⟩ := l1_ev l key hl (l.length - (n + 1)) n (n + 1) l (by omega) (by omega) rfl h3.symm rfl
    exact Ev.bind g1 (ev_eq g2)
/-- the places of other packs, of right ones. -/
def dropP (l : List IP) (key : ByteArray) : List IP := if (l.length : Int) > 400 then [] else if (key.size : Int) > 20000 then [] else if placesRight l = true then l.filter (other key) else []
theorem short_of (l : List IP) (h : placesRight l = true) : l.length ≤ 300 := by
  unfold placesRight at h
  simp only [Bool.and_eq_true, decide_eq_true_eq] at h
  exact h.1
theorem drop_i (l : List IP) (key : ByteArray) (hs : ∀ x ∈ l, x.f1.size ≤ 9223372036854775807) : Ev (fun k => impl_PlacesDrop.f k l key) (dropP l key) := by
  unfold impl_PlacesDrop.f dropP
  refine ev_bind1 (a := decide ((l.length : Int) > 400)) rfl ?_
  by_cases c1 : (l.length : Int) > 400
  · exact ev_if_pos (decide_eq_true c1) (ev_eq (by rw [if_pos c1]))
  rw [if_neg c1]
  refine ev_if_neg (by simpa using c1) (ev_bind1 (a := decide ((key.size : Int) > 20000)) rfl ?_)
  by_cases c2 : (key.size : Int) > 20000
  · exact ev_if_pos (decide_eq_true c2) (ev_eq (by rw [if_pos c2]))
  rw [if_neg c2]
  refine ev_if_neg (by simpa using c2) (Ev.bind (placesRight_i l hs) ?_)
  by_cases c3 : placesRight l = true
  · rw [if_pos c3]
    have := short_of l c3
    exact ev_if_pos c3 (ev_if_pos (by omega) (g_ev l key (by omega)))
  · rw [if_neg c3]
    exact ev_if_neg c3 (Ev.now _)
theorem spec_l0 (l : List IP) (key : ByteArray) (hl : l.length ≤ 1000) : ∀ (d j : Nat), j + d = l.length → Ev (fun k => spec_PlacesDrop.l0 k l key ((l.take j).filter (other key)) (j : Int)) (l.filter (other key)) := by
  intro d
  induction d with
  | zero =>
    intro j hj
    obtain rfl : j = l.length := by omega
    rw [List.take_length]
    exact Ev.step (f := fun _ => some (l.filter (other key))) (fun k => by simp only [spec_PlacesDrop.l0]; rw [if_neg (by omega)]) (Ev.now _)
  | succ d ih =>
    intro j hj
    have hlt : j < l.length := by omega
    have hs := filter_snoc key l j hlt
    have hr := ih (j + 1) (by omega)
    have ewj : wrap64 ((j : Int) + 1) = ((j + 1 : Nat) : Int) := by rw [w64 (by omega) (by omega)]; omega
    by_cases c : (l[j]).f1.toList = key.toList
    · have ho : ¬ other key l[j] = true := by unfold other; rw [beq_iff_eq.2 c]; simp
      rw [hs, if_neg ho, List.append_nil] at hr
      refine Ev.step (fun k => ?_) hr
      simp only [spec_PlacesDrop.l0, rd_at l j hlt, ewj]
      rw [if_pos (by omega), if_pos (by omega), if_pos c]
    · have ho : other key l[j] = true := by unfold other; rw [beq_eq_false_iff_ne.2 c]; rfl
      rw [hs, if_pos ho] at hr
      have hf : ((l.take j).filter (other key)).length ≤ 1000 := by
        have h1 := List.length_filter_le (other key) (l.take j)
        have h2 := List.length_take_le j l
        omega
      refine Ev.step (fun k => ?_) hr
      simp only [spec_PlacesDrop.l0, rd_at l j hlt, ewj]
      rw [if_pos (by omega), if_pos (by omega), if_neg c, if_pos (by omega)]
theorem drop_s (l : List IP) (key : ByteArray) (hs : ∀ x ∈ l, x.f1.size ≤ 9223372036854775807) : Ev (fun k => spec_PlacesDrop.f k l key) (dropP l key) := by
  unfold spec_PlacesDrop.f dropP
  have bad : Ev (fun k => spec_PlacesDrop.j0 k l key [] true) ([] : List IP) := Ev.step (f := fun _ => some []) (fun k => by simp only [spec_PlacesDrop.j0]; rw [if_pos trivial]) (Ev.now _)
  refine ev_bind1 (a := ([] : List IP)) rfl ?_
  by_cases c1 : (l.length : Int) > 400
  · rw [if_pos c1]
    exact ev_if_pos c1 bad
  rw [if_neg c1]
  refine ev_if_neg c1 ?_
  by_cases c2 : (key.size : Int) > 20000
  · rw [if_pos c2]
    exact ev_if_pos c2 bad
  rw [if_neg c2]
  refine ev_if_neg c2 (Ev.bind (placesRight_s l hs) ?_)
  by_cases c3 : placesRight l = true
  · rw [if_pos c3, c3]
    have := short_of l c3
    exact Ev.step (f := fun k => spec_PlacesDrop.l0 k l key [] 0) (fun k => by simp only [spec_PlacesDrop.j0]; rfl) (spec_l0 l key (by omega) l.length 0 (by omega))
  · rw [if_neg c3, Bool.eq_false_iff.2 c3]
    exact bad
theorem drop_len (l : List IP) (key : ByteArray) : (dropP l key).length ≤ 1000 := by
  unfold dropP
  by_cases c1 : (l.length : Int) > 400
  · rw [if_pos c1]; simp
  rw [if_neg c1]
  by_cases c2 : (key.size : Int) > 20000
  · rw [if_pos c2]; simp
  rw [if_neg c2]
  by_cases c3 : placesRight l = true
  · rw [if_pos c3]
    have := List.length_filter_le (other key) l
    omega
  · rw [if_neg c3]; simp
theorem FnExactPlacesDrop : FnExactPlacesDrop_Pure := by
  intro l key hl hok _
  refine Ev.rounds (g := fun k => laws_FnExactPlacesDrop.f k l key) (Evs.ev ?_)
  unfold laws_FnExactPlacesDrop.f
  refine Evs.ite (fun _ => Evs.now _ rfl) (fun _ => ?_)
  refine Evs.bind (szPlaceS_ev l 1048576 (by omega) (by omega) ⟨hl, hok⟩) (fun r hr => Evs.ite (fun _ => Evs.now _ rfl) (fun hn => ?_))
  have hsum := hr (by omega)
  have hpos := sum_pos (fun x => wPlace x) l (fun x => wPlace_pos x)
  have hto := toPlaceS_ev l (by omega)
  have hs : ∀ x ∈ l.map toPlace, x.f1.size ≤ 9223372036854775807 := by
    intro x hx
    obtain ⟨y, hy, rfl⟩ := List.mem_map.1 hx
    exact (hok y hy).2.1
  obtain ⟨xs, hxs⟩ : ∃ xs, l.map toPlace = xs := ⟨_, rfl⟩
  have hxl : xs.length ≤ 1048576 := by rw [← hxs]; simp; omega
  rw [hxs] at hto hs
  have h1 := drop_s xs key hs
  have h2 := drop_i xs key hs
  have hlen := drop_len xs key
  generalize dropP xs key = ys at h1 h2 hlen
  have he := eqPlaceS_refl' ys (by omega)
  have hex := eqPlaceS_refl' xs (by omega)
  have hmx : Ev (fun k => laws_markPlaceS.f k xs 1) (((1 + 5 * xs.length : Nat) : Int), markedP xs.length 1) := markPlaceS_ev xs 1 (by omega) (by omega)
  have hm : Ev (fun k => laws_markPlaceS.f k ys 1) (((1 + 5 * ys.length : Nat) : Int), markedP ys.length 1) := markPlaceS_ev ys 1 (by omega) (by omega)
  have hh : Ev (fun k => laws_heldPlaceS.f k (markedP ys.length 1) 1) ((1 + 5 * ys.length : Nat) : Int) := heldPlaceS_ev ys.length 1 (by omega) (by omega)
  have hj : Ev (fun k => laws_FnExactPlacesDrop.j0 k l key ys ys false) true := by
    refine Ev.step (fun k => by simp only [laws_FnExactPlacesDrop.j0]; rw [if_neg Bool.false_ne_true]) ?_
    exact Ev.bind hm (Ev.bind hh (ev_if_neg (by omega) (ev_if_pos rfl (Ev.bind hto (Ev.bind h2 (Ev.bind he (ev_if_pos rfl (Ev.bind hh (ev_if_neg (by omega) (ev_if_pos rfl (Ev.now _)))))))))))
  exact ⟨true, Ev.bind hto (Ev.bind h1 (Ev.bind hto (Ev.bind h2 (Ev.bind he (ev_if_pos rfl (Ev.bind hto (Ev.bind hex (ev_if_pos rfl (Ev.bind hmx (ev_if_neg (by omega) (Ev.bind he hj))))))))))), rfl⟩
end Go.Proofs.Ytggbpjfgfenpdaa.Pure
