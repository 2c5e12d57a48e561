/- The plain law of FnExactPlacesBytes: at every list of places PlacesBytes gives the reference's bytes. -/
import Derived.Test.YtggbpjfgfenpdaaOkFnExactPlacesBytes
import Derived.Test.YtggbpjfgfenpdaaVLibFnExactPlacesBytes
import Derived.Lib.Bytealg
namespace Go.Proofs.Ytggbpjfgfenpdaa.Pure
open Go.RowKit Go.Proofs.Ytggbpjfgfenpdaa.PFnExactPlacesBytes Go.Proofs.Ytggbpjfgfenpdaa.Lib Go.Proofs.YtggbpjfgfenpdaaW.PrintWords Go.Proofs.YtggbpjfgfenpdaaW.PrintLast Go.Proofs.YtggbpjfgfenpdaaW.PrintMore
set_option linter.unusedVariables false
set_option linter.unusedSimpArgs false
/-- a loop whose rounds each go on or end. -/
theorem loop_evx {σ ρ : Type} (F : Nat → σ → Int → Option ρ) (n : Nat) (inv : Nat → σ → Prop) (Q : ρ → Prop)
    (hstep : ∀ (i : Nat) (s : σ), i < n → inv i s → (∃ s', inv (i + 1) s' ∧ ∀ v, Ev (fun k => F k s' ((i + 1 : Nat) : Int)) v → Ev (fun k => F k s (i : Int)) v) ∨ Evs (fun k => F k s (i : Int)) Q)
    (hend : ∀ (s : σ), inv n s → Evs (fun k => F k s (n : Int)) Q) : ∀ (s : σ), inv 0 s → Evs (fun k => F k s 0) Q := by
  have main : ∀ (d i : Nat) (s : σ), i + d = n → inv i s → Evs (fun k => F k s (i : Int)) Q := by
    intro d
    induction d with
    | zero =>
      intro i s hi hv
      obtain rfl : i = n := by omega
      exact hend s hv
    | succ d ih =>
      intro i s hi hv
      rcases hstep i s (by omega) hv with ⟨s', hs', hv'⟩ | h
      · obtain ⟨v, h1, h2⟩ := ih (i + 1) s' (by omega) hs'
        exact ⟨v, hv' v h1, h2⟩
      · exact h
  intro s hs
  exact main n 0 s (by omega) hs
theorem wnat' (i n : Nat) (hi : i < n) (hn : n ≤ 9223372036854775807) : wrap64 ((i : Int) + 1) = ((i + 1 : Nat) : Int) := by rw [w64 (by omega) (by omega)]; omega
theorem nameRight_l0 (s : ByteArray) (hs : s.size ≤ 9223372036854775807) (d : Nat) : ∀ (i k : Nat), i + d = s.size → d < k → spec_NameRight.l0 k s (i : Int) = some (nameOk s d i) := by
  induction d with
  | zero =>
    intro i k hi hk
    obtain ⟨k, rfl⟩ : ∃ m, k = m + 1 := ⟨k - 1, by omega⟩
    simp only [spec_NameRight.l0]
    rw [if_neg (by omega)]
    rfl
  | succ d ih =>
    intro i k hi hk
    obtain ⟨k, rfl⟩ : ∃ m, k = m + 1 := ⟨k - 1, by omega⟩
    have e : wrap64 ((i : Int) + 1) = ((i + 1 : Nat) : Int) := by rw [w64 (by omega) (by omega)]; omega
    have h := ih (i + 1) k (by omega) (by omega)
    simp only [spec_NameRight.l0, e, h]
    rw [if_pos (by omega), if_pos (by omega)]
    exact nameStep _ _ _
theorem nameRight_ev (s : ByteArray) (hs : s.size ≤ 9223372036854775807) : Ev (fun k => spec_NameRight.f k s) (isName s 80) := by
  refine ev_from (s.size + 3) fun k hk => ?_
  obtain ⟨k, rfl⟩ : ∃ m, k = m + 1 := ⟨k - 1, by omega⟩
  have h := nameRight_l0 s hs s.size 0 k (by omega) (by omega)
  simp only [spec_NameRight.f, spec_NameRight.j0]
  have h' : spec_NameRight.l0 k s 0 = some (nameOk s s.size 0) := h
  rw [h']
  unfold isName
  generalize nameOk s s.size 0 = X
  grind
theorem isName_l0 (s : ByteArray) (most : Int) (hs : s.size ≤ 9223372036854775807) (d : Nat) : ∀ (i k : Nat), i + d = s.size → d < k → impl_isName.l0 k s most s.size (i : Int) = some (nameOk s d i && (decide ((s.size : Int) ≥ 1) && decide ((s.size : Int) ≤ most))) := by
  induction d with
  | zero =>
    intro i k hi hk
    obtain ⟨k, rfl⟩ : ∃ m, k = m + 1 := ⟨k - 1, by omega⟩
    simp only [impl_isName.l0, impl_long.f, impl_within.f, Option.bind_some, nameOk]
    rw [if_neg (by omega)]
    grind
  | succ d ih =>
    intro i k hi hk
    obtain ⟨k, rfl⟩ : ∃ m, k = m + 1 := ⟨k - 1, by omega⟩
    have e : wrap64 ((i : Int) + 1) = ((i + 1 : Nat) : Int) := by rw [w64 (by omega) (by omega)]; omega
    have h := ih (i + 1) k (by omega) (by omega)
    simp only [impl_isName.l0, e, h]
    rw [if_pos (by omega), if_pos (by omega), if_pos (by omega)]
    refine (nameStep _ _ _).trans ?_
    simp [nameOk, Bool.and_assoc]
theorem isName_ev (s : ByteArray) (most : Int) (hs : s.size ≤ 9223372036854775807) : Ev (fun k => impl_isName.f k s most) (isName s most) := by
  refine ev_from (s.size + 3) fun k hk => ?_
  have h := isName_l0 s most hs s.size 0 k (by omega) (by omega)
  simp only [impl_isName.f]
  exact h
def isObject (s : ByteArray) : Bool := isName s 60 && !(decide ((s.size : Int) ≥ 2) && (s.extract 0 2).toList == ([116, 45] : List UInt8))
theorem object_s (s : ByteArray) (hs : s.size ≤ 9223372036854775807) : Ev (fun k => spec_ObjectRight.f k s) (isObject s) := by
  unfold spec_ObjectRight.f isObject
  refine Ev.bind (nameRight_ev s hs) ?_
  unfold isName
  generalize nameOk s s.size 0 = X
  generalize (s.extract 0 2).toList = L
  refine ev_from 0 fun k _ => ?_
  grind
theorem object_i (s : ByteArray) (hs : s.size ≤ 9223372036854775807) : Ev (fun k => impl_ObjectRight.f k s) (isObject s) := by
  unfold impl_ObjectRight.f isObject
  refine Ev.bind (isName_ev s 60 hs) ?_
  have e3 : (⟨#[116, 45]⟩ : ByteArray).toList = ([116, 45] : List UInt8) := by rw [ByteArray.toList_eq]
  have e4 : (⟨#[116, 45]⟩ : ByteArray).size = 2 := rfl
  have e5 : ((2 : Nat) : Int).toNat = 2 := rfl
  simp only [strings_HasPrefix.f, stringslite_HasPrefix.f, e3, e4, e5]
  generalize isName s 60 = X
  generalize (s.extract 0 2).toList = L
  refine ev_from 0 fun k _ => ?_
  grind
theorem within_eq (a b c : Int) : impl_within.f a b c = some (decide (b ≤ a) && decide (a ≤ c)) := by
  unfold impl_within.f
  by_cases h : a ≥ b <;> simp [h]
theorem less_irrefl (l : List UInt8) : Op.bytesLess l l = false := by
  induction l with
  | nil => rfl
  | cons a l ih => simp [Op.bytesLess, ih]
theorem compare_eq : ∀ (a b : List UInt8), Lib.compareBytes a b = if Op.bytesLess a b = true then -1 else if a = b then 0 else 1
  | [], [] => rfl
  | [], _ :: _ => rfl
  | _ :: _, [] => rfl
  | a :: xs, b :: bs => by
    have ih := compare_eq xs bs
    simp only [Lib.compareBytes, ih, Op.bytesLess]
    by_cases h1 : a < b
    · simp [h1]
    · by_cases h2 : b < a
      · have h3 : a ≠ b := fun e => by subst e; exact h1 h2
        simp [h1, h2, h3]
      · have h3 : a = b := UInt8.le_antisymm (UInt8.not_lt.1 h2) (UInt8.not_lt.1 h1)
        subst h3
        simp [h1]
theorem less_trans : ∀ (a b c : List UInt8), Op.bytesLess a b = true → Op.bytesLess b c = true → Op.bytesLess a c = true
  | [], [], _, h, _ => by cases h
  | [], _ :: _, [], _, h => by cases h
  | [], _ :: _, _ :: _, _, _ => rfl
  | _ :: _, [], _, h, _ => by cases h
  | _ :: _, _ :: _, [], _, h => by cases h
  | a :: xs, b :: ys, c :: zs, h, g => by
    have ih := less_trans xs ys zs
    simp only [Op.bytesLess] at h g ⊢
    simp only [Bool.or_eq_true, Bool.and_eq_true, decide_eq_true_eq, beq_iff_eq] at h g ⊢
    rcases h with h | ⟨rfl, h⟩
    · rcases g with g | ⟨rfl, g⟩
      · exact .inl (UInt8.lt_trans h g)
      · exact .inl h
    · rcases g with g | ⟨rfl, g⟩
      · exact .inl g
      · exact .inr ⟨rfl, ih h g⟩
abbrev IP := S66
abbrev zP := z66
abbrev rdP := rd_T66
def placeLess (a b : IP) : Bool := Op.bytesLess a.f0.toList b.f0.toList || (a.f0.toList == b.f0.toList && Op.bytesLess a.f1.toList b.f1.toList)
def placeOk (x : IP) : Bool := decide ((x.f0.size : Int) = 32) && (isObject x.f1 && ((x.f2 == 1 || x.f2 == 2) && ((decide (0 ≤ x.f3) && decide (x.f3 ≤ 12000)) && (decide (0 ≤ x.f4) && decide (x.f4 ≤ 2000)))))
def placeAt (l : List IP) (i : Nat) : Bool := placeOk (l.getD i zP) && (i == 0 || placeLess (l.getD (i - 1) zP) (l.getD i zP))
def placesRight (l : List IP) : Bool := decide (l.length ≤ 300) && (List.range l.length).all (placeAt l)
theorem rdP_nat (l : List IP) (i : Nat) : rdP l (i : Int) = l.getD i zP := by
  unfold rdP rd_T66
  rw [Int.toNat_natCast]
theorem memP (l : List IP) (i : Nat) (h : i < l.length) : l.getD i zP ∈ l := by
  rw [List.getD_eq_getElem?_getD, List.getElem?_eq_getElem h]
  exact List.getElem_mem h
theorem prevP (l : List IP) (i : Nat) (h0 : 0 < i) (h : i < l.length) (hl : l.length ≤ 300) : rdP l (wrap64 ((i : Int) - 1)) = l.getD (i - 1) zP ∧ 0 ≤ wrap64 ((i : Int) - 1) ∧ wrap64 ((i : Int) - 1) < (l.length : Int) := getD_prev l i _ h0 h (by omega)
theorem l10Less_eq (a b : IP) : spec_l10Less.f a.f0 a.f1 a.f2 a.f3 a.f4 b.f0 b.f1 b.f2 b.f3 b.f4 = some (placeLess a b) := by
  unfold spec_l10Less.f placeLess
  by_cases h : Op.bytesLess a.f0.toList b.f0.toList = true
  · rw [if_pos h, h]; rfl
  · rw [if_neg h]
    rw [Bool.not_eq_true] at h
    by_cases h2 : a.f0.toList = b.f0.toList
    · rw [if_pos h2, h2]; simp [less_irrefl]
    · rw [if_neg h2, h]; simp [h2]
/-- how places compare: below 0 where the one is less. -/
def placeCmp (a b : IP) : Int := if placeLess a b = true then -1 else if a.f0.toList = b.f0.toList ∧ a.f1.toList = b.f1.toList then 0 else 1
theorem or_two (x y : Int) (k : Nat) (hk : 3 ≤ k) : cmp_Or_int.f k [x, y] = some (if x = 0 then y else x) := by
  obtain ⟨k, rfl⟩ : ∃ m, k = m + 3 := ⟨k - 3, by omega⟩
  have e1 : wrap64 ((0 : Int) + 1) = 1 := w64 (by omega) (by omega)
  have e2 : wrap64 ((1 : Int) + 1) = 2 := w64 (by omega) (by omega)
  have r0 : rd [x, y] 0 = x := rfl
  have r1 : rd [x, y] 1 = y := rfl
  unfold cmp_Or_int.f
  simp only [cmp_Or_int.l0, List.length_cons, List.length_nil, e1, e2, r0, r1]
  by_cases h : x = 0 <;> by_cases h2 : y = 0 <;> simp [h, h2]
theorem cmp_ev (a b : IP) : Ev (fun k => impl_Place_compare.f k a.f0 a.f1 a.f2 a.f3 a.f4 b.f0 b.f1 b.f2 b.f3 b.f4) (placeCmp a b) := by
  unfold impl_Place_compare.f
  simp only [strings_Compare.f, bytealg_CompareString.f, Option.bind_some]
  refine ev_from 3 fun k hk => ?_
  rw [or_two _ _ k hk]
  simp only [Option.bind_some, compare_eq, placeCmp, placeLess, ← ByteArray.toList_eq]
  by_cases h1 : Op.bytesLess a.f0.toList b.f0.toList = true
  · simp [h1]
  · rw [Bool.not_eq_true] at h1
    by_cases h2 : a.f0.toList = b.f0.toList
    · by_cases h3 : Op.bytesLess a.f1.toList b.f1.toList = true
      · simp [h2, h3, less_irrefl]
      · rw [Bool.not_eq_true] at h3
        by_cases h4 : a.f1.toList = b.f1.toList <;> simp [h2, h3, h4, less_irrefl]
    · simp [h1, h2]
theorem cmp_neg (a b : IP) : placeCmp a b ≥ 0 ↔ ¬ placeLess a b = true := by
  unfold placeCmp
  by_cases h : placeLess a b = true
  · simp [h]
  · by_cases h2 : a.f0.toList = b.f0.toList ∧ a.f1.toList = b.f1.toList <;> simp [h, h2]
theorem placesRight_s (l : List IP) (hs : ∀ x ∈ l, x.f1.size ≤ 9223372036854775807) : Ev (fun k => spec_PlacesRight.f k l) (placesRight l) := by
  unfold spec_PlacesRight.f placesRight
  by_cases h : (l.length : Int) > 300
  · refine ev_if_pos h ?_
    rw [decide_eq_false (by omega)]
    exact Ev.now _
  refine ev_if_neg h ?_
  rw [decide_eq_true (by omega), Bool.true_and]
  obtain ⟨K, hK⟩ := ev_all (fun (x : IP) k => spec_ObjectRight.f k x.f1) (fun x => isObject x.f1) l (fun x hx => object_s _ (hs x hx))
  have ht := loop_allC 2 (fun k i => spec_PlacesRight.l0 k l i) l.length (by omega) K (placeAt l) true (fun k i hi hk hw => ?_) (fun k _ => by simp only [spec_PlacesRight.l0]; rw [if_neg (by omega)])
  · rw [Bool.and_true] at ht
    exact ht
  have hr := hK _ (memP l i hi) (k + 1) (by omega)
  have e0 := rdP_nat l i
  simp only [rdP] at e0
  simp only [spec_PlacesRight.l0, spec_PlacesRight.j1, e0, hr, hw, Option.bind_some]
  rw [if_pos (by omega), if_pos (by omega)]
  unfold placeAt placeOk
  generalize l.getD i zP = x
  have tail : ∀ A B : Option Bool, ∀ u : Bool, (if u = true then B else A) = if u = true then B else A := fun _ _ _ => rfl
  by_cases c1 : ((x.f0).size : Int) = 32
  case neg => rw [if_neg c1, decide_eq_false c1]; rfl
  rw [if_pos c1, decide_eq_true c1]
  by_cases c2 : isObject x.f1 = true
  case neg => rw [if_neg c2]; rw [Bool.not_eq_true] at c2; rw [c2]; rfl
  rw [if_pos c2, c2]
  by_cases c3 : (x.f2 == 1 || x.f2 == 2) = true
  case neg =>
    have c3' : x.f2 ≠ 1 ∧ x.f2 ≠ 2 := by simpa using c3
    rw [if_neg c3'.1, if_neg c3'.2, Bool.not_eq_true] at *
    rw [c3]; rfl
  have c3' : ∀ A B : Option Bool, (if x.f2 = 1 then A else if x.f2 = 2 then A else B) = A := by
    intro A B
    by_cases h1 : x.f2 = 1
    · rw [if_pos h1]
    · rw [if_neg h1, if_pos (by simpa [h1] using c3)]
  rw [c3', c3]
  by_cases c4 : x.f3 < 0
  case pos => rw [if_pos c4, decide_eq_false (show ¬ 0 ≤ x.f3 by omega)]; rfl
  rw [if_neg c4, decide_eq_true (show 0 ≤ x.f3 by omega)]
  by_cases c5 : x.f3 > 12000
  case pos => rw [if_pos c5, decide_eq_false (show ¬ x.f3 ≤ 12000 by omega)]; rfl
  rw [if_neg c5, decide_eq_true (show x.f3 ≤ 12000 by omega)]
  by_cases c6 : x.f4 < 0
  case pos => rw [if_pos c6, decide_eq_false (show ¬ 0 ≤ x.f4 by omega)]; rfl
  rw [if_neg c6, decide_eq_true (show 0 ≤ x.f4 by omega)]
  by_cases c7 : x.f4 > 2000
  case pos => rw [decide_eq_true c7, decide_eq_false (show ¬ x.f4 ≤ 2000 by omega)]; rfl
  rw [decide_eq_false c7, decide_eq_true (show x.f4 ≤ 2000 by omega)]
  by_cases h0 : 0 < i
  · obtain ⟨q1, q2, q3⟩ := prevP l i h0 hi (by omega)
    simp only [rdP] at q1
    rw [if_neg (by simp), if_pos (by omega), if_pos q2, if_pos q3, q1, l10Less_eq]
    have hi0 : (i == 0) = false := beq_eq_false_iff_ne.2 (by omega)
    rw [hi0]
    rfl
  · obtain rfl : i = 0 := by omega
    rfl
theorem placesRight_i (l : List IP) (hs : ∀ x ∈ l, x.f1.size ≤ 9223372036854775807) : Ev (fun k => impl_PlacesRight.f k l) (placesRight l) := by
  unfold impl_PlacesRight.f placesRight
  by_cases h : (l.length : Int) > 300
  · refine ev_if_pos h ?_
    rw [decide_eq_false (by omega)]
    exact Ev.now _
  refine ev_if_neg h ?_
  rw [decide_eq_true (by omega), Bool.true_and]
  obtain ⟨K, hK⟩ := ev_all (fun (x : IP) k => impl_ObjectRight.f k x.f1) (fun x => isObject x.f1) l (fun x hx => object_i _ (hs x hx))
  have hc : ∃ K2, ∀ i, i < l.length → ∀ k, K2 ≤ k → impl_Place_compare.f k (l.getD (i - 1) zP).f0 (l.getD (i - 1) zP).f1 (l.getD (i - 1) zP).f2 (l.getD (i - 1) zP).f3 (l.getD (i - 1) zP).f4 (l.getD i zP).f0 (l.getD i zP).f1 (l.getD i zP).f2 (l.getD i zP).f3 (l.getD i zP).f4 = some (placeCmp (l.getD (i - 1) zP) (l.getD i zP)) := by
    obtain ⟨K, hK⟩ := ev_all (fun (i : Nat) k => impl_Place_compare.f k (l.getD (i - 1) zP).f0 (l.getD (i - 1) zP).f1 (l.getD (i - 1) zP).f2 (l.getD (i - 1) zP).f3 (l.getD (i - 1) zP).f4 (l.getD i zP).f0 (l.getD i zP).f1 (l.getD i zP).f2 (l.getD i zP).f3 (l.getD i zP).f4) (fun i => placeCmp (l.getD (i - 1) zP) (l.getD i zP)) (List.range l.length) (fun i _ => cmp_ev _ _)
    exact ⟨K, fun i hi k hk => hK i (List.mem_range.2 hi) k hk⟩
  obtain ⟨K2, hK2⟩ := hc
  refine loop_all (fun k i => impl_PlacesRight.l0 k l l (l.length : Int) i) l.length (by omega) (K + K2) (placeAt l) (fun k i hi hk hw => ?_) (fun k => by simp only [impl_PlacesRight.l0]; rw [if_neg (by omega)])
  have hr := hK _ (memP l i hi) k (by omega)
  have hr2 := hK2 i hi k (by omega)
  have e0 := rdP_nat l i
  simp only [rdP] at e0
  simp only [impl_PlacesRight.l0, e0, hr, hw, Option.bind_some, within_eq]
  rw [if_pos (by omega), if_pos (by omega), if_pos (by omega)]
  have hk : ∀ v : Int, impl_isKind.f v = some (v == 1 || v == 2) := by
    intro v
    unfold impl_isKind.f
    by_cases h1 : v = 1 <;> simp [h1]
  simp only [hk, Option.bind_some]
  unfold placeAt placeOk
  by_cases h0 : 0 < i
  · obtain ⟨q1, q2, q3⟩ := prevP l i h0 hi (by omega)
    simp only [rdP] at q1
    have hi0 : (i == 0) = false := beq_eq_false_iff_ne.2 (by omega)
    simp only [q1, hr2, Option.bind_some, cmp_neg, hi0]
    rw [if_pos (show (i : Int) > 0 by omega), if_pos q2, if_pos q3]
    generalize l.getD i zP = x at *
    generalize placeLess (l.getD (i - 1) zP) x = pl
    generalize isObject x.f1 = ob
    generalize (x.f2 == 1 || x.f2 == 2) = kd
    generalize (decide (0 ≤ x.f3) && decide (x.f3 ≤ 12000)) = wa
    generalize (decide (0 ≤ x.f4) && decide (x.f4 ≤ 2000)) = wz
    by_cases c1 : ((x.f0).size : Int) = 32
    · rw [if_pos c1, decide_eq_true c1]
      cases ob <;> cases kd <;> cases wa <;> cases wz <;> cases pl <;> rfl
    · rw [if_neg c1, decide_eq_false c1]; rfl
  · obtain rfl : i = 0 := by omega
    rw [if_neg (show ¬ (((0 : Nat) : Int) > 0) by omega)]
    generalize l.getD 0 zP = x at *
    generalize isObject x.f1 = ob
    generalize (x.f2 == 1 || x.f2 == 2) = kd
    generalize (decide (0 ≤ x.f3) && decide (x.f3 ≤ 12000)) = wa
    generalize (decide (0 ≤ x.f4) && decide (x.f4 ≤ 2000)) = wz
    by_cases c1 : ((x.f0).size : Int) = 32
    · rw [if_pos c1, decide_eq_true c1]
      cases ob <;> cases kd <;> cases wa <;> cases wz <;> rfl
    · rw [if_neg c1, decide_eq_false c1]; rfl
theorem putNum_s_l0 (m : Nat) : ∀ (v k : Nat) (acc : List Int), v < 128 ^ (m + 1) → v < 18446744073709551616 → acc.length + m + 1 ≤ 140737488355328 → m < k → spec_PutNum.l0 k (v : Int) acc = some (strOfNums (acc ++ numL v)) := by
  induction m with
  | zero =>
    intro v k acc hv hv2 ha hk
    obtain ⟨k, rfl⟩ : ∃ m, k = m + 1 := ⟨k - 1, by omega⟩
    have hv' : v < 128 := by simpa using hv
    simp only [spec_PutNum.l0]
    rw [if_neg (by omega), if_pos (by omega), numL_lt hv']
    congr 4
    omega
  | succ m ih =>
    intro v k acc hv hv2 ha hk
    obtain ⟨k, rfl⟩ : ∃ m, k = m + 1 := ⟨k - 1, by omega⟩
    by_cases h : v < 128
    · simp only [spec_PutNum.l0]
      rw [if_neg (by omega), if_pos (by omega), numL_lt h]
      congr 4
      omega
    · have e1 : IntKind.u64.wrap (Int.tdiv (v : Int) 128) = ((v / 128 : Nat) : Int) := by
        rw [Int.tdiv_eq_ediv_of_nonneg (by omega), IntKind.wrap_u64]
        omega
      have e2 : (IntKind.u64.wrap ((Int.tmod (v : Int) 128) + 128)) % 256 = ((v % 128 + 128 : Nat) : Int) := by
        rw [Int.tmod_eq_emod_of_nonneg (by omega), IntKind.wrap_u64]
        omega
      simp only [spec_PutNum.l0, e1, e2]
      rw [if_pos (by omega), if_pos (by omega), ih (v / 128) k _ (by rw [Nat.div_lt_iff_lt_mul (by decide)]; rw [← Nat.pow_succ]; exact hv) (by omega) (by simp; omega) (by omega), numL_ge h]
      simp
theorem putNum_s (n : Int) (h0 : -9223372036854775808 ≤ n) (h1 : n ≤ 9223372036854775807) (k : Nat) (hk : 10 ≤ k) : spec_PutNum.f k n = some (putNum n) := by
  have e : spec_l01Fold.f n = some ((fold n : Nat) : Int) := by
    unfold spec_l01Fold.f fold
    by_cases h : n < 0
    · rw [if_pos h, if_pos h]
      simp only [IntKind.wrap_u64, wrap64]
      congr 1
      omega
    · rw [if_neg h, if_neg h]
      simp only [IntKind.wrap_u64]
      congr 1
      omega
  have hf := fold_lt n h0 h1
  unfold spec_PutNum.f
  rw [e, Option.bind_some, putNum_s_l0 9 _ k _ (Nat.lt_of_lt_of_le hf (by decide)) hf (by simp) (by omega)]
  simp [putNum]
theorem or128 (y : Nat) (h : y < 128) : Go.bits .or .u8 (((y : Nat) : Int) % 256) 128 = ((y + 128 : Nat) : Int) := by
  have e : ((y : Nat) : Int) % 256 = (y : Int) := by omega
  rw [e]
  refine (u8_or_nat y 128 (by omega) (by omega)).trans ?_
  have := nat_join 7 128 y (by decide) (by omega)
  rw [Nat.or_comm, this]
  congr 1
  omega
theorem putNum_i_l0 (m : Nat) : ∀ (v k : Nat) (acc : List Int), v < 128 ^ (m + 1) → v < 18446744073709551616 → acc.length + m + 1 ≤ 140737488355328 → m < k → impl_PutNum.l0 k (v : Int) acc = some (strOfNums (acc ++ numL v)) := by
  induction m with
  | zero =>
    intro v k acc hv hv2 ha hk
    obtain ⟨k, rfl⟩ : ∃ m, k = m + 1 := ⟨k - 1, by omega⟩
    have hv' : v < 128 := by simpa using hv
    simp only [impl_PutNum.l0]
    rw [if_neg (by omega), if_pos (by omega), numL_lt hv']
    congr 4
    omega
  | succ m ih =>
    intro v k acc hv hv2 ha hk
    obtain ⟨k, rfl⟩ : ∃ m, k = m + 1 := ⟨k - 1, by omega⟩
    by_cases h : v < 128
    · simp only [impl_PutNum.l0]
      rw [if_neg (by omega), if_pos (by omega), numL_lt h]
      congr 4
      omega
    · have e1 : (v : Int) / 128 = ((v / 128 : Nat) : Int) := by omega
      have e2 : Go.bits .or .u8 ((Go.bits .and .u64 (v : Int) 127) % 256) 128 = ((v % 128 + 128 : Nat) : Int) := by
        have e3 : Go.bits .and .u64 (v : Int) 127 = ((v % 128 : Nat) : Int) := by
          have := u64_and_nat v 127 hv2 (by decide)
          rw [nat_mask7] at this
          exact this
        rw [e3, or128 _ (by omega)]
      simp only [impl_PutNum.l0, e1, e2]
      rw [if_pos (by omega), if_pos (by omega), ih (v / 128) k _ (by rw [Nat.div_lt_iff_lt_mul (by decide)]; rw [← Nat.pow_succ]; exact hv) (by omega) (by simp; omega) (by omega), numL_ge h]
      simp
theorem fold_bits (n : Int) (h0 : -9223372036854775808 ≤ n) (h1 : n ≤ 9223372036854775807) : Go.bits .xor .u64 (IntKind.u64.wrap ((IntKind.u64.wrap n) * 2)) (IntKind.u64.wrap (n / 9223372036854775808)) = ((fold n : Nat) : Int) := by
  simp only [IntKind.wrap_u64]
  unfold fold
  by_cases h : n < 0
  · rw [if_pos h]
    have e1 : n / 9223372036854775808 % 18446744073709551616 = ((18446744073709551615 : Nat) : Int) := by omega
    have e2 : n % 18446744073709551616 * 2 % 18446744073709551616 = (((n % 18446744073709551616 * 2 % 18446744073709551616).toNat : Nat) : Int) := by omega
    rw [e1, e2, u64_xor_nat _ _ (by omega) (by omega), xor_ones _ (by omega)]
    omega
  · rw [if_neg h]
    have e1 : n / 9223372036854775808 % 18446744073709551616 = ((0 : Nat) : Int) := by omega
    have e2 : n % 18446744073709551616 * 2 % 18446744073709551616 = (((2 * n).toNat : Nat) : Int) := by omega
    rw [e1, e2, u64_xor_nat _ _ (by omega) (by omega)]
    simp
theorem putNum_i (n : Int) (h0 : -9223372036854775808 ≤ n) (h1 : n ≤ 9223372036854775807) (k : Nat) (hk : 10 ≤ k) : impl_PutNum.f k n = some (putNum n) := by
  have hf := fold_lt n h0 h1
  unfold impl_PutNum.f
  rw [fold_bits n h0 h1, putNum_i_l0 9 _ k _ (Nat.lt_of_lt_of_le hf (by decide)) hf (by simp) (by omega)]
  simp [putNum]
/-- a text as numbers. -/
def bl (t : ByteArray) : List Nat := t.data.toList.map UInt8.toNat
theorem bl_length (t : ByteArray) : (bl t).length = t.size := by unfold bl; rw [List.length_map]; exact data_length t
theorem bl_append (a b : ByteArray) : bl (a ++ b) = bl a ++ bl b := by simp [bl, ByteArray.data_append]
theorem bl_lt (t : ByteArray) : ∀ c ∈ bl t, c < 256 := by
  intro c hc
  obtain ⟨x, _, rfl⟩ := List.mem_map.1 hc
  exact x.toNat_lt
theorem bl_extract (t : ByteArray) (i j : Nat) : bl (t.extract i j) = ((bl t).take j).drop i := by
  simp only [bl, ByteArray.data_extract, Array.toList_extract, List.extract_eq_take_drop, List.map_take, List.map_drop]
  rw [List.drop_take]
theorem bl_inj {a b : ByteArray} (h : bl a = bl b) : a = b := by
  have h2 : a.data.toList = b.data.toList := by
    unfold bl at h
    exact (List.map_inj_right (fun x y q => UInt8.toNat_inj.1 q)).1 h
  cases a; cases b
  simp only at h2
  congr 1
  exact Array.toList_inj.1 h2
theorem bt_bl (t : ByteArray) (i : Nat) (h : i < t.size) : bt t (i : Int) = (((bl t)[i]'(by rw [bl_length]; exact h) : Nat) : Int) := by
  unfold bt
  simp only [Int.toNat_natCast]
  rw [dif_pos h]
  simp [bl]
  rfl
theorem bl_strOfNums (l : List Int) (h : ∀ x ∈ l, 0 ≤ x ∧ x < 256) : bl (strOfNums l) = l.map Int.toNat := by
  unfold bl strOfNums
  simp only [List.map_map]
  refine List.map_congr_left (fun x hx => ?_)
  have := h x hx
  simp only [Function.comp]
  rw [UInt8.toNat_ofNat']
  omega
theorem numL_range (m : Nat) : ∀ u, u < 128 ^ (m + 1) → ∀ x ∈ numL u, 0 ≤ x ∧ x < 256 := by
  induction m with
  | zero =>
    intro u hu x hx
    rw [numL_lt (by simpa using hu)] at hx
    simp at hx; subst hx
    simp at hu
    omega
  | succ m ih =>
    intro u hu x hx
    by_cases h : u < 128
    · rw [numL_lt h] at hx
      simp at hx; omega
    · rw [numL_ge h, List.mem_cons] at hx
      rcases hx with rfl | hx
      · omega
      · exact ih (u / 128) (by rw [Nat.div_lt_iff_lt_mul (by decide), ← Nat.pow_succ]; exact hu) x hx
theorem bl_putNum (n : Int) (h0 : -9223372036854775808 ≤ n) (h1 : n ≤ 9223372036854775807) : bl (putNum n) = (numL (fold n)).map Int.toNat :=
  bl_strOfNums _ (numL_range 9 _ (Nat.lt_of_lt_of_le (fold_lt n h0 h1) (by decide)))
theorem empty_list : ((⟨#[]⟩ : ByteArray).toList == ([] : List UInt8)) = true := by
  rw [ByteArray.toList_eq]; rfl
theorem not_empty (p : ByteArray) (h : 0 < p.size) : (p.toList == ([] : List UInt8)) = false := by
  refine beq_eq_false_iff_ne.2 (fun q => ?_)
  rw [ByteArray.toList_eq] at q
  have := congrArg List.length q
  rw [data_length] at this
  simp only [List.length_nil] at this
  omega
theorem extract_size (p : ByteArray) (n : Nat) (h : n ≤ p.size) : (p.extract 0 n).size = n := by
  rw [ByteArray.size_extract]; omega
theorem sn_append (a b : List Int) : strOfNums (a ++ b) = strOfNums a ++ strOfNums b := by
  apply ByteArray.ext
  simp [strOfNums, ByteArray.data_append]
theorem sn_bytesOf (t : ByteArray) : strOfNums (bytesOf t) = t := by
  apply bl_inj
  rw [bl_strOfNums]
  · unfold bytesOf bl
    rw [List.map_map]
    rfl
  · intro x hx
    unfold bytesOf at hx
    obtain ⟨c, _, rfl⟩ := List.mem_map.1 hx
    have := c.toNat_lt
    omega
theorem bytesOf_append (a b : ByteArray) : bytesOf (a ++ b) = bytesOf a ++ bytesOf b := by
  unfold bytesOf
  rw [ByteArray.data_append, Array.toList_append, List.map_append]
theorem bytesOf_len (t : ByteArray) : (bytesOf t).length = t.size := by
  unfold bytesOf
  rw [List.length_map]
  rfl
/-! ### the text of places -/
structure FitP (x : IP) : Prop where
  key : x.f0.size = 32
  pack : x.f1.size ≤ 60
  k0 : 1 ≤ x.f2
  k1 : x.f2 ≤ 2
  a0 : 0 ≤ x.f3
  a1 : x.f3 ≤ 12000
  s0 : 0 ≤ x.f4
  s1 : x.f4 ≤ 2000
theorem fitP_of (x : IP) (h : placeOk x = true) : FitP x := by
  unfold placeOk isObject isName at h
  simp only [Bool.and_eq_true, Bool.or_eq_true, decide_eq_true_eq, beq_iff_eq] at h
  obtain ⟨h1, h2, h3, h4, h5⟩ := h
  have hp : (x.f1.size : Int) ≤ 60 := by
    first | exact h2.1.2.2 | exact h2.2.2.2 | exact h2.1.2 | (have q := h2.1; simp at q; omega)
  exact ⟨by omega, by omega, by omega, by omega, by omega, by omega, by omega, by omega⟩
def placeB (x : IP) : ByteArray := x.f0 ++ (putNum (x.f1.size : Int) ++ x.f1) ++ putNum x.f2 ++ putNum x.f3 ++ putNum x.f4
structure SizesP (x : IP) : Prop where
  a : (putNum (x.f1.size : Int)).size ≤ 10
  b : (putNum x.f2).size ≤ 10
  c : (putNum x.f3).size ≤ 10
  d : (putNum x.f4).size ≤ 10
theorem sizesP_of (x : IP) (h : FitP x) : SizesP x :=
  ⟨(putNum_size _ (by omega) (by have := h.pack; omega)).1, (putNum_size _ (by have := h.k0; omega) (by have := h.k1; omega)).1, (putNum_size _ (by have := h.a0; omega) (by have := h.a1; omega)).1, (putNum_size _ (by have := h.s0; omega) (by have := h.s1; omega)).1⟩
theorem placeB_size (x : IP) (h : FitP x) : (placeB x).size ≤ 200 := by
  have z := sizesP_of x h
  have := z.a; have := z.b; have := z.c; have := z.d; have := h.key; have := h.pack
  unfold placeB
  simp only [ByteArray.size_append]
  omega
theorem oneP_i (x : IP) (h : FitP x) : Ev (fun k => impl_placesText.one k x) (placeB x) := by
  have z := sizesP_of x h
  have za := z.a; have zb := z.b; have zc := z.c; have zd := z.d; have ze := h.key; have zf := h.pack
  unfold impl_placesText.one
  have ht : Ev (fun k => impl_putText.f k x.f1) (putNum (x.f1.size : Int) ++ x.f1) := by
    unfold impl_putText.f impl_long.f
    exact ev_bind1 rfl (Ev.bind (ev_from 10 (fun k hk => putNum_i _ (by omega) (by omega) k hk)) (ev_if_pos (by omega) (Ev.now _)))
  refine Ev.bind ht (Ev.bind (ev_from 10 (fun k hk => putNum_i _ (by have := h.k0; omega) (by have := h.k1; omega) k hk)) (Ev.bind (ev_from 10 (fun k hk => putNum_i _ (by have := h.a0; omega) (by have := h.a1; omega) k hk)) (Ev.bind (ev_from 10 (fun k hk => putNum_i _ (by have := h.s0; omega) (by have := h.s1; omega) k hk)) (ev_if_pos ?_ (Ev.now _)))))
  simp only [ByteArray.size_append]
  omega
def upToP (l : List IP) : Nat → ByteArray
  | 0 => putNum (l.length : Int)
  | i + 1 => upToP l i ++ placeB (l.getD i zP)
theorem upToP_size (l : List IP) (hl : l.length ≤ 300) (hf : ∀ x ∈ l, FitP x) : ∀ i, i ≤ l.length → (upToP l i).size ≤ 10 + 200 * i
  | 0, _ => (putNum_size _ (by omega) (by omega)).1
  | i + 1, hi => by
    have h1 := upToP_size l hl hf i (by omega)
    have h2 := placeB_size _ (hf _ (memP l i (by omega)))
    unfold upToP
    rw [ByteArray.size_append]
    omega
theorem rdP_nat' (l : List IP) (i : Nat) : rd_T66 l (i : Int) = l.getD i zP := rdP_nat l i
theorem textP_i (l : List IP) (hl : l.length ≤ 300) (hf : ∀ x ∈ l, FitP x) : Ev (fun k => impl_placesText.f k l) (upToP l l.length) := by
  have hn := putNum_size (l.length : Int) (by omega) (by omega)
  unfold impl_placesText.f
  refine Ev.bind (ev_from 10 (fun k hk => putNum_i _ (by omega) (by omega) k hk)) (ev_if_pos (by omega) (Evs.ev ?_))
  refine loop_evx (fun k (s : ByteArray) i => impl_placesText.l0 k l s i) l.length (fun i s => s = upToP l i) _ (fun i s hi hv => ?_) (fun s hv => ?_) _ rfl
  · subst hv
    have hs := upToP_size l hl hf i (by omega)
    have hx := hf _ (memP l i hi)
    have hz := placeB_size _ hx
    refine .inl ⟨upToP l (i + 1), rfl, fun v h => ?_⟩
    refine Ev.step (fun k => by simp only [impl_placesText.l0]; rfl) (ev_if_pos (by omega) (ev_if_pos (by omega) ?_))
    simp only [rdP_nat', wnat' i _ hi (show l.length ≤ 9223372036854775807 by omega)]
    exact Ev.bind (oneP_i _ hx) (ev_if_pos (by omega) h)
  · subst hv
    exact ⟨_, Ev.step (f := fun _ => some _) (fun k => by simp only [impl_placesText.l0]; rw [if_neg (by omega)]) (Ev.now _), rfl⟩
theorem putTextP_s (t : ByteArray) (h : t.size ≤ 80) : Ev (fun k => spec_PutText.f k t) (putNum (t.size : Int) ++ t) := by
  have hz := putNum_size (t.size : Int) (by omega) (by omega)
  exact ev_if_neg (by omega) (Ev.bind (ev_from 10 (fun k hk => putNum_s _ (by omega) (by omega) k hk)) (ev_if_pos (by omega) (Ev.now _)))
theorem textP_s (l : List IP) (hl : l.length ≤ 300) (hf : ∀ x ∈ l, FitP x) : Ev (fun k => spec_PlacesBytes.l0 k l (bytesOf (putNum (l.length : Int))) 0) (upToP l l.length) := by
  refine Evs.ev ?_
  refine loop_evx (fun k (s : List Int) i => spec_PlacesBytes.l0 k l s i) l.length (fun i s => s = bytesOf (upToP l i)) _ (fun i s hi hv => ?_) (fun s hv => ?_) _ rfl
  · subst hv
    have hs := upToP_size l hl hf i (by omega)
    have hx := hf _ (memP l i hi)
    have z := sizesP_of _ hx
    have za := z.a; have zb := z.b; have zc := z.c; have zd := z.d; have ze := hx.key; have zf := hx.pack
    refine .inl ⟨_, rfl, fun v h => ?_⟩
    refine Ev.step (fun k => by simp only [spec_PlacesBytes.l0]; rfl) (ev_if_pos (by omega) (ev_if_pos (by omega) ?_))
    simp only [rdP_nat', wnat' i _ hi (show l.length ≤ 9223372036854775807 by omega)]
    refine ev_if_pos (by rw [bytesOf_len]; omega) (ev_bind1 rfl (Ev.bind (putTextP_s _ (by omega)) (ev_if_pos ?_ (ev_bind1 rfl (Ev.bind (ev_from 10 (fun k hk => putNum_s _ (by have := hx.k0; omega) (by have := hx.k1; omega) k hk)) (ev_if_pos ?_ (ev_bind1 rfl (Ev.bind (ev_from 10 (fun k hk => putNum_s _ (by have := hx.a0; omega) (by have := hx.a1; omega) k hk)) (ev_if_pos ?_ (ev_bind1 rfl (Ev.bind (ev_from 10 (fun k hk => putNum_s _ (by have := hx.s0; omega) (by have := hx.s1; omega) k hk)) (ev_if_pos ?_ ?_))))))))))))
    iterate 4 (simp only [List.length_append, bytesOf_len, ByteArray.size_append]; omega)
    have e : bytesOf (upToP l i) ++ bytesOf (l.getD i zP).f0 ++ bytesOf (putNum ((l.getD i zP).f1.size : Int) ++ (l.getD i zP).f1) ++ bytesOf (putNum (l.getD i zP).f2) ++ bytesOf (putNum (l.getD i zP).f3) ++ bytesOf (putNum (l.getD i zP).f4) = bytesOf (upToP l (i + 1)) := by
      show _ = bytesOf (upToP l i ++ placeB _)
      unfold placeB
      simp only [bytesOf_append, List.append_assoc]
    rw [e]
    exact h
  · subst hv
    refine ⟨_, Ev.step (f := fun _ => some (strOfNums (bytesOf (upToP l l.length)))) (fun k => by simp only [spec_PlacesBytes.l0]; rw [if_neg (by omega)]) (Ev.now _), ?_⟩
    exact sn_bytesOf _
def textOfP (l : List IP) : ByteArray := if placesRight l = true then upToP l l.length else ⟨#[]⟩
theorem fitsP (l : List IP) (h : placesRight l = true) : l.length ≤ 300 ∧ ∀ x ∈ l, FitP x := by
  unfold placesRight at h
  simp only [Bool.and_eq_true, decide_eq_true_eq, List.all_eq_true] at h
  refine ⟨h.1, fun x hx => ?_⟩
  obtain ⟨i, hi, rfl⟩ := List.mem_iff_getElem.1 hx
  have h2 := h.2 i (List.mem_range.2 hi)
  unfold placeAt at h2
  rw [Bool.and_eq_true] at h2
  have h3 := h2.1
  rw [List.getD_eq_getElem?_getD, List.getElem?_eq_getElem hi] at h3
  exact fitP_of _ h3
theorem bytesP_s (l : List IP) (hs : ∀ x ∈ l, x.f1.size ≤ 9223372036854775807) : Ev (fun k => spec_PlacesBytes.f k l) (textOfP l) := by
  unfold spec_PlacesBytes.f textOfP
  by_cases c : (l.length : Int) > 400
  · refine ev_if_pos c (Ev.step (f := fun _ => some (⟨#[]⟩ : ByteArray)) (fun k => by simp only [spec_PlacesBytes.j0]; exact if_pos trivial) (ev_eq ?_))
    rw [if_neg]
    intro h
    have := (fitsP l h).1
    omega
  refine ev_if_neg c (Ev.bind (placesRight_s l hs) ?_)
  by_cases h : placesRight l = true
  · obtain ⟨h1, h2⟩ := fitsP l h
    have hn := putNum_size (l.length : Int) (by omega) (by omega)
    rw [if_pos h, h]
    refine Ev.step (fun k => by simp only [spec_PlacesBytes.j0]; rw [if_neg (by simp)]) (Ev.bind (ev_from 10 (fun k hk => putNum_s _ (by omega) (by omega) k hk)) (ev_if_pos (show (putNum (l.length : Int)).size ≤ 140737488355327 by omega) (textP_s l h1 h2)))
  · rw [if_neg h]
    rw [Bool.not_eq_true] at h
    rw [h]
    exact Ev.step (f := fun _ => some (⟨#[]⟩ : ByteArray)) (fun k => by simp only [spec_PlacesBytes.j0]; exact if_pos rfl) (Ev.now _)
theorem bytesP_i (l : List IP) (hs : ∀ x ∈ l, x.f1.size ≤ 9223372036854775807) : Ev (fun k => impl_PlacesBytes.f k l) (textOfP l) := by
  unfold impl_PlacesBytes.f impl_Place_43.f textOfP
  refine ev_bind1 rfl ?_
  by_cases c : (l.length : Int) > 400
  · refine ev_if_pos (decide_eq_true c) (ev_eq ?_)
    rw [if_neg]
    intro h
    have := (fitsP l h).1
    omega
  refine ev_if_neg (by simpa using c) (Ev.bind (placesRight_i l hs) ?_)
  by_cases h : placesRight l = true
  · obtain ⟨h1, h2⟩ := fitsP l h
    rw [if_pos h]
    exact ev_if_pos h (Ev.bind (textP_i l h1 h2) (Ev.now _))
  · rw [if_neg h]
    exact ev_if_neg h (Ev.now _)
def wPlace (x : S63) : Int := (x.f0.size : Int) + (x.f1.size : Int)
theorem wPlace_pos (x : S63) : 0 ≤ wPlace x := by
  unfold wPlace
  omega
theorem szPlace_ev (x : S63) (left : Int) (h0 : 0 ≤ left) (h1 : left ≤ 1048576) (hx : ok63 x) : Evs (fun k => laws_szPlace.f x.f0 x.f1 x.f2 x.f3 x.f4 left) (fun r => 0 ≤ r → r + wPlace x = left) := by
  obtain ⟨hf0, hf1, hf2, hf3, hf4⟩ := hx
  unfold wPlace laws_szPlace.f
  rw [sz_wrap (left := left) (s := (x.f0.size : Int)) (by omega) (by omega) (by omega) (by omega)]
  refine Evs.ite (fun _ => Evs.now _ (by omega)) (fun n0 => ?_)
  rw [sz_wrap (left := (left - (x.f0.size : Int))) (s := (x.f1.size : Int)) (by omega) (by omega) (by omega) (by omega)]
  refine Evs.ite (fun _ => Evs.now _ (by omega)) (fun n1 => ?_)
  exact Evs.now _ (by omega)
theorem szPlaceS_ev (l : List (S63)) (left : Int) (h0 : 0 ≤ left) (h1 : left ≤ 1048576) (hlo : (l.length ≤ 9223372036854775807 ∧ ∀ x ∈ l, ok63 x)) : Evs (fun k => laws_szPlaceS.f k l left) (fun r => 0 ≤ r → r + ((l.length : Int) + (l.map (fun x => wPlace x)).sum) = left) := by
  obtain ⟨hl, hok⟩ := hlo
  unfold laws_szPlaceS.f
  rw [sz_wrap h0 h1 (by omega) (by omega)]
  refine Evs.ite (fun _ => Evs.now _ (by have := sum_pos (fun x => wPlace x) l (fun x => wPlace_pos x); omega)) (fun hneg => ?_)
  have hpos : ∀ x : S63, 0 ≤ wPlace x := fun x => wPlace_pos x
  refine Evs.mon (fun k => (laws_szPlaceS.mono_l k) _ _ _) ?_
  obtain ⟨r, h3, h4⟩ := loop_up (fun k (s : Int) i => laws_szPlaceS.l0 k l s i) l.length hl 0 (fun i s => 0 ≤ s ∧ s + ((l.take i).map (fun x => wPlace x)).sum = left - l.length) (fun r => 0 ≤ r → r + (l.map (fun x => wPlace x)).sum = left - l.length)
    (fun k i s hi hs hK hw => by
      obtain ⟨hs0, hs1⟩ := hs
      have hsum := sum_pos (fun x => wPlace x) (l.take i) hpos
      have hp := hpos l[i]
      have e : rd_T63 l (i : Int) = l[i] := getD_nat l i _ hi
      have ht := sum_take_succ (fun x => wPlace x) l i hi
      obtain ⟨r0, hr0, hq0⟩ := szPlace_ev l[i] s hs0 (by omega) (hok l[i] (List.getElem_mem hi))
      obtain ⟨r1, hr1⟩ : ∃ r1, laws_szPlace.f l[i].f0 l[i].f1 l[i].f2 l[i].f3 l[i].f4 s = some r1 := ⟨r0, (hr0.choose_spec _ (Nat.le_refl _))⟩
      obtain rfl : r1 = r0 := Option.some.inj (hr1.symm.trans (hr0.choose_spec _ (Nat.le_refl _)))
      simp only [laws_szPlaceS.l0, e]
      rw [if_pos (by omega), if_pos (by omega), hr1, hw]
      simp only [Option.bind_some]
      by_cases hr : r1 < 0
      · exact Or.inr ⟨-1, by rw [if_pos hr], by omega⟩
      · exact Or.inl ⟨r1, ⟨by omega, by rw [ht]; have := hq0 (by omega); omega⟩, by rw [if_neg hr]⟩      )
    (fun k s hs => by
      obtain ⟨hs0, hs1⟩ := hs
      refine ⟨s, by simp only [laws_szPlaceS.l0]; rw [if_neg (by omega)], fun _ => ?_⟩
      rw [List.take_of_length_le (Nat.le_refl _)] at hs1
      exact hs1)
    l.length 0 (l.length + 0 + 1) (left - l.length) (by omega) ⟨by omega, by simp⟩ (by omega)
  exact ⟨_, r, h3, fun h => by have := h4 h; omega⟩
def toPlace (x : S63) : S66 := ⟨x.f0, x.f1, x.f2, x.f3, x.f4⟩
theorem toPlaceS_ev (l : List (S63)) (hl : l.length ≤ 1048576) : Ev (fun k => laws_toPlaceS.f k l) (l.map toPlace) := by
  have hn : ((l.length : Int)).toNat = l.length := Int.toNat_natCast _
  refine Ev.congr (f := fun k => laws_toPlaceS.l0 k l (List.replicate l.length z66) 0) (fun k => ?_) ?_
  · unfold laws_toPlaceS.f
    rw [if_pos (by omega), if_pos (by omega), hn]
  · exact loop_ev (fun k (s : List (S66)) i => laws_toPlaceS.l0 k l s i) l.length (by omega) 0 (fun i s => s.length = l.length ∧ ∀ j, j < i → s[j]? = (l.map toPlace)[j]?) _
      (fun k i s hi hv hK hw => by
      have e : rd_T63 l (i : Int) = l[i] := getD_nat l i _ hi
      have hlen := hv.1
      simp only [laws_toPlaceS.l0, e, laws_toPlace.f]
      rw [if_pos (by omega), if_pos (by omega), hw]
      simp only [Option.bind_some]
      rw [if_pos (by omega)]
      exact Or.inl ⟨_, fill_step toPlace l s i hi hv.1 hv.2 _ rfl, rfl⟩)
      (fun k s hv => by
      simp only [laws_toPlaceS.l0]
      rw [if_neg (by omega)]
      exact congrArg some (fill_done toPlace l s hv.1 hv.2))
      _ ⟨by simp, fun j hj => absurd hj (by omega)⟩
theorem eqPlace_refl (a0 : ByteArray) (a1 : ByteArray) (a2 : Int) (a3 : Int) (a4 : Int) : laws_eqPlace.f a0 a1 a2 a3 a4 a0 a1 a2 a3 a4 = some true := by
  unfold laws_eqPlace.f
  rw [if_pos rfl]
  rw [if_pos rfl]
  rw [if_pos rfl]
  rw [if_pos rfl]
  rw [if_pos rfl]
theorem eqPlaceS_refl (l : List (S66)) (hl : l.length ≤ 9223372036854775807) : Ev (fun k => laws_eqPlaceS.f k l l) true := by
  unfold laws_eqPlaceS.f
  refine ev_if_pos rfl ?_
  exact loop_ev (fun k (s : Unit) i => laws_eqPlaceS.l0 k l l i) l.length hl 0 (fun _ _ => True) true
    (fun k i s hi _ hK hw => Or.inl ⟨(), trivial, by
      simp only [laws_eqPlaceS.l0, eqPlace_refl, Option.bind_some]
      rw [if_pos (by omega), if_pos (by omega), if_pos (by omega), if_pos trivial, hw]⟩)
    (fun k s _ => by simp only [laws_eqPlaceS.l0]; rw [if_neg (by omega)]) () trivial
theorem FnExactPlacesBytes : FnExactPlacesBytes_Pure := by
  intro l hl hok
  refine Ev.rounds (g := fun k => laws_FnExactPlacesBytes.f k l) (Evs.ev ?_)
  unfold laws_FnExactPlacesBytes.f
  refine Evs.bind (szPlaceS_ev l 1048576 (by omega) (by omega) ⟨hl, hok⟩) (fun r hr => Evs.ite (fun _ => Evs.now _ rfl) (fun hn => ?_))
  have hsum := hr (by omega)
  have hpos := sum_pos (fun x => wPlace x) l (fun x => wPlace_pos x)
  have hto := toPlaceS_ev l (by omega)
  have hs : ∀ x ∈ l.map toPlace, x.f1.size ≤ 9223372036854775807 := by
    intro x hx
    obtain ⟨y, hy, rfl⟩ := List.mem_map.1 hx
    exact (hok y hy).2.1
  refine ⟨_, Ev.bind hto (Ev.bind (bytesP_s _ hs) (Ev.bind hto (Ev.bind (bytesP_i _ hs) (ev_if_pos rfl (Ev.bind hto (Ev.bind (eqPlaceS_refl _ (by simp; omega)) (ev_if_pos rfl (Ev.now _)))))))), rfl⟩
end Go.Proofs.Ytggbpjfgfenpdaa.Pure
