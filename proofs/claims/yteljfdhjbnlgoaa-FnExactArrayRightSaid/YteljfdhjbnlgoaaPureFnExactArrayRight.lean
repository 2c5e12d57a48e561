/- The plain law of FnExactArrayRight: at every array ArrayRight answers as the reference. -/
import Derived.Test.YteljfdhjbnlgoaaOkFnExactArrayRight
import Derived.Test.YteljfdhjbnlgoaaLib
namespace Go.Proofs.Yteljfdhjbnlgoaa.Pure
open Go.RowKit Go.Proofs.Yteljfdhjbnlgoaa.PFnExactArrayRight Go.Proofs.Yteljfdhjbnlgoaa.Lib Go.Proofs.YteljfdhjbnlgoaaW.PrintWords Go.Proofs.YteljfdhjbnlgoaaW.PrintLast Go.Proofs.YteljfdhjbnlgoaaW.PrintMore
set_option linter.unusedVariables false
set_option linter.unusedSimpArgs false
theorem nameRight_l0 (s : ByteArray) (hs : s.size ≤ 9223372036854775807) (d : Nat) : ∀ (i k : Nat), i + d = s.size → d < k → spec_NameRight.l0 k s (i : Int) = some (nameOk s d i) := by
  induction d with
  | zero =>
    intro i k hi hk
    obtain ⟨k, rfl⟩ : ∃ m, k = m + 1 := ⟨k - 1, by omega⟩
    simp only [spec_NameRight.l0]
    rw [if_neg (by omega)]
    rfl
  | succ d ih =>
    intro i k hi hk
    obtain ⟨k, rfl⟩ : ∃ m, k = m + 1 := ⟨k - 1, by omega⟩
    have e : wrap64 ((i : Int) + 1) = ((i + 1 : Nat) : Int) := by rw [w64 (by omega) (by omega)]; omega
    have h := ih (i + 1) k (by omega) (by omega)
    simp only [spec_NameRight.l0, e, h]
    rw [if_pos (by omega), if_pos (by omega)]
    exact nameStep _ _ _
theorem nameRight_ev (s : ByteArray) (hs : s.size ≤ 9223372036854775807) : Ev (fun k => spec_NameRight.f k s) (isName s 80) := by
  refine ev_from (s.size + 3) fun k hk => ?_
  obtain ⟨k, rfl⟩ : ∃ m, k = m + 1 := ⟨k - 1, by omega⟩
  have h := nameRight_l0 s hs s.size 0 k (by omega) (by omega)
  simp only [spec_NameRight.f, spec_NameRight.j0]
  have h' : spec_NameRight.l0 k s 0 = some (nameOk s s.size 0) := h
  rw [h']
  unfold isName
  generalize nameOk s s.size 0 = X
  grind
theorem isName_l0 (s : ByteArray) (most : Int) (hs : s.size ≤ 9223372036854775807) (d : Nat) : ∀ (i k : Nat), i + d = s.size → d < k → impl_isName.l0 k s most s.size (i : Int) = some (nameOk s d i && (decide ((s.size : Int) ≥ 1) && decide ((s.size : Int) ≤ most))) := by
  induction d with
  | zero =>
    intro i k hi hk
    obtain ⟨k, rfl⟩ : ∃ m, k = m + 1 := ⟨k - 1, by omega⟩
    simp only [impl_isName.l0, impl_long.f, impl_within.f, Option.bind_some, nameOk]
    rw [if_neg (by omega)]
    grind
  | succ d ih =>
    intro i k hi hk
    obtain ⟨k, rfl⟩ : ∃ m, k = m + 1 := ⟨k - 1, by omega⟩
    have e : wrap64 ((i : Int) + 1) = ((i + 1 : Nat) : Int) := by rw [w64 (by omega) (by omega)]; omega
    have h := ih (i + 1) k (by omega) (by omega)
    simp only [impl_isName.l0, e, h]
    rw [if_pos (by omega), if_pos (by omega), if_pos (by omega)]
    refine (nameStep _ _ _).trans ?_
    simp [nameOk, Bool.and_assoc]
theorem isName_ev (s : ByteArray) (most : Int) (hs : s.size ≤ 9223372036854775807) : Ev (fun k => impl_isName.f k s most) (isName s most) := by
  refine ev_from (s.size + 3) fun k hk => ?_
  have h := isName_l0 s most hs s.size 0 k (by omega) (by omega)
  simp only [impl_isName.f]
  exact h
theorem within_eq (a b c : Int) : impl_within.f a b c = some (decide (b ≤ a) && decide (a ≤ c)) := by
  unfold impl_within.f
  by_cases h : a ≥ b <;> simp [h]
abbrev IF := S127
abbrev zF := z127
def fileOk (x : IF) : Bool := isName x.f0 80 && (decide ((x.f1.size : Int) ≤ 20000) && (decide (0 ≤ x.f2) && decide (x.f2 ≤ (x.f1.size : Int))))
def fileAt (l : List IF) (i : Nat) : Bool := isName (l.getD i zF).f0 80 && ((i == 0 || Op.bytesLess (l.getD (i - 1) zF).f0.toList (l.getD i zF).f0.toList) && (decide (((l.getD i zF).f1.size : Int) ≤ 20000) && (decide (0 ≤ (l.getD i zF).f2) && decide ((l.getD i zF).f2 ≤ ((l.getD i zF).f1.size : Int)))))
def usedOf (l : List IF) : Int := (l.map (fun x => (x.f1.size : Int))).sum
def driveRight (l : List IF) (room : Int) : Bool := (decide (l.length ≤ 60) && (decide (0 ≤ room) && decide (room ≤ 100000))) && ((List.range l.length).all (fileAt l) && decide (usedOf l ≤ room))
theorem rdF (l : List IF) (i : Nat) : rd_T127 l (i : Int) = l.getD i zF := by
  unfold rd_T127
  rw [Int.toNat_natCast]
theorem memF (l : List IF) (i : Nat) (h : i < l.length) : l.getD i zF ∈ l := by
  rw [List.getD_eq_getElem?_getD, List.getElem?_eq_getElem h]
  exact List.getElem_mem h
theorem getF (l : List IF) (i : Nat) (h : i < l.length) : l.getD i zF = l[i] := by
  rw [List.getD_eq_getElem?_getD, List.getElem?_eq_getElem h]
  rfl
theorem usedOf_pos (l : List IF) : 0 ≤ usedOf l := sum_pos _ l (fun x => by omega)
/-- what a drive's files hold, as far as numbers go. -/
theorem used_s (l : List IF) (room : Int) (hl : l.length ≤ 60) (hu : usedOf l ≤ 9223372036854775807) : Ev (fun k => spec_l08Bytes.f k l room) (usedOf l) := by
  unfold spec_l08Bytes.f
  refine loop_ev (fun k (s : Int) i => spec_l08Bytes.l0 k s i l room) l.length (by omega) 0 (fun i s => s = usedOf (l.take i)) _ (fun k i s hi hs hK hw => ?_) (fun k s hs => ?_) 0 rfl
  · subst hs
    have ht := sum_take_succ (fun x : IF => (x.f1.size : Int)) l i hi
    have hp := usedOf_pos (l.take i)
    have hle : usedOf (l.take (i + 1)) ≤ usedOf l := by
      unfold usedOf
      have h1 := sum_pos (fun x : IF => (x.f1.size : Int)) (l.drop (i + 1)) (fun x => by omega)
      have h2 : (l.map (fun x : IF => (x.f1.size : Int))).sum = ((l.take (i + 1)).map (fun x : IF => (x.f1.size : Int))).sum + ((l.drop (i + 1)).map (fun x : IF => (x.f1.size : Int))).sum := by
        rw [← List.sum_append, ← List.map_append, List.take_append_drop]
      omega
    have e : usedOf (l.take (i + 1)) = usedOf (l.take i) + (l[i].f1.size : Int) := ht
    refine Or.inl ⟨usedOf (l.take (i + 1)), rfl, ?_⟩
    simp only [spec_l08Bytes.l0, rdF, hw]
    rw [if_pos (by omega), if_pos (by omega), getF l i hi, w64 (by omega) (by omega), e]
  · subst hs
    simp only [spec_l08Bytes.l0]
    rw [if_neg (by omega), List.take_of_length_le (Nat.le_refl _)]
theorem used_i (l : List IF) (room : Int) (hl : l.length ≤ 60) (hu : usedOf l ≤ 9223372036854775807) : Ev (fun k => impl_Drive_used.f k l room) (usedOf l) := by
  unfold impl_Drive_used.f
  refine loop_ev (fun k (s : Int) i => impl_Drive_used.l0 k s l (l.length : Int) i) l.length (by omega) 0 (fun i s => s = usedOf (l.take i)) _ (fun k i s hi hs hK hw => ?_) (fun k s hs => ?_) 0 rfl
  · subst hs
    have ht := sum_take_succ (fun x : IF => (x.f1.size : Int)) l i hi
    have hp := usedOf_pos (l.take i)
    have hle : usedOf (l.take (i + 1)) ≤ usedOf l := by
      unfold usedOf
      have h1 := sum_pos (fun x : IF => (x.f1.size : Int)) (l.drop (i + 1)) (fun x => by omega)
      have h2 : (l.map (fun x : IF => (x.f1.size : Int))).sum = ((l.take (i + 1)).map (fun x : IF => (x.f1.size : Int))).sum + ((l.drop (i + 1)).map (fun x : IF => (x.f1.size : Int))).sum := by
        rw [← List.sum_append, ← List.map_append, List.take_append_drop]
      omega
    have e : usedOf (l.take (i + 1)) = usedOf (l.take i) + (l[i].f1.size : Int) := ht
    refine Or.inl ⟨usedOf (l.take (i + 1)), rfl, ?_⟩
    simp only [impl_Drive_used.l0, rdF, hw, impl_long.f, Option.bind_some]
    rw [if_pos (by omega), if_pos (by omega), if_pos (by omega), getF l i hi, w64 (by omega) (by omega), e]
  · subst hs
    simp only [impl_Drive_used.l0]
    rw [if_neg (by omega), List.take_of_length_le (Nat.le_refl _)]
theorem prevF (l : List IF) (i : Nat) (h0 : 0 < i) (h : i < l.length) (hl : l.length ≤ 60) : rd_T127 l (wrap64 ((i : Int) - 1)) = l.getD (i - 1) zF ∧ 0 ≤ wrap64 ((i : Int) - 1) ∧ wrap64 ((i : Int) - 1) < (l.length : Int) := getD_prev l i _ h0 h (by omega)
theorem fileAt_head (l : List IF) (i : Nat) (h : ¬ isName (l.getD i zF).f0 80 = true) : fileAt l i = false := by
  rw [Bool.not_eq_true] at h
  unfold fileAt
  rw [h]
  rfl
theorem driveRight_s (l : List IF) (room : Int) (hs : ∀ x ∈ l, x.f0.size ≤ 9223372036854775807) (hu : usedOf l ≤ 9223372036854775807) : Ev (fun k => spec_DriveRight.f k l room) (driveRight l room) := by
  unfold spec_DriveRight.f
  have bad : ∀ v : Bool, v = false → Ev (fun k => spec_DriveRight.j0 k true l room) v := fun v hv => Ev.step (f := fun _ => some false) (fun k => by simp only [spec_DriveRight.j0]; rfl) (hv ▸ Ev.now _)
  by_cases h1 : (l.length : Int) > 60
  · exact ev_if_pos h1 (bad _ (by unfold driveRight; rw [decide_eq_false (by omega)]; rfl))
  refine ev_if_neg h1 ?_
  by_cases h2 : room < 0
  · exact ev_if_pos h2 (bad _ (by unfold driveRight; rw [decide_eq_false (show ¬ 0 ≤ room by omega)]; simp))
  refine ev_if_neg h2 ?_
  by_cases h3 : room > 100000
  · rw [decide_eq_true h3]
    exact bad _ (by unfold driveRight; rw [decide_eq_false (show ¬ room ≤ 100000 by omega)]; simp)
  rw [decide_eq_false h3]
  refine Ev.step (f := fun k => spec_DriveRight.l0 k 0 l room) (fun k => by simp only [spec_DriveRight.j0]; rfl) ?_
  unfold driveRight
  rw [decide_eq_true (show l.length ≤ 60 by omega), decide_eq_true (show 0 ≤ room by omega), decide_eq_true (show room ≤ 100000 by omega)]
  simp only [Bool.true_and]
  obtain ⟨K, hK⟩ := ev_all (fun (x : IF) k => spec_NameRight.f k x.f0) (fun x => isName x.f0 80) l (fun x hx => nameRight_ev _ (hs x hx))
  obtain ⟨K2, hK2⟩ := used_s l room (by omega) hu
  refine loop_allK (fun k i => spec_DriveRight.l0 k i l room) l.length (by omega) (K + K2) (fileAt l) (decide (usedOf l ≤ room)) (fun k i hi hk hw => ?_) (fun k hk => by simp only [spec_DriveRight.l0]; rw [if_neg (by omega), show spec_l08Bytes.f k l room = some (usedOf l) from hK2 k (by omega)]; rfl)
  have hr := hK _ (memF l i hi) k (by omega)
  simp only [spec_DriveRight.l0, rdF, hr, hw, Option.bind_some]
  rw [if_pos (by omega), if_pos (by omega)]
  by_cases hx : isName (l.getD i zF).f0 80 = true
  · rw [if_pos hx]
    have tail : ∀ A : Option Bool, (if (((l.getD i zF).f1).size : Int) > 20000 then (some false) else (if ((l.getD i zF).f2) < 0 then (some false) else (if ((l.getD i zF).f2) > (((l.getD i zF).f1).size : Int) then (some false) else A))) = if (decide (((l.getD i zF).f1.size : Int) ≤ 20000) && (decide (0 ≤ (l.getD i zF).f2) && decide ((l.getD i zF).f2 ≤ ((l.getD i zF).f1.size : Int)))) = true then A else some false := by
      intro A
      by_cases c1 : (((l.getD i zF).f1).size : Int) > 20000
      · rw [if_pos c1, decide_eq_false (by omega)]; rfl
      rw [if_neg c1, decide_eq_true (show (((l.getD i zF).f1).size : Int) ≤ 20000 by omega)]
      by_cases c2 : ((l.getD i zF).f2) < 0
      · rw [if_pos c2, decide_eq_false (show ¬ 0 ≤ ((l.getD i zF).f2) by omega)]; rfl
      rw [if_neg c2, decide_eq_true (show 0 ≤ ((l.getD i zF).f2) by omega)]
      by_cases c3 : ((l.getD i zF).f2) > (((l.getD i zF).f1).size : Int)
      · rw [if_pos c3, decide_eq_false (show ¬ ((l.getD i zF).f2) ≤ (((l.getD i zF).f1).size : Int) by omega)]; rfl
      · rw [if_neg c3, decide_eq_true (show ((l.getD i zF).f2) ≤ (((l.getD i zF).f1).size : Int) by omega)]; rfl
    by_cases h0 : 0 < i
    · obtain ⟨q1, q2, q3⟩ := prevF l i h0 hi (by omega)
      rw [if_pos (by omega), if_pos q2, if_pos q3, q1]
      have hi0 : (i == 0) = false := beq_eq_false_iff_ne.2 (by omega)
      unfold fileAt
      by_cases hl : Op.bytesLess (l.getD (i - 1) zF).f0.toList (l.getD i zF).f0.toList = true
      · rw [if_pos hl, tail, hx, hi0, hl]; rfl
      · rw [if_neg hl]
        rw [Bool.not_eq_true] at hl
        rw [hx, hi0, hl]; rfl
    · obtain rfl : i = 0 := by omega
      rw [if_neg (by omega), tail]
      unfold fileAt
      rw [hx]; rfl
  · rw [if_neg hx, fileAt_head l i hx]; rfl
theorem driveRight_i (l : List IF) (room : Int) (hs : ∀ x ∈ l, x.f0.size ≤ 9223372036854775807) (hu : usedOf l ≤ 9223372036854775807) : Ev (fun k => impl_DriveRight.f k l room) (driveRight l room) := by
  unfold impl_DriveRight.f
  have bad : ∀ v : Bool, v = false → Ev (fun k => impl_DriveRight.j0 k true l room) v := fun v hv => Ev.step (f := fun _ => some false) (fun k => by simp only [impl_DriveRight.j0]; rfl) (hv ▸ Ev.now _)
  by_cases h1 : (l.length : Int) > 60
  · exact ev_if_pos h1 (bad _ (by unfold driveRight; rw [decide_eq_false (by omega)]; rfl))
  refine ev_if_neg h1 (ev_bind1 (within_eq _ _ _) ?_)
  by_cases h2 : ¬ (decide (0 ≤ room) && decide (room ≤ 100000)) = true
  · rw [Bool.not_eq_true] at h2
    rw [h2]
    exact bad _ (by unfold driveRight; rw [h2]; simp)
  rw [Decidable.not_not] at h2
  rw [h2]
  refine Ev.step (f := fun k => impl_DriveRight.l0 k l (l.length : Int) 0 l room) (fun k => by simp only [impl_DriveRight.j0]; rfl) ?_
  unfold driveRight
  rw [decide_eq_true (show l.length ≤ 60 by omega), h2]
  simp only [Bool.true_and]
  obtain ⟨K, hK⟩ := ev_all (fun (x : IF) k => impl_NameRight.f k x.f0) (fun x => isName x.f0 80) l (fun x hx => Ev.bind (isName_ev _ 80 (hs x hx)) (Ev.now _))
  obtain ⟨K2, hK2⟩ := used_i l room (by omega) hu
  refine loop_allK (fun k i => impl_DriveRight.l0 k l (l.length : Int) i l room) l.length (by omega) (K + K2) (fileAt l) (decide (usedOf l ≤ room)) (fun k i hi hk hw => ?_) (fun k hk => by simp only [impl_DriveRight.l0]; rw [if_neg (by omega), show impl_Drive_used.f k l room = some (usedOf l) from hK2 k (by omega)]; rfl)
  have hr := hK _ (memF l i hi) k (by omega)
  simp only [impl_DriveRight.l0, rdF, hr, hw, Option.bind_some, impl_isLong.f, impl_long.f, within_eq]
  rw [if_pos (by omega), if_pos (by omega), if_pos (by omega)]
  by_cases hx : isName (l.getD i zF).f0 80 = true
  · rw [if_pos hx]
    have tail : ∀ A : Option Bool, (if decide ((((l.getD i zF).f1).size : Int) > 20000) = true then (some false) else (if (decide (0 ≤ (l.getD i zF).f2) && decide ((l.getD i zF).f2 ≤ ((l.getD i zF).f1.size : Int))) = true then A else some false)) = if (decide (((l.getD i zF).f1.size : Int) ≤ 20000) && (decide (0 ≤ (l.getD i zF).f2) && decide ((l.getD i zF).f2 ≤ ((l.getD i zF).f1.size : Int)))) = true then A else some false := by
      intro A
      by_cases c1 : (((l.getD i zF).f1).size : Int) > 20000
      · rw [decide_eq_true c1, decide_eq_false (show ¬ (((l.getD i zF).f1).size : Int) ≤ 20000 by omega)]; rfl
      · rw [decide_eq_false c1, decide_eq_true (show (((l.getD i zF).f1).size : Int) ≤ 20000 by omega)]; rfl
    by_cases h0 : 0 < i
    · obtain ⟨q1, q2, q3⟩ := prevF l i h0 hi (by omega)
      rw [if_pos (by omega), if_pos q2, if_pos q3, q1]
      have hi0 : (i == 0) = false := beq_eq_false_iff_ne.2 (by omega)
      unfold fileAt
      by_cases hl : Op.bytesLess (l.getD (i - 1) zF).f0.toList (l.getD i zF).f0.toList = true
      · rw [if_pos hl, tail, hx, hi0, hl]; rfl
      · rw [if_neg hl]
        rw [Bool.not_eq_true] at hl
        rw [hx, hi0, hl]; rfl
    · obtain rfl : i = 0 := by omega
      rw [if_neg (by omega), tail]
      unfold fileAt
      rw [hx]; rfl
  · rw [if_neg hx, fileAt_head l i hx]; rfl
def wStored (x : S163) : Int := (x.f0.size : Int) + (x.f1.size : Int)
theorem wStored_pos (x : S163) : 0 ≤ wStored x := by
  unfold wStored
  omega
theorem szStored_ev (x : S163) (left : Int) (h0 : 0 ≤ left) (h1 : left ≤ 1048576) (hx : ok163 x) : Evs (fun k => laws_szStored.f x.f0 x.f1 x.f2 left) (fun r => 0 ≤ r → r + wStored x = left) := by
  obtain ⟨hf0, hf1, hf2⟩ := hx
  unfold wStored laws_szStored.f
  rw [sz_wrap (left := left) (s := (x.f0.size : Int)) (by omega) (by omega) (by omega) (by omega)]
  refine Evs.ite (fun _ => Evs.now _ (by omega)) (fun n0 => ?_)
  rw [sz_wrap (left := (left - (x.f0.size : Int))) (s := (x.f1.size : Int)) (by omega) (by omega) (by omega) (by omega)]
  refine Evs.ite (fun _ => Evs.now _ (by omega)) (fun n1 => ?_)
  exact Evs.now _ (by omega)
theorem szStoredS_ev (l : List (S163)) (left : Int) (h0 : 0 ≤ left) (h1 : left ≤ 1048576) (hlo : (l.length ≤ 9223372036854775807 ∧ ∀ x ∈ l, ok163 x)) : Evs (fun k => laws_szStoredS.f k l left) (fun r => 0 ≤ r → r + ((l.length : Int) + (l.map (fun x => wStored x)).sum) = left) := by
  obtain ⟨hl, hok⟩ := hlo
  unfold laws_szStoredS.f
  rw [sz_wrap h0 h1 (by omega) (by omega)]
  refine Evs.ite (fun _ => Evs.now _ (by have := sum_pos (fun x => wStored x) l (fun x => wStored_pos x); omega)) (fun hneg => ?_)
  have hpos : ∀ x : S163, 0 ≤ wStored x := fun x => wStored_pos x
  refine Evs.mon (fun k => (laws_szStoredS.mono_l k) _ _ _) ?_
  obtain ⟨r, h3, h4⟩ := loop_up (fun k (s : Int) i => laws_szStoredS.l0 k l s i) l.length hl 0 (fun i s => 0 ≤ s ∧ s + ((l.take i).map (fun x => wStored x)).sum = left - l.length) (fun r => 0 ≤ r → r + (l.map (fun x => wStored x)).sum = left - l.length)
    (fun k i s hi hs hK hw => by
      obtain ⟨hs0, hs1⟩ := hs
      have hsum := sum_pos (fun x => wStored x) (l.take i) hpos
      have hp := hpos l[i]
      have e : rd_T163 l (i : Int) = l[i] := getD_nat l i _ hi
      have ht := sum_take_succ (fun x => wStored x) l i hi
      obtain ⟨r0, hr0, hq0⟩ := szStored_ev l[i] s hs0 (by omega) (hok l[i] (List.getElem_mem hi))
      obtain ⟨r1, hr1⟩ : ∃ r1, laws_szStored.f l[i].f0 l[i].f1 l[i].f2 s = some r1 := ⟨r0, (hr0.choose_spec _ (Nat.le_refl _))⟩
      obtain rfl : r1 = r0 := Option.some.inj (hr1.symm.trans (hr0.choose_spec _ (Nat.le_refl _)))
      simp only [laws_szStoredS.l0, e]
      rw [if_pos (by omega), if_pos (by omega), hr1, hw]
      simp only [Option.bind_some]
      by_cases hr : r1 < 0
      · exact Or.inr ⟨-1, by rw [if_pos hr], by omega⟩
      · exact Or.inl ⟨r1, ⟨by omega, by rw [ht]; have := hq0 (by omega); omega⟩, by rw [if_neg hr]⟩      )
    (fun k s hs => by
      obtain ⟨hs0, hs1⟩ := hs
      refine ⟨s, by simp only [laws_szStoredS.l0]; rw [if_neg (by omega)], fun _ => ?_⟩
      rw [List.take_of_length_le (Nat.le_refl _)] at hs1
      exact hs1)
    l.length 0 (l.length + 0 + 1) (left - l.length) (by omega) ⟨by omega, by simp⟩ (by omega)
  exact ⟨_, r, h3, fun h => by have := h4 h; omega⟩
def wDrive (x : S61) : Int := ((x.f0.length : Int) + (x.f0.map (fun x => wStored x)).sum)
theorem wDrive_pos (x : S61) : 0 ≤ wDrive x := by
  unfold wDrive
  have p0 := sum_pos (fun x => wStored x) x.f0 (fun x => wStored_pos x)
  omega
theorem szDrive_ev (x : S61) (left : Int) (h0 : 0 ≤ left) (h1 : left ≤ 1048576) (hx : ok61 x) : Evs (fun k => laws_szDrive.f k x.f0 x.f1 left) (fun r => 0 ≤ r → r + wDrive x = left) := by
  obtain ⟨hf0, hf1⟩ := hx
  unfold wDrive laws_szDrive.f
  refine Evs.bind (szStoredS_ev x.f0 left (by omega) (by omega) hf0) (fun r0 hr0 => ?_)
  refine Evs.ite (fun _ => Evs.now _ (by omega)) (fun n0 => ?_)
  have e0 := hr0 (by omega)
  have g0 := sum_pos (fun x => wStored x) x.f0 (fun x => wStored_pos x)
  exact Evs.now _ (by omega)
def toStored (x : S163) : S127 := ⟨x.f0, x.f1, x.f2⟩
theorem toStoredS_ev (l : List (S163)) (hl : l.length ≤ 1048576) : Ev (fun k => laws_toStoredS.f k l) (l.map toStored) := by
  have hn : ((l.length : Int)).toNat = l.length := Int.toNat_natCast _
  refine Ev.congr (f := fun k => laws_toStoredS.l0 k l (List.replicate l.length z127) 0) (fun k => ?_) ?_
  · unfold laws_toStoredS.f
    rw [if_pos (by omega), if_pos (by omega), hn]
  · exact loop_ev (fun k (s : List (S127)) i => laws_toStoredS.l0 k l s i) l.length (by omega) 0 (fun i s => s.length = l.length ∧ ∀ j, j < i → s[j]? = (l.map toStored)[j]?) _
      (fun k i s hi hv hK hw => by
      have e : rd_T163 l (i : Int) = l[i] := getD_nat l i _ hi
      have hlen := hv.1
      simp only [laws_toStoredS.l0, e, laws_toStored.f]
      rw [if_pos (by omega), if_pos (by omega), hw]
      simp only [Option.bind_some]
      rw [if_pos (by omega)]
      exact Or.inl ⟨_, fill_step toStored l s i hi hv.1 hv.2 _ rfl, rfl⟩)
      (fun k s hv => by
      simp only [laws_toStoredS.l0]
      rw [if_neg (by omega)]
      exact congrArg some (fill_done toStored l s hv.1 hv.2))
      _ ⟨by simp, fun j hj => absurd hj (by omega)⟩
theorem toDrive_ev (a0 : List (S163)) (a1 : Int) (ha0 : a0.length ≤ 1048576) : Ev (fun k => laws_toDrive.f k a0 a1) ((a0.map toStored), a1) := by
  unfold laws_toDrive.f
  refine Ev.bind (toStoredS_ev a0 ha0) ?_
  exact Ev.now _
theorem eqStored_refl (a0 : ByteArray) (a1 : ByteArray) (a2 : Int) : laws_eqStored.f a0 a1 a2 a0 a1 a2 = some true := by
  unfold laws_eqStored.f
  rw [if_pos rfl]
  rw [if_pos rfl]
  rw [if_pos rfl]
theorem eqStoredS_refl (l : List (S127)) (hl : l.length ≤ 9223372036854775807) : Ev (fun k => laws_eqStoredS.f k l l) true := by
  unfold laws_eqStoredS.f
  refine ev_if_pos rfl ?_
  exact loop_ev (fun k (s : Unit) i => laws_eqStoredS.l0 k l l i) l.length hl 0 (fun _ _ => True) true
    (fun k i s hi _ hK hw => Or.inl ⟨(), trivial, by
      simp only [laws_eqStoredS.l0, eqStored_refl, Option.bind_some]
      rw [if_pos (by omega), if_pos (by omega), if_pos (by omega), if_pos trivial, hw]⟩)
    (fun k s _ => by simp only [laws_eqStoredS.l0]; rw [if_neg (by omega)]) () trivial
theorem eqDrive_refl (a0 : List (S127)) (a1 : Int) (ha0 : a0.length ≤ 9223372036854775807) : Ev (fun k => laws_eqDrive.f k a0 a1 a0 a1) true := by
  unfold laws_eqDrive.f
  refine Ev.bind (eqStoredS_refl a0 ha0) (ev_if_pos rfl ?_)
  refine ev_if_pos rfl ?_
  exact Ev.now _
/-- a loop whose rounds each go on or end. -/
theorem loop_evx {σ ρ : Type} (F : Nat → σ → Int → Option ρ) (n : Nat) (inv : Nat → σ → Prop) (Q : ρ → Prop)
    (hstep : ∀ (i : Nat) (s : σ), i < n → inv i s → (∃ s', inv (i + 1) s' ∧ ∀ v, Ev (fun k => F k s' ((i + 1 : Nat) : Int)) v → Ev (fun k => F k s (i : Int)) v) ∨ Evs (fun k => F k s (i : Int)) Q)
    (hend : ∀ (s : σ), inv n s → Evs (fun k => F k s (n : Int)) Q) : ∀ (s : σ), inv 0 s → Evs (fun k => F k s 0) Q := by
  have main : ∀ (d i : Nat) (s : σ), i + d = n → inv i s → Evs (fun k => F k s (i : Int)) Q := by
    intro d
    induction d with
    | zero =>
      intro i s hi hv
      obtain rfl : i = n := by omega
      exact hend s hv
    | succ d ih =>
      intro i s hi hv
      rcases hstep i s (by omega) hv with ⟨s', hs', hv'⟩ | h
      · obtain ⟨v, h1, h2⟩ := ih (i + 1) s' (by omega) hs'
        exact ⟨v, hv' v h1, h2⟩
      · exact h
  intro s hs
  exact main n 0 s (by omega) hs
theorem wnat' (i n : Nat) (hi : i < n) (hn : n ≤ 9223372036854775807) : wrap64 ((i : Int) + 1) = ((i + 1 : Nat) : Int) := by rw [w64 (by omega) (by omega)]; omega
abbrev LD := S61
abbrev ID := S68
abbrev zD := z68
theorem rdLD_nat (l : List LD) (i : Nat) (h : i < l.length) : rd_T61 l (i : Int) = l[i] := by
  unfold rd_T61
  rw [Int.toNat_natCast, List.getD_eq_getElem?_getD, List.getElem?_eq_getElem h]
  rfl
theorem szDriveS_evs (l : List LD) (left : Int) (h0 : 0 ≤ left) (h1 : left ≤ 1048576) (hl : l.length ≤ 9223372036854775807) (hok : ∀ x ∈ l, ok61 x) : Evs (fun k => laws_szDriveS.f k l left) (fun r => 0 ≤ r → r + (l.length : Int) ≤ left ∧ ∀ x ∈ l, wDrive x ≤ left) := by
  unfold laws_szDriveS.f
  rw [sz_wrap h0 h1 (by omega) (by omega)]
  refine Evs.ite (fun _ => Evs.now _ (by omega)) (fun hneg => ?_)
  refine loop_evx (fun k (s : Int) i => laws_szDriveS.l0 k l s i) l.length (fun i s => 0 ≤ s ∧ s ≤ left - l.length ∧ ∀ j (h : j < l.length), j < i → wDrive l[j] ≤ left) _ (fun i s hi hs => ?_) (fun s hs => ?_) _ ⟨by omega, by omega, fun j _ h => absurd h (by omega)⟩
  · obtain ⟨hs0, hs1, hs2⟩ := hs
    obtain ⟨r0, hr0, hq0⟩ := szDrive_ev l[i] s hs0 (by omega) (hok l[i] (List.getElem_mem hi))
    have hw := wDrive_pos l[i]
    have hst : ∀ k, laws_szDriveS.l0 (k + 1) l s (i : Int) = (laws_szDrive.f k l[i].f0 l[i].f1 s).bind fun t => (if t < 0 then (some (-1)) else (laws_szDriveS.l0 k l t ((i + 1 : Nat) : Int))) := by
      intro k
      simp only [laws_szDriveS.l0, rdLD_nat l i hi, wnat' i _ hi hl]
      rw [if_pos (by omega), if_pos (by omega)]
    by_cases hr : r0 < 0
    · exact .inr ⟨-1, Ev.step hst (Ev.bind hr0 (ev_if_pos hr (Ev.now _))), by omega⟩
    · have hq := hq0 (by omega)
      refine .inl ⟨r0, ⟨by omega, by omega, fun j h hj => ?_⟩, fun v hv => Ev.step hst (Ev.bind hr0 (ev_if_neg hr hv))⟩
      by_cases e : j = i
      · subst e
        omega
      · exact hs2 j h (by omega)
  · obtain ⟨hs0, hs1, hs2⟩ := hs
    refine ⟨s, Ev.step (f := fun _ => some s) (fun k => ?_) (Ev.now _), fun _ => ⟨by omega, fun x hx => ?_⟩⟩
    · simp only [laws_szDriveS.l0]
      rw [if_neg (by omega)]
    · obtain ⟨j, hj, rfl⟩ := List.mem_iff_getElem.1 hx
      exact hs2 j hj hj
def toD (x : LD) : ID := ⟨x.f0.map toStored, x.f1⟩
theorem toDriveS_ev (l : List LD) (hl : l.length ≤ 1048576) (hk : ∀ x ∈ l, x.f0.length ≤ 1048576) : Ev (fun k => laws_toDriveS.f k l) (l.map toD) := by
  have hn : ((l.length : Int)).toNat = l.length := Int.toNat_natCast _
  refine Ev.congr (f := fun k => laws_toDriveS.l0 k l (List.replicate l.length zD) 0) (fun k => ?_) ?_
  · unfold laws_toDriveS.f
    rw [if_pos (by omega), if_pos (by omega), hn]
  · refine Evs.ev (loop_evx (fun k (s : List ID) i => laws_toDriveS.l0 k l s i) l.length (fun i s => s.length = l.length ∧ ∀ j, j < i → s[j]? = (l.map toD)[j]?) _ (fun i s hi hv => ?_) (fun s hv => ?_) _ ⟨by simp, fun j hj => absurd hj (by omega)⟩)
    · have hlen := hv.1
      refine .inl ⟨s.set i (toD l[i]), fill_step toD l s i hi hv.1 hv.2 _ rfl, fun v h => ?_⟩
      have ht := toDrive_ev l[i].f0 l[i].f1 (hk _ (List.getElem_mem hi))
      refine Ev.step (f := fun k => (laws_toDrive.f k l[i].f0 l[i].f1).bind fun t => laws_toDriveS.l0 k l (s.set i (⟨t.1, t.2⟩ : ID)) ((i + 1 : Nat) : Int)) (fun k => ?_) (Ev.bind ht h)
      simp only [laws_toDriveS.l0, rdLD_nat l i hi, wnat' i _ hi (by omega)]
      rw [if_pos (by omega), if_pos (by omega)]
      cases laws_toDrive.f k l[i].f0 l[i].f1 with
      | none => rfl
      | some t =>
        simp only [Option.bind_some, Int.toNat_natCast]
        rw [if_pos (by omega)]
    · refine ⟨_, Ev.step (f := fun _ => some s) (fun k => ?_) (Ev.now _), fill_done toD l s hv.1 hv.2⟩
      simp only [laws_toDriveS.l0]
      rw [if_neg (by omega)]
theorem rdD_nat (l : List ID) (i : Nat) : rd_T68 l (i : Int) = l.getD i zD := by
  unfold rd_T68
  rw [Int.toNat_natCast]
theorem memD (l : List ID) (i : Nat) (h : i < l.length) : l.getD i zD ∈ l := by
  rw [List.getD_eq_getElem?_getD, List.getElem?_eq_getElem h]
  exact List.getElem_mem h
theorem eqDriveS_refl (l : List ID) (hl : l.length ≤ 9223372036854775807) (hk : ∀ x ∈ l, x.f0.length ≤ 9223372036854775807) : Ev (fun k => laws_eqDriveS.f k l l) true := by
  unfold laws_eqDriveS.f
  refine ev_if_pos rfl (Evs.ev (loop_evx (fun k (_ : Unit) i => laws_eqDriveS.l0 k l l i) l.length (fun _ _ => True) _ (fun i s hi _ => ?_) (fun s _ => ?_) () trivial))
  · refine .inl ⟨(), trivial, fun v h => ?_⟩
    have ht := eqDrive_refl (l.getD i zD).f0 (l.getD i zD).f1 (hk _ (memD l i hi))
    refine Ev.step (f := fun k => (laws_eqDrive.f k (l.getD i zD).f0 (l.getD i zD).f1 (l.getD i zD).f0 (l.getD i zD).f1).bind fun t => if t = true then laws_eqDriveS.l0 k l l ((i + 1 : Nat) : Int) else some false) (fun k => ?_) (Ev.bind ht (ev_if_pos rfl h))
    simp only [laws_eqDriveS.l0, rdD_nat, wnat' i _ hi hl]
    rw [if_pos (by omega), if_pos (by omega), if_pos (by omega)]
  · refine ⟨_, Ev.step (f := fun _ => some true) (fun k => ?_) (Ev.now _), rfl⟩
    simp only [laws_eqDriveS.l0]
    rw [if_neg (by omega)]
def codeRight (k m : Int) : Bool := (decide (1 ≤ k) && decide (k ≤ 8)) && (decide (0 ≤ m) && decide (m ≤ 6))
theorem codeRight_i (k m : Int) : impl_CodeRight.f k m = some (codeRight k m) := by
  unfold impl_CodeRight.f codeRight
  simp only [within_eq, Option.bind_some]
  cases (decide (1 ≤ k) && decide (k ≤ 8)) <;> simp
theorem codeRight_s (k m : Int) : spec_CodeRight.f k m = some (codeRight k m) := by
  unfold spec_CodeRight.f codeRight
  by_cases h1 : k ≥ 1 <;> by_cases h2 : k ≤ 8 <;> by_cases h3 : m ≥ 0 <;> simp [h1, h2, h3]
def drvOk (x : ID) : Bool := driveRight x.f0 x.f1
def arrayRight (k m : Int) (l : List ID) : Bool := (codeRight k m && decide ((l.length : Int) = wrap64 (k + m))) && (List.range l.length).all (fun i => drvOk (l.getD i zD))
def fits (x : ID) : Prop := (∀ y ∈ x.f0, y.f0.size ≤ 9223372036854775807) ∧ usedOf x.f0 ≤ 9223372036854775807
theorem arrayRight_s (k m : Int) (l : List ID) (hl : l.length ≤ 1048576) (hf : ∀ x ∈ l, fits x) : Ev (fun n => spec_ArrayRight.f n k m l) (arrayRight k m l) := by
  refine ev_bind1 (codeRight_s k m) ?_
  have bad : ∀ v : Bool, v = false → Ev (fun n => spec_ArrayRight.j0 n true k m l) v := fun v hv => Ev.step (f := fun _ => some false) (fun n => by simp only [spec_ArrayRight.j0]; rfl) (hv ▸ Ev.now _)
  unfold arrayRight
  by_cases c : codeRight k m = true
  · refine ev_if_pos c ?_
    by_cases e : (l.length : Int) = wrap64 (k + m)
    · rw [show ((l.length : Int) != wrap64 (k + m)) = false by rw [← e]; simp, c, decide_eq_true e]
      refine Ev.step (f := fun n => spec_ArrayRight.l0 n 0 k m l) (fun n => by simp only [spec_ArrayRight.j0]; rfl) ?_
      obtain ⟨K, hK⟩ := ev_all (fun (x : ID) n => spec_DriveRight.f n x.f0 x.f1) drvOk l (fun x hx => driveRight_s _ _ (hf x hx).1 (hf x hx).2)
      have h := loop_all (fun n i => spec_ArrayRight.l0 n i k m l) l.length (by omega) K (fun i => drvOk (l.getD i zD)) (fun n i hi hk hw => by
        have hr := hK _ (memD l i hi) n (by omega)
        simp only [spec_ArrayRight.l0, rdD_nat, hr, hw, Option.bind_some]
        rw [if_pos (by omega), if_pos (by omega)]) (fun n => by simp only [spec_ArrayRight.l0]; rw [if_neg (by omega)])
      simpa using h
    · rw [show ((l.length : Int) != wrap64 (k + m)) = true by simpa using e, decide_eq_false e]
      exact bad _ (by simp)
  · refine ev_if_neg c (bad _ ?_)
    rw [Bool.not_eq_true] at c
    rw [c]
    simp
/-- a search that ends at the first that is not right. -/
theorem keys_i (l : List ID) (hl : l.length ≤ 1048576) (hf : ∀ x ∈ l, fits x) : Ev (fun n => impl_ArrayRight.keys n l) (!(List.range l.length).all (fun i => drvOk (l.getD i zD))) := by
  have main : ∀ (d i : Nat), i + d = l.length → (∀ j, j < i → drvOk (l.getD j zD) = true) → Evs (fun n => impl_ArrayRight.k0 n l (i : Int)) (fun r => decide (0 ≤ r) = !(List.range l.length).all (fun i => drvOk (l.getD i zD))) := by
    intro d
    induction d with
    | zero =>
      intro i hi hj
      refine ⟨-1, Ev.step (f := fun _ => some (-1)) (fun n => by simp only [impl_ArrayRight.k0]; rw [if_neg (by omega)]) (Ev.now _), ?_⟩
      rw [List.all_eq_true.2 (fun j hjm => hj j (by have := List.mem_range.1 hjm; omega))]
      rfl
    | succ d ih =>
      intro i hi hj
      have hm := memD l i (by omega)
      have hr := driveRight_i _ (l.getD i zD).f1 (hf _ hm).1 (hf _ hm).2
      have hst : ∀ n, impl_ArrayRight.k0 (n + 1) l (i : Int) = (impl_DriveRight.f n (l.getD i zD).f0 (l.getD i zD).f1).bind fun b => (if b = true then (impl_ArrayRight.k0 n l ((i + 1 : Nat) : Int)) else (some (i : Int))) := by
        intro n
        simp only [impl_ArrayRight.k0, rdD_nat, wnat' i l.length (by omega) (by omega)]
        rw [if_pos (by omega), if_pos (by omega)]
      by_cases c : drvOk (l.getD i zD) = true
      · obtain ⟨r, hr2, hp⟩ := ih (i + 1) (by omega) (fun j hji => by
          by_cases e : j = i
          · subst e; exact c
          · exact hj j (by omega))
        exact ⟨r, Ev.step hst (Ev.bind hr (ev_if_pos c hr2)), hp⟩
      · refine ⟨(i : Int), Ev.step hst (Ev.bind hr (ev_if_neg c (Ev.now _))), ?_⟩
        have hall : (List.range l.length).all (fun i => drvOk (l.getD i zD)) = false := by
          rw [Bool.eq_false_iff]
          intro q
          exact c (List.all_eq_true.1 q i (List.mem_range.2 (by omega)))
        rw [hall]
        show decide (0 ≤ (i : Int)) = !false
        rw [decide_eq_true (by omega)]
        rfl
  obtain ⟨r, hr, hp⟩ := main l.length 0 (by omega) (fun j hj => absurd hj (by omega))
  exact Ev.bind hr (ev_eq hp)
theorem arrayRight_i (k m : Int) (l : List ID) (hl : l.length ≤ 1048576) (hf : ∀ x ∈ l, fits x) : Ev (fun n => impl_ArrayRight.f n k m l) (arrayRight k m l) := by
  refine ev_bind1 (codeRight_i k m) (Ev.bind (keys_i l hl hf) (ev_eq ?_))
  unfold arrayRight
  rw [Bool.not_not]
theorem FnExactArrayRight : FnExactArrayRight_Pure := by
  intro k m l hk hm hl hok
  refine Ev.rounds (g := fun n => laws_FnExactArrayRight.f n k m l) (Evs.ev ?_)
  unfold laws_FnExactArrayRight.f
  have hsz : Evs (fun n => laws_szArray.f n k m l 1048576) (fun r => 0 ≤ r → (l.length : Int) ≤ 1048576 ∧ ∀ x ∈ l, wDrive x ≤ 1048576) := by
    unfold laws_szArray.f
    refine Evs.bind (szDriveS_evs l 1048576 (by omega) (by omega) hl hok) (fun r hr => Evs.ite (fun _ => Evs.now _ (by omega)) (fun hn => Evs.now _ (fun h0 => ?_)))
    have := hr h0
    exact ⟨by omega, this.2⟩
  refine Evs.bind hsz (fun r hr => Evs.ite (fun _ => Evs.now _ rfl) (fun hn => ?_))
  obtain ⟨hl2, hw⟩ := hr (by omega)
  have hu : ∀ q : List S163, usedOf (q.map toStored) ≤ (q.map (fun x => wStored x)).sum := by
    intro q
    induction q with
    | nil => exact Int.le_refl _
    | cons a q ih =>
      have e : usedOf ((a :: q).map toStored) = (a.f1.size : Int) + usedOf (q.map toStored) := rfl
      have e2 : ((a :: q).map (fun x => wStored x)).sum = ((a.f0.size : Int) + (a.f1.size : Int)) + (q.map (fun x => wStored x)).sum := rfl
      rw [e, e2]
      omega
  have hW : ∀ x ∈ l, (x.f0.length : Int) + (x.f0.map (fun y => wStored y)).sum ≤ 1048576 := fun x hx => hw x hx
  have hpos : ∀ x : LD, 0 ≤ (x.f0.map (fun y => wStored y)).sum := fun x => sum_pos (fun y => wStored y) x.f0 (fun y => wStored_pos y)
  have hlen : ∀ x ∈ l, x.f0.length ≤ 1048576 := fun x hx => by
    have := hW x hx
    have := hpos x
    omega
  have hf : ∀ y ∈ l.map toD, fits y := by
    intro y hy
    obtain ⟨x, hx, rfl⟩ := List.mem_map.1 hy
    refine ⟨fun z hz => ?_, ?_⟩
    · obtain ⟨s, hs, rfl⟩ := List.mem_map.1 hz
      exact ((hok x hx).1.2 s hs).1
    · have h1 := hu x.f0
      have h2 := hW x hx
      show usedOf (x.f0.map toStored) ≤ 9223372036854775807
      omega
  have hto : Ev (fun n => laws_toArray.f n k m l) (k, m, l.map toD) := Ev.bind (toDriveS_ev l (by omega) hlen) (Ev.now _)
  have hlm : (l.map toD).length ≤ 1048576 := by rw [List.length_map]; omega
  have heq : Ev (fun n => laws_eqArray.f n k m (l.map toD) k m (l.map toD)) true := by
    refine ev_if_pos rfl (ev_if_pos rfl (Ev.bind (eqDriveS_refl _ (by omega) (fun y hy => ?_)) (ev_if_pos rfl (Ev.now _))))
    obtain ⟨x, hx, rfl⟩ := List.mem_map.1 hy
    have := hlen x hx
    show (x.f0.map toStored).length ≤ _
    rw [List.length_map]
    omega
  refine ⟨_, Ev.bind hto (Ev.bind (arrayRight_s k m _ hlm hf) (Ev.bind hto (Ev.bind (arrayRight_i k m _ hlm hf) (ev_if_neg (by simp) (Ev.bind hto (Ev.bind heq (ev_if_pos rfl (Ev.now _)))))))), rfl⟩
end Go.Proofs.Yteljfdhjbnlgoaa.Pure
