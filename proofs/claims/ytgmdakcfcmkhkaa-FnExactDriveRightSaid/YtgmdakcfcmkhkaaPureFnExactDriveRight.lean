/- The plain law of FnExactDriveRight: at every drive DriveRight answers as the reference. -/
import Derived.Test.YtgmdakcfcmkhkaaOkFnExactDriveRight
import Derived.Test.YtgmdakcfcmkhkaaLib
namespace Go.Proofs.Ytgmdakcfcmkhkaa.Pure
open Go.RowKit Go.Proofs.Ytgmdakcfcmkhkaa.PFnExactDriveRight Go.Proofs.Ytgmdakcfcmkhkaa.Lib Go.Proofs.YtgmdakcfcmkhkaaW.PrintWords Go.Proofs.YtgmdakcfcmkhkaaW.PrintLast
set_option linter.unusedVariables false
set_option linter.unusedSimpArgs false
theorem nameRight_l0 (s : ByteArray) (hs : s.size ≤ 9223372036854775807) (d : Nat) : ∀ (i k : Nat), i + d = s.size → d < k → spec_NameRight.l0 k s (i : Int) = some (nameOk s d i) := by
  induction d with
  | zero =>
    intro i k hi hk
    obtain ⟨k, rfl⟩ : ∃ m, k = m + 1 := ⟨k - 1, by omega⟩
    simp only [spec_NameRight.l0]
    rw [if_neg (by omega)]
    rfl
  | succ d ih =>
    intro i k hi hk
    obtain ⟨k, rfl⟩ : ∃ m, k = m + 1 := ⟨k - 1, by omega⟩
    have e : wrap64 ((i : Int) + 1) = ((i + 1 : Nat) : Int) := by rw [w64 (by omega) (by omega)]; omega
    have h := ih (i + 1) k (by omega) (by omega)
    simp only [spec_NameRight.l0, e, h]
    rw [if_pos (by omega), if_pos (by omega)]
    exact nameStep _ _ _
theorem nameRight_ev (s : ByteArray) (hs : s.size ≤ 9223372036854775807) : Ev (fun k => spec_NameRight.f k s) (isName s 80) := by
  refine ev_from (s.size + 3) fun k hk => ?_
  obtain ⟨k, rfl⟩ : ∃ m, k = m + 1 := ⟨k - 1, by omega⟩
  have h := nameRight_l0 s hs s.size 0 k (by omega) (by omega)
  simp only [spec_NameRight.f, spec_NameRight.j0]
  have h' : spec_NameRight.l0 k s 0 = some (nameOk s s.size 0) := h
  rw [h']
  unfold isName
  generalize nameOk s s.size 0 = X
  grind
theorem isName_l0 (s : ByteArray) (most : Int) (hs : s.size ≤ 9223372036854775807) (d : Nat) : ∀ (i k : Nat), i + d = s.size → d < k → impl_isName.l0 k s most s.size (i : Int) = some (nameOk s d i && (decide ((s.size : Int) ≥ 1) && decide ((s.size : Int) ≤ most))) := by
  induction d with
  | zero =>
    intro i k hi hk
    obtain ⟨k, rfl⟩ : ∃ m, k = m + 1 := ⟨k - 1, by omega⟩
    simp only [impl_isName.l0, impl_long.f, impl_within.f, Option.bind_some, nameOk]
    rw [if_neg (by omega)]
    grind
  | succ d ih =>
    intro i k hi hk
    obtain ⟨k, rfl⟩ : ∃ m, k = m + 1 := ⟨k - 1, by omega⟩
    have e : wrap64 ((i : Int) + 1) = ((i + 1 : Nat) : Int) := by rw [w64 (by omega) (by omega)]; omega
    have h := ih (i + 1) k (by omega) (by omega)
    simp only [impl_isName.l0, e, h]
    rw [if_pos (by omega), if_pos (by omega), if_pos (by omega)]
    refine (nameStep _ _ _).trans ?_
    simp [nameOk, Bool.and_assoc]
theorem isName_ev (s : ByteArray) (most : Int) (hs : s.size ≤ 9223372036854775807) : Ev (fun k => impl_isName.f k s most) (isName s most) := by
  refine ev_from (s.size + 3) fun k hk => ?_
  have h := isName_l0 s most hs s.size 0 k (by omega) (by omega)
  simp only [impl_isName.f]
  exact h
theorem within_eq (a b c : Int) : impl_within.f a b c = some (decide (b ≤ a) && decide (a ≤ c)) := by
  unfold impl_within.f
  by_cases h : a ≥ b <;> simp [h]
abbrev IF := S96
abbrev zF := z96
def fileOk (x : IF) : Bool := isName x.f0 80 && (decide ((x.f1.size : Int) ≤ 20000) && (decide (0 ≤ x.f2) && decide (x.f2 ≤ (x.f1.size : Int))))
def fileAt (l : List IF) (i : Nat) : Bool := isName (l.getD i zF).f0 80 && ((i == 0 || Op.bytesLess (l.getD (i - 1) zF).f0.toList (l.getD i zF).f0.toList) && (decide (((l.getD i zF).f1.size : Int) ≤ 20000) && (decide (0 ≤ (l.getD i zF).f2) && decide ((l.getD i zF).f2 ≤ ((l.getD i zF).f1.size : Int)))))
def usedOf (l : List IF) : Int := (l.map (fun x => (x.f1.size : Int))).sum
def driveRight (l : List IF) (room : Int) : Bool := (decide (l.length ≤ 60) && (decide (0 ≤ room) && decide (room ≤ 100000))) && ((List.range l.length).all (fileAt l) && decide (usedOf l ≤ room))
theorem rdF (l : List IF) (i : Nat) : rd_T96 l (i : Int) = l.getD i zF := by
  unfold rd_T96
  rw [Int.toNat_natCast]
theorem memF (l : List IF) (i : Nat) (h : i < l.length) : l.getD i zF ∈ l := by
  rw [List.getD_eq_getElem?_getD, List.getElem?_eq_getElem h]
  exact List.getElem_mem h
theorem getF (l : List IF) (i : Nat) (h : i < l.length) : l.getD i zF = l[i] := by
  rw [List.getD_eq_getElem?_getD, List.getElem?_eq_getElem h]
  rfl
theorem usedOf_pos (l : List IF) : 0 ≤ usedOf l := sum_pos _ l (fun x => by omega)
/-- what a drive's files hold, as far as numbers go. -/
theorem used_s (l : List IF) (room : Int) (hl : l.length ≤ 60) (hu : usedOf l ≤ 9223372036854775807) : Ev (fun k => spec_l08Bytes.f k l room) (usedOf l) := by
  unfold spec_l08Bytes.f
  refine loop_ev (fun k (s : Int) i => spec_l08Bytes.l0 k s i l room) l.length (by omega) 0 (fun i s => s = usedOf (l.take i)) _ (fun k i s hi hs hK hw => ?_) (fun k s hs => ?_) 0 rfl
  · subst hs
    have ht := sum_take_succ (fun x : IF => (x.f1.size : Int)) l i hi
    have hp := usedOf_pos (l.take i)
    have hle : usedOf (l.take (i + 1)) ≤ usedOf l := by
      unfold usedOf
      have h1 := sum_pos (fun x : IF => (x.f1.size : Int)) (l.drop (i + 1)) (fun x => by omega)
      have h2 : (l.map (fun x : IF => (x.f1.size : Int))).sum = ((l.take (i + 1)).map (fun x : IF => (x.f1.size : Int))).sum + ((l.drop (i + 1)).map (fun x : IF => (x.f1.size : Int))).sum := by
        rw [← List.sum_append, ← List.map_append, List.take_append_drop]
      omega
    have e : usedOf (l.take (i + 1)) = usedOf (l.take i) + (l[i].f1.size : Int) := ht
    refine Or.inl ⟨usedOf (l.take (i + 1)), rfl, ?_⟩
    simp only [spec_l08Bytes.l0, rdF, hw]
    rw [if_pos (by omega), if_pos (by omega), getF l i hi, w64 (by omega) (by omega), e]
  · subst hs
    simp only [spec_l08Bytes.l0]
    rw [if_neg (by omega), List.take_of_length_le (Nat.le_refl _)]
theorem used_i (l : List IF) (room : Int) (hl : l.length ≤ 60) (hu : usedOf l ≤ 9223372036854775807) : Ev (fun k => impl_Drive_used.f k l room) (usedOf l) := by
  unfold impl_Drive_used.f
  refine loop_ev (fun k (s : Int) i => impl_Drive_used.l0 k s l (l.length : Int) i) l.length (by omega) 0 (fun i s => s = usedOf (l.take i)) _ (fun k i s hi hs hK hw => ?_) (fun k s hs => ?_) 0 rfl
  · subst hs
    have ht := sum_take_succ (fun x : IF => (x.f1.size : Int)) l i hi
    have hp := usedOf_pos (l.take i)
    have hle : usedOf (l.take (i + 1)) ≤ usedOf l := by
      unfold usedOf
      have h1 := sum_pos (fun x : IF => (x.f1.size : Int)) (l.drop (i + 1)) (fun x => by omega)
      have h2 : (l.map (fun x : IF => (x.f1.size : Int))).sum = ((l.take (i + 1)).map (fun x : IF => (x.f1.size : Int))).sum + ((l.drop (i + 1)).map (fun x : IF => (x.f1.size : Int))).sum := by
        rw [← List.sum_append, ← List.map_append, List.take_append_drop]
      omega
    have e : usedOf (l.take (i + 1)) = usedOf (l.take i) + (l[i].f1.size : Int) := ht
    refine Or.inl ⟨usedOf (l.take (i + 1)), rfl, ?_⟩
    simp only [impl_Drive_used.l0, rdF, hw, impl_long.f, Option.bind_some]
    rw [if_pos (by omega), if_pos (by omega), if_pos (by omega), getF l i hi, w64 (by omega) (by omega), e]
  · subst hs
    simp only [impl_Drive_used.l0]
    rw [if_neg (by omega), List.take_of_length_le (Nat.le_refl _)]
theorem prevF (l : List IF) (i : Nat) (h0 : 0 < i) (h : i < l.length) (hl : l.length ≤ 60) : rd_T96 l (wrap64 ((i : Int) - 1)) = l.getD (i - 1) zF ∧ 0 ≤ wrap64 ((i : Int) - 1) ∧ wrap64 ((i : Int) - 1) < (l.length : Int) := getD_prev l i _ h0 h (by omega)
theorem fileAt_head (l : List IF) (i : Nat) (h : ¬ isName (l.getD i zF).f0 80 = true) : fileAt l i = false := by
  rw [Bool.not_eq_true] at h
  unfold fileAt
  rw [h]
  rfl
theorem driveRight_s (l : List IF) (room : Int) (hs : ∀ x ∈ l, x.f0.size ≤ 9223372036854775807) (hu : usedOf l ≤ 9223372036854775807) : Ev (fun k => spec_DriveRight.f k l room) (driveRight l room) := by
  unfold spec_DriveRight.f
  have bad : ∀ v : Bool, v = false → Ev (fun k => spec_DriveRight.j0 k true l room) v := fun v hv => Ev.step (f := fun _ => some false) (fun k => by simp only [spec_DriveRight.j0]; rfl) (hv ▸ Ev.now _)
  by_cases h1 : (l.length : Int) > 60
  · exact ev_if_pos h1 (bad _ (by unfold driveRight; rw [decide_eq_false (by omega)]; rfl))
  refine ev_if_neg h1 ?_
  by_cases h2 : room < 0
  · exact ev_if_pos h2 (bad _ (by unfold driveRight; rw [decide_eq_false (show ¬ 0 ≤ room by omega)]; simp))
  refine ev_if_neg h2 ?_
  by_cases h3 : room > 100000
  · rw [decide_eq_true h3]
    exact bad _ (by unfold driveRight; rw [decide_eq_false (show ¬ room ≤ 100000 by omega)]; simp)
  rw [decide_eq_false h3]
  refine Ev.step (f := fun k => spec_DriveRight.l0 k 0 l room) (fun k => by simp only [spec_DriveRight.j0]; rfl) ?_
  unfold driveRight
  rw [decide_eq_true (show l.length ≤ 60 by omega), decide_eq_true (show 0 ≤ room by omega), decide_eq_true (show room ≤ 100000 by omega)]
  simp only [Bool.true_and]
  obtain ⟨K, hK⟩ := ev_all (fun (x : IF) k => spec_NameRight.f k x.f0) (fun x => isName x.f0 80) l (fun x hx => nameRight_ev _ (hs x hx))
  obtain ⟨K2, hK2⟩ := used_s l room (by omega) hu
  refine loop_allK (fun k i => spec_DriveRight.l0 k i l room) l.length (by omega) (K + K2) (fileAt l) (decide (usedOf l ≤ room)) (fun k i hi hk hw => ?_) (fun k hk => by simp only [spec_DriveRight.l0]; rw [if_neg (by omega), show spec_l08Bytes.f k l room = some (usedOf l) from hK2 k (by omega)]; rfl)
  have hr := hK _ (memF l i hi) k (by omega)
  simp only [spec_DriveRight.l0, rdF, hr, hw, Option.bind_some]
  rw [if_pos (by omega), if_pos (by omega)]
  by_cases hx : isName (l.getD i zF).f0 80 = true
  · rw [if_pos hx]
    have tail : ∀ A : Option Bool, (if (((l.getD i zF).f1).size : Int) > 20000 then (some false) else (if ((l.getD i zF).f2) < 0 then (some false) else (if ((l.getD i zF).f2) > (((l.getD i zF).f1).size : Int) then (some false) else A))) = if (decide (((l.getD i zF).f1.size : Int) ≤ 20000) && (decide (0 ≤ (l.getD i zF).f2) && decide ((l.getD i zF).f2 ≤ ((l.getD i zF).f1.size : Int)))) = true then A else some false := by
      intro A
      by_cases c1 : (((l.getD i zF).f1).size : Int) > 20000
      · rw [if_pos c1, decide_eq_false (by omega)]; rfl
      rw [if_neg c1, decide_eq_true (show (((l.getD i zF).f1).size : Int) ≤ 20000 by omega)]
      by_cases c2 : ((l.getD i zF).f2) < 0
      · rw [if_pos c2, decide_eq_false (show ¬ 0 ≤ ((l.getD i zF).f2) by omega)]; rfl
      rw [if_neg c2, decide_eq_true (show 0 ≤ ((l.getD i zF).f2) by omega)]
      by_cases c3 : ((l.getD i zF).f2) > (((l.getD i zF).f1).size : Int)
      · rw [if_pos c3, decide_eq_false (show ¬ ((l.getD i zF).f2) ≤ (((l.getD i zF).f1).size : Int) by omega)]; rfl
      · rw [if_neg c3, decide_eq_true (show ((l.getD i zF).f2) ≤ (((l.getD i zF).f1).size : Int) by omega)]; rfl
    by_cases h0 : 0 < i
    · obtain ⟨q1, q2, q3⟩ := prevF l i h0 hi (by omega)
      rw [if_pos (by omega), if_pos q2, if_pos q3, q1]
      have hi0 : (i == 0) = false := beq_eq_false_iff_ne.2 (by omega)
      unfold fileAt
      by_cases hl : Op.bytesLess (l.getD (i - 1) zF).f0.toList (l.getD i zF).f0.toList = true
      · rw [if_pos hl, tail, hx, hi0, hl]; rfl
      · rw [if_neg hl]
        rw [Bool.not_eq_true] at hl
        rw [hx, hi0, hl]; rfl
    · obtain rfl : i = 0 := by omega
      rw [if_neg (by omega), tail]
      unfold fileAt
      rw [hx]; rfl
  · rw [if_neg hx, fileAt_head l i hx]; rfl
theorem driveRight_i (l : List IF) (room : Int) (hs : ∀ x ∈ l, x.f0.size ≤ 9223372036854775807) (hu : usedOf l ≤ 9223372036854775807) : Ev (fun k => impl_DriveRight.f k l room) (driveRight l room) := by
  unfold impl_DriveRight.f
  have bad : ∀ v : Bool, v = false → Ev (fun k => impl_DriveRight.j0 k true l room) v := fun v hv => Ev.step (f := fun _ => some false) (fun k => by simp only [impl_DriveRight.j0]; rfl) (hv ▸ Ev.now _)
  by_cases h1 : (l.length : Int) > 60
  · exact ev_if_pos h1 (bad _ (by unfold driveRight; rw [decide_eq_false (by omega)]; rfl))
  refine ev_if_neg h1 (ev_bind1 (within_eq _ _ _) ?_)
  by_cases h2 : ¬ (decide (0 ≤ room) && decide (room ≤ 100000)) = true
  · rw [Bool.not_eq_true] at h2
    rw [h2]
    exact bad _ (by unfold driveRight; rw [h2]; simp)
  rw [Decidable.not_not] at h2
  rw [h2]
  refine Ev.step (f := fun k => impl_DriveRight.l0 k l (l.length : Int) 0 l room) (fun k => by simp only [impl_DriveRight.j0]; rfl) ?_
  unfold driveRight
  rw [decide_eq_true (show l.length ≤ 60 by omega), h2]
  simp only [Bool.true_and]
  obtain ⟨K, hK⟩ := ev_all (fun (x : IF) k => impl_NameRight.f k x.f0) (fun x => isName x.f0 80) l (fun x hx => Ev.bind (isName_ev _ 80 (hs x hx)) (Ev.now _))
  obtain ⟨K2, hK2⟩ := used_i l room (by omega) hu
  refine loop_allK (fun k i => impl_DriveRight.l0 k l (l.length : Int) i l room) l.length (by omega) (K + K2) (fileAt l) (decide (usedOf l ≤ room)) (fun k i hi hk hw => ?_) (fun k hk => by simp only [impl_DriveRight.l0]; rw [if_neg (by omega), show impl_Drive_used.f k l room = some (usedOf l) from hK2 k (by omega)]; rfl)
  have hr := hK _ (memF l i hi) k (by omega)
  simp only [impl_DriveRight.l0, rdF, hr, hw, Option.bind_some, impl_isLong.f, impl_long.f, within_eq]
  rw [if_pos (by omega), if_pos (by omega), if_pos (by omega)]
  by_cases hx : isName (l.getD i zF).f0 80 = true
  · rw [if_pos hx]
    have tail : ∀ A : Option Bool, (if decide ((((l.getD i zF).f1).size : Int) > 20000) = true then (some false) else (if (decide (0 ≤ (l.getD i zF).f2) && decide ((l.getD i zF).f2 ≤ ((l.getD i zF).f1.size : Int))) = true then A else some false)) = if (decide (((l.getD i zF).f1.size : Int) ≤ 20000) && (decide (0 ≤ (l.getD i zF).f2) && decide ((l.getD i zF).f2 ≤ ((l.getD i zF).f1.size : Int)))) = true then A else some false := by
      intro A
      by_cases c1 : (((l.getD i zF).f1).size : Int) > 20000
      · rw [decide_eq_true c1, decide_eq_false (show ¬ (((l.getD i zF).f1).size : Int) ≤ 20000 by omega)]; rfl
      · rw [decide_eq_false c1, decide_eq_true (show (((l.getD i zF).f1).size : Int) ≤ 20000 by omega)]; rfl
    by_cases h0 : 0 < i
    · obtain ⟨q1, q2, q3⟩ := prevF l i h0 hi (by omega)
      rw [if_pos (by omega), if_pos q2, if_pos q3, q1]
      have hi0 : (i == 0) = false := beq_eq_false_iff_ne.2 (by omega)
      unfold fileAt
      by_cases hl : Op.bytesLess (l.getD (i - 1) zF).f0.toList (l.getD i zF).f0.toList = true
      · rw [if_pos hl, tail, hx, hi0, hl]; rfl
      · rw [if_neg hl]
        rw [Bool.not_eq_true] at hl
        rw [hx, hi0, hl]; rfl
    · obtain rfl : i = 0 := by omega
      rw [if_neg (by omega), tail]
      unfold fileAt
      rw [hx]; rfl
  · rw [if_neg hx, fileAt_head l i hx]; rfl
def wStored (x : S121) : Int := (x.f0.size : Int) + (x.f1.size : Int)
theorem wStored_pos (x : S121) : 0 ≤ wStored x := by
  unfold wStored
  omega
theorem szStored_ev (x : S121) (left : Int) (h0 : 0 ≤ left) (h1 : left ≤ 1048576) (hx : ok121 x) : Evs (fun k => laws_szStored.f x.f0 x.f1 x.f2 left) (fun r => 0 ≤ r → r + wStored x = left) := by
  obtain ⟨hf0, hf1, hf2⟩ := hx
  unfold wStored laws_szStored.f
  rw [sz_wrap (left := left) (s := (x.f0.size : Int)) (by omega) (by omega) (by omega) (by omega)]
  refine Evs.ite (fun _ => Evs.now _ (by omega)) (fun n0 => ?_)
  rw [sz_wrap (left := (left - (x.f0.size : Int))) (s := (x.f1.size : Int)) (by omega) (by omega) (by omega) (by omega)]
  refine Evs.ite (fun _ => Evs.now _ (by omega)) (fun n1 => ?_)
  exact Evs.now _ (by omega)
theorem szStoredS_ev (l : List (S121)) (left : Int) (h0 : 0 ≤ left) (h1 : left ≤ 1048576) (hlo : (l.length ≤ 9223372036854775807 ∧ ∀ x ∈ l, ok121 x)) : Evs (fun k => laws_szStoredS.f k l left) (fun r => 0 ≤ r → r + ((l.length : Int) + (l.map (fun x => wStored x)).sum) = left) := by
  obtain ⟨hl, hok⟩ := hlo
  unfold laws_szStoredS.f
  rw [sz_wrap h0 h1 (by omega) (by omega)]
  refine Evs.ite (fun _ => Evs.now _ (by have := sum_pos (fun x => wStored x) l (fun x => wStored_pos x); omega)) (fun hneg => ?_)
  have hpos : ∀ x : S121, 0 ≤ wStored x := fun x => wStored_pos x
  refine Evs.mon (fun k => (laws_szStoredS.mono_l k) _ _ _) ?_
  obtain ⟨r, h3, h4⟩ := loop_up (fun k (s : Int) i => laws_szStoredS.l0 k l s i) l.length hl 0 (fun i s => 0 ≤ s ∧ s + ((l.take i).map (fun x => wStored x)).sum = left - l.length) (fun r => 0 ≤ r → r + (l.map (fun x => wStored x)).sum = left - l.length)
    (fun k i s hi hs hK hw => by
      obtain ⟨hs0, hs1⟩ := hs
      have hsum := sum_pos (fun x => wStored x) (l.take i) hpos
      have hp := hpos l[i]
      have e : rd_T121 l (i : Int) = l[i] := getD_nat l i _ hi
      have ht := sum_take_succ (fun x => wStored x) l i hi
      obtain ⟨r0, hr0, hq0⟩ := szStored_ev l[i] s hs0 (by omega) (hok l[i] (List.getElem_mem hi))
      obtain ⟨r1, hr1⟩ : ∃ r1, laws_szStored.f l[i].f0 l[i].f1 l[i].f2 s = some r1 := ⟨r0, (hr0.choose_spec _ (Nat.le_refl _))⟩
      obtain rfl : r1 = r0 := Option.some.inj (hr1.symm.trans (hr0.choose_spec _ (Nat.le_refl _)))
      simp only [laws_szStoredS.l0, e]
      rw [if_pos (by omega), if_pos (by omega), hr1, hw]
      simp only [Option.bind_some]
      by_cases hr : r1 < 0
      · exact Or.inr ⟨-1, by rw [if_pos hr], by omega⟩
      · exact Or.inl ⟨r1, ⟨by omega, by rw [ht]; have := hq0 (by omega); omega⟩, by rw [if_neg hr]⟩      )
    (fun k s hs => by
      obtain ⟨hs0, hs1⟩ := hs
      refine ⟨s, by simp only [laws_szStoredS.l0]; rw [if_neg (by omega)], fun _ => ?_⟩
      rw [List.take_of_length_le (Nat.le_refl _)] at hs1
      exact hs1)
    l.length 0 (l.length + 0 + 1) (left - l.length) (by omega) ⟨by omega, by simp⟩ (by omega)
  exact ⟨_, r, h3, fun h => by have := h4 h; omega⟩
structure S60 where
  f0 : List (S121)
  f1 : Int
def ok60 (y : S60) : Prop := (y.f0.length ≤ 9223372036854775807 ∧ ∀ x ∈ y.f0, ok121 x) ∧ (Lit.int .i64 y.f1).wf = true
def wDrive (x : S60) : Int := ((x.f0.length : Int) + (x.f0.map (fun x => wStored x)).sum)
theorem wDrive_pos (x : S60) : 0 ≤ wDrive x := by
  unfold wDrive
  have p0 := sum_pos (fun x => wStored x) x.f0 (fun x => wStored_pos x)
  omega
theorem szDrive_ev (x : S60) (left : Int) (h0 : 0 ≤ left) (h1 : left ≤ 1048576) (hx : ok60 x) : Evs (fun k => laws_szDrive.f k x.f0 x.f1 left) (fun r => 0 ≤ r → r + wDrive x = left) := by
  obtain ⟨hf0, hf1⟩ := hx
  unfold wDrive laws_szDrive.f
  refine Evs.bind (szStoredS_ev x.f0 left (by omega) (by omega) hf0) (fun r0 hr0 => ?_)
  refine Evs.ite (fun _ => Evs.now _ (by omega)) (fun n0 => ?_)
  have e0 := hr0 (by omega)
  have g0 := sum_pos (fun x => wStored x) x.f0 (fun x => wStored_pos x)
  exact Evs.now _ (by omega)
def toStored (x : S121) : S96 := ⟨x.f0, x.f1, x.f2⟩
theorem toStoredS_ev (l : List (S121)) (hl : l.length ≤ 1048576) : Ev (fun k => laws_toStoredS.f k l) (l.map toStored) := by
  have hn : ((l.length : Int)).toNat = l.length := Int.toNat_natCast _
  refine Ev.congr (f := fun k => laws_toStoredS.l0 k l (List.replicate l.length z96) 0) (fun k => ?_) ?_
  · unfold laws_toStoredS.f
    rw [if_pos (by omega), if_pos (by omega), hn]
  · exact loop_ev (fun k (s : List (S96)) i => laws_toStoredS.l0 k l s i) l.length (by omega) 0 (fun i s => s.length = l.length ∧ ∀ j, j < i → s[j]? = (l.map toStored)[j]?) _
      (fun k i s hi hv hK hw => by
      have e : rd_T121 l (i : Int) = l[i] := getD_nat l i _ hi
      have hlen := hv.1
      simp only [laws_toStoredS.l0, e, laws_toStored.f]
      rw [if_pos (by omega), if_pos (by omega), hw]
      simp only [Option.bind_some]
      rw [if_pos (by omega)]
      exact Or.inl ⟨_, fill_step toStored l s i hi hv.1 hv.2 _ rfl, rfl⟩)
      (fun k s hv => by
      simp only [laws_toStoredS.l0]
      rw [if_neg (by omega)]
      exact congrArg some (fill_done toStored l s hv.1 hv.2))
      _ ⟨by simp, fun j hj => absurd hj (by omega)⟩
theorem toDrive_ev (a0 : List (S121)) (a1 : Int) (ha0 : a0.length ≤ 1048576) : Ev (fun k => laws_toDrive.f k a0 a1) ((a0.map toStored), a1) := by
  unfold laws_toDrive.f
  refine Ev.bind (toStoredS_ev a0 ha0) ?_
  exact Ev.now _
theorem eqStored_refl (a0 : ByteArray) (a1 : ByteArray) (a2 : Int) : laws_eqStored.f a0 a1 a2 a0 a1 a2 = some true := by
  unfold laws_eqStored.f
  rw [if_pos rfl]
  rw [if_pos rfl]
  rw [if_pos rfl]
theorem eqStoredS_refl (l : List (S96)) (hl : l.length ≤ 9223372036854775807) : Ev (fun k => laws_eqStoredS.f k l l) true := by
  unfold laws_eqStoredS.f
  refine ev_if_pos rfl ?_
  exact loop_ev (fun k (s : Unit) i => laws_eqStoredS.l0 k l l i) l.length hl 0 (fun _ _ => True) true
    (fun k i s hi _ hK hw => Or.inl ⟨(), trivial, by
      simp only [laws_eqStoredS.l0, eqStored_refl, Option.bind_some]
      rw [if_pos (by omega), if_pos (by omega), if_pos (by omega), if_pos trivial, hw]⟩)
    (fun k s _ => by simp only [laws_eqStoredS.l0]; rw [if_neg (by omega)]) () trivial
theorem eqDrive_refl (a0 : List (S96)) (a1 : Int) (ha0 : a0.length ≤ 9223372036854775807) : Ev (fun k => laws_eqDrive.f k a0 a1 a0 a1) true := by
  unfold laws_eqDrive.f
  refine Ev.bind (eqStoredS_refl a0 ha0) (ev_if_pos rfl ?_)
  refine ev_if_pos rfl ?_
  exact Ev.now _
theorem FnExactDriveRight : FnExactDriveRight_Pure := by
  intro l room hl hok hroom
  refine Ev.rounds (g := fun k => laws_FnExactDriveRight.f k l room) (Evs.ev ?_)
  unfold laws_FnExactDriveRight.f
  refine Evs.bind (szDrive_ev ⟨l, room⟩ 1048576 (by omega) (by omega) ⟨⟨hl, hok⟩, hroom⟩) (fun r hr => Evs.ite (fun _ => Evs.now _ rfl) (fun hn => ?_))
  have hsum := hr (by omega)
  have hpos := sum_pos (fun x => wStored x) l (fun x => wStored_pos x)
  have hsum2 : r + ((l.length : Int) + (l.map (fun x => wStored x)).sum) = 1048576 := hsum
  have hto := toDrive_ev l room (by omega)
  have hs : ∀ x ∈ l.map toStored, x.f0.size ≤ 9223372036854775807 := by
    intro x hx
    obtain ⟨y, hy, rfl⟩ := List.mem_map.1 hx
    exact (hok y hy).1
  have hu : ∀ m : List S121, usedOf (m.map toStored) ≤ (m.map (fun x => wStored x)).sum := by
    intro m
    induction m with
    | nil => exact Int.le_refl _
    | cons a m ih =>
      have e : usedOf ((a :: m).map toStored) = (a.f1.size : Int) + usedOf (m.map toStored) := rfl
      have e2 : ((a :: m).map (fun x => wStored x)).sum = ((a.f0.size : Int) + (a.f1.size : Int)) + (m.map (fun x => wStored x)).sum := rfl
      rw [e, e2]
      omega
  have hu' := hu l
  have hu2 : usedOf (l.map toStored) ≤ 9223372036854775807 := by omega
  refine ⟨_, Ev.bind hto (Ev.bind (driveRight_s _ room hs hu2) (Ev.bind hto (Ev.bind (driveRight_i _ room hs hu2) (ev_if_neg (by simp) (Ev.bind hto (Ev.bind (eqDrive_refl _ _ (by simp; omega)) (ev_if_pos rfl (Ev.now _)))))))), rfl⟩
end Go.Proofs.Ytgmdakcfcmkhkaa.Pure
