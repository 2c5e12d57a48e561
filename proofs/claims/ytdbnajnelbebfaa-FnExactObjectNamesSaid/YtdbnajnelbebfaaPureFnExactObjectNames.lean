/- The plain law of FnExactObjectNames: at every array ObjectNames answers as the reference, and what it gives shares nothing. -/
import Derived.Test.YtdbnajnelbebfaaOkFnExactObjectNames
import Derived.Test.YtdbnajnelbebfaaVLibFnExactObjectNames
namespace Go.Proofs.Ytdbnajnelbebfaa.Pure
open Go.RowKit Go.Proofs.Ytdbnajnelbebfaa.PFnExactObjectNames Go.Proofs.Ytdbnajnelbebfaa.Lib Go.Proofs.YtdbnajnelbebfaaW.PrintWords Go.Proofs.YtdbnajnelbebfaaW.PrintLast Go.Proofs.YtdbnajnelbebfaaW.PrintMore
set_option linter.unusedVariables false
set_option linter.unusedSimpArgs false
theorem nameRight_l0 (s : ByteArray) (hs : s.size ≤ 9223372036854775807) (d : Nat) : ∀ (i k : Nat), i + d = s.size → d < k → spec_NameRight.l0 k s (i : Int) = some (nameOk s d i) := by
  induction d with
  | zero =>
    intro i k hi hk
    obtain ⟨k, rfl⟩ : ∃ m, k = m + 1 := ⟨k - 1, by omega⟩
    simp only [spec_NameRight.l0]
    rw [if_neg (by omega)]
    rfl
  | succ d ih =>
    intro i k hi hk
    obtain ⟨k, rfl⟩ : ∃ m, k = m + 1 := ⟨k - 1, by omega⟩
    have e : wrap64 ((i : Int) + 1) = ((i + 1 : Nat) : Int) := by rw [w64 (by omega) (by omega)]; omega
    have h := ih (i + 1) k (by omega) (by omega)
    simp only [spec_NameRight.l0, e, h]
    rw [if_pos (by omega), if_pos (by omega)]
    exact nameStep _ _ _
theorem nameRight_ev (s : ByteArray) (hs : s.size ≤ 9223372036854775807) : Ev (fun k => spec_NameRight.f k s) (isName s 80) := by
  refine ev_from (s.size + 3) fun k hk => ?_
  obtain ⟨k, rfl⟩ : ∃ m, k = m + 1 := ⟨k - 1, by omega⟩
  have h := nameRight_l0 s hs s.size 0 k (by omega) (by omega)
  simp only [spec_NameRight.f, spec_NameRight.j0]
  have h' : spec_NameRight.l0 k s 0 = some (nameOk s s.size 0) := h
  rw [h']
  unfold isName
  generalize nameOk s s.size 0 = X
  grind
theorem isName_l0 (s : ByteArray) (most : Int) (hs : s.size ≤ 9223372036854775807) (d : Nat) : ∀ (i k : Nat), i + d = s.size → d < k → impl_isName.l0 k s most s.size (i : Int) = some (nameOk s d i && (decide ((s.size : Int) ≥ 1) && decide ((s.size : Int) ≤ most))) := by
  induction d with
  | zero =>
    intro i k hi hk
    obtain ⟨k, rfl⟩ : ∃ m, k = m + 1 := ⟨k - 1, by omega⟩
    simp only [impl_isName.l0, impl_long.f, impl_within.f, Option.bind_some, nameOk]
    rw [if_neg (by omega)]
    grind
  | succ d ih =>
    intro i k hi hk
    obtain ⟨k, rfl⟩ : ∃ m, k = m + 1 := ⟨k - 1, by omega⟩
    have e : wrap64 ((i : Int) + 1) = ((i + 1 : Nat) : Int) := by rw [w64 (by omega) (by omega)]; omega
    have h := ih (i + 1) k (by omega) (by omega)
    simp only [impl_isName.l0, e, h]
    rw [if_pos (by omega), if_pos (by omega), if_pos (by omega)]
    refine (nameStep _ _ _).trans ?_
    simp [nameOk, Bool.and_assoc]
theorem isName_ev (s : ByteArray) (most : Int) (hs : s.size ≤ 9223372036854775807) : Ev (fun k => impl_isName.f k s most) (isName s most) := by
  refine ev_from (s.size + 3) fun k hk => ?_
  have h := isName_l0 s most hs s.size 0 k (by omega) (by omega)
  simp only [impl_isName.f]
  exact h
theorem within_eq (a b c : Int) : impl_within.f a b c = some (decide (b ≤ a) && decide (a ≤ c)) := by
  unfold impl_within.f
  by_cases h : a ≥ b <;> simp [h]
abbrev IF := S194
abbrev zF := z194
def fileOk (x : IF) : Bool := isName x.f0 80 && (decide ((x.f1.size : Int) ≤ 20000) && (decide (0 ≤ x.f2) && decide (x.f2 ≤ (x.f1.size : Int))))
def fileAt (l : List IF) (i : Nat) : Bool := isName (l.getD i zF).f0 80 && ((i == 0 || Op.bytesLess (l.getD (i - 1) zF).f0.toList (l.getD i zF).f0.toList) && (decide (((l.getD i zF).f1.size : Int) ≤ 20000) && (decide (0 ≤ (l.getD i zF).f2) && decide ((l.getD i zF).f2 ≤ ((l.getD i zF).f1.size : Int)))))
def usedOf (l : List IF) : Int := (l.map (fun x => (x.f1.size : Int))).sum
def driveRight (l : List IF) (room : Int) : Bool := (decide (l.length ≤ 60) && (decide (0 ≤ room) && decide (room ≤ 100000))) && ((List.range l.length).all (fileAt l) && decide (usedOf l ≤ room))
theorem rdF (l : List IF) (i : Nat) : rd_T194 l (i : Int) = l.getD i zF := by
  unfold rd_T194
  rw [Int.toNat_natCast]
theorem memF (l : List IF) (i : Nat) (h : i < l.length) : l.getD i zF ∈ l := by
  rw [List.getD_eq_getElem?_getD, List.getElem?_eq_getElem h]
  exact List.getElem_mem h
theorem getF (l : List IF) (i : Nat) (h : i < l.length) : l.getD i zF = l[i] := by
  rw [List.getD_eq_getElem?_getD, List.getElem?_eq_getElem h]
  rfl
theorem usedOf_pos (l : List IF) : 0 ≤ usedOf l := sum_pos _ l (fun x => by omega)
/-- what a drive's files hold, as far as numbers go. -/
theorem used_s (l : List IF) (room : Int) (hl : l.length ≤ 60) (hu : usedOf l ≤ 9223372036854775807) : Ev (fun k => spec_l08Bytes.f k l room) (usedOf l) := by
  unfold spec_l08Bytes.f
  refine loop_ev (fun k (s : Int) i => spec_l08Bytes.l0 k s i l room) l.length (by omega) 0 (fun i s => s = usedOf (l.take i)) _ (fun k i s hi hs hK hw => ?_) (fun k s hs => ?_) 0 rfl
  · subst hs
    have ht := sum_take_succ (fun x : IF => (x.f1.size : Int)) l i hi
    have hp := usedOf_pos (l.take i)
    have hle : usedOf (l.take (i + 1)) ≤ usedOf l := by
      unfold usedOf
      have h1 := sum_pos (fun x : IF => (x.f1.size : Int)) (l.drop (i + 1)) (fun x => by omega)
      have h2 : (l.map (fun x : IF => (x.f1.size : Int))).sum = ((l.take (i + 1)).map (fun x : IF => (x.f1.size : Int))).sum + ((l.drop (i + 1)).map (fun x : IF => (x.f1.size : Int))).sum := by
        rw [← List.sum_append, ← List.map_append, List.take_append_drop]
      omega
    have e : usedOf (l.take (i + 1)) = usedOf (l.take i) + (l[i].f1.size : Int) := ht
    refine Or.inl ⟨usedOf (l.take (i + 1)), rfl, ?_⟩
    simp only [spec_l08Bytes.l0, rdF, hw]
    rw [if_pos (by omega), if_pos (by omega), getF l i hi, w64 (by omega) (by omega), e]
  · subst hs
    simp only [spec_l08Bytes.l0]
    rw [if_neg (by omega), List.take_of_length_le (Nat.le_refl _)]
theorem used_i (l : List IF) (room : Int) (hl : l.length ≤ 60) (hu : usedOf l ≤ 9223372036854775807) : Ev (fun k => impl_Drive_used.f k l room) (usedOf l) := by
  unfold impl_Drive_used.f
  refine loop_ev (fun k (s : Int) i => impl_Drive_used.l0 k s l (l.length : Int) i) l.length (by omega) 0 (fun i s => s = usedOf (l.take i)) _ (fun k i s hi hs hK hw => ?_) (fun k s hs => ?_) 0 rfl
  · subst hs
    have ht := sum_take_succ (fun x : IF => (x.f1.size : Int)) l i hi
    have hp := usedOf_pos (l.take i)
    have hle : usedOf (l.take (i + 1)) ≤ usedOf l := by
      unfold usedOf
      have h1 := sum_pos (fun x : IF => (x.f1.size : Int)) (l.drop (i + 1)) (fun x => by omega)
      have h2 : (l.map (fun x : IF => (x.f1.size : Int))).sum = ((l.take (i + 1)).map (fun x : IF => (x.f1.size : Int))).sum + ((l.drop (i + 1)).map (fun x : IF => (x.f1.size : Int))).sum := by
        rw [← List.sum_append, ← List.map_append, List.take_append_drop]
      omega
    have e : usedOf (l.take (i + 1)) = usedOf (l.take i) + (l[i].f1.size : Int) := ht
    refine Or.inl ⟨usedOf (l.take (i + 1)), rfl, ?_⟩
    simp only [impl_Drive_used.l0, rdF, hw, impl_long.f, Option.bind_some]
    rw [if_pos (by omega), if_pos (by omega), if_pos (by omega), getF l i hi, w64 (by omega) (by omega), e]
  · subst hs
    simp only [impl_Drive_used.l0]
    rw [if_neg (by omega), List.take_of_length_le (Nat.le_refl _)]
theorem prevF (l : List IF) (i : Nat) (h0 : 0 < i) (h : i < l.length) (hl : l.length ≤ 60) : rd_T194 l (wrap64 ((i : Int) - 1)) = l.getD (i - 1) zF ∧ 0 ≤ wrap64 ((i : Int) - 1) ∧ wrap64 ((i : Int) - 1) < (l.length : Int) := getD_prev l i _ h0 h (by omega)
theorem fileAt_head (l : List IF) (i : Nat) (h : ¬ isName (l.getD i zF).f0 80 = true) : fileAt l i = false := by
  rw [Bool.not_eq_true] at h
  unfold fileAt
  rw [h]
  rfl
theorem driveRight_s (l : List IF) (room : Int) (hs : ∀ x ∈ l, x.f0.size ≤ 9223372036854775807) (hu : usedOf l ≤ 9223372036854775807) : Ev (fun k => spec_DriveRight.f k l room) (driveRight l room) := by
  unfold spec_DriveRight.f
  have bad : ∀ v : Bool, v = false → Ev (fun k => spec_DriveRight.j0 k true l room) v := fun v hv => Ev.step (f := fun _ => some false) (fun k => by simp only [spec_DriveRight.j0]; rfl) (hv ▸ Ev.now _)
  by_cases h1 : (l.length : Int) > 60
  · exact ev_if_pos h1 (bad _ (by unfold driveRight; rw [decide_eq_false (by omega)]; rfl))
  refine ev_if_neg h1 ?_
  by_cases h2 : room < 0
  · exact ev_if_pos h2 (bad _ (by unfold driveRight; rw [decide_eq_false (show ¬ 0 ≤ room by omega)]; simp))
  refine ev_if_neg h2 ?_
  by_cases h3 : room > 100000
  · rw [decide_eq_true h3]
    exact bad _ (by unfold driveRight; rw [decide_eq_false (show ¬ room ≤ 100000 by omega)]; simp)
  rw [decide_eq_false h3]
  refine Ev.step (f := fun k => spec_DriveRight.l0 k 0 l room) (fun k => by simp only [spec_DriveRight.j0]; rfl) ?_
  unfold driveRight
  rw [decide_eq_true (show l.length ≤ 60 by omega), decide_eq_true (show 0 ≤ room by omega), decide_eq_true (show room ≤ 100000 by omega)]
  simp only [Bool.true_and]
  obtain ⟨K, hK⟩ := ev_all (fun (x : IF) k => spec_NameRight.f k x.f0) (fun x => isName x.f0 80) l (fun x hx => nameRight_ev _ (hs x hx))
  obtain ⟨K2, hK2⟩ := used_s l room (by omega) hu
  refine loop_allK (fun k i => spec_DriveRight.l0 k i l room) l.length (by omega) (K + K2) (fileAt l) (decide (usedOf l ≤ room)) (fun k i hi hk hw => ?_) (fun k hk => by simp only [spec_DriveRight.l0]; rw [if_neg (by omega), show spec_l08Bytes.f k l room = some (usedOf l) from hK2 k (by omega)]; rfl)
  have hr := hK _ (memF l i hi) k (by omega)
  simp only [spec_DriveRight.l0, rdF, hr, hw, Option.bind_some]
  rw [if_pos (by omega), if_pos (by omega)]
  by_cases hx : isName (l.getD i zF).f0 80 = true
  · rw [if_pos hx]
    have tail : ∀ A : Option Bool, (if (((l.getD i zF).f1).size : Int) > 20000 then (some false) else (if ((l.getD i zF).f2) < 0 then (some false) else (if ((l.getD i zF).f2) > (((l.getD i zF).f1).size : Int) then (some false) else A))) = if (decide (((l.getD i zF).f1.size : Int) ≤ 20000) && (decide (0 ≤ (l.getD i zF).f2) && decide ((l.getD i zF).f2 ≤ ((l.getD i zF).f1.size : Int)))) = true then A else some false := by
      intro A
      by_cases c1 : (((l.getD i zF).f1).size : Int) > 20000
      · rw [if_pos c1, decide_eq_false (by omega)]; rfl
      rw [if_neg c1, decide_eq_true (show (((l.getD i zF).f1).size : Int) ≤ 20000 by omega)]
      by_cases c2 : ((l.getD i zF).f2) < 0
      · rw [if_pos c2, decide_eq_false (show ¬ 0 ≤ ((l.getD i zF).f2) by omega)]; rfl
      rw [if_neg c2, decide_eq_true (show 0 ≤ ((l.getD i zF).f2) by omega)]
      by_cases c3 : ((l.getD i zF).f2) > (((l.getD i zF).f1).size : Int)
      · rw [if_pos c3, decide_eq_false (show ¬ ((l.getD i zF).f2) ≤ (((l.getD i zF).f1).size : Int) by omega)]; rfl
      · rw [if_neg c3, decide_eq_true (show ((l.getD i zF).f2) ≤ (((l.getD i zF).f1).size : Int) by omega)]; rfl
    by_cases h0 : 0 < i
    · obtain ⟨q1, q2, q3⟩ := prevF l i h0 hi (by omega)
      rw [if_pos (by omega), if_pos q2, if_pos q3, q1]
      have hi0 : (i == 0) = false := beq_eq_false_iff_ne.2 (by omega)
      unfold fileAt
      by_cases hl : Op.bytesLess (l.getD (i - 1) zF).f0.toList (l.getD i zF).f0.toList = true
      · rw [if_pos hl, tail, hx, hi0, hl]; rfl
      · rw [if_neg hl]
        rw [Bool.not_eq_true] at hl
        rw [hx, hi0, hl]; rfl
    · obtain rfl : i = 0 := by omega
      rw [if_neg (by omega), tail]
      unfold fileAt
      rw [hx]; rfl
  · rw [if_neg hx, fileAt_head l i hx]; rfl
theorem driveRight_i (l : List IF) (room : Int) (hs : ∀ x ∈ l, x.f0.size ≤ 9223372036854775807) (hu : usedOf l ≤ 9223372036854775807) : Ev (fun k => impl_DriveRight.f k l room) (driveRight l room) := by
  unfold impl_DriveRight.f
  have bad : ∀ v : Bool, v = false → Ev (fun k => impl_DriveRight.j0 k true l room) v := fun v hv => Ev.step (f := fun _ => some false) (fun k => by simp only [impl_DriveRight.j0]; rfl) (hv ▸ Ev.now _)
  by_cases h1 : (l.length : Int) > 60
  · exact ev_if_pos h1 (bad _ (by unfold driveRight; rw [decide_eq_false (by omega)]; rfl))
  refine ev_if_neg h1 (ev_bind1 (within_eq _ _ _) ?_)
  by_cases h2 : ¬ (decide (0 ≤ room) && decide (room ≤ 100000)) = true
  · rw [Bool.not_eq_true] at h2
    rw [h2]
    exact bad _ (by unfold driveRight; rw [h2]; simp)
  rw [Decidable.not_not] at h2
  rw [h2]
  refine Ev.step (f := fun k => impl_DriveRight.l0 k l (l.length : Int) 0 l room) (fun k => by simp only [impl_DriveRight.j0]; rfl) ?_
  unfold driveRight
  rw [decide_eq_true (show l.length ≤ 60 by omega), h2]
  simp only [Bool.true_and]
  obtain ⟨K, hK⟩ := ev_all (fun (x : IF) k => impl_NameRight.f k x.f0) (fun x => isName x.f0 80) l (fun x hx => Ev.bind (isName_ev _ 80 (hs x hx)) (Ev.now _))
  obtain ⟨K2, hK2⟩ := used_i l room (by omega) hu
  refine loop_allK (fun k i => impl_DriveRight.l0 k l (l.length : Int) i l room) l.length (by omega) (K + K2) (fileAt l) (decide (usedOf l ≤ room)) (fun k i hi hk hw => ?_) (fun k hk => by simp only [impl_DriveRight.l0]; rw [if_neg (by omega), show impl_Drive_used.f k l room = some (usedOf l) from hK2 k (by omega)]; rfl)
  have hr := hK _ (memF l i hi) k (by omega)
  simp only [impl_DriveRight.l0, rdF, hr, hw, Option.bind_some, impl_isLong.f, impl_long.f, within_eq]
  rw [if_pos (by omega), if_pos (by omega), if_pos (by omega)]
  by_cases hx : isName (l.getD i zF).f0 80 = true
  · rw [if_pos hx]
    have tail : ∀ A : Option Bool, (if decide ((((l.getD i zF).f1).size : Int) > 20000) = true then (some false) else (if (decide (0 ≤ (l.getD i zF).f2) && decide ((l.getD i zF).f2 ≤ ((l.getD i zF).f1.size : Int))) = true then A else some false)) = if (decide (((l.getD i zF).f1.size : Int) ≤ 20000) && (decide (0 ≤ (l.getD i zF).f2) && decide ((l.getD i zF).f2 ≤ ((l.getD i zF).f1.size : Int)))) = true then A else some false := by
      intro A
      by_cases c1 : (((l.getD i zF).f1).size : Int) > 20000
      · rw [decide_eq_true c1, decide_eq_false (show ¬ (((l.getD i zF).f1).size : Int) ≤ 20000 by omega)]; rfl
      · rw [decide_eq_false c1, decide_eq_true (show (((l.getD i zF).f1).size : Int) ≤ 20000 by omega)]; rfl
    by_cases h0 : 0 < i
    · obtain ⟨q1, q2, q3⟩ := prevF l i h0 hi (by omega)
      rw [if_pos (by omega), if_pos q2, if_pos q3, q1]
      have hi0 : (i == 0) = false := beq_eq_false_iff_ne.2 (by omega)
      unfold fileAt
      by_cases hl : Op.bytesLess (l.getD (i - 1) zF).f0.toList (l.getD i zF).f0.toList = true
      · rw [if_pos hl, tail, hx, hi0, hl]; rfl
      · rw [if_neg hl]
        rw [Bool.not_eq_true] at hl
        rw [hx, hi0, hl]; rfl
    · obtain rfl : i = 0 := by omega
      rw [if_neg (by omega), tail]
      unfold fileAt
      rw [hx]; rfl
  · rw [if_neg hx, fileAt_head l i hx]; rfl
def isObject (s : ByteArray) : Bool := isName s 60 && !(decide ((s.size : Int) ≥ 2) && (s.extract 0 2).toList == ([116, 45] : List UInt8))
theorem object_s (s : ByteArray) (hs : s.size ≤ 9223372036854775807) : Ev (fun k => spec_ObjectRight.f k s) (isObject s) := by
  unfold spec_ObjectRight.f isObject
  refine Ev.bind (nameRight_ev s hs) ?_
  unfold isName
  generalize nameOk s s.size 0 = X
  generalize (s.extract 0 2).toList = L
  refine ev_from 0 fun k _ => ?_
  grind
theorem object_i (s : ByteArray) (hs : s.size ≤ 9223372036854775807) : Ev (fun k => impl_ObjectRight.f k s) (isObject s) := by
  unfold impl_ObjectRight.f isObject
  refine Ev.bind (isName_ev s 60 hs) ?_
  have e3 : (⟨#[116, 45]⟩ : ByteArray).toList = ([116, 45] : List UInt8) := by rw [ByteArray.toList_eq]
  have e4 : (⟨#[116, 45]⟩ : ByteArray).size = 2 := rfl
  have e5 : ((2 : Nat) : Int).toNat = 2 := rfl
  simp only [strings_HasPrefix.f, stringslite_HasPrefix.f, e3, e4, e5]
  generalize isName s 60 = X
  generalize (s.extract 0 2).toList = L
  refine ev_from 0 fun k _ => ?_
  grind
/-- one more letter. -/
theorem one_size (a : Int) : (strOfNums [a]).size = 1 := by
  simp [strOfNums, ByteArray.size]
theorem markText_l0 : ∀ (b : Nat) (n : Nat) (x : ByteArray), n ≤ b → b ≤ 4611686018427387904 → x.size + n ≤ 4611686018427387904 → ∃ v, Ev (fun k => laws_markText.l0 k (n : Int) x) v := by
  intro b
  induction b with
  | zero =>
    intro n x hn _ hx
    obtain rfl : n = 0 := by omega
    refine ⟨(⟨#[109]⟩ : ByteArray) ++ x, Ev.step (f := fun _ => some ((⟨#[109]⟩ : ByteArray) ++ x)) (fun k => ?_) (Ev.now _)⟩
    simp only [laws_markText.l0]
    rw [if_neg (by omega), if_pos (by omega)]
  | succ b ih =>
    intro n x hn hb hx
    by_cases h0 : n = 0
    · subst h0
      refine ⟨(⟨#[109]⟩ : ByteArray) ++ x, Ev.step (f := fun _ => some ((⟨#[109]⟩ : ByteArray) ++ x)) (fun k => ?_) (Ev.now _)⟩
      simp only [laws_markText.l0]
      rw [if_neg (by omega), if_pos (by omega)]
    · have e : wrap64 (Int.tdiv (n : Int) 10) = ((n / 10 : Nat) : Int) := by
        rw [show Int.tdiv (n : Int) 10 = ((n / 10 : Nat) : Int) from rfl]
        exact w64 (by omega) (by omega)
      have hs : ∀ y : ByteArray, (strOfNums [(wrap64 (48 + Int.tmod (n : Int) 10)) % 256] ++ y).size = 1 + y.size := by
        intro y
        rw [ByteArray.size_append, one_size]
      obtain ⟨v, hv⟩ := ih (n / 10) (strOfNums [(wrap64 (48 + Int.tmod (n : Int) 10)) % 256] ++ x) (by omega) (by omega) (by rw [hs]; omega)
      refine ⟨v, Ev.step (fun k => ?_) hv⟩
      simp only [laws_markText.l0, Option.bind_some, e]
      rw [if_pos (by omega), if_pos (by rw [one_size]; omega)]
theorem markText_ex (n : Nat) (hn : n ≤ 4611686018427387904) : ∃ v, Ev (fun k => laws_markText.f k (n : Int)) v := by
  by_cases h0 : n = 0
  · refine ⟨_, ev_if_pos (show (n : Int) ≤ 0 by omega) (Ev.now (⟨#[109, 48]⟩ : ByteArray))⟩
  · obtain ⟨v, hv⟩ := markText_l0 n n (⟨#[]⟩ : ByteArray) (by omega) hn (by show 0 + n ≤ _; omega)
    exact ⟨v, ev_if_neg (show ¬ (n : Int) ≤ 0 by omega) hv⟩
/-- the mark of number n: what text it is does not matter. -/
noncomputable def mText (n : Nat) : ByteArray := if h : n ≤ 4611686018427387904 then Classical.choose (markText_ex n h) else default
theorem mText_ev (n : Nat) (hn : n ≤ 4611686018427387904) : Ev (fun k => laws_markText.f k (n : Int)) (mText n) := by
  unfold mText
  rw [dif_pos hn]
  exact Classical.choose_spec (markText_ex n hn)
/-- a loop whose rounds each end, with what is known of where it stands. -/
theorem loop_evs {σ ρ : Type} (F : Nat → σ → Int → Option ρ) (n : Nat) (inv : Nat → σ → Prop) (Q : ρ → Prop)
    (hstep : ∀ (i : Nat) (s : σ), i < n → inv i s → (∃ s', inv (i + 1) s' ∧ ∀ v, Ev (fun k => F k s' ((i + 1 : Nat) : Int)) v → Ev (fun k => F k s (i : Int)) v))
    (hend : ∀ (s : σ), inv n s → Evs (fun k => F k s (n : Int)) Q) : ∀ (s : σ), inv 0 s → Evs (fun k => F k s 0) Q := by
  have main : ∀ (d i : Nat) (s : σ), i + d = n → inv i s → Evs (fun k => F k s (i : Int)) Q := by
    intro d
    induction d with
    | zero =>
      intro i s hi hv
      obtain rfl : i = n := by omega
      exact hend s hv
    | succ d ih =>
      intro i s hi hv
      obtain ⟨s', hs', hv'⟩ := hstep i s (by omega) hv
      obtain ⟨v, h1, h2⟩ := ih (i + 1) s' (by omega) hs'
      exact ⟨v, hv' v h1, h2⟩
  intro s hs
  exact main n 0 s (by omega) hs
theorem wnat (i : Nat) (hi : i ≤ 9223372036854775806) : wrap64 ((i : Int) + 1) = ((i + 1 : Nat) : Int) := by rw [w64 (by omega) (by omega)]; omega
theorem take_mapF (l : List IF) (i : Nat) (h : i < l.length) : (l.take (i + 1)).map (fun x => x.f0) = (l.take i).map (fun x => x.f0) ++ [(l.getD i zF).f0] := by
  rw [List.take_add_one, List.getElem?_eq_getElem h, List.map_append, getF l i h]
  rfl
theorem names_i (l : List IF) (room : Int) (hl : l.length ≤ 1048576) : Ev (fun k => impl_Drive_names.f k l room) (l.map (fun x => x.f0)) := by
  unfold impl_Drive_names.f
  refine Evs.ev (loop_evs (fun k (s : List ByteArray) i => impl_Drive_names.l0 k s l (l.length : Int) i) l.length (fun i s => s = (l.take i).map (fun x => x.f0)) _ (fun i s hi hv => ?_) (fun s hv => ?_) [] rfl)
  · subst hv
    refine ⟨_, rfl, fun v hv => Ev.step (fun k => ?_) hv⟩
    simp only [impl_Drive_names.l0, rdF, wnat i (by omega)]
    rw [if_pos (by omega), if_pos (by omega), if_pos (by omega), if_pos (by simp; omega), ← take_mapF l i hi]
  · subst hv
    refine ⟨_, Ev.step (f := fun _ => some (l.map (fun x => x.f0))) (fun k => ?_) (Ev.now _), rfl⟩
    simp only [impl_Drive_names.l0]
    rw [if_neg (by omega), List.take_of_length_le (Nat.le_refl _)]
theorem markStoredS_evs (l : List IF) (m : Nat) (hl : l.length ≤ 1048576) (hm : m ≤ 1152921504606846976) : Evs (fun k => laws_markStoredS.f k l (m : Int)) (fun r => r.1 = ((m + 3 * l.length : Nat) : Int)) := by
  unfold laws_markStoredS.f
  refine loop_evs (fun k (s : List IF × Int) i => laws_markStoredS.l0 k s.1 s.2 i) l.length (fun i s => s.2 = ((m + 3 * i : Nat) : Int) ∧ s.1.length = l.length) _ (fun i s hi hv => ?_) (fun s hv => ?_) (l, (m : Int)) ⟨rfl, rfl⟩
  · obtain ⟨x, k1⟩ := s
    obtain ⟨rfl, h2⟩ := hv
    simp only at h2 ⊢
    have e1 : wrap64 (((m + 3 * i : Nat) : Int) + 1) = ((m + 3 * i + 1 : Nat) : Int) := wnat _ (by omega)
    have e2 : wrap64 (((m + 3 * i + 1 : Nat) : Int) + 1) = ((m + 3 * i + 2 : Nat) : Int) := wnat _ (by omega)
    have e3 : wrap64 (((m + 3 * i + 2 : Nat) : Int) + 1) = ((m + 3 * (i + 1) : Nat) : Int) := wnat _ (by omega)
    obtain ⟨K1, g1⟩ := mText_ev (m + 3 * i) (by omega)
    obtain ⟨K2, g2⟩ := mText_ev (m + 3 * i + 1) (by omega)
    let X1 : List IF := x.set i ⟨mText (m + 3 * i), (rd_T194 x (i : Int)).f1, (rd_T194 x (i : Int)).f2⟩
    let X2 : List IF := X1.set i ⟨(rd_T194 X1 (i : Int)).f0, mText (m + 3 * i + 1), (rd_T194 X1 (i : Int)).f2⟩
    let X3 : List IF := X2.set i ⟨(rd_T194 X2 (i : Int)).f0, (rd_T194 X2 (i : Int)).f1, ((m + 3 * i + 2 : Nat) : Int)⟩
    refine ⟨(X3, ((m + 3 * (i + 1) : Nat) : Int)), ⟨rfl, by simp [X3, X2, X1, h2]⟩, fun v hv => ?_⟩
    obtain ⟨K3, g3⟩ := hv
    refine ev_from (K1 + K2 + K3 + 1) fun k hk => ?_
    obtain ⟨k, rfl⟩ : ∃ q, k = q + 1 := ⟨k - 1, by omega⟩
    have g1' : laws_markText.f k ((m + 3 * i : Nat) : Int) = some (mText (m + 3 * i)) := g1 k (by omega)
    have g2' : laws_markText.f k ((m + 3 * i + 1 : Nat) : Int) = some (mText (m + 3 * i + 1)) := g2 k (by omega)
    have g3' := g3 k (by omega)
    simp only [laws_markStoredS.l0, Int.toNat_natCast, wnat i (by omega), e1, e2, e3, g1', g2', Option.bind_some]
    rw [if_pos (by omega), if_pos (by omega)]
    exact g3'
  · obtain ⟨x, k1⟩ := s
    obtain ⟨rfl, h2⟩ := hv
    simp only at h2 ⊢
    refine ⟨_, Ev.step (f := fun _ => some (((m + 3 * l.length : Nat) : Int), x)) (fun k => ?_) (Ev.now _), rfl⟩
    simp only [laws_markStoredS.l0]
    rw [if_neg (by omega)]
noncomputable def markedS (n m : Nat) : List ByteArray := (List.range n).map (fun i => mText (m + i))
theorem markStringS_ev (l : List ByteArray) (m : Nat) (hl : l.length ≤ 4294967296) (hm : m ≤ 4294967296) : Ev (fun k => laws_markStringS.f k l (m : Int)) (((m + l.length : Nat) : Int), markedS l.length m) := by
  unfold laws_markStringS.f
  refine Evs.ev (loop_evs (fun k (s : List ByteArray × Int) i => laws_markStringS.l0 k s.1 s.2 i) l.length (fun i s => s.2 = ((m + i : Nat) : Int) ∧ s.1.length = l.length ∧ ∀ j, j < i → s.1[j]? = (markedS l.length m)[j]?) _ (fun i s hi hv => ?_) (fun s hv => ?_) (l, (m : Int)) ⟨rfl, rfl, fun j hj => absurd hj (by omega)⟩)
  · obtain ⟨x, k1⟩ := s
    obtain ⟨rfl, h2, h3⟩ := hv
    simp only at h2 h3 ⊢
    refine ⟨(x.set i (mText (m + i)), ((m + (i + 1) : Nat) : Int)), ⟨rfl, by simp [h2], fun j hj => ?_⟩, fun v hv => ?_⟩
    · show (x.set i (mText (m + i)))[j]? = _
      rw [List.getElem?_set]
      by_cases e : i = j
      · subst e
        rw [if_pos rfl, if_pos (by omega)]
        simp [markedS, hi]
      · rw [if_neg e]
        exact h3 j (by omega)
    · obtain ⟨K1, g1⟩ := mText_ev (m + i) (by omega)
      obtain ⟨K2, g2⟩ := hv
      refine ev_from (K1 + K2 + 1) fun k hk => ?_
      obtain ⟨k, rfl⟩ : ∃ q, k = q + 1 := ⟨k - 1, by omega⟩
      have g1' : laws_markText.f k ((m + i : Nat) : Int) = some (mText (m + i)) := g1 k (by omega)
      simp only [laws_markStringS.l0, Int.toNat_natCast, wnat i (by omega), wnat (m + i) (by omega), g1', Option.bind_some]
      rw [if_pos (by omega), if_pos (by omega)]
      exact g2 k (by omega)
  · obtain ⟨x, k1⟩ := s
    obtain ⟨rfl, h2, h3⟩ := hv
    simp only at h2 h3 ⊢
    refine ⟨_, Ev.step (f := fun _ => some (((m + l.length : Nat) : Int), x)) (fun k => ?_) (Ev.now _), ?_⟩
    · simp only [laws_markStringS.l0]
      rw [if_neg (by omega)]
    · congr 1
      refine List.ext_getElem? fun j => ?_
      by_cases hj : j < l.length
      · exact h3 j hj
      · rw [List.getElem?_eq_none (by omega), List.getElem?_eq_none (by simp [markedS]; omega)]
theorem heldStringS_ev (n m : Nat) (hl : n ≤ 4294967296) (hm : m ≤ 4294967296) : Ev (fun k => laws_heldStringS.f k (markedS n m) (m : Int)) ((m + n : Nat) : Int) := by
  unfold laws_heldStringS.f
  have hlen : (markedS n m).length = n := by simp [markedS]
  refine Evs.ev (loop_evs (fun k (s : Int) i => laws_heldStringS.l0 k (markedS n m) s i) n (fun i s => s = ((m + i : Nat) : Int)) _ (fun i s hi hv => ?_) (fun s hv => ?_) (m : Int) rfl)
  · subst hv
    refine ⟨((m + (i + 1) : Nat) : Int), rfl, fun v hv => ?_⟩
    have e : rdOf ByteArray.empty (markedS n m) (i : Int) = mText (m + i) := by
      simp [rdOf, markedS, hi]
    obtain ⟨K1, g1⟩ := mText_ev (m + i) (by omega)
    obtain ⟨K2, g2⟩ := hv
    refine ev_from (K1 + K2 + 1) fun k hk => ?_
    obtain ⟨k, rfl⟩ : ∃ q, k = q + 1 := ⟨k - 1, by omega⟩
    have g1' : laws_markText.f k ((m + i : Nat) : Int) = some (mText (m + i)) := g1 k (by omega)
    simp only [laws_heldStringS.l0, wnat i (by omega), wnat (m + i) (by omega), e, hlen, g1', Option.bind_some]
    rw [if_pos (by omega), if_pos (by omega), if_pos trivial]
    exact g2 k (by omega)
  · subst hv
    refine ⟨_, Ev.step (f := fun _ => some ((m + n : Nat) : Int)) (fun k => ?_) (Ev.now _), rfl⟩
    simp only [laws_heldStringS.l0, hlen]
    rw [if_neg (by omega)]
theorem eqStringS_refl (l : List ByteArray) (hl : l.length ≤ 9223372036854775807) : Ev (fun k => laws_eqStringS.f k l l) true := by
  unfold laws_eqStringS.f
  refine ev_if_pos rfl ?_
  have h := loop_all (fun k i => laws_eqStringS.l0 k l l i) l.length hl 0 (fun _ => true) (fun k i hi _ hw => by simp only [laws_eqStringS.l0, hw]; rw [if_pos (by omega), if_pos (by omega), if_pos (by omega), if_pos trivial]) (fun k => by simp only [laws_eqStringS.l0]; rw [if_neg (by omega)])
  have e : (List.range l.length).all (fun _ => true) = true := by simp
  rw [e] at h
  exact h
def wStored (x : S247) : Int := (x.f0.size : Int) + (x.f1.size : Int)
theorem wStored_pos (x : S247) : 0 ≤ wStored x := by
  unfold wStored
  omega
theorem szStored_ev (x : S247) (left : Int) (h0 : 0 ≤ left) (h1 : left ≤ 1048576) (hx : ok247 x) : Evs (fun k => laws_szStored.f x.f0 x.f1 x.f2 left) (fun r => 0 ≤ r → r + wStored x = left) := by
  obtain ⟨hf0, hf1, hf2⟩ := hx
  unfold wStored laws_szStored.f
  rw [sz_wrap (left := left) (s := (x.f0.size : Int)) (by omega) (by omega) (by omega) (by omega)]
  refine Evs.ite (fun _ => Evs.now _ (by omega)) (fun n0 => ?_)
  rw [sz_wrap (left := (left - (x.f0.size : Int))) (s := (x.f1.size : Int)) (by omega) (by omega) (by omega) (by omega)]
  refine Evs.ite (fun _ => Evs.now _ (by omega)) (fun n1 => ?_)
  exact Evs.now _ (by omega)
theorem szStoredS_ev (l : List (S247)) (left : Int) (h0 : 0 ≤ left) (h1 : left ≤ 1048576) (hlo : (l.length ≤ 9223372036854775807 ∧ ∀ x ∈ l, ok247 x)) : Evs (fun k => laws_szStoredS.f k l left) (fun r => 0 ≤ r → r + ((l.length : Int) + (l.map (fun x => wStored x)).sum) = left) := by
  obtain ⟨hl, hok⟩ := hlo
  unfold laws_szStoredS.f
  rw [sz_wrap h0 h1 (by omega) (by omega)]
  refine Evs.ite (fun _ => Evs.now _ (by have := sum_pos (fun x => wStored x) l (fun x => wStored_pos x); omega)) (fun hneg => ?_)
  have hpos : ∀ x : S247, 0 ≤ wStored x := fun x => wStored_pos x
  refine Evs.mon (fun k => (laws_szStoredS.mono_l k) _ _ _) ?_
  obtain ⟨r, h3, h4⟩ := loop_up (fun k (s : Int) i => laws_szStoredS.l0 k l s i) l.length hl 0 (fun i s => 0 ≤ s ∧ s + ((l.take i).map (fun x => wStored x)).sum = left - l.length) (fun r => 0 ≤ r → r + (l.map (fun x => wStored x)).sum = left - l.length)
    (fun k i s hi hs hK hw => by
      obtain ⟨hs0, hs1⟩ := hs
      have hsum := sum_pos (fun x => wStored x) (l.take i) hpos
      have hp := hpos l[i]
      have e : rd_T247 l (i : Int) = l[i] := getD_nat l i _ hi
      have ht := sum_take_succ (fun x => wStored x) l i hi
      obtain ⟨r0, hr0, hq0⟩ := szStored_ev l[i] s hs0 (by omega) (hok l[i] (List.getElem_mem hi))
      obtain ⟨r1, hr1⟩ : ∃ r1, laws_szStored.f l[i].f0 l[i].f1 l[i].f2 s = some r1 := ⟨r0, (hr0.choose_spec _ (Nat.le_refl _))⟩
      obtain rfl : r1 = r0 := Option.some.inj (hr1.symm.trans (hr0.choose_spec _ (Nat.le_refl _)))
      simp only [laws_szStoredS.l0, e]
      rw [if_pos (by omega), if_pos (by omega), hr1, hw]
      simp only [Option.bind_some]
      by_cases hr : r1 < 0
      · exact Or.inr ⟨-1, by rw [if_pos hr], by omega⟩
      · exact Or.inl ⟨r1, ⟨by omega, by rw [ht]; have := hq0 (by omega); omega⟩, by rw [if_neg hr]⟩      )
    (fun k s hs => by
      obtain ⟨hs0, hs1⟩ := hs
      refine ⟨s, by simp only [laws_szStoredS.l0]; rw [if_neg (by omega)], fun _ => ?_⟩
      rw [List.take_of_length_le (Nat.le_refl _)] at hs1
      exact hs1)
    l.length 0 (l.length + 0 + 1) (left - l.length) (by omega) ⟨by omega, by simp⟩ (by omega)
  exact ⟨_, r, h3, fun h => by have := h4 h; omega⟩
def wDrive (x : S188) : Int := ((x.f0.length : Int) + (x.f0.map (fun x => wStored x)).sum)
theorem wDrive_pos (x : S188) : 0 ≤ wDrive x := by
  unfold wDrive
  have p0 := sum_pos (fun x => wStored x) x.f0 (fun x => wStored_pos x)
  omega
theorem szDrive_ev (x : S188) (left : Int) (h0 : 0 ≤ left) (h1 : left ≤ 1048576) (hx : ok188 x) : Evs (fun k => laws_szDrive.f k x.f0 x.f1 left) (fun r => 0 ≤ r → r + wDrive x = left) := by
  obtain ⟨hf0, hf1⟩ := hx
  unfold wDrive laws_szDrive.f
  refine Evs.bind (szStoredS_ev x.f0 left (by omega) (by omega) hf0) (fun r0 hr0 => ?_)
  refine Evs.ite (fun _ => Evs.now _ (by omega)) (fun n0 => ?_)
  have e0 := hr0 (by omega)
  have g0 := sum_pos (fun x => wStored x) x.f0 (fun x => wStored_pos x)
  exact Evs.now _ (by omega)
def toStored (x : S247) : S194 := ⟨x.f0, x.f1, x.f2⟩
theorem toStoredS_ev (l : List (S247)) (hl : l.length ≤ 1048576) : Ev (fun k => laws_toStoredS.f k l) (l.map toStored) := by
  have hn : ((l.length : Int)).toNat = l.length := Int.toNat_natCast _
  refine Ev.congr (f := fun k => laws_toStoredS.l0 k l (List.replicate l.length z194) 0) (fun k => ?_) ?_
  · unfold laws_toStoredS.f
    rw [if_pos (by omega), if_pos (by omega), hn]
  · exact loop_ev (fun k (s : List (S194)) i => laws_toStoredS.l0 k l s i) l.length (by omega) 0 (fun i s => s.length = l.length ∧ ∀ j, j < i → s[j]? = (l.map toStored)[j]?) _
      (fun k i s hi hv hK hw => by
      have e : rd_T247 l (i : Int) = l[i] := getD_nat l i _ hi
      have hlen := hv.1
      simp only [laws_toStoredS.l0, e, laws_toStored.f]
      rw [if_pos (by omega), if_pos (by omega), hw]
      simp only [Option.bind_some]
      rw [if_pos (by omega)]
      exact Or.inl ⟨_, fill_step toStored l s i hi hv.1 hv.2 _ rfl, rfl⟩)
      (fun k s hv => by
      simp only [laws_toStoredS.l0]
      rw [if_neg (by omega)]
      exact congrArg some (fill_done toStored l s hv.1 hv.2))
      _ ⟨by simp, fun j hj => absurd hj (by omega)⟩
theorem toDrive_ev (a0 : List (S247)) (a1 : Int) (ha0 : a0.length ≤ 1048576) : Ev (fun k => laws_toDrive.f k a0 a1) ((a0.map toStored), a1) := by
  unfold laws_toDrive.f
  refine Ev.bind (toStoredS_ev a0 ha0) ?_
  exact Ev.now _
theorem eqStored_refl (a0 : ByteArray) (a1 : ByteArray) (a2 : Int) : laws_eqStored.f a0 a1 a2 a0 a1 a2 = some true := by
  unfold laws_eqStored.f
  rw [if_pos rfl]
  rw [if_pos rfl]
  rw [if_pos rfl]
theorem eqStoredS_refl (l : List (S194)) (hl : l.length ≤ 9223372036854775807) : Ev (fun k => laws_eqStoredS.f k l l) true := by
  unfold laws_eqStoredS.f
  refine ev_if_pos rfl ?_
  exact loop_ev (fun k (s : Unit) i => laws_eqStoredS.l0 k l l i) l.length hl 0 (fun _ _ => True) true
    (fun k i s hi _ hK hw => Or.inl ⟨(), trivial, by
      simp only [laws_eqStoredS.l0, eqStored_refl, Option.bind_some]
      rw [if_pos (by omega), if_pos (by omega), if_pos (by omega), if_pos trivial, hw]⟩)
    (fun k s _ => by simp only [laws_eqStoredS.l0]; rw [if_neg (by omega)]) () trivial
theorem eqDrive_refl (a0 : List (S194)) (a1 : Int) (ha0 : a0.length ≤ 9223372036854775807) : Ev (fun k => laws_eqDrive.f k a0 a1 a0 a1) true := by
  unfold laws_eqDrive.f
  refine Ev.bind (eqStoredS_refl a0 ha0) (ev_if_pos rfl ?_)
  refine ev_if_pos rfl ?_
  exact Ev.now _
/-- a loop whose rounds each go on or end. -/
theorem loop_evx {σ ρ : Type} (F : Nat → σ → Int → Option ρ) (n : Nat) (inv : Nat → σ → Prop) (Q : ρ → Prop)
    (hstep : ∀ (i : Nat) (s : σ), i < n → inv i s → (∃ s', inv (i + 1) s' ∧ ∀ v, Ev (fun k => F k s' ((i + 1 : Nat) : Int)) v → Ev (fun k => F k s (i : Int)) v) ∨ Evs (fun k => F k s (i : Int)) Q)
    (hend : ∀ (s : σ), inv n s → Evs (fun k => F k s (n : Int)) Q) : ∀ (s : σ), inv 0 s → Evs (fun k => F k s 0) Q := by
  have main : ∀ (d i : Nat) (s : σ), i + d = n → inv i s → Evs (fun k => F k s (i : Int)) Q := by
    intro d
    induction d with
    | zero =>
      intro i s hi hv
      obtain rfl : i = n := by omega
      exact hend s hv
    | succ d ih =>
      intro i s hi hv
      rcases hstep i s (by omega) hv with ⟨s', hs', hv'⟩ | h
      · obtain ⟨v, h1, h2⟩ := ih (i + 1) s' (by omega) hs'
        exact ⟨v, hv' v h1, h2⟩
      · exact h
  intro s hs
  exact main n 0 s (by omega) hs
theorem wnat' (i n : Nat) (hi : i < n) (hn : n ≤ 9223372036854775807) : wrap64 ((i : Int) + 1) = ((i + 1 : Nat) : Int) := by rw [w64 (by omega) (by omega)]; omega
abbrev LD := S188
abbrev ID := S192
abbrev zD := z192
theorem rdLD_nat (l : List LD) (i : Nat) (h : i < l.length) : rd_T188 l (i : Int) = l[i] := by
  unfold rd_T188
  rw [Int.toNat_natCast, List.getD_eq_getElem?_getD, List.getElem?_eq_getElem h]
  rfl
theorem szDriveS_evs (l : List LD) (left : Int) (h0 : 0 ≤ left) (h1 : left ≤ 1048576) (hl : l.length ≤ 9223372036854775807) (hok : ∀ x ∈ l, ok188 x) : Evs (fun k => laws_szDriveS.f k l left) (fun r => 0 ≤ r → r + (l.length : Int) ≤ left ∧ ∀ x ∈ l, wDrive x ≤ left) := by
  unfold laws_szDriveS.f
  rw [sz_wrap h0 h1 (by omega) (by omega)]
  refine Evs.ite (fun _ => Evs.now _ (by omega)) (fun hneg => ?_)
  refine loop_evx (fun k (s : Int) i => laws_szDriveS.l0 k l s i) l.length (fun i s => 0 ≤ s ∧ s ≤ left - l.length ∧ ∀ j (h : j < l.length), j < i → wDrive l[j] ≤ left) _ (fun i s hi hs => ?_) (fun s hs => ?_) _ ⟨by omega, by omega, fun j _ h => absurd h (by omega)⟩
  · obtain ⟨hs0, hs1, hs2⟩ := hs
    obtain ⟨r0, hr0, hq0⟩ := szDrive_ev l[i] s hs0 (by omega) (hok l[i] (List.getElem_mem hi))
    have hw := wDrive_pos l[i]
    have hst : ∀ k, laws_szDriveS.l0 (k + 1) l s (i : Int) = (laws_szDrive.f k l[i].f0 l[i].f1 s).bind fun t => (if t < 0 then (some (-1)) else (laws_szDriveS.l0 k l t ((i + 1 : Nat) : Int))) := by
      intro k
      simp only [laws_szDriveS.l0, rdLD_nat l i hi, wnat' i _ hi hl]
      rw [if_pos (by omega), if_pos (by omega)]
    by_cases hr : r0 < 0
    · exact .inr ⟨-1, Ev.step hst (Ev.bind hr0 (ev_if_pos hr (Ev.now _))), by omega⟩
    · have hq := hq0 (by omega)
      refine .inl ⟨r0, ⟨by omega, by omega, fun j h hj => ?_⟩, fun v hv => Ev.step hst (Ev.bind hr0 (ev_if_neg hr hv))⟩
      by_cases e : j = i
      · subst e
        omega
      · exact hs2 j h (by omega)
  · obtain ⟨hs0, hs1, hs2⟩ := hs
    refine ⟨s, Ev.step (f := fun _ => some s) (fun k => ?_) (Ev.now _), fun _ => ⟨by omega, fun x hx => ?_⟩⟩
    · simp only [laws_szDriveS.l0]
      rw [if_neg (by omega)]
    · obtain ⟨j, hj, rfl⟩ := List.mem_iff_getElem.1 hx
      exact hs2 j hj hj
def toD (x : LD) : ID := ⟨x.f0.map toStored, x.f1⟩
theorem toDriveS_ev (l : List LD) (hl : l.length ≤ 1048576) (hk : ∀ x ∈ l, x.f0.length ≤ 1048576) : Ev (fun k => laws_toDriveS.f k l) (l.map toD) := by
  have hn : ((l.length : Int)).toNat = l.length := Int.toNat_natCast _
  refine Ev.congr (f := fun k => laws_toDriveS.l0 k l (List.replicate l.length zD) 0) (fun k => ?_) ?_
  · unfold laws_toDriveS.f
    rw [if_pos (by omega), if_pos (by omega), hn]
  · refine Evs.ev (loop_evx (fun k (s : List ID) i => laws_toDriveS.l0 k l s i) l.length (fun i s => s.length = l.length ∧ ∀ j, j < i → s[j]? = (l.map toD)[j]?) _ (fun i s hi hv => ?_) (fun s hv => ?_) _ ⟨by simp, fun j hj => absurd hj (by omega)⟩)
    · have hlen := hv.1
      refine .inl ⟨s.set i (toD l[i]), fill_step toD l s i hi hv.1 hv.2 _ rfl, fun v h => ?_⟩
      have ht := toDrive_ev l[i].f0 l[i].f1 (hk _ (List.getElem_mem hi))
      refine Ev.step (f := fun k => (laws_toDrive.f k l[i].f0 l[i].f1).bind fun t => laws_toDriveS.l0 k l (s.set i (⟨t.1, t.2⟩ : ID)) ((i + 1 : Nat) : Int)) (fun k => ?_) (Ev.bind ht h)
      simp only [laws_toDriveS.l0, rdLD_nat l i hi, wnat' i _ hi (by omega)]
      rw [if_pos (by omega), if_pos (by omega)]
      cases laws_toDrive.f k l[i].f0 l[i].f1 with
      | none => rfl
      | some t =>
        simp only [Option.bind_some, Int.toNat_natCast]
        rw [if_pos (by omega)]
    · refine ⟨_, Ev.step (f := fun _ => some s) (fun k => ?_) (Ev.now _), fill_done toD l s hv.1 hv.2⟩
      simp only [laws_toDriveS.l0]
      rw [if_neg (by omega)]
theorem rdD_nat (l : List ID) (i : Nat) : rd_T192 l (i : Int) = l.getD i zD := by
  unfold rd_T192
  rw [Int.toNat_natCast]
theorem memD (l : List ID) (i : Nat) (h : i < l.length) : l.getD i zD ∈ l := by
  rw [List.getD_eq_getElem?_getD, List.getElem?_eq_getElem h]
  exact List.getElem_mem h
theorem eqDriveS_refl (l : List ID) (hl : l.length ≤ 9223372036854775807) (hk : ∀ x ∈ l, x.f0.length ≤ 9223372036854775807) : Ev (fun k => laws_eqDriveS.f k l l) true := by
  unfold laws_eqDriveS.f
  refine ev_if_pos rfl (Evs.ev (loop_evx (fun k (_ : Unit) i => laws_eqDriveS.l0 k l l i) l.length (fun _ _ => True) _ (fun i s hi _ => ?_) (fun s _ => ?_) () trivial))
  · refine .inl ⟨(), trivial, fun v h => ?_⟩
    have ht := eqDrive_refl (l.getD i zD).f0 (l.getD i zD).f1 (hk _ (memD l i hi))
    refine Ev.step (f := fun k => (laws_eqDrive.f k (l.getD i zD).f0 (l.getD i zD).f1 (l.getD i zD).f0 (l.getD i zD).f1).bind fun t => if t = true then laws_eqDriveS.l0 k l l ((i + 1 : Nat) : Int) else some false) (fun k => ?_) (Ev.bind ht (ev_if_pos rfl h))
    simp only [laws_eqDriveS.l0, rdD_nat, wnat' i _ hi hl]
    rw [if_pos (by omega), if_pos (by omega), if_pos (by omega)]
  · refine ⟨_, Ev.step (f := fun _ => some true) (fun k => ?_) (Ev.now _), rfl⟩
    simp only [laws_eqDriveS.l0]
    rw [if_neg (by omega)]
def codeRight (k m : Int) : Bool := (decide (1 ≤ k) && decide (k ≤ 8)) && (decide (0 ≤ m) && decide (m ≤ 6))
theorem codeRight_i (k m : Int) : impl_CodeRight.f k m = some (codeRight k m) := by
  unfold impl_CodeRight.f codeRight
  simp only [within_eq, Option.bind_some]
  cases (decide (1 ≤ k) && decide (k ≤ 8)) <;> simp
theorem codeRight_s (k m : Int) : spec_CodeRight.f k m = some (codeRight k m) := by
  unfold spec_CodeRight.f codeRight
  by_cases h1 : k ≥ 1 <;> by_cases h2 : k ≤ 8 <;> by_cases h3 : m ≥ 0 <;> simp [h1, h2, h3]
def drvOk (x : ID) : Bool := driveRight x.f0 x.f1
def arrayRight (k m : Int) (l : List ID) : Bool := (codeRight k m && decide ((l.length : Int) = wrap64 (k + m))) && (List.range l.length).all (fun i => drvOk (l.getD i zD))
def fits (x : ID) : Prop := (∀ y ∈ x.f0, y.f0.size ≤ 9223372036854775807) ∧ usedOf x.f0 ≤ 9223372036854775807
theorem arrayRight_s (k m : Int) (l : List ID) (hl : l.length ≤ 1048576) (hf : ∀ x ∈ l, fits x) : Ev (fun n => spec_ArrayRight.f n k m l) (arrayRight k m l) := by
  refine ev_bind1 (codeRight_s k m) ?_
  have bad : ∀ v : Bool, v = false → Ev (fun n => spec_ArrayRight.j0 n true k m l) v := fun v hv => Ev.step (f := fun _ => some false) (fun n => by simp only [spec_ArrayRight.j0]; rfl) (hv ▸ Ev.now _)
  unfold arrayRight
  by_cases c : codeRight k m = true
  · refine ev_if_pos c ?_
    by_cases e : (l.length : Int) = wrap64 (k + m)
    · rw [show ((l.length : Int) != wrap64 (k + m)) = false by rw [← e]; simp, c, decide_eq_true e]
      refine Ev.step (f := fun n => spec_ArrayRight.l0 n 0 k m l) (fun n => by simp only [spec_ArrayRight.j0]; rfl) ?_
      obtain ⟨K, hK⟩ := ev_all (fun (x : ID) n => spec_DriveRight.f n x.f0 x.f1) drvOk l (fun x hx => driveRight_s _ _ (hf x hx).1 (hf x hx).2)
      have h := loop_all (fun n i => spec_ArrayRight.l0 n i k m l) l.length (by omega) K (fun i => drvOk (l.getD i zD)) (fun n i hi hk hw => by
        have hr := hK _ (memD l i hi) n (by omega)
        simp only [spec_ArrayRight.l0, rdD_nat, hr, hw, Option.bind_some]
        rw [if_pos (by omega), if_pos (by omega)]) (fun n => by simp only [spec_ArrayRight.l0]; rw [if_neg (by omega)])
      simpa using h
    · rw [show ((l.length : Int) != wrap64 (k + m)) = true by simpa using e, decide_eq_false e]
      exact bad _ (by simp)
  · refine ev_if_neg c (bad _ ?_)
    rw [Bool.not_eq_true] at c
    rw [c]
    simp
/-- a search that ends at the first that is not right. -/
theorem keys_i (l : List ID) (hl : l.length ≤ 1048576) (hf : ∀ x ∈ l, fits x) : Ev (fun n => impl_ArrayRight.keys n l) (!(List.range l.length).all (fun i => drvOk (l.getD i zD))) := by
  have main : ∀ (d i : Nat), i + d = l.length → (∀ j, j < i → drvOk (l.getD j zD) = true) → Evs (fun n => impl_ArrayRight.k0 n l (i : Int)) (fun r => decide (0 ≤ r) = !(List.range l.length).all (fun i => drvOk (l.getD i zD))) := by
    intro d
    induction d with
    | zero =>
      intro i hi hj
      refine ⟨-1, Ev.step (f := fun _ => some (-1)) (fun n => by simp only [impl_ArrayRight.k0]; rw [if_neg (by omega)]) (Ev.now _), ?_⟩
      rw [List.all_eq_true.2 (fun j hjm => hj j (by have := List.mem_range.1 hjm; omega))]
      rfl
    | succ d ih =>
      intro i hi hj
      have hm := memD l i (by omega)
      have hr := driveRight_i _ (l.getD i zD).f1 (hf _ hm).1 (hf _ hm).2
      have hst : ∀ n, impl_ArrayRight.k0 (n + 1) l (i : Int) = (impl_DriveRight.f n (l.getD i zD).f0 (l.getD i zD).f1).bind fun b => (if b = true then (impl_ArrayRight.k0 n l ((i + 1 : Nat) : Int)) else (some (i : Int))) := by
        intro n
        simp only [impl_ArrayRight.k0, rdD_nat, wnat' i l.length (by omega) (by omega)]
        rw [if_pos (by omega), if_pos (by omega)]
      by_cases c : drvOk (l.getD i zD) = true
      · obtain ⟨r, hr2, hp⟩ := ih (i + 1) (by omega) (fun j hji => by
          by_cases e : j = i
          · subst e; exact c
          · exact hj j (by omega))
        exact ⟨r, Ev.step hst (Ev.bind hr (ev_if_pos c hr2)), hp⟩
      · refine ⟨(i : Int), Ev.step hst (Ev.bind hr (ev_if_neg c (Ev.now _))), ?_⟩
        have hall : (List.range l.length).all (fun i => drvOk (l.getD i zD)) = false := by
          rw [Bool.eq_false_iff]
          intro q
          exact c (List.all_eq_true.1 q i (List.mem_range.2 (by omega)))
        rw [hall]
        show decide (0 ≤ (i : Int)) = !false
        rw [decide_eq_true (by omega)]
        rfl
  obtain ⟨r, hr, hp⟩ := main l.length 0 (by omega) (fun j hj => absurd hj (by omega))
  exact Ev.bind hr (ev_eq hp)
theorem arrayRight_i (k m : Int) (l : List ID) (hl : l.length ≤ 1048576) (hf : ∀ x ∈ l, fits x) : Ev (fun n => impl_ArrayRight.f n k m l) (arrayRight k m l) := by
  refine ev_bind1 (codeRight_i k m) (Ev.bind (keys_i l hl hf) (ev_eq ?_))
  unfold arrayRight
  rw [Bool.not_not]
theorem kc_irrefl (l : List UInt8) : Op.bytesLess l l = false := by
  induction l with
  | nil => rfl
  | cons a l ih => simp [Op.bytesLess, ih]
theorem kc_cmpeq : ∀ (a b : List UInt8), Lib.compareBytes a b = if Op.bytesLess a b = true then -1 else if a = b then 0 else 1
  | [], [] => rfl
  | [], _ :: _ => rfl
  | _ :: _, [] => rfl
  | a :: xs, b :: bs => by
    have ih := kc_cmpeq xs bs
    simp only [Lib.compareBytes, ih, Op.bytesLess]
    by_cases h1 : a < b
    · simp [h1]
    · by_cases h2 : b < a
      · have h3 : a ≠ b := fun e => by subst e; exact h1 h2
        simp [h1, h2, h3]
      · have h3 : a = b := UInt8.le_antisymm (UInt8.not_lt.1 h2) (UInt8.not_lt.1 h1)
        subst h3
        simp [h1]
theorem kc_trans : ∀ (a b c : List UInt8), Op.bytesLess a b = true → Op.bytesLess b c = true → Op.bytesLess a c = true
  | [], [], _, h, _ => by cases h
  | [], _ :: _, [], _, h => by cases h
  | [], _ :: _, _ :: _, _, _ => rfl
  | _ :: _, [], _, h, _ => by cases h
  | _ :: _, _ :: _, [], _, h => by cases h
  | a :: xs, b :: ys, c :: zs, h, g => by
    have ih := kc_trans xs ys zs
    simp only [Op.bytesLess] at h g ⊢
    simp only [Bool.or_eq_true, Bool.and_eq_true, decide_eq_true_eq, beq_iff_eq] at h g ⊢
    rcases h with h | ⟨rfl, h⟩
    · rcases g with g | ⟨rfl, g⟩
      · exact .inl (UInt8.lt_trans h g)
      · exact .inl h
    · rcases g with g | ⟨rfl, g⟩
      · exact .inl g
      · exact .inr ⟨rfl, ih h g⟩
theorem kc_total : ∀ a b : List UInt8, Op.bytesLess a b = false → Op.bytesLess b a = false → a = b
  | [], [], _, _ => rfl
  | [], _ :: _, h, _ => by cases h
  | _ :: _, [], _, h => by cases h
  | x :: a, y :: b, h, g => by
    simp only [Op.bytesLess, Bool.or_eq_false_iff, Bool.and_eq_false_iff, decide_eq_false_iff_not, beq_eq_false_iff_ne] at h g
    have e : x = y := UInt8.le_antisymm (UInt8.not_lt.1 g.1) (UInt8.not_lt.1 h.1)
    subst e
    have h2 := h.2.resolve_left (fun q => q rfl)
    have g2 := g.2.resolve_left (fun q => q rfl)
    rw [kc_total a b h2 g2]
abbrev kpR (a b : ByteArray) : Prop := Op.bytesLess a.toList b.toList = true
theorem kp_inj {a b : ByteArray} (h : a.toList = b.toList) : a = b := by
  rw [ByteArray.toList_eq, ByteArray.toList_eq] at h
  exact ByteArray.ext (Array.toList_inj.1 h)
def putL (s : ByteArray) : List ByteArray → List ByteArray
  | [] => [s]
  | y :: r => if Op.bytesLess y.toList s.toList = true then y :: putL s r else if y.toList = s.toList then y :: r else s :: y :: r
theorem putL_len (s : ByteArray) : ∀ l, (putL s l).length ≤ l.length + 1
  | [] => by simp [putL]
  | y :: r => by
    rw [putL]
    have := putL_len s r
    split
    · simp only [List.length_cons]
      omega
    · split <;> simp
def putsL (ns out : List ByteArray) : List ByteArray := ns.foldl (fun o s => putL s o) out
theorem putsL_len : ∀ (ns out : List ByteArray), (putsL ns out).length ≤ out.length + ns.length
  | [], out => by simp [putsL]
  | s :: ns, out => by
    have h1 := putsL_len ns (putL s out)
    have h2 := putL_len s out
    show (putsL ns (putL s out)).length ≤ _
    simp only [List.length_cons]
    omega
theorem putL_mem (s x : ByteArray) : ∀ l, x ∈ putL s l ↔ x = s ∨ x ∈ l
  | [] => by simp [putL]
  | y :: r => by
    rw [putL]
    have ih := putL_mem s x r
    split
    · simp only [List.mem_cons, ih]
      exact ⟨fun h => by rcases h with h | h | h <;> simp [h], fun h => by rcases h with h | h | h <;> simp [h]⟩
    · split
      · rename_i _ h
        have e := kp_inj h
        subst e
        simp
      · simp
theorem putsL_mem (x : ByteArray) : ∀ (ns out : List ByteArray), x ∈ putsL ns out ↔ x ∈ ns ∨ x ∈ out
  | [], out => by simp [putsL]
  | s :: ns, out => by
    show x ∈ putsL ns (putL s out) ↔ _
    rw [putsL_mem x ns, putL_mem, List.mem_cons]
    exact ⟨fun h => by rcases h with h | h | h <;> simp [h], fun h => by rcases h with (h | h) | h <;> simp [h]⟩
theorem putL_sorted (s : ByteArray) : ∀ l, l.Pairwise kpR → (putL s l).Pairwise kpR
  | [], _ => List.pairwise_singleton _ _
  | y :: r, h => by
    have hp := h
    rw [List.pairwise_cons] at h
    rw [putL]
    split
    · rename_i q
      rw [List.pairwise_cons]
      refine ⟨fun z hz => ?_, putL_sorted s r h.2⟩
      rcases (putL_mem s z r).1 hz with rfl | hz
      · exact q
      · exact h.1 z hz
    · rename_i q
      split
      · exact hp
      · rename_i q2
        have hsy : kpR s y := by
          show Op.bytesLess s.toList y.toList = true
          rw [← Bool.not_eq_false]
          intro g
          rw [Bool.not_eq_true] at q
          exact q2 (kc_total _ _ q g)
        rw [List.pairwise_cons]
        refine ⟨fun z hz => ?_, hp⟩
        rcases List.mem_cons.1 hz with rfl | hz
        · exact hsy
        · exact kc_trans _ _ _ hsy (h.1 z hz)
theorem putsL_sorted : ∀ (ns out : List ByteArray), out.Pairwise kpR → (putsL ns out).Pairwise kpR
  | [], _, h => h
  | s :: ns, out, h => putsL_sorted ns (putL s out) (putL_sorted s out h)
theorem kp_irrefl (a : ByteArray) : ¬ kpR a a := by
  intro h
  have h : Op.bytesLess a.toList a.toList = true := h
  rw [kc_irrefl] at h
  cases h
theorem kp_ext : ∀ (a b : List ByteArray), a.Pairwise kpR → b.Pairwise kpR → (∀ x, x ∈ a ↔ x ∈ b) → a = b
  | [], [], _, _, _ => rfl
  | [], y :: b, _, _, h => by
    have := (h y).2 (by simp)
    cases this
  | x :: a, [], _, _, h => by
    have := (h x).1 (by simp)
    cases this
  | x :: a, y :: b, ha, hb, h => by
    rw [List.pairwise_cons] at ha hb
    have e : x = y := by
      rcases List.mem_cons.1 ((h x).1 (by simp)) with e | hx
      · exact e
      rcases List.mem_cons.1 ((h y).2 (by simp)) with e | hy
      · exact e.symm
      exact absurd (kc_trans _ _ _ (ha.1 y hy) (hb.1 x hx)) (kp_irrefl x)
    subst e
    congr 1
    refine kp_ext a b ha.2 hb.2 fun z => ⟨fun hz => ?_, fun hz => ?_⟩
    · rcases List.mem_cons.1 ((h z).1 (List.mem_cons_of_mem _ hz)) with rfl | g
      · exact absurd (ha.1 _ hz) (kp_irrefl _)
      · exact g
    · rcases List.mem_cons.1 ((h z).2 (List.mem_cons_of_mem _ hz)) with rfl | g
      · exact absurd (hb.1 _ hz) (kp_irrefl _)
      · exact g
theorem rdB (l : List ByteArray) (i : Nat) (h : i < l.length) : rdOf ByteArray.empty l (i : Int) = l[i] := by
  simp [rdOf, h]
theorem put_s (l : List ByteArray) (s : ByteArray) (hl : l.length ≤ 1000) : Ev (fun k => spec_l09Put.f k l s) (putL s l) := by
  unfold spec_l09Put.f
  have main : ∀ d i, i + d = l.length → Ev (fun k => spec_l09Put.l0 k l s (i : Int)) (l.take i ++ putL s (l.drop i)) := by
    intro d
    induction d with
    | zero =>
      intro i hi
      obtain rfl : i = l.length := by omega
      refine Ev.step (f := fun _ => some (l.take l.length ++ putL s (l.drop l.length))) (fun k => ?_) (Ev.now _)
      simp only [spec_l09Put.l0, Option.bind_some, Int.toNat_natCast, List.take_length, List.drop_length, putL, List.nil_append, List.length_append, List.length_nil, List.length_cons, List.append_nil]
      rw [if_neg (by omega), if_pos (by omega), if_pos (by omega), if_pos (by omega), if_pos (by omega), if_pos (by omega)]
    | succ d ih =>
      intro i hi
      have hlt : i < l.length := by omega
      have hd : l.drop i = l[i] :: l.drop (i + 1) := List.drop_eq_getElem_cons hlt
      have ht : l.take (i + 1) = l.take i ++ [l[i]] := List.take_succ_eq_append_getElem hlt
      rw [hd, putL]
      by_cases h1 : Op.bytesLess l[i].toList s.toList = true
      · rw [if_pos h1]
        have h := ih (i + 1) (by omega)
        rw [ht, List.append_assoc] at h
        refine Ev.step (fun k => ?_) h
        simp only [spec_l09Put.l0, rdB l i hlt, wnat i (by omega)]
        rw [if_pos (by omega), if_pos (by omega), if_pos h1]
      · rw [if_neg h1]
        by_cases h2 : l[i].toList = s.toList
        · rw [if_pos h2, ← hd, List.take_append_drop]
          refine Ev.step (f := fun _ => some l) (fun k => ?_) (Ev.now _)
          simp only [spec_l09Put.l0, rdB l i hlt]
          rw [if_pos (by omega), if_pos (by omega), if_neg h1, if_pos h2]
        · rw [if_neg h2, ← hd]
          refine Ev.step (f := fun _ => some (l.take i ++ s :: l.drop i)) (fun k => ?_) (Ev.now _)
          simp only [spec_l09Put.l0, rdB l i hlt, Option.bind_some, Int.toNat_natCast, List.nil_append, List.length_append, List.length_take, List.length_drop, List.length_cons, List.length_nil]
          rw [if_pos (by omega), if_pos (by omega), if_neg h1, if_neg h2, if_pos (by omega), if_pos (by omega), if_pos (by omega), if_pos (by omega), List.append_assoc]
          rfl
  have h := main l.length 0 (by omega)
  rwa [List.take_zero, List.drop_zero, List.nil_append] at h
theorem bl_lt (a b : List UInt8) : Op.bytesLess a b = true ↔ a < b := by
  rw [Go.Proofs.bytesLess_eq]
  exact decide_eq_true_iff
theorem on_sorted (zs : List (List UInt8)) : (zs.mergeSort fun x y => decide (x ≤ y)).Pairwise (fun a b => a ≤ b) := by
  have h := List.pairwise_mergeSort (le := fun x y : List UInt8 => decide (x ≤ y)) (fun a b c h1 h2 => decide_eq_true (List.le_trans (of_decide_eq_true h1) (of_decide_eq_true h2))) (fun a b => by
    rcases List.le_total a b with h | h
    · simp [h]
    · simp [h]) zs
  exact h.imp (fun h => of_decide_eq_true h)
theorem on_keeps {zs : List (List UInt8)} {j : Nat} (h : Go.Lib.keeps zs.toArray j = true) : j = 0 ∨ zs.toArray[j]! ≠ zs.toArray[j - 1]! := of_decide_eq_true h
theorem on_get (zs : List (List UInt8)) (j : Nat) (h : j < zs.length) : zs.toArray[j]! = zs[j] := by simp [h]
theorem compact_up (zs : List (List UInt8)) (hp : zs.Pairwise (fun a b => a ≤ b)) : (Lib.compact zs).Pairwise (fun a b => a < b) := by
  have hm : ∀ (i j : Nat) (hij : i < j) (hj : j < zs.length), zs[i]'(by omega) ≤ zs[j] := fun i j hij hj => (List.pairwise_iff_getElem.1 hp) i j (by omega) hj hij
  unfold Lib.compact Go.Lib.compactUpTo
  rw [List.pairwise_map]
  have h1 : (List.range zs.length).Pairwise (fun a b => a < b) := List.pairwise_lt_range
  refine (h1.filter _).imp_of_mem (fun {a b} ha hb hab => ?_)
  obtain ⟨hb1, hb2⟩ := List.mem_filter.1 hb
  have hbl := List.mem_range.1 hb1
  rw [on_get zs a (by omega), on_get zs b hbl]
  rcases on_keeps hb2 with e | e
  · omega
  · rw [on_get zs b hbl, on_get zs (b - 1) (by omega)] at e
    have h3 : zs[b - 1] ≤ zs[b] := hm (b - 1) b (by omega) hbl
    have h4 : zs[a]'(by omega) ≤ zs[b - 1]'(by omega) := by
      by_cases q : a = b - 1
      · subst q
        exact List.le_refl _
      · exact hm a (b - 1) (by omega) (by omega)
    have h5 : zs[b - 1]'(by omega) < zs[b] := by
      rcases Classical.em (zs[b - 1]'(by omega) < zs[b]) with g | g
      · exact g
      · exact absurd (List.le_antisymm h3 (List.not_lt.1 g)).symm e
    rcases Classical.em (zs[a]'(by omega) < zs[b]) with g | g
    · exact g
    · exact absurd (List.le_trans (List.not_lt.1 g) h4) (List.not_le.2 h5)
theorem compact_mem (zs : List (List UInt8)) (x : List UInt8) : x ∈ Lib.compact zs ↔ x ∈ zs := by
  unfold Lib.compact Go.Lib.compactUpTo
  rw [List.mem_map]
  constructor
  · rintro ⟨j, hj, rfl⟩
    have hl := List.mem_range.1 (List.mem_filter.1 hj).1
    rw [on_get zs j hl]
    exact List.getElem_mem hl
  · intro h
    obtain ⟨j, hj, rfl⟩ := List.mem_iff_getElem.1 h
    clear h
    induction j with
    | zero => exact ⟨0, List.mem_filter.2 ⟨List.mem_range.2 hj, by simp [Go.Lib.keeps]⟩, on_get zs 0 hj⟩
    | succ j ih =>
      by_cases e : zs[j + 1] = zs[j]
      · rw [e]
        exact ih (by omega)
      · refine ⟨j + 1, List.mem_filter.2 ⟨List.mem_range.2 hj, ?_⟩, on_get zs (j + 1) hj⟩
        refine decide_eq_true (.inr ?_)
        rw [on_get zs (j + 1) hj, show j + 1 - 1 = j by omega, on_get zs j (by omega)]
        exact e
theorem st_b_toList (x : ByteArray) : st_b x = x.toList := by
  rw [ByteArray.toList_eq]
  rfl
theorem st_m_toList (l : List UInt8) : (st_m l).toList = l := by
  rw [ByteArray.toList_eq]
  rfl
theorem on_final (N : List ByteArray) : st_compact (st_sorted N) = putsL N [] := by
  have hz : (st_sorted N).map st_b = (N.map st_b).mergeSort fun x y => decide (x ≤ y) := by
    unfold st_sorted
    rw [List.map_map]
    conv => rhs; rw [← List.map_id ((N.map st_b).mergeSort fun x y => decide (x ≤ y))]
    exact List.map_congr_left (fun a _ => rfl)
  unfold st_compact
  rw [hz]
  refine kp_ext _ _ ?_ (putsL_sorted N [] List.Pairwise.nil) (fun x => ?_)
  · rw [List.pairwise_map]
    refine (compact_up _ (on_sorted _)).imp (fun {a b} h => ?_)
    show Op.bytesLess (st_m a).toList (st_m b).toList = true
    rw [st_m_toList, st_m_toList]
    exact (bl_lt a b).2 h
  · rw [putsL_mem, List.mem_map]
    constructor
    · rintro ⟨b, hb, rfl⟩
      rw [compact_mem, List.mem_mergeSort, List.mem_map] at hb
      obtain ⟨y, hy, rfl⟩ := hb
      rw [st_mb]
      exact .inl hy
    · rintro (h | h)
      · exact ⟨st_b x, by rw [compact_mem, List.mem_mergeSort]; exact List.mem_map_of_mem h, st_mb x⟩
      · cases h
def namesOf (l : List ID) : List ByteArray := l.flatMap (fun d => (d.f0.map (fun x => x.f0)).filter isObject)
theorem nt_in_ev : ∀ (ns out : List ByteArray), (∀ s ∈ ns, s.size ≤ 9223372036854775807) → Ev (fun k => nt_in k ns out) (out ++ ns.filter isObject)
  | [], out, _ => by
    simp only [nt_in, List.filter_nil, List.append_nil]
    exact Ev.now _
  | s :: r, out, h => by
    simp only [nt_in]
    refine Ev.bind (object_i s (h s List.mem_cons_self)) ?_
    by_cases c : isObject s = true
    · refine ev_if_pos c ?_
      rw [List.filter_cons_of_pos c, show out ++ s :: r.filter isObject = (out ++ [s]) ++ r.filter isObject by simp]
      exact nt_in_ev r _ (fun t ht => h t (List.mem_cons_of_mem _ ht))
    · refine ev_if_neg c ?_
      rw [List.filter_cons_of_neg c]
      exact nt_in_ev r _ (fun t ht => h t (List.mem_cons_of_mem _ ht))
theorem nt_out_ev : ∀ (l : List ID) (out : List ByteArray), (∀ d ∈ l, d.f0.length ≤ 60 ∧ ∀ x ∈ d.f0, x.f0.size ≤ 9223372036854775807) → Ev (fun k => nt_out k l out) (out ++ namesOf l)
  | [], out, _ => by
    simp only [nt_out, namesOf, List.flatMap_nil, List.append_nil]
    exact Ev.now _
  | d :: r, out, h => by
    have hd := h d List.mem_cons_self
    simp only [nt_out]
    refine Ev.bind (names_i d.f0 d.f1 (by omega)) (ev_if_pos (by rw [List.length_map]; omega) ?_)
    refine Ev.bind (nt_in_ev _ out (fun s hs => by obtain ⟨x, hx, rfl⟩ := List.mem_map.1 hs; exact hd.2 x hx)) ?_
    have ih := nt_out_ev r (out ++ (d.f0.map (fun x => x.f0)).filter isObject) (fun t ht => h t (List.mem_cons_of_mem _ ht))
    rw [List.append_assoc] at ih
    exact ih
theorem objects_i (a b : Int) (l : List ID) (hl : l.length ≤ 14) (h : ∀ d ∈ l, d.f0.length ≤ 60 ∧ ∀ x ∈ d.f0, x.f0.size ≤ 9223372036854775807) : Ev (fun k => impl_Array_objects.f k a b l) (putsL (namesOf l) []) := by
  unfold impl_Array_objects.f
  refine ev_if_pos (by omega) (Ev.bind (nt_out_ev l [] h) (ev_eq ?_))
  rw [List.nil_append]
  exact on_final _
theorem namesOf_len : ∀ (l : List ID), (∀ d ∈ l, d.f0.length ≤ 60) → (namesOf l).length ≤ 60 * l.length
  | [], _ => by simp [namesOf]
  | d :: r, h => by
    have ih := namesOf_len r (fun t ht => h t (List.mem_cons_of_mem _ ht))
    have hd := h d List.mem_cons_self
    have hf := List.length_filter_le isObject (d.f0.map (fun x => x.f0))
    rw [List.length_map] at hf
    show ((d.f0.map (fun x => x.f0)).filter isObject ++ namesOf r).length ≤ _
    rw [List.length_append, List.length_cons]
    omega
theorem putsL_app (a b out : List ByteArray) : putsL (a ++ b) out = putsL b (putsL a out) := by
  unfold putsL
  rw [List.foldl_append]
theorem objects_s (a b : Int) (l : List ID) (hl : l.length ≤ 14) (h : ∀ d ∈ l, d.f0.length ≤ 60 ∧ ∀ x ∈ d.f0, x.f0.size ≤ 9223372036854775807) : Ev (fun k => spec_l09Names.f k a b l) (putsL (namesOf l) []) := by
  have inner : ∀ (i : Nat) (hi : i < l.length) (v : List ByteArray) (d j : Nat), j + d = (l.getD i zD).f0.length → ∀ out : List ByteArray, out.length ≤ 60 * i + j →
      Ev (fun k => spec_l09Names.l0 k (putsL ((((l.getD i zD).f0.drop j).map (fun x => x.f0)).filter isObject) out) ((i + 1 : Nat) : Int) a b l) v → Ev (fun k => spec_l09Names.l1 k out (i : Int) (j : Int) a b l) v := by
    intro i hi v d
    have hm := h _ (memD l i hi)
    induction d with
    | zero =>
      intro j hj out ho hv
      rw [List.drop_of_length_le (by omega)] at hv
      refine Ev.step (fun k => ?_) hv
      simp only [spec_l09Names.l1, rdD_nat, wnat i (by omega)]
      rw [if_pos (by omega), if_pos (by omega), if_neg (by omega)]
      rfl
    | succ d ih =>
      intro j hj out ho hv
      have hlt : j < (l.getD i zD).f0.length := by omega
      rw [List.drop_eq_getElem_cons hlt, List.map_cons] at hv
      have e : (l.getD i zD).f0.getD j zF = (l.getD i zD).f0[j] := getF _ j hlt
      have hs : (l.getD i zD).f0[j].f0.size ≤ 9223372036854775807 := hm.2 _ (List.getElem_mem hlt)
      have ho2 := object_s _ hs
      by_cases c : isObject (l.getD i zD).f0[j].f0 = true
      · rw [List.filter_cons_of_pos c] at hv
        have hput := put_s out (l.getD i zD).f0[j].f0 (by omega)
        have hlen := putL_len (l.getD i zD).f0[j].f0 out
        have h2 := ih (j + 1) (by omega) (putL (l.getD i zD).f0[j].f0 out) (by omega) hv
        refine Ev.step (f := fun k => (spec_ObjectRight.f k (l.getD i zD).f0[j].f0).bind fun t => if t = true then ((spec_l09Put.f k out (l.getD i zD).f0[j].f0).bind fun q => spec_l09Names.l1 k q (i : Int) ((j + 1 : Nat) : Int) a b l) else spec_l09Names.l1 k out (i : Int) ((j + 1 : Nat) : Int) a b l) (fun k => ?_) (Ev.bind ho2 (ev_if_pos c (Ev.bind hput h2)))
        simp only [spec_l09Names.l1, rdD_nat, rdF, e, wnat j (by omega)]
        rw [if_pos (by omega), if_pos (by omega), if_pos (by omega), if_pos (by omega)]
      · rw [List.filter_cons_of_neg c] at hv
        have h2 := ih (j + 1) (by omega) out (by omega) hv
        refine Ev.step (f := fun k => (spec_ObjectRight.f k (l.getD i zD).f0[j].f0).bind fun t => if t = true then ((spec_l09Put.f k out (l.getD i zD).f0[j].f0).bind fun q => spec_l09Names.l1 k q (i : Int) ((j + 1 : Nat) : Int) a b l) else spec_l09Names.l1 k out (i : Int) ((j + 1 : Nat) : Int) a b l) (fun k => ?_) (Ev.bind ho2 (ev_if_neg c h2))
        simp only [spec_l09Names.l1, rdD_nat, rdF, e, wnat j (by omega)]
        rw [if_pos (by omega), if_pos (by omega), if_pos (by omega), if_pos (by omega)]
  have outer : ∀ (d i : Nat), i + d = l.length → ∀ out : List ByteArray, out.length ≤ 60 * i → Ev (fun k => spec_l09Names.l0 k out (i : Int) a b l) (putsL (namesOf (l.drop i)) out) := by
    intro d
    induction d with
    | zero =>
      intro i hi out ho
      rw [List.drop_of_length_le (by omega)]
      refine Ev.step (f := fun _ => some out) (fun k => ?_) (Ev.now _)
      simp only [spec_l09Names.l0]
      rw [if_neg (by omega)]
    | succ d ih =>
      intro i hi out ho
      have hlt : i < l.length := by omega
      have hm := h _ (memD l i hlt)
      have e : l.drop i = l.getD i zD :: l.drop (i + 1) := by
        rw [List.drop_eq_getElem_cons hlt, List.getD_eq_getElem?_getD, List.getElem?_eq_getElem hlt]
        rfl
      have hlen := putsL_len (((l.getD i zD).f0.map (fun x => x.f0)).filter isObject) out
      have hf := List.length_filter_le isObject ((l.getD i zD).f0.map (fun x => x.f0))
      rw [List.length_map] at hf
      have h2 := ih (i + 1) (by omega) (putsL (((l.getD i zD).f0.map (fun x => x.f0)).filter isObject) out) (by omega)
      rw [e]
      show Ev _ (putsL (((l.getD i zD).f0.map (fun x => x.f0)).filter isObject ++ namesOf (l.drop (i + 1))) out)
      rw [putsL_app]
      have h3 := inner i hlt _ (l.getD i zD).f0.length 0 (by omega) out (by omega) (by rw [List.drop_zero]; exact h2)
      refine Ev.step (fun k => ?_) h3
      simp only [spec_l09Names.l0]
      rw [if_pos (by omega)]
      rfl
  unfold spec_l09Names.f
  have h0 := outer l.length 0 (by omega) [] (by simp)
  rw [List.drop_zero] at h0
  exact h0
def objectNames (k m : Int) (l : List ID) : List ByteArray := if arrayRight k m l = true then putsL (namesOf l) [] else []
theorem arrayRight_bounds {k m : Int} {l : List ID} (h : arrayRight k m l = true) : l.length ≤ 14 ∧ ∀ d ∈ l, d.f0.length ≤ 60 := by
  unfold arrayRight codeRight at h
  simp only [Bool.and_eq_true, decide_eq_true_eq, List.all_eq_true] at h
  obtain ⟨⟨⟨⟨h1, h2⟩, h3, h4⟩, h5⟩, h6⟩ := h
  refine ⟨?_, fun d hd => ?_⟩
  · unfold wrap64 at h5
    omega
  · obtain ⟨j, hj, rfl⟩ := List.mem_iff_getElem.1 hd
    have h7 := h6 j (List.mem_range.2 hj)
    rw [List.getD_eq_getElem?_getD, List.getElem?_eq_getElem hj] at h7
    have h8 : driveRight l[j].f0 l[j].f1 = true := h7
    unfold driveRight at h8
    simp only [Bool.and_eq_true, decide_eq_true_eq] at h8
    exact h8.1.1
theorem objectNames_s (k m : Int) (l : List ID) (hl : l.length ≤ 1048576) (hf : ∀ x ∈ l, fits x) : Ev (fun n => spec_ObjectNames.f n k m l) (objectNames k m l) := by
  unfold spec_ObjectNames.f objectNames
  refine Ev.bind (arrayRight_s k m l hl hf) ?_
  by_cases c : arrayRight k m l = true
  · have hb := arrayRight_bounds c
    rw [if_pos c]
    exact ev_if_pos c (Ev.bind (objects_s k m l hb.1 (fun d hd => ⟨hb.2 d hd, (hf d hd).1⟩)) (Ev.now _))
  · rw [if_neg c]
    exact ev_if_neg c (Ev.now _)
theorem objectNames_i (k m : Int) (l : List ID) (hl : l.length ≤ 1048576) (hf : ∀ x ∈ l, fits x) : Ev (fun n => impl_ObjectNames.f n k m l) (objectNames k m l) := by
  unfold impl_ObjectNames.f objectNames
  refine Ev.bind (arrayRight_i k m l hl hf) ?_
  by_cases c : arrayRight k m l = true
  · have hb := arrayRight_bounds c
    rw [if_pos c]
    exact ev_if_pos c (Ev.bind (objects_i k m l hb.1 (fun d hd => ⟨hb.2 d hd, (hf d hd).1⟩)) (Ev.now _))
  · rw [if_neg c]
    exact ev_if_neg c (Ev.now _)
theorem objectNames_len (k m : Int) (l : List ID) : (objectNames k m l).length ≤ 840 := by
  unfold objectNames
  split
  · rename_i c
    have hb := arrayRight_bounds c
    have h1 := putsL_len (namesOf l) []
    have h2 := namesOf_len l hb.2
    simp only [List.length_nil] at h1
    omega
  · simp
/-- an array's drives are marked: the number goes up. -/
theorem markDriveS_evs (l : List ID) (m : Nat) (hl : l.length ≤ 1048576) (hk : ∀ x ∈ l, x.f0.length ≤ 1048576) (hm : m ≤ 4294967296) : Evs (fun k => laws_markDriveS.f k l (m : Int)) (fun r => 0 ≤ r.1) := by
  unfold laws_markDriveS.f
  refine loop_evs (fun k (s : List ID × Int) i => laws_markDriveS.l0 k s.1 s.2 i) l.length (fun i s => s.1.length = l.length ∧ (∀ j, i ≤ j → s.1[j]? = l[j]?) ∧ ∃ q : Nat, s.2 = (q : Int) ∧ q ≤ m + i * 3145729) _ (fun i s hi hv => ?_) (fun s hv => ?_) (l, (m : Int)) ⟨rfl, fun _ _ => rfl, m, rfl, by omega⟩
  · obtain ⟨x, k1⟩ := s
    obtain ⟨h1, h2, q, rfl, h3⟩ := hv
    simp only at h1 h2
    have he : x.getD i zD = l[i] := by
      rw [List.getD_eq_getElem?_getD, h2 i (Nat.le_refl _), List.getElem?_eq_getElem hi]
      rfl
    have hf : l[i].f0.length ≤ 1048576 := hk _ (List.getElem_mem hi)
    obtain ⟨⟨p1, p2⟩, hp, hq⟩ := markStoredS_evs l[i].f0 q (by omega) (by omega)
    simp only at hq
    subst hq
    refine ⟨(x.set i ⟨p2, ((q + 3 * l[i].f0.length : Nat) : Int)⟩, ((q + 3 * l[i].f0.length + 1 : Nat) : Int)), ⟨by simp [h1], fun j hj => ?_, _, rfl, by omega⟩, fun v hv => ?_⟩
    · show (x.set i _)[j]? = _
      rw [List.getElem?_set_ne (by omega)]
      exact h2 j (by omega)
    · refine Ev.step (f := fun k => (laws_markStoredS.f k l[i].f0 (q : Int)).bind fun p => laws_markDriveS.l0 k (x.set i (⟨p.2, p.1⟩ : ID)) (wrap64 (p.1 + 1)) ((i + 1 : Nat) : Int)) (fun k => ?_) (Ev.bind hp ?_)
      · simp only [laws_markDriveS.l0, rdD_nat, he, Int.toNat_natCast, wnat i (by omega)]
        rw [if_pos (by omega), if_pos (by omega)]
      · simp only [wnat (q + 3 * l[i].f0.length) (by omega)]
        exact hv
  · obtain ⟨x, k1⟩ := s
    obtain ⟨h1, h2, q, rfl, h3⟩ := hv
    simp only at h1
    refine ⟨_, Ev.step (f := fun _ => some ((q : Int), x)) (fun k => ?_) (Ev.now _), by show (0 : Int) ≤ (q : Int); omega⟩
    simp only [laws_markDriveS.l0]
    rw [if_neg (by omega)]
theorem FnExactObjectNames : FnExactObjectNames_Pure := by
  intro k m l hk hm hl hok
  refine Ev.rounds (g := fun n => laws_FnExactObjectNames.f n k m l) (Evs.ev ?_)
  unfold laws_FnExactObjectNames.f
  have hsz : Evs (fun n => laws_szArray.f n k m l 1048576) (fun r => 0 ≤ r → (l.length : Int) ≤ 1048576 ∧ ∀ x ∈ l, wDrive x ≤ 1048576) := by
    unfold laws_szArray.f
    refine Evs.bind (szDriveS_evs l 1048576 (by omega) (by omega) hl hok) (fun r hr => Evs.ite (fun _ => Evs.now _ (by omega)) (fun hn => Evs.now _ (fun h0 => ?_)))
    have := hr h0
    exact ⟨by omega, this.2⟩
  refine Evs.bind hsz (fun r hr => Evs.ite (fun _ => Evs.now _ rfl) (fun hn => ?_))
  obtain ⟨hl2, hw⟩ := hr (by omega)
  have hu : ∀ q : List S247, usedOf (q.map toStored) ≤ (q.map (fun x => wStored x)).sum := by
    intro q
    induction q with
    | nil => exact Int.le_refl _
    | cons a q ih =>
      have e : usedOf ((a :: q).map toStored) = (a.f1.size : Int) + usedOf (q.map toStored) := rfl
      have e2 : ((a :: q).map (fun x => wStored x)).sum = ((a.f0.size : Int) + (a.f1.size : Int)) + (q.map (fun x => wStored x)).sum := rfl
      rw [e, e2]
      omega
  have hW : ∀ x ∈ l, (x.f0.length : Int) + (x.f0.map (fun y => wStored y)).sum ≤ 1048576 := fun x hx => hw x hx
  have hpos : ∀ x : LD, 0 ≤ (x.f0.map (fun y => wStored y)).sum := fun x => sum_pos (fun y => wStored y) x.f0 (fun y => wStored_pos y)
  have hlen : ∀ x ∈ l, x.f0.length ≤ 1048576 := fun x hx => by
    have := hW x hx
    have := hpos x
    omega
  have hf : ∀ y ∈ l.map toD, fits y := by
    intro y hy
    obtain ⟨x, hx, rfl⟩ := List.mem_map.1 hy
    refine ⟨fun z hz => ?_, ?_⟩
    · obtain ⟨s, hs, rfl⟩ := List.mem_map.1 hz
      exact ((hok x hx).1.2 s hs).1
    · have h1 := hu x.f0
      have h2 := hW x hx
      show usedOf (x.f0.map toStored) ≤ 9223372036854775807
      omega
  have hto : Ev (fun n => laws_toArray.f n k m l) (k, m, l.map toD) := Ev.bind (toDriveS_ev l (by omega) hlen) (Ev.now _)
  have hlm : (l.map toD).length ≤ 1048576 := by rw [List.length_map]; omega
  have hfl : ∀ y ∈ l.map toD, y.f0.length ≤ 1048576 := fun y hy => by
    obtain ⟨x, hx, rfl⟩ := List.mem_map.1 hy
    have := hlen x hx
    show (x.f0.map toStored).length ≤ _
    rw [List.length_map]
    omega
  have heq : Ev (fun n => laws_eqArray.f n k m (l.map toD) k m (l.map toD)) true :=
    ev_if_pos rfl (ev_if_pos rfl (Ev.bind (eqDriveS_refl _ (by omega) (fun y hy => by have := hfl y hy; omega)) (ev_if_pos rfl (Ev.now _))))
  have hS := objectNames_s k m _ hlm hf
  have hI := objectNames_i k m _ hlm hf
  have hL := objectNames_len k m (l.map toD)
  obtain ⟨mr, hm1, hm2⟩ := markDriveS_evs (l.map toD) 1 hlm hfl (by omega)
  generalize l.map toD = L at *
  generalize objectNames k m L = G at *
  have hms := markStringS_ev G 1 (by omega) (by omega)
  have hhs := heldStringS_ev G.length 1 (by omega) (by omega)
  have hes := eqStringS_refl G (by omega)
  have hma : Ev (fun n => laws_markArray.f n k m L 1) mr := hm1
  refine ⟨true, Ev.bind hto (Ev.bind hS (Ev.bind hI (Ev.bind hes (ev_if_pos rfl (Ev.bind heq (ev_if_pos rfl (Ev.bind hma (ev_if_neg (by omega) (Ev.bind hms (Ev.bind hhs (ev_if_neg (by omega) (ev_if_pos (by simp) (Ev.now _))))))))))))), rfl⟩
end Go.Proofs.Ytdbnajnelbebfaa.Pure
