/- The plain law of FnExactDriveNames: at every drive DriveNames answers as the reference, and what it gives shares nothing. -/
import Derived.Test.YteljfdhjbnlgoaaOkFnExactDriveNames
import Derived.Test.YteljfdhjbnlgoaaLib
namespace Go.Proofs.Yteljfdhjbnlgoaa.Pure
open Go.RowKit Go.Proofs.Yteljfdhjbnlgoaa.PFnExactDriveNames Go.Proofs.Yteljfdhjbnlgoaa.Lib Go.Proofs.YteljfdhjbnlgoaaW.PrintWords Go.Proofs.YteljfdhjbnlgoaaW.PrintLast
set_option linter.unusedVariables false
set_option linter.unusedSimpArgs false
theorem nameRight_l0 (s : ByteArray) (hs : s.size ≤ 9223372036854775807) (d : Nat) : ∀ (i k : Nat), i + d = s.size → d < k → spec_NameRight.l0 k s (i : Int) = some (nameOk s d i) := by
  induction d with
  | zero =>
    intro i k hi hk
    obtain ⟨k, rfl⟩ : ∃ m, k = m + 1 := ⟨k - 1, by omega⟩
    simp only [spec_NameRight.l0]
    rw [if_neg (by omega)]
    rfl
  | succ d ih =>
    intro i k hi hk
    obtain ⟨k, rfl⟩ : ∃ m, k = m + 1 := ⟨k - 1, by omega⟩
    have e : wrap64 ((i : Int) + 1) = ((i + 1 : Nat) : Int) := by rw [w64 (by omega) (by omega)]; omega
    have h := ih (i + 1) k (by omega) (by omega)
    simp only [spec_NameRight.l0, e, h]
    rw [if_pos (by omega), if_pos (by omega)]
    exact nameStep _ _ _
theorem nameRight_ev (s : ByteArray) (hs : s.size ≤ 9223372036854775807) : Ev (fun k => spec_NameRight.f k s) (isName s 80) := by
  refine ev_from (s.size + 3) fun k hk => ?_
  obtain ⟨k, rfl⟩ : ∃ m, k = m + 1 := ⟨k - 1, by omega⟩
  have h := nameRight_l0 s hs s.size 0 k (by omega) (by omega)
  simp only [spec_NameRight.f, spec_NameRight.j0]
  have h' : spec_NameRight.l0 k s 0 = some (nameOk s s.size 0) := h
  rw [h']
  unfold isName
  generalize nameOk s s.size 0 = X
  grind
theorem isName_l0 (s : ByteArray) (most : Int) (hs : s.size ≤ 9223372036854775807) (d : Nat) : ∀ (i k : Nat), i + d = s.size → d < k → impl_isName.l0 k s most s.size (i : Int) = some (nameOk s d i && (decide ((s.size : Int) ≥ 1) && decide ((s.size : Int) ≤ most))) := by
  induction d with
  | zero =>
    intro i k hi hk
    obtain ⟨k, rfl⟩ : ∃ m, k = m + 1 := ⟨k - 1, by omega⟩
    simp only [impl_isName.l0, impl_long.f, impl_within.f, Option.bind_some, nameOk]
    rw [if_neg (by omega)]
    grind
  | succ d ih =>
    intro i k hi hk
    obtain ⟨k, rfl⟩ : ∃ m, k = m + 1 := ⟨k - 1, by omega⟩
    have e : wrap64 ((i : Int) + 1) = ((i + 1 : Nat) : Int) := by rw [w64 (by omega) (by omega)]; omega
    have h := ih (i + 1) k (by omega) (by omega)
    simp only [impl_isName.l0, e, h]
    rw [if_pos (by omega), if_pos (by omega), if_pos (by omega)]
    refine (nameStep _ _ _).trans ?_
    simp [nameOk, Bool.and_assoc]
theorem isName_ev (s : ByteArray) (most : Int) (hs : s.size ≤ 9223372036854775807) : Ev (fun k => impl_isName.f k s most) (isName s most) := by
  refine ev_from (s.size + 3) fun k hk => ?_
  have h := isName_l0 s most hs s.size 0 k (by omega) (by omega)
  simp only [impl_isName.f]
  exact h
theorem within_eq (a b c : Int) : impl_within.f a b c = some (decide (b ≤ a) && decide (a ≤ c)) := by
  unfold impl_within.f
  by_cases h : a ≥ b <;> simp [h]
abbrev IF := S127
abbrev zF := z127
def fileOk (x : IF) : Bool := isName x.f0 80 && (decide ((x.f1.size : Int) ≤ 20000) && (decide (0 ≤ x.f2) && decide (x.f2 ≤ (x.f1.size : Int))))
def fileAt (l : List IF) (i : Nat) : Bool := isName (l.getD i zF).f0 80 && ((i == 0 || Op.bytesLess (l.getD (i - 1) zF).f0.toList (l.getD i zF).f0.toList) && (decide (((l.getD i zF).f1.size : Int) ≤ 20000) && (decide (0 ≤ (l.getD i zF).f2) && decide ((l.getD i zF).f2 ≤ ((l.getD i zF).f1.size : Int)))))
def usedOf (l : List IF) : Int := (l.map (fun x => (x.f1.size : Int))).sum
def driveRight (l : List IF) (room : Int) : Bool := (decide (l.length ≤ 60) && (decide (0 ≤ room) && decide (room ≤ 100000))) && ((List.range l.length).all (fileAt l) && decide (usedOf l ≤ room))
theorem rdF (l : List IF) (i : Nat) : rd_T127 l (i : Int) = l.getD i zF := by
  unfold rd_T127
  rw [Int.toNat_natCast]
theorem memF (l : List IF) (i : Nat) (h : i < l.length) : l.getD i zF ∈ l := by
  rw [List.getD_eq_getElem?_getD, List.getElem?_eq_getElem h]
  exact List.getElem_mem h
theorem getF (l : List IF) (i : Nat) (h : i < l.length) : l.getD i zF = l[i] := by
  rw [List.getD_eq_getElem?_getD, List.getElem?_eq_getElem h]
  rfl
theorem usedOf_pos (l : List IF) : 0 ≤ usedOf l := sum_pos _ l (fun x => by omega)
/-- what a drive's files hold, as far as numbers go. -/
theorem used_s (l : List IF) (room : Int) (hl : l.length ≤ 60) (hu : usedOf l ≤ 9223372036854775807) : Ev (fun k => spec_l08Bytes.f k l room) (usedOf l) := by
  unfold spec_l08Bytes.f
  refine loop_ev (fun k (s : Int) i => spec_l08Bytes.l0 k s i l room) l.length (by omega) 0 (fun i s => s = usedOf (l.take i)) _ (fun k i s hi hs hK hw => ?_) (fun k s hs => ?_) 0 rfl
  · subst hs
    have ht := sum_take_succ (fun x : IF => (x.f1.size : Int)) l i hi
    have hp := usedOf_pos (l.take i)
    have hle : usedOf (l.take (i + 1)) ≤ usedOf l := by
      unfold usedOf
      have h1 := sum_pos (fun x : IF => (x.f1.size : Int)) (l.drop (i + 1)) (fun x => by omega)
      have h2 : (l.map (fun x : IF => (x.f1.size : Int))).sum = ((l.take (i + 1)).map (fun x : IF => (x.f1.size : Int))).sum + ((l.drop (i + 1)).map (fun x : IF => (x.f1.size : Int))).sum := by
        rw [← List.sum_append, ← List.map_append, List.take_append_drop]
      omega
    have e : usedOf (l.take (i + 1)) = usedOf (l.take i) + (l[i].f1.size : Int) := ht
    refine Or.inl ⟨usedOf (l.take (i + 1)), rfl, ?_⟩
    simp only [spec_l08Bytes.l0, rdF, hw]
    rw [if_pos (by omega), if_pos (by omega), getF l i hi, w64 (by omega) (by omega), e]
  · subst hs
    simp only [spec_l08Bytes.l0]
    rw [if_neg (by omega), List.take_of_length_le (Nat.le_refl _)]
theorem used_i (l : List IF) (room : Int) (hl : l.length ≤ 60) (hu : usedOf l ≤ 9223372036854775807) : Ev (fun k => impl_Drive_used.f k l room) (usedOf l) := by
  unfold impl_Drive_used.f
  refine loop_ev (fun k (s : Int) i => impl_Drive_used.l0 k s l (l.length : Int) i) l.length (by omega) 0 (fun i s => s = usedOf (l.take i)) _ (fun k i s hi hs hK hw => ?_) (fun k s hs => ?_) 0 rfl
  · subst hs
    have ht := sum_take_succ (fun x : IF => (x.f1.size : Int)) l i hi
    have hp := usedOf_pos (l.take i)
    have hle : usedOf (l.take (i + 1)) ≤ usedOf l := by
      unfold usedOf
      have h1 := sum_pos (fun x : IF => (x.f1.size : Int)) (l.drop (i + 1)) (fun x => by omega)
      have h2 : (l.map (fun x : IF => (x.f1.size : Int))).sum = ((l.take (i + 1)).map (fun x : IF => (x.f1.size : Int))).sum + ((l.drop (i + 1)).map (fun x : IF => (x.f1.size : Int))).sum := by
        rw [← List.sum_append, ← List.map_append, List.take_append_drop]
      omega
    have e : usedOf (l.take (i + 1)) = usedOf (l.take i) + (l[i].f1.size : Int) := ht
    refine Or.inl ⟨usedOf (l.take (i + 1)), rfl, ?_⟩
    simp only [impl_Drive_used.l0, rdF, hw, impl_long.f, Option.bind_some]
    rw [if_pos (by omega), if_pos (by omega), if_pos (by omega), getF l i hi, w64 (by omega) (by omega), e]
  · subst hs
    simp only [impl_Drive_used.l0]
    rw [if_neg (by omega), List.take_of_length_le (Nat.le_refl _)]
theorem prevF (l : List IF) (i : Nat) (h0 : 0 < i) (h : i < l.length) (hl : l.length ≤ 60) : rd_T127 l (wrap64 ((i : Int) - 1)) = l.getD (i - 1) zF ∧ 0 ≤ wrap64 ((i : Int) - 1) ∧ wrap64 ((i : Int) - 1) < (l.length : Int) := getD_prev l i _ h0 h (by omega)
theorem fileAt_head (l : List IF) (i : Nat) (h : ¬ isName (l.getD i zF).f0 80 = true) : fileAt l i = false := by
  rw [Bool.not_eq_true] at h
  unfold fileAt
  rw [h]
  rfl
theorem driveRight_s (l : List IF) (room : Int) (hs : ∀ x ∈ l, x.f0.size ≤ 9223372036854775807) (hu : usedOf l ≤ 9223372036854775807) : Ev (fun k => spec_DriveRight.f k l room) (driveRight l room) := by
  unfold spec_DriveRight.f
  have bad : ∀ v : Bool, v = false → Ev (fun k => spec_DriveRight.j0 k true l room) v := fun v hv => Ev.step (f := fun _ => some false) (fun k => by simp only [spec_DriveRight.j0]; rfl) (hv ▸ Ev.now _)
  by_cases h1 : (l.length : Int) > 60
  · exact ev_if_pos h1 (bad _ (by unfold driveRight; rw [decide_eq_false (by omega)]; rfl))
  refine ev_if_neg h1 ?_
  by_cases h2 : room < 0
  · exact ev_if_pos h2 (bad _ (by unfold driveRight; rw [decide_eq_false (show ¬ 0 ≤ room by omega)]; simp))
  refine ev_if_neg h2 ?_
  by_cases h3 : room > 100000
  · rw [decide_eq_true h3]
    exact bad _ (by unfold driveRight; rw [decide_eq_false (show ¬ room ≤ 100000 by omega)]; simp)
  rw [decide_eq_false h3]
  refine Ev.step (f := fun k => spec_DriveRight.l0 k 0 l room) (fun k => by simp only [spec_DriveRight.j0]; rfl) ?_
  unfold driveRight
  rw [decide_eq_true (show l.length ≤ 60 by omega), decide_eq_true (show 0 ≤ room by omega), decide_eq_true (show room ≤ 100000 by omega)]
  simp only [Bool.true_and]
  obtain ⟨K, hK⟩ := ev_all (fun (x : IF) k => spec_NameRight.f k x.f0) (fun x => isName x.f0 80) l (fun x hx => nameRight_ev _ (hs x hx))
  obtain ⟨K2, hK2⟩ := used_s l room (by omega) hu
  refine loop_allK (fun k i => spec_DriveRight.l0 k i l room) l.length (by omega) (K + K2) (fileAt l) (decide (usedOf l ≤ room)) (fun k i hi hk hw => ?_) (fun k hk => by simp only [spec_DriveRight.l0]; rw [if_neg (by omega), show spec_l08Bytes.f k l room = some (usedOf l) from hK2 k (by omega)]; rfl)
  have hr := hK _ (memF l i hi) k (by omega)
  simp only [spec_DriveRight.l0, rdF, hr, hw, Option.bind_some]
  rw [if_pos (by omega), if_pos (by omega)]
  by_cases hx : isName (l.getD i zF).f0 80 = true
  · rw [if_pos hx]
    have tail : ∀ A : Option Bool, (if (((l.getD i zF).f1).size : Int) > 20000 then (some false) else (if ((l.getD i zF).f2) < 0 then (some false) else (if ((l.getD i zF).f2) > (((l.getD i zF).f1).size : Int) then (some false) else A))) = if (decide (((l.getD i zF).f1.size : Int) ≤ 20000) && (decide (0 ≤ (l.getD i zF).f2) && decide ((l.getD i zF).f2 ≤ ((l.getD i zF).f1.size : Int)))) = true then A else some false := by
      intro A
      by_cases c1 : (((l.getD i zF).f1).size : Int) > 20000
      · rw [if_pos c1, decide_eq_false (by omega)]; rfl
      rw [if_neg c1, decide_eq_true (show (((l.getD i zF).f1).size : Int) ≤ 20000 by omega)]
      by_cases c2 : ((l.getD i zF).f2) < 0
      · rw [if_pos c2, decide_eq_false (show ¬ 0 ≤ ((l.getD i zF).f2) by omega)]; rfl
      rw [if_neg c2, decide_eq_true (show 0 ≤ ((l.getD i zF).f2) by omega)]
      by_cases c3 : ((l.getD i zF).f2) > (((l.getD i zF).f1).size : Int)
      · rw [if_pos c3, decide_eq_false (show ¬ ((l.getD i zF).f2) ≤ (((l.getD i zF).f1).size : Int) by omega)]; rfl
      · rw [if_neg c3, decide_eq_true (show ((l.getD i zF).f2) ≤ (((l.getD i zF).f1).size : Int) by omega)]; rfl
    by_cases h0 : 0 < i
    · obtain ⟨q1, q2, q3⟩ := prevF l i h0 hi (by omega)
      rw [if_pos (by omega), if_pos q2, if_pos q3, q1]
      have hi0 : (i == 0) = false := beq_eq_false_iff_ne.2 (by omega)
      unfold fileAt
      by_cases hl : Op.bytesLess (l.getD (i - 1) zF).f0.toList (l.getD i zF).f0.toList = true
      · rw [if_pos hl, tail, hx, hi0, hl]; rfl
      · rw [if_neg hl]
        rw [Bool.not_eq_true] at hl
        rw [hx, hi0, hl]; rfl
    · obtain rfl : i = 0 := by omega
      rw [if_neg (by omega), tail]
      unfold fileAt
      rw [hx]; rfl
  · rw [if_neg hx, fileAt_head l i hx]; rfl
theorem driveRight_i (l : List IF) (room : Int) (hs : ∀ x ∈ l, x.f0.size ≤ 9223372036854775807) (hu : usedOf l ≤ 9223372036854775807) : Ev (fun k => impl_DriveRight.f k l room) (driveRight l room) := by
  unfold impl_DriveRight.f
  have bad : ∀ v : Bool, v = false → Ev (fun k => impl_DriveRight.j0 k true l room) v := fun v hv => Ev.step (f := fun _ => some false) (fun k => by simp only [impl_DriveRight.j0]; rfl) (hv ▸ Ev.now _)
  by_cases h1 : (l.length : Int) > 60
  · exact ev_if_pos h1 (bad _ (by unfold driveRight; rw [decide_eq_false (by omega)]; rfl))
  refine ev_if_neg h1 (ev_bind1 (within_eq _ _ _) ?_)
  by_cases h2 : ¬ (decide (0 ≤ room) && decide (room ≤ 100000)) = true
  · rw [Bool.not_eq_true] at h2
    rw [h2]
    exact bad _ (by unfold driveRight; rw [h2]; simp)
  rw [Decidable.not_not] at h2
  rw [h2]
  refine Ev.step (f := fun k => impl_DriveRight.l0 k l (l.length : Int) 0 l room) (fun k => by simp only [impl_DriveRight.j0]; rfl) ?_
  unfold driveRight
  rw [decide_eq_true (show l.length ≤ 60 by omega), h2]
  simp only [Bool.true_and]
  obtain ⟨K, hK⟩ := ev_all (fun (x : IF) k => impl_NameRight.f k x.f0) (fun x => isName x.f0 80) l (fun x hx => Ev.bind (isName_ev _ 80 (hs x hx)) (Ev.now _))
  obtain ⟨K2, hK2⟩ := used_i l room (by omega) hu
  refine loop_allK (fun k i => impl_DriveRight.l0 k l (l.length : Int) i l room) l.length (by omega) (K + K2) (fileAt l) (decide (usedOf l ≤ room)) (fun k i hi hk hw => ?_) (fun k hk => by simp only [impl_DriveRight.l0]; rw [if_neg (by omega), show impl_Drive_used.f k l room = some (usedOf l) from hK2 k (by omega)]; rfl)
  have hr := hK _ (memF l i hi) k (by omega)
  simp only [impl_DriveRight.l0, rdF, hr, hw, Option.bind_some, impl_isLong.f, impl_long.f, within_eq]
  rw [if_pos (by omega), if_pos (by omega), if_pos (by omega)]
  by_cases hx : isName (l.getD i zF).f0 80 = true
  · rw [if_pos hx]
    have tail : ∀ A : Option Bool, (if decide ((((l.getD i zF).f1).size : Int) > 20000) = true then (some false) else (if (decide (0 ≤ (l.getD i zF).f2) && decide ((l.getD i zF).f2 ≤ ((l.getD i zF).f1.size : Int))) = true then A else some false)) = if (decide (((l.getD i zF).f1.size : Int) ≤ 20000) && (decide (0 ≤ (l.getD i zF).f2) && decide ((l.getD i zF).f2 ≤ ((l.getD i zF).f1.size : Int)))) = true then A else some false := by
      intro A
      by_cases c1 : (((l.getD i zF).f1).size : Int) > 20000
      · rw [decide_eq_true c1, decide_eq_false (show ¬ (((l.getD i zF).f1).size : Int) ≤ 20000 by omega)]; rfl
      · rw [decide_eq_false c1, decide_eq_true (show (((l.getD i zF).f1).size : Int) ≤ 20000 by omega)]; rfl
    by_cases h0 : 0 < i
    · obtain ⟨q1, q2, q3⟩ := prevF l i h0 hi (by omega)
      rw [if_pos (by omega), if_pos q2, if_pos q3, q1]
      have hi0 : (i == 0) = false := beq_eq_false_iff_ne.2 (by omega)
      unfold fileAt
      by_cases hl : Op.bytesLess (l.getD (i - 1) zF).f0.toList (l.getD i zF).f0.toList = true
      · rw [if_pos hl, tail, hx, hi0, hl]; rfl
      · rw [if_neg hl]
        rw [Bool.not_eq_true] at hl
        rw [hx, hi0, hl]; rfl
    · obtain rfl : i = 0 := by omega
      rw [if_neg (by omega), tail]
      unfold fileAt
      rw [hx]; rfl
  · rw [if_neg hx, fileAt_head l i hx]; rfl
/-- one more letter. -/
theorem one_size (a : Int) : (strOfNums [a]).size = 1 := by
  simp [strOfNums, ByteArray.size]
theorem markText_l0 : ∀ (b : Nat) (n : Nat) (x : ByteArray), n ≤ b → b ≤ 4611686018427387904 → x.size + n ≤ 4611686018427387904 → ∃ v, Ev (fun k => laws_markText.l0 k (n : Int) x) v := by
  intro b
  induction b with
  | zero =>
    intro n x hn _ hx
    obtain rfl : n = 0 := by omega
    refine ⟨(⟨#[109]⟩ : ByteArray) ++ x, Ev.step (f := fun _ => some ((⟨#[109]⟩ : ByteArray) ++ x)) (fun k => ?_) (Ev.now _)⟩
    simp only [laws_markText.l0]
    rw [if_neg (by omega), if_pos (by omega)]
  | succ b ih =>
    intro n x hn hb hx
    by_cases h0 : n = 0
    · subst h0
      refine ⟨(⟨#[109]⟩ : ByteArray) ++ x, Ev.step (f := fun _ => some ((⟨#[109]⟩ : ByteArray) ++ x)) (fun k => ?_) (Ev.now _)⟩
      simp only [laws_markText.l0]
      rw [if_neg (by omega), if_pos (by omega)]
    · have e : wrap64 (Int.tdiv (n : Int) 10) = ((n / 10 : Nat) : Int) := by
        rw [show Int.tdiv (n : Int) 10 = ((n / 10 : Nat) : Int) from rfl]
        exact w64 (by omega) (by omega)
      have hs : ∀ y : ByteArray, (strOfNums [(wrap64 (48 + Int.tmod (n : Int) 10)) % 256] ++ y).size = 1 + y.size := by
        intro y
        rw [ByteArray.size_append, one_size]
      obtain ⟨v, hv⟩ := ih (n / 10) (strOfNums [(wrap64 (48 + Int.tmod (n : Int) 10)) % 256] ++ x) (by omega) (by omega) (by rw [hs]; omega)
      refine ⟨v, Ev.step (fun k => ?_) hv⟩
      simp only [laws_markText.l0, Option.bind_some, e]
      rw [if_pos (by omega), if_pos (by rw [one_size]; omega)]
theorem markText_ex (n : Nat) (hn : n ≤ 4611686018427387904) : ∃ v, Ev (fun k => laws_markText.f k (n : Int)) v := by
  by_cases h0 : n = 0
  · refine ⟨_, ev_if_pos (show (n : Int) ≤ 0 by omega) (Ev.now (⟨#[109, 48]⟩ : ByteArray))⟩
  · obtain ⟨v, hv⟩ := markText_l0 n n (⟨#[]⟩ : ByteArray) (by omega) hn (by show 0 + n ≤ _; omega)
    exact ⟨v, ev_if_neg (show ¬ (n : Int) ≤ 0 by omega) hv⟩
/-- the mark of number n: what text it is does not matter. -/
noncomputable def mText (n : Nat) : ByteArray := if h : n ≤ 4611686018427387904 then Classical.choose (markText_ex n h) else default
theorem mText_ev (n : Nat) (hn : n ≤ 4611686018427387904) : Ev (fun k => laws_markText.f k (n : Int)) (mText n) := by
  unfold mText
  rw [dif_pos hn]
  exact Classical.choose_spec (markText_ex n hn)
/-- a loop whose rounds each end, with what is known of where it stands. -/
theorem loop_evs {σ ρ : Type} (F : Nat → σ → Int → Option ρ) (n : Nat) (inv : Nat → σ → Prop) (Q : ρ → Prop)
    (hstep : ∀ (i : Nat) (s : σ), i < n → inv i s → (∃ s', inv (i + 1) s' ∧ ∀ v, Ev (fun k => F k s' ((i + 1 : Nat) : Int)) v → Ev (fun k => F k s (i : Int)) v))
    (hend : ∀ (s : σ), inv n s → Evs (fun k => F k s (n : Int)) Q) : ∀ (s : σ), inv 0 s → Evs (fun k => F k s 0) Q := by
  have main : ∀ (d i : Nat) (s : σ), i + d = n → inv i s → Evs (fun k => F k s (i : Int)) Q := by
    intro d
    induction d with
    | zero =>
      intro i s hi hv
      obtain rfl : i = n := by omega
      exact hend s hv
    | succ d ih =>
      intro i s hi hv
      obtain ⟨s', hs', hv'⟩ := hstep i s (by omega) hv
      obtain ⟨v, h1, h2⟩ := ih (i + 1) s' (by omega) hs'
      exact ⟨v, hv' v h1, h2⟩
  intro s hs
  exact main n 0 s (by omega) hs
theorem wnat (i : Nat) (hi : i ≤ 9223372036854775806) : wrap64 ((i : Int) + 1) = ((i + 1 : Nat) : Int) := by rw [w64 (by omega) (by omega)]; omega
noncomputable def markedS (n m : Nat) : List ByteArray := (List.range n).map (fun i => mText (m + i))
theorem markStringS_ev (l : List ByteArray) (m : Nat) (hl : l.length ≤ 4294967296) (hm : m ≤ 4294967296) : Ev (fun k => laws_markStringS.f k l (m : Int)) (((m + l.length : Nat) : Int), markedS l.length m) := by
  unfold laws_markStringS.f
  refine Evs.ev (loop_evs (fun k (s : List ByteArray × Int) i => laws_markStringS.l0 k s.1 s.2 i) l.length (fun i s => s.2 = ((m + i : Nat) : Int) ∧ s.1.length = l.length ∧ ∀ j, j < i → s.1[j]? = (markedS l.length m)[j]?) _ (fun i s hi hv => ?_) (fun s hv => ?_) (l, (m : Int)) ⟨rfl, rfl, fun j hj => absurd hj (by omega)⟩)
  · obtain ⟨x, k1⟩ := s
    obtain ⟨rfl, h2, h3⟩ := hv
    simp only at h2 h3 ⊢
    refine ⟨(x.set i (mText (m + i)), ((m + (i + 1) : Nat) : Int)), ⟨rfl, by simp [h2], fun j hj => ?_⟩, fun v hv => ?_⟩
    · show (x.set i (mText (m + i)))[j]? = _
      rw [List.getElem?_set]
      by_cases e : i = j
      · subst e
        rw [if_pos rfl, if_pos (by omega)]
        simp [markedS, hi]
      · rw [if_neg e]
        exact h3 j (by omega)
    · obtain ⟨K1, g1⟩ := mText_ev (m + i) (by omega)
      obtain ⟨K2, g2⟩ := hv
      refine ev_from (K1 + K2 + 1) fun k hk => ?_
      obtain ⟨k, rfl⟩ : ∃ q, k = q + 1 := ⟨k - 1, by omega⟩
      have g1' : laws_markText.f k ((m + i : Nat) : Int) = some (mText (m + i)) := g1 k (by omega)
      simp only [laws_markStringS.l0, Int.toNat_natCast, wnat i (by omega), wnat (m + i) (by omega), g1', Option.bind_some]
      rw [if_pos (by omega), if_pos (by omega)]
      exact g2 k (by omega)
  · obtain ⟨x, k1⟩ := s
    obtain ⟨rfl, h2, h3⟩ := hv
    simp only at h2 h3 ⊢
    refine ⟨_, Ev.step (f := fun _ => some (((m + l.length : Nat) : Int), x)) (fun k => ?_) (Ev.now _), ?_⟩
    · simp only [laws_markStringS.l0]
      rw [if_neg (by omega)]
    · congr 1
      refine List.ext_getElem? fun j => ?_
      by_cases hj : j < l.length
      · exact h3 j hj
      · rw [List.getElem?_eq_none (by omega), List.getElem?_eq_none (by simp [markedS]; omega)]
theorem heldStringS_ev (n m : Nat) (hl : n ≤ 4294967296) (hm : m ≤ 4294967296) : Ev (fun k => laws_heldStringS.f k (markedS n m) (m : Int)) ((m + n : Nat) : Int) := by
  unfold laws_heldStringS.f
  have hlen : (markedS n m).length = n := by simp [markedS]
  refine Evs.ev (loop_evs (fun k (s : Int) i => laws_heldStringS.l0 k (markedS n m) s i) n (fun i s => s = ((m + i : Nat) : Int)) _ (fun i s hi hv => ?_) (fun s hv => ?_) (m : Int) rfl)
  · subst hv
    refine ⟨((m + (i + 1) : Nat) : Int), rfl, fun v hv => ?_⟩
    have e : rdOf ByteArray.empty (markedS n m) (i : Int) = mText (m + i) := by
      simp [rdOf, markedS, hi]
    obtain ⟨K1, g1⟩ := mText_ev (m + i) (by omega)
    obtain ⟨K2, g2⟩ := hv
    refine ev_from (K1 + K2 + 1) fun k hk => ?_
    obtain ⟨k, rfl⟩ : ∃ q, k = q + 1 := ⟨k - 1, by omega⟩
    have g1' : laws_markText.f k ((m + i : Nat) : Int) = some (mText (m + i)) := g1 k (by omega)
    simp only [laws_heldStringS.l0, wnat i (by omega), wnat (m + i) (by omega), e, hlen, g1', Option.bind_some]
    rw [if_pos (by omega), if_pos (by omega), if_pos trivial]
    exact g2 k (by omega)
  · subst hv
    refine ⟨_, Ev.step (f := fun _ => some ((m + n : Nat) : Int)) (fun k => ?_) (Ev.now _), rfl⟩
    simp only [laws_heldStringS.l0, hlen]
    rw [if_neg (by omega)]
theorem eqStringS_refl (l : List ByteArray) (hl : l.length ≤ 9223372036854775807) : Ev (fun k => laws_eqStringS.f k l l) true := by
  unfold laws_eqStringS.f
  refine ev_if_pos rfl ?_
  have h := loop_all (fun k i => laws_eqStringS.l0 k l l i) l.length hl 0 (fun _ => true) (fun k i hi _ hw => by simp only [laws_eqStringS.l0, hw]; rw [if_pos (by omega), if_pos (by omega), if_pos (by omega), if_pos trivial]) (fun k => by simp only [laws_eqStringS.l0]; rw [if_neg (by omega)])
  have e : (List.range l.length).all (fun _ => true) = true := by simp
  rw [e] at h
  exact h
def driveNames (l : List IF) (room : Int) : List ByteArray := if driveRight l room = true then l.map (fun x => x.f0) else []
theorem take_mapF (l : List IF) (i : Nat) (h : i < l.length) : (l.take (i + 1)).map (fun x => x.f0) = (l.take i).map (fun x => x.f0) ++ [(l.getD i zF).f0] := by
  rw [List.take_add_one, List.getElem?_eq_getElem h, List.map_append, getF l i h]
  rfl
theorem driveNames_s (l : List IF) (room : Int) (hl : l.length ≤ 1048576) (hs : ∀ x ∈ l, x.f0.size ≤ 9223372036854775807) (hu : usedOf l ≤ 9223372036854775807) : Ev (fun k => spec_DriveNames.f k l room) (driveNames l room) := by
  obtain ⟨K, hK⟩ := driveRight_s l room hs hu
  unfold spec_DriveNames.f driveNames
  by_cases hd : driveRight l room = true
  · rw [if_pos hd]
    refine Evs.ev (loop_evs (fun k (s : List ByteArray) i => spec_DriveNames.l0 k s i l room) l.length (fun i s => s = (l.take i).map (fun x => x.f0)) _ (fun i s hi hv => ?_) (fun s hv => ?_) [] rfl)
    · subst hv
      refine ⟨_, rfl, fun v hv => ?_⟩
      obtain ⟨K2, h2⟩ := hv
      refine ev_from (K + K2 + 1) fun k hk => ?_
      obtain ⟨k, rfl⟩ : ∃ q, k = q + 1 := ⟨k - 1, by omega⟩
      have h1 : spec_DriveRight.f k l room = some true := hd ▸ hK k (by omega)
      simp only [spec_DriveNames.l0, rdF, h1, Option.bind_some, wnat i (by omega)]
      rw [if_pos (by omega), if_pos trivial, if_pos (by omega), if_pos (by simp; omega), ← take_mapF l i hi]
      exact h2 k (by omega)
    · subst hv
      refine ⟨_, Ev.step (f := fun _ => some (l.map (fun x => x.f0))) (fun k => ?_) (Ev.now _), rfl⟩
      simp only [spec_DriveNames.l0]
      rw [if_neg (by omega), List.take_of_length_le (Nat.le_refl _)]
  · rw [if_neg hd]
    rw [Bool.not_eq_true] at hd
    refine ev_from (K + 1) fun k hk => ?_
    obtain ⟨k, rfl⟩ : ∃ q, k = q + 1 := ⟨k - 1, by omega⟩
    have h1 : spec_DriveRight.f k l room = some false := hd ▸ hK k (by omega)
    simp only [spec_DriveNames.l0, h1, Option.bind_some]
    split <;> rfl
theorem names_i (l : List IF) (room : Int) (hl : l.length ≤ 1048576) : Ev (fun k => impl_Drive_names.f k l room) (l.map (fun x => x.f0)) := by
  unfold impl_Drive_names.f
  refine Evs.ev (loop_evs (fun k (s : List ByteArray) i => impl_Drive_names.l0 k s l (l.length : Int) i) l.length (fun i s => s = (l.take i).map (fun x => x.f0)) _ (fun i s hi hv => ?_) (fun s hv => ?_) [] rfl)
  · subst hv
    refine ⟨_, rfl, fun v hv => Ev.step (fun k => ?_) hv⟩
    simp only [impl_Drive_names.l0, rdF, wnat i (by omega)]
    rw [if_pos (by omega), if_pos (by omega), if_pos (by omega), if_pos (by simp; omega), ← take_mapF l i hi]
  · subst hv
    refine ⟨_, Ev.step (f := fun _ => some (l.map (fun x => x.f0))) (fun k => ?_) (Ev.now _), rfl⟩
    simp only [impl_Drive_names.l0]
    rw [if_neg (by omega), List.take_of_length_le (Nat.le_refl _)]
theorem driveNames_i (l : List IF) (room : Int) (hl : l.length ≤ 1048576) (hs : ∀ x ∈ l, x.f0.size ≤ 9223372036854775807) (hu : usedOf l ≤ 9223372036854775807) : Ev (fun k => impl_DriveNames.f k l room) (driveNames l room) := by
  unfold impl_DriveNames.f driveNames
  refine Ev.bind (driveRight_i l room hs hu) ?_
  by_cases hd : driveRight l room = true
  · rw [if_pos hd]
    exact ev_if_pos hd (Ev.bind (names_i l room hl) (Ev.now _))
  · rw [if_neg hd]
    exact ev_if_neg hd (Ev.now _)
theorem markStoredS_evs (l : List IF) (m : Nat) (hl : l.length ≤ 1048576) (hm : m ≤ 4294967296) : Evs (fun k => laws_markStoredS.f k l (m : Int)) (fun r => r.1 = ((m + 3 * l.length : Nat) : Int)) := by
  unfold laws_markStoredS.f
  refine loop_evs (fun k (s : List IF × Int) i => laws_markStoredS.l0 k s.1 s.2 i) l.length (fun i s => s.2 = ((m + 3 * i : Nat) : Int) ∧ s.1.length = l.length) _ (fun i s hi hv => ?_) (fun s hv => ?_) (l, (m : Int)) ⟨rfl, rfl⟩
  · obtain ⟨x, k1⟩ := s
    obtain ⟨rfl, h2⟩ := hv
    simp only at h2 ⊢
    have e1 : wrap64 (((m + 3 * i : Nat) : Int) + 1) = ((m + 3 * i + 1 : Nat) : Int) := wnat _ (by omega)
    have e2 : wrap64 (((m + 3 * i + 1 : Nat) : Int) + 1) = ((m + 3 * i + 2 : Nat) : Int) := wnat _ (by omega)
    have e3 : wrap64 (((m + 3 * i + 2 : Nat) : Int) + 1) = ((m + 3 * (i + 1) : Nat) : Int) := wnat _ (by omega)
    obtain ⟨K1, g1⟩ := mText_ev (m + 3 * i) (by omega)
    obtain ⟨K2, g2⟩ := mText_ev (m + 3 * i + 1) (by omega)
    let X1 : List IF := x.set i ⟨mText (m + 3 * i), (rd_T127 x (i : Int)).f1, (rd_T127 x (i : Int)).f2⟩
    let X2 : List IF := X1.set i ⟨(rd_T127 X1 (i : Int)).f0, mText (m + 3 * i + 1), (rd_T127 X1 (i : Int)).f2⟩
    let X3 : List IF := X2.set i ⟨(rd_T127 X2 (i : Int)).f0, (rd_T127 X2 (i : Int)).f1, ((m + 3 * i + 2 : Nat) : Int)⟩
    refine ⟨(X3, ((m + 3 * (i + 1) : Nat) : Int)), ⟨rfl, by simp [X3, X2, X1, h2]⟩, fun v hv => ?_⟩
    obtain ⟨K3, g3⟩ := hv
    refine ev_from (K1 + K2 + K3 + 1) fun k hk => ?_
    obtain ⟨k, rfl⟩ : ∃ q, k = q + 1 := ⟨k - 1, by omega⟩
    have g1' : laws_markText.f k ((m + 3 * i : Nat) : Int) = some (mText (m + 3 * i)) := g1 k (by omega)
    have g2' : laws_markText.f k ((m + 3 * i + 1 : Nat) : Int) = some (mText (m + 3 * i + 1)) := g2 k (by omega)
    have g3' := g3 k (by omega)
    simp only [laws_markStoredS.l0, Int.toNat_natCast, wnat i (by omega), e1, e2, e3, g1', g2', Option.bind_some]
    rw [if_pos (by omega), if_pos (by omega)]
    exact g3'
  · obtain ⟨x, k1⟩ := s
    obtain ⟨rfl, h2⟩ := hv
    simp only at h2 ⊢
    refine ⟨_, Ev.step (f := fun _ => some (((m + 3 * l.length : Nat) : Int), x)) (fun k => ?_) (Ev.now _), rfl⟩
    simp only [laws_markStoredS.l0]
    rw [if_neg (by omega)]
theorem markDrive_evs (l : List IF) (room : Int) (hl : l.length ≤ 1048576) : Evs (fun k => laws_markDrive.f k l room 1) (fun r => 0 ≤ r.1) := by
  unfold laws_markDrive.f
  exact Evs.bind (markStoredS_evs l 1 hl (by omega)) (fun r hr => Evs.now _ (by simp only [hr]; omega))
def wStored (x : S163) : Int := (x.f0.size : Int) + (x.f1.size : Int)
theorem wStored_pos (x : S163) : 0 ≤ wStored x := by
  unfold wStored
  omega
theorem szStored_ev (x : S163) (left : Int) (h0 : 0 ≤ left) (h1 : left ≤ 1048576) (hx : ok163 x) : Evs (fun k => laws_szStored.f x.f0 x.f1 x.f2 left) (fun r => 0 ≤ r → r + wStored x = left) := by
  obtain ⟨hf0, hf1, hf2⟩ := hx
  unfold wStored laws_szStored.f
  rw [sz_wrap (left := left) (s := (x.f0.size : Int)) (by omega) (by omega) (by omega) (by omega)]
  refine Evs.ite (fun _ => Evs.now _ (by omega)) (fun n0 => ?_)
  rw [sz_wrap (left := (left - (x.f0.size : Int))) (s := (x.f1.size : Int)) (by omega) (by omega) (by omega) (by omega)]
  refine Evs.ite (fun _ => Evs.now _ (by omega)) (fun n1 => ?_)
  exact Evs.now _ (by omega)
theorem szStoredS_ev (l : List (S163)) (left : Int) (h0 : 0 ≤ left) (h1 : left ≤ 1048576) (hlo : (l.length ≤ 9223372036854775807 ∧ ∀ x ∈ l, ok163 x)) : Evs (fun k => laws_szStoredS.f k l left) (fun r => 0 ≤ r → r + ((l.length : Int) + (l.map (fun x => wStored x)).sum) = left) := by
  obtain ⟨hl, hok⟩ := hlo
  unfold laws_szStoredS.f
  rw [sz_wrap h0 h1 (by omega) (by omega)]
  refine Evs.ite (fun _ => Evs.now _ (by have := sum_pos (fun x => wStored x) l (fun x => wStored_pos x); omega)) (fun hneg => ?_)
  have hpos : ∀ x : S163, 0 ≤ wStored x := fun x => wStored_pos x
  refine Evs.mon (fun k => (laws_szStoredS.mono_l k) _ _ _) ?_
  obtain ⟨r, h3, h4⟩ := loop_up (fun k (s : Int) i => laws_szStoredS.l0 k l s i) l.length hl 0 (fun i s => 0 ≤ s ∧ s + ((l.take i).map (fun x => wStored x)).sum = left - l.length) (fun r => 0 ≤ r → r + (l.map (fun x => wStored x)).sum = left - l.length)
    (fun k i s hi hs hK hw => by
      obtain ⟨hs0, hs1⟩ := hs
      have hsum := sum_pos (fun x => wStored x) (l.take i) hpos
      have hp := hpos l[i]
      have e : rd_T163 l (i : Int) = l[i] := getD_nat l i _ hi
      have ht := sum_take_succ (fun x => wStored x) l i hi
      obtain ⟨r0, hr0, hq0⟩ := szStored_ev l[i] s hs0 (by omega) (hok l[i] (List.getElem_mem hi))
      obtain ⟨r1, hr1⟩ : ∃ r1, laws_szStored.f l[i].f0 l[i].f1 l[i].f2 s = some r1 := ⟨r0, (hr0.choose_spec _ (Nat.le_refl _))⟩
      obtain rfl : r1 = r0 := Option.some.inj (hr1.symm.trans (hr0.choose_spec _ (Nat.le_refl _)))
      simp only [laws_szStoredS.l0, e]
      rw [if_pos (by omega), if_pos (by omega), hr1, hw]
      simp only [Option.bind_some]
      by_cases hr : r1 < 0
      · exact Or.inr ⟨-1, by rw [if_pos hr], by omega⟩
      · exact Or.inl ⟨r1, ⟨by omega, by rw [ht]; have := hq0 (by omega); omega⟩, by rw [if_neg hr]⟩      )
    (fun k s hs => by
      obtain ⟨hs0, hs1⟩ := hs
      refine ⟨s, by simp only [laws_szStoredS.l0]; rw [if_neg (by omega)], fun _ => ?_⟩
      rw [List.take_of_length_le (Nat.le_refl _)] at hs1
      exact hs1)
    l.length 0 (l.length + 0 + 1) (left - l.length) (by omega) ⟨by omega, by simp⟩ (by omega)
  exact ⟨_, r, h3, fun h => by have := h4 h; omega⟩
structure S61 where
  f0 : List (S163)
  f1 : Int
def ok61 (y : S61) : Prop := (y.f0.length ≤ 9223372036854775807 ∧ ∀ x ∈ y.f0, ok163 x) ∧ (Lit.int .i64 y.f1).wf = true
def wDrive (x : S61) : Int := ((x.f0.length : Int) + (x.f0.map (fun x => wStored x)).sum)
theorem wDrive_pos (x : S61) : 0 ≤ wDrive x := by
  unfold wDrive
  have p0 := sum_pos (fun x => wStored x) x.f0 (fun x => wStored_pos x)
  omega
theorem szDrive_ev (x : S61) (left : Int) (h0 : 0 ≤ left) (h1 : left ≤ 1048576) (hx : ok61 x) : Evs (fun k => laws_szDrive.f k x.f0 x.f1 left) (fun r => 0 ≤ r → r + wDrive x = left) := by
  obtain ⟨hf0, hf1⟩ := hx
  unfold wDrive laws_szDrive.f
  refine Evs.bind (szStoredS_ev x.f0 left (by omega) (by omega) hf0) (fun r0 hr0 => ?_)
  refine Evs.ite (fun _ => Evs.now _ (by omega)) (fun n0 => ?_)
  have e0 := hr0 (by omega)
  have g0 := sum_pos (fun x => wStored x) x.f0 (fun x => wStored_pos x)
  exact Evs.now _ (by omega)
def toStored (x : S163) : S127 := ⟨x.f0, x.f1, x.f2⟩
theorem toStoredS_ev (l : List (S163)) (hl : l.length ≤ 1048576) : Ev (fun k => laws_toStoredS.f k l) (l.map toStored) := by
  have hn : ((l.length : Int)).toNat = l.length := Int.toNat_natCast _
  refine Ev.congr (f := fun k => laws_toStoredS.l0 k l (List.replicate l.length z127) 0) (fun k => ?_) ?_
  · unfold laws_toStoredS.f
    rw [if_pos (by omega), if_pos (by omega), hn]
  · exact loop_ev (fun k (s : List (S127)) i => laws_toStoredS.l0 k l s i) l.length (by omega) 0 (fun i s => s.length = l.length ∧ ∀ j, j < i → s[j]? = (l.map toStored)[j]?) _
      (fun k i s hi hv hK hw => by
      have e : rd_T163 l (i : Int) = l[i] := getD_nat l i _ hi
      have hlen := hv.1
      simp only [laws_toStoredS.l0, e, laws_toStored.f]
      rw [if_pos (by omega), if_pos (by omega), hw]
      simp only [Option.bind_some]
      rw [if_pos (by omega)]
      exact Or.inl ⟨_, fill_step toStored l s i hi hv.1 hv.2 _ rfl, rfl⟩)
      (fun k s hv => by
      simp only [laws_toStoredS.l0]
      rw [if_neg (by omega)]
      exact congrArg some (fill_done toStored l s hv.1 hv.2))
      _ ⟨by simp, fun j hj => absurd hj (by omega)⟩
theorem toDrive_ev (a0 : List (S163)) (a1 : Int) (ha0 : a0.length ≤ 1048576) : Ev (fun k => laws_toDrive.f k a0 a1) ((a0.map toStored), a1) := by
  unfold laws_toDrive.f
  refine Ev.bind (toStoredS_ev a0 ha0) ?_
  exact Ev.now _
theorem eqStored_refl (a0 : ByteArray) (a1 : ByteArray) (a2 : Int) : laws_eqStored.f a0 a1 a2 a0 a1 a2 = some true := by
  unfold laws_eqStored.f
  rw [if_pos rfl]
  rw [if_pos rfl]
  rw [if_pos rfl]
theorem eqStoredS_refl (l : List (S127)) (hl : l.length ≤ 9223372036854775807) : Ev (fun k => laws_eqStoredS.f k l l) true := by
  unfold laws_eqStoredS.f
  refine ev_if_pos rfl ?_
  exact loop_ev (fun k (s : Unit) i => laws_eqStoredS.l0 k l l i) l.length hl 0 (fun _ _ => True) true
    (fun k i s hi _ hK hw => Or.inl ⟨(), trivial, by
      simp only [laws_eqStoredS.l0, eqStored_refl, Option.bind_some]
      rw [if_pos (by omega), if_pos (by omega), if_pos (by omega), if_pos trivial, hw]⟩)
    (fun k s _ => by simp only [laws_eqStoredS.l0]; rw [if_neg (by omega)]) () trivial
theorem eqDrive_refl (a0 : List (S127)) (a1 : Int) (ha0 : a0.length ≤ 9223372036854775807) : Ev (fun k => laws_eqDrive.f k a0 a1 a0 a1) true := by
  unfold laws_eqDrive.f
  refine Ev.bind (eqStoredS_refl a0 ha0) (ev_if_pos rfl ?_)
  refine ev_if_pos rfl ?_
  exact Ev.now _
theorem FnExactDriveNames : FnExactDriveNames_Pure := by
  intro l room hl hok hroom
  refine Ev.rounds (g := fun k => laws_FnExactDriveNames.f k l room) (Evs.ev ?_)
  unfold laws_FnExactDriveNames.f
  refine Evs.bind (szDrive_ev ⟨l, room⟩ 1048576 (by omega) (by omega) ⟨⟨hl, hok⟩, hroom⟩) (fun r hr => Evs.ite (fun _ => Evs.now _ rfl) (fun hn => ?_))
  have hsum := hr (by omega)
  have hpos := sum_pos (fun x => wStored x) l (fun x => wStored_pos x)
  have hsum2 : r + ((l.length : Int) + (l.map (fun x => wStored x)).sum) = 1048576 := hsum
  have hto := toDrive_ev l room (by omega)
  have hs : ∀ x ∈ l.map toStored, x.f0.size ≤ 9223372036854775807 := by
    intro x hx
    obtain ⟨y, hy, rfl⟩ := List.mem_map.1 hx
    exact (hok y hy).1
  have hu : ∀ m : List S163, usedOf (m.map toStored) ≤ (m.map (fun x => wStored x)).sum := by
    intro m
    induction m with
    | nil => exact Int.le_refl _
    | cons a m ih =>
      have e : usedOf ((a :: m).map toStored) = (a.f1.size : Int) + usedOf (m.map toStored) := rfl
      have e2 : ((a :: m).map (fun x => wStored x)).sum = ((a.f0.size : Int) + (a.f1.size : Int)) + (m.map (fun x => wStored x)).sum := rfl
      rw [e, e2]
      omega
  have hu' := hu l
  have hu2 : usedOf (l.map toStored) ≤ 9223372036854775807 := by omega
  have hl2 : (l.map toStored).length ≤ 1048576 := by simp; omega
  generalize l.map toStored = L at *
  have hS := driveNames_s L room hl2 hs hu2
  have hI := driveNames_i L room hl2 hs hu2
  have hlen : (driveNames L room).length ≤ 1048576 := by
    unfold driveNames
    split
    · simpa using hl2
    · simp
  obtain ⟨mr, hm1, hm2⟩ := markDrive_evs L room hl2
  have hms := markStringS_ev (driveNames L room) 1 (by omega) (by omega)
  have hhs := heldStringS_ev (driveNames L room).length 1 (by omega) (by omega)
  have heq := eqStringS_refl (driveNames L room) (by omega)
  have hed := eqDrive_refl L room (by omega)
  generalize driveNames L room = G at *
  refine ⟨true, Ev.bind hto (Ev.bind hS (Ev.bind hto (Ev.bind hI (Ev.bind heq (ev_if_pos rfl (Ev.bind hto (Ev.bind hed (ev_if_pos rfl (Ev.bind hm1 (ev_if_neg (by omega) (Ev.bind heq ?_))))))))))), rfl⟩
  refine Ev.step (f := fun k => ((laws_markStringS.f k G 1).bind fun bt222 => ((laws_heldStringS.f k bt222.2 1).bind fun t224 => (if t224 < 0 then (some false) else (if t224 = bt222.1 then ((laws_toDrive.f k l room).bind fun bt225 => ((impl_DriveNames.f k bt225.1 bt225.2).bind fun t229 => ((laws_eqStringS.f k t229 G).bind fun t232 => (if t232 = true then ((laws_heldStringS.f k bt222.2 1).bind fun t233 => (if t233 < 0 then (some false) else (if t233 = bt222.1 then (some true) else (some false)))) else (some false))))) else (some false)))))) (fun k => by simp only [laws_FnExactDriveNames.j0]; rfl) ?_
  exact Ev.bind hms (Ev.bind hhs (ev_if_neg (by omega) (ev_if_pos (by simp) (Ev.bind hto (Ev.bind hI (Ev.bind heq (ev_if_pos rfl (Ev.bind hhs (ev_if_neg (by omega) (ev_if_pos (by simp) (Ev.now _)))))))))))
end Go.Proofs.Yteljfdhjbnlgoaa.Pure
