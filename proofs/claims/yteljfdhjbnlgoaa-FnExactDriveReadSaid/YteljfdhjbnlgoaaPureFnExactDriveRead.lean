/- The plain law of FnExactDriveRead: at every drive and every name DriveRead answers as the reference. -/
import Derived.Test.YteljfdhjbnlgoaaOkFnExactDriveRead
import Derived.Test.YteljfdhjbnlgoaaLib
import Derived.Lib.Bytealg
namespace Go.Proofs.Yteljfdhjbnlgoaa.Pure
open Go.RowKit Go.Proofs.Yteljfdhjbnlgoaa.PFnExactDriveRead Go.Proofs.Yteljfdhjbnlgoaa.Lib Go.Proofs.YteljfdhjbnlgoaaW.PrintWords Go.Proofs.YteljfdhjbnlgoaaW.PrintLast
set_option linter.unusedVariables false
set_option linter.unusedSimpArgs false
theorem nameRight_l0 (s : ByteArray) (hs : s.size ≤ 9223372036854775807) (d : Nat) : ∀ (i k : Nat), i + d = s.size → d < k → spec_NameRight.l0 k s (i : Int) = some (nameOk s d i) := by
  induction d with
  | zero =>
    intro i k hi hk
    obtain ⟨k, rfl⟩ : ∃ m, k = m + 1 := ⟨k - 1, by omega⟩
    simp only [spec_NameRight.l0]
    rw [if_neg (by omega)]
    rfl
  | succ d ih =>
    intro i k hi hk
    obtain ⟨k, rfl⟩ : ∃ m, k = m + 1 := ⟨k - 1, by omega⟩
    have e : wrap64 ((i : Int) + 1) = ((i + 1 : Nat) : Int) := by rw [w64 (by omega) (by omega)]; omega
    have h := ih (i + 1) k (by omega) (by omega)
    simp only [spec_NameRight.l0, e, h]
    rw [if_pos (by omega), if_pos (by omega)]
    exact nameStep _ _ _
theorem nameRight_ev (s : ByteArray) (hs : s.size ≤ 9223372036854775807) : Ev (fun k => spec_NameRight.f k s) (isName s 80) := by
  refine ev_from (s.size + 3) fun k hk => ?_
  obtain ⟨k, rfl⟩ : ∃ m, k = m + 1 := ⟨k - 1, by omega⟩
  have h := nameRight_l0 s hs s.size 0 k (by omega) (by omega)
  simp only [spec_NameRight.f, spec_NameRight.j0]
  have h' : spec_NameRight.l0 k s 0 = some (nameOk s s.size 0) := h
  rw [h']
  unfold isName
  generalize nameOk s s.size 0 = X
  grind
theorem isName_l0 (s : ByteArray) (most : Int) (hs : s.size ≤ 9223372036854775807) (d : Nat) : ∀ (i k : Nat), i + d = s.size → d < k → impl_isName.l0 k s most s.size (i : Int) = some (nameOk s d i && (decide ((s.size : Int) ≥ 1) && decide ((s.size : Int) ≤ most))) := by
  induction d with
  | zero =>
    intro i k hi hk
    obtain ⟨k, rfl⟩ : ∃ m, k = m + 1 := ⟨k - 1, by omega⟩
    simp only [impl_isName.l0, impl_long.f, impl_within.f, Option.bind_some, nameOk]
    rw [if_neg (by omega)]
    grind
  | succ d ih =>
    intro i k hi hk
    obtain ⟨k, rfl⟩ : ∃ m, k = m + 1 := ⟨k - 1, by omega⟩
    have e : wrap64 ((i : Int) + 1) = ((i + 1 : Nat) : Int) := by rw [w64 (by omega) (by omega)]; omega
    have h := ih (i + 1) k (by omega) (by omega)
    simp only [impl_isName.l0, e, h]
    rw [if_pos (by omega), if_pos (by omega), if_pos (by omega)]
    refine (nameStep _ _ _).trans ?_
    simp [nameOk, Bool.and_assoc]
theorem isName_ev (s : ByteArray) (most : Int) (hs : s.size ≤ 9223372036854775807) : Ev (fun k => impl_isName.f k s most) (isName s most) := by
  refine ev_from (s.size + 3) fun k hk => ?_
  have h := isName_l0 s most hs s.size 0 k (by omega) (by omega)
  simp only [impl_isName.f]
  exact h
theorem within_eq (a b c : Int) : impl_within.f a b c = some (decide (b ≤ a) && decide (a ≤ c)) := by
  unfold impl_within.f
  by_cases h : a ≥ b <;> simp [h]
abbrev IF := S127
abbrev zF := z127
def fileOk (x : IF) : Bool := isName x.f0 80 && (decide ((x.f1.size : Int) ≤ 20000) && (decide (0 ≤ x.f2) && decide (x.f2 ≤ (x.f1.size : Int))))
def fileAt (l : List IF) (i : Nat) : Bool := isName (l.getD i zF).f0 80 && ((i == 0 || Op.bytesLess (l.getD (i - 1) zF).f0.toList (l.getD i zF).f0.toList) && (decide (((l.getD i zF).f1.size : Int) ≤ 20000) && (decide (0 ≤ (l.getD i zF).f2) && decide ((l.getD i zF).f2 ≤ ((l.getD i zF).f1.size : Int)))))
def usedOf (l : List IF) : Int := (l.map (fun x => (x.f1.size : Int))).sum
def driveRight (l : List IF) (room : Int) : Bool := (decide (l.length ≤ 60) && (decide (0 ≤ room) && decide (room ≤ 100000))) && ((List.range l.length).all (fileAt l) && decide (usedOf l ≤ room))
theorem rdF (l : List IF) (i : Nat) : rd_T127 l (i : Int) = l.getD i zF := by
  unfold rd_T127
  rw [Int.toNat_natCast]
theorem memF (l : List IF) (i : Nat) (h : i < l.length) : l.getD i zF ∈ l := by
  rw [List.getD_eq_getElem?_getD, List.getElem?_eq_getElem h]
  exact List.getElem_mem h
theorem getF (l : List IF) (i : Nat) (h : i < l.length) : l.getD i zF = l[i] := by
  rw [List.getD_eq_getElem?_getD, List.getElem?_eq_getElem h]
  rfl
theorem usedOf_pos (l : List IF) : 0 ≤ usedOf l := sum_pos _ l (fun x => by omega)
/-- what a drive's files hold, as far as numbers go. -/
theorem used_s (l : List IF) (room : Int) (hl : l.length ≤ 60) (hu : usedOf l ≤ 9223372036854775807) : Ev (fun k => spec_l08Bytes.f k l room) (usedOf l) := by
  unfold spec_l08Bytes.f
  refine loop_ev (fun k (s : Int) i => spec_l08Bytes.l0 k s i l room) l.length (by omega) 0 (fun i s => s = usedOf (l.take i)) _ (fun k i s hi hs hK hw => ?_) (fun k s hs => ?_) 0 rfl
  · subst hs
    have ht := sum_take_succ (fun x : IF => (x.f1.size : Int)) l i hi
    have hp := usedOf_pos (l.take i)
    have hle : usedOf (l.take (i + 1)) ≤ usedOf l := by
      unfold usedOf
      have h1 := sum_pos (fun x : IF => (x.f1.size : Int)) (l.drop (i + 1)) (fun x => by omega)
      have h2 : (l.map (fun x : IF => (x.f1.size : Int))).sum = ((l.take (i + 1)).map (fun x : IF => (x.f1.size : Int))).sum + ((l.drop (i + 1)).map (fun x : IF => (x.f1.size : Int))).sum := by
        rw [← List.sum_append, ← List.map_append, List.take_append_drop]
      omega
    have e : usedOf (l.take (i + 1)) = usedOf (l.take i) + (l[i].f1.size : Int) := ht
    refine Or.inl ⟨usedOf (l.take (i + 1)), rfl, ?_⟩
    simp only [spec_l08Bytes.l0, rdF, hw]
    rw [if_pos (by omega), if_pos (by omega), getF l i hi, w64 (by omega) (by omega), e]
  · subst hs
    simp only [spec_l08Bytes.l0]
    rw [if_neg (by omega), List.take_of_length_le (Nat.le_refl _)]
theorem used_i (l : List IF) (room : Int) (hl : l.length ≤ 60) (hu : usedOf l ≤ 9223372036854775807) : Ev (fun k => impl_Drive_used.f k l room) (usedOf l) := by
  unfold impl_Drive_used.f
  refine loop_ev (fun k (s : Int) i => impl_Drive_used.l0 k s l (l.length : Int) i) l.length (by omega) 0 (fun i s => s = usedOf (l.take i)) _ (fun k i s hi hs hK hw => ?_) (fun k s hs => ?_) 0 rfl
  · subst hs
    have ht := sum_take_succ (fun x : IF => (x.f1.size : Int)) l i hi
    have hp := usedOf_pos (l.take i)
    have hle : usedOf (l.take (i + 1)) ≤ usedOf l := by
      unfold usedOf
      have h1 := sum_pos (fun x : IF => (x.f1.size : Int)) (l.drop (i + 1)) (fun x => by omega)
      have h2 : (l.map (fun x : IF => (x.f1.size : Int))).sum = ((l.take (i + 1)).map (fun x : IF => (x.f1.size : Int))).sum + ((l.drop (i + 1)).map (fun x : IF => (x.f1.size : Int))).sum := by
        rw [← List.sum_append, ← List.map_append, List.take_append_drop]
      omega
    have e : usedOf (l.take (i + 1)) = usedOf (l.take i) + (l[i].f1.size : Int) := ht
    refine Or.inl ⟨usedOf (l.take (i + 1)), rfl, ?_⟩
    simp only [impl_Drive_used.l0, rdF, hw, impl_long.f, Option.bind_some]
    rw [if_pos (by omega), if_pos (by omega), if_pos (by omega), getF l i hi, w64 (by omega) (by omega), e]
  · subst hs
    simp only [impl_Drive_used.l0]
    rw [if_neg (by omega), List.take_of_length_le (Nat.le_refl _)]
theorem prevF (l : List IF) (i : Nat) (h0 : 0 < i) (h : i < l.length) (hl : l.length ≤ 60) : rd_T127 l (wrap64 ((i : Int) - 1)) = l.getD (i - 1) zF ∧ 0 ≤ wrap64 ((i : Int) - 1) ∧ wrap64 ((i : Int) - 1) < (l.length : Int) := getD_prev l i _ h0 h (by omega)
theorem fileAt_head (l : List IF) (i : Nat) (h : ¬ isName (l.getD i zF).f0 80 = true) : fileAt l i = false := by
  rw [Bool.not_eq_true] at h
  unfold fileAt
  rw [h]
  rfl
theorem driveRight_s (l : List IF) (room : Int) (hs : ∀ x ∈ l, x.f0.size ≤ 9223372036854775807) (hu : usedOf l ≤ 9223372036854775807) : Ev (fun k => spec_DriveRight.f k l room) (driveRight l room) := by
  unfold spec_DriveRight.f
  have bad : ∀ v : Bool, v = false → Ev (fun k => spec_DriveRight.j0 k true l room) v := fun v hv => Ev.step (f := fun _ => some false) (fun k => by simp only [spec_DriveRight.j0]; rfl) (hv ▸ Ev.now _)
  by_cases h1 : (l.length : Int) > 60
  · exact ev_if_pos h1 (bad _ (by unfold driveRight; rw [decide_eq_false (by omega)]; rfl))
  refine ev_if_neg h1 ?_
  by_cases h2 : room < 0
  · exact ev_if_pos h2 (bad _ (by unfold driveRight; rw [decide_eq_false (show ¬ 0 ≤ room by omega)]; simp))
  refine ev_if_neg h2 ?_
  by_cases h3 : room > 100000
  · rw [decide_eq_true h3]
    exact bad _ (by unfold driveRight; rw [decide_eq_false (show ¬ room ≤ 100000 by omega)]; simp)
  rw [decide_eq_false h3]
  refine Ev.step (f := fun k => spec_DriveRight.l0 k 0 l room) (fun k => by simp only [spec_DriveRight.j0]; rfl) ?_
  unfold driveRight
  rw [decide_eq_true (show l.length ≤ 60 by omega), decide_eq_true (show 0 ≤ room by omega), decide_eq_true (show room ≤ 100000 by omega)]
  simp only [Bool.true_and]
  obtain ⟨K, hK⟩ := ev_all (fun (x : IF) k => spec_NameRight.f k x.f0) (fun x => isName x.f0 80) l (fun x hx => nameRight_ev _ (hs x hx))
  obtain ⟨K2, hK2⟩ := used_s l room (by omega) hu
  refine loop_allK (fun k i => spec_DriveRight.l0 k i l room) l.length (by omega) (K + K2) (fileAt l) (decide (usedOf l ≤ room)) (fun k i hi hk hw => ?_) (fun k hk => by simp only [spec_DriveRight.l0]; rw [if_neg (by omega), show spec_l08Bytes.f k l room = some (usedOf l) from hK2 k (by omega)]; rfl)
  have hr := hK _ (memF l i hi) k (by omega)
  simp only [spec_DriveRight.l0, rdF, hr, hw, Option.bind_some]
  rw [if_pos (by omega), if_pos (by omega)]
  by_cases hx : isName (l.getD i zF).f0 80 = true
  · rw [if_pos hx]
    have tail : ∀ A : Option Bool, (if (((l.getD i zF).f1).size : Int) > 20000 then (some false) else (if ((l.getD i zF).f2) < 0 then (some false) else (if ((l.getD i zF).f2) > (((l.getD i zF).f1).size : Int) then (some false) else A))) = if (decide (((l.getD i zF).f1.size : Int) ≤ 20000) && (decide (0 ≤ (l.getD i zF).f2) && decide ((l.getD i zF).f2 ≤ ((l.getD i zF).f1.size : Int)))) = true then A else some false := by
      intro A
      by_cases c1 : (((l.getD i zF).f1).size : Int) > 20000
      · rw [if_pos c1, decide_eq_false (by omega)]; rfl
      rw [if_neg c1, decide_eq_true (show (((l.getD i zF).f1).size : Int) ≤ 20000 by omega)]
      by_cases c2 : ((l.getD i zF).f2) < 0
      · rw [if_pos c2, decide_eq_false (show ¬ 0 ≤ ((l.getD i zF).f2) by omega)]; rfl
      rw [if_neg c2, decide_eq_true (show 0 ≤ ((l.getD i zF).f2) by omega)]
      by_cases c3 : ((l.getD i zF).f2) > (((l.getD i zF).f1).size : Int)
      · rw [if_pos c3, decide_eq_false (show ¬ ((l.getD i zF).f2) ≤ (((l.getD i zF).f1).size : Int) by omega)]; rfl
      · rw [if_neg c3, decide_eq_true (show ((l.getD i zF).f2) ≤ (((l.getD i zF).f1).size : Int) by omega)]; rfl
    by_cases h0 : 0 < i
    · obtain ⟨q1, q2, q3⟩ := prevF l i h0 hi (by omega)
      rw [if_pos (by omega), if_pos q2, if_pos q3, q1]
      have hi0 : (i == 0) = false := beq_eq_false_iff_ne.2 (by omega)
      unfold fileAt
      by_cases hl : Op.bytesLess (l.getD (i - 1) zF).f0.toList (l.getD i zF).f0.toList = true
      · rw [if_pos hl, tail, hx, hi0, hl]; rfl
      · rw [if_neg hl]
        rw [Bool.not_eq_true] at hl
        rw [hx, hi0, hl]; rfl
    · obtain rfl : i = 0 := by omega
      rw [if_neg (by omega), tail]
      unfold fileAt
      rw [hx]; rfl
  · rw [if_neg hx, fileAt_head l i hx]; rfl
theorem driveRight_i (l : List IF) (room : Int) (hs : ∀ x ∈ l, x.f0.size ≤ 9223372036854775807) (hu : usedOf l ≤ 9223372036854775807) : Ev (fun k => impl_DriveRight.f k l room) (driveRight l room) := by
  unfold impl_DriveRight.f
  have bad : ∀ v : Bool, v = false → Ev (fun k => impl_DriveRight.j0 k true l room) v := fun v hv => Ev.step (f := fun _ => some false) (fun k => by simp only [impl_DriveRight.j0]; rfl) (hv ▸ Ev.now _)
  by_cases h1 : (l.length : Int) > 60
  · exact ev_if_pos h1 (bad _ (by unfold driveRight; rw [decide_eq_false (by omega)]; rfl))
  refine ev_if_neg h1 (ev_bind1 (within_eq _ _ _) ?_)
  by_cases h2 : ¬ (decide (0 ≤ room) && decide (room ≤ 100000)) = true
  · rw [Bool.not_eq_true] at h2
    rw [h2]
    exact bad _ (by unfold driveRight; rw [h2]; simp)
  rw [Decidable.not_not] at h2
  rw [h2]
  refine Ev.step (f := fun k => impl_DriveRight.l0 k l (l.length : Int) 0 l room) (fun k => by simp only [impl_DriveRight.j0]; rfl) ?_
  unfold driveRight
  rw [decide_eq_true (show l.length ≤ 60 by omega), h2]
  simp only [Bool.true_and]
  obtain ⟨K, hK⟩ := ev_all (fun (x : IF) k => impl_NameRight.f k x.f0) (fun x => isName x.f0 80) l (fun x hx => Ev.bind (isName_ev _ 80 (hs x hx)) (Ev.now _))
  obtain ⟨K2, hK2⟩ := used_i l room (by omega) hu
  refine loop_allK (fun k i => impl_DriveRight.l0 k l (l.length : Int) i l room) l.length (by omega) (K + K2) (fileAt l) (decide (usedOf l ≤ room)) (fun k i hi hk hw => ?_) (fun k hk => by simp only [impl_DriveRight.l0]; rw [if_neg (by omega), show impl_Drive_used.f k l room = some (usedOf l) from hK2 k (by omega)]; rfl)
  have hr := hK _ (memF l i hi) k (by omega)
  simp only [impl_DriveRight.l0, rdF, hr, hw, Option.bind_some, impl_isLong.f, impl_long.f, within_eq]
  rw [if_pos (by omega), if_pos (by omega), if_pos (by omega)]
  by_cases hx : isName (l.getD i zF).f0 80 = true
  · rw [if_pos hx]
    have tail : ∀ A : Option Bool, (if decide ((((l.getD i zF).f1).size : Int) > 20000) = true then (some false) else (if (decide (0 ≤ (l.getD i zF).f2) && decide ((l.getD i zF).f2 ≤ ((l.getD i zF).f1.size : Int))) = true then A else some false)) = if (decide (((l.getD i zF).f1.size : Int) ≤ 20000) && (decide (0 ≤ (l.getD i zF).f2) && decide ((l.getD i zF).f2 ≤ ((l.getD i zF).f1.size : Int)))) = true then A else some false := by
      intro A
      by_cases c1 : (((l.getD i zF).f1).size : Int) > 20000
      · rw [decide_eq_true c1, decide_eq_false (show ¬ (((l.getD i zF).f1).size : Int) ≤ 20000 by omega)]; rfl
      · rw [decide_eq_false c1, decide_eq_true (show (((l.getD i zF).f1).size : Int) ≤ 20000 by omega)]; rfl
    by_cases h0 : 0 < i
    · obtain ⟨q1, q2, q3⟩ := prevF l i h0 hi (by omega)
      rw [if_pos (by omega), if_pos q2, if_pos q3, q1]
      have hi0 : (i == 0) = false := beq_eq_false_iff_ne.2 (by omega)
      unfold fileAt
      by_cases hl : Op.bytesLess (l.getD (i - 1) zF).f0.toList (l.getD i zF).f0.toList = true
      · rw [if_pos hl, tail, hx, hi0, hl]; rfl
      · rw [if_neg hl]
        rw [Bool.not_eq_true] at hl
        rw [hx, hi0, hl]; rfl
    · obtain rfl : i = 0 := by omega
      rw [if_neg (by omega), tail]
      unfold fileAt
      rw [hx]; rfl
  · rw [if_neg hx, fileAt_head l i hx]; rfl
/-- a loop whose rounds each go on or end. -/
theorem loop_evx {σ ρ : Type} (F : Nat → σ → Int → Option ρ) (n : Nat) (inv : Nat → σ → Prop) (Q : ρ → Prop)
    (hstep : ∀ (i : Nat) (s : σ), i < n → inv i s → (∃ s', inv (i + 1) s' ∧ ∀ v, Ev (fun k => F k s' ((i + 1 : Nat) : Int)) v → Ev (fun k => F k s (i : Int)) v) ∨ Evs (fun k => F k s (i : Int)) Q)
    (hend : ∀ (s : σ), inv n s → Evs (fun k => F k s (n : Int)) Q) : ∀ (s : σ), inv 0 s → Evs (fun k => F k s 0) Q := by
  have main : ∀ (d i : Nat) (s : σ), i + d = n → inv i s → Evs (fun k => F k s (i : Int)) Q := by
    intro d
    induction d with
    | zero =>
      intro i s hi hv
      obtain rfl : i = n := by omega
      exact hend s hv
    | succ d ih =>
      intro i s hi hv
      rcases hstep i s (by omega) hv with ⟨s', hs', hv'⟩ | h
      · obtain ⟨v, h1, h2⟩ := ih (i + 1) s' (by omega) hs'
        exact ⟨v, hv' v h1, h2⟩
      · exact h
  intro s hs
  exact main n 0 s (by omega) hs
theorem wnat' (i n : Nat) (hi : i < n) (hn : n ≤ 9223372036854775807) : wrap64 ((i : Int) + 1) = ((i + 1 : Nat) : Int) := by rw [w64 (by omega) (by omega)]; omega
theorem less_irrefl (l : List UInt8) : Op.bytesLess l l = false := by
  induction l with
  | nil => rfl
  | cons a l ih => simp [Op.bytesLess, ih]
theorem compare_eq : ∀ (a b : List UInt8), Lib.compareBytes a b = if Op.bytesLess a b = true then -1 else if a = b then 0 else 1
  | [], [] => rfl
  | [], _ :: _ => rfl
  | _ :: _, [] => rfl
  | a :: xs, b :: bs => by
    have ih := compare_eq xs bs
    simp only [Lib.compareBytes, ih, Op.bytesLess]
    by_cases h1 : a < b
    · simp [h1]
    · by_cases h2 : b < a
      · have h3 : a ≠ b := fun e => by subst e; exact h1 h2
        simp [h1, h2, h3]
      · have h3 : a = b := UInt8.le_antisymm (UInt8.not_lt.1 h2) (UInt8.not_lt.1 h1)
        subst h3
        simp [h1]
theorem less_trans : ∀ (a b c : List UInt8), Op.bytesLess a b = true → Op.bytesLess b c = true → Op.bytesLess a c = true
  | [], [], _, h, _ => by cases h
  | [], _ :: _, [], _, h => by cases h
  | [], _ :: _, _ :: _, _, _ => rfl
  | _ :: _, [], _, h, _ => by cases h
  | _ :: _, _ :: _, [], _, h => by cases h
  | a :: xs, b :: ys, c :: zs, h, g => by
    have ih := less_trans xs ys zs
    simp only [Op.bytesLess] at h g ⊢
    simp only [Bool.or_eq_true, Bool.and_eq_true, decide_eq_true_eq, beq_iff_eq] at h g ⊢
    rcases h with h | ⟨rfl, h⟩
    · rcases g with g | ⟨rfl, g⟩
      · exact .inl (UInt8.lt_trans h g)
      · exact .inl h
    · rcases g with g | ⟨rfl, g⟩
      · exact .inl g
      · exact .inr ⟨rfl, ih h g⟩
def pre (name : ByteArray) (x : IF) : Bool := Op.bytesLess x.f0.toList name.toList
theorem cmp_lt (x : IF) (name : ByteArray) : (Lib.compareBytes x.f0.data.toList name.data.toList < 0) ↔ pre name x = true := by
  rw [compare_eq, ← ByteArray.toList_eq, ← ByteArray.toList_eq]
  unfold pre
  by_cases h : Op.bytesLess x.f0.toList name.toList = true
  · simp [h]
  · by_cases h2 : x.f0.toList = name.toList <;> simp [h, h2, less_irrefl]
theorem cmp_zero (x : IF) (name : ByteArray) : (Lib.compareBytes x.f0.data.toList name.data.toList = 0) ↔ x.f0.toList = name.toList := by
  rw [compare_eq, ← ByteArray.toList_eq, ← ByteArray.toList_eq]
  by_cases h : Op.bytesLess x.f0.toList name.toList = true
  · have h2 : x.f0.toList ≠ name.toList := by
      intro e
      rw [e, less_irrefl] at h
      cases h
    simp [h, h2]
  · by_cases h2 : x.f0.toList = name.toList <;> simp [h, h2, less_irrefl]
/-- the names of a right drive rise. -/
theorem rises (l : List IF) (room : Int) (h : driveRight l room = true) : ∀ (d i : Nat), i + d + 1 < l.length → Op.bytesLess (l.getD i zF).f0.toList (l.getD (i + d + 1) zF).f0.toList = true := by
  have step : ∀ i, i + 1 < l.length → Op.bytesLess (l.getD i zF).f0.toList (l.getD (i + 1) zF).f0.toList = true := by
    intro i hi
    unfold driveRight at h
    simp only [Bool.and_eq_true, List.all_eq_true] at h
    have := h.2.1 (i + 1) (List.mem_range.2 hi)
    unfold fileAt at this
    simp only [Bool.and_eq_true, Bool.or_eq_true, beq_iff_eq] at this
    rcases this.2.1 with q | q
    · omega
    · simpa using q
  intro d
  induction d with
  | zero => exact fun i hi => step i hi
  | succ d ih =>
    intro i hi
    exact less_trans _ _ _ (ih i (by omega)) (step (i + d + 1) (by omega))
theorem search_ev (l : List IF) (name : ByteArray) (hl : l.length ≤ 1048576) (mono : ∀ i j, i < j → j < l.length → pre name (l.getD j zF) = true → pre name (l.getD i zF) = true) : ∀ (d i j : Nat), j ≤ i + d → i ≤ j → j ≤ l.length → (∀ m, m < i → pre name (l.getD m zF) = true) → (∀ m, j ≤ m → m < l.length → ¬ pre name (l.getD m zF) = true) →
    ∃ r : Nat, Ev (fun k => impl_Drive_find.l0 k l name (i : Int) (j : Int)) (r : Int) ∧ r ≤ l.length ∧ (∀ m, m < r → pre name (l.getD m zF) = true) ∧ (∀ m, r ≤ m → m < l.length → ¬ pre name (l.getD m zF) = true) := by
  intro d
  induction d with
  | zero =>
    intro i j h1 h2 h3 hi hj
    obtain rfl : i = j := by omega
    refine ⟨i, Ev.step (f := fun _ => some (i : Int)) (fun k => ?_) (Ev.now _), h3, hi, hj⟩
    simp only [impl_Drive_find.l0]
    rw [if_neg (by omega)]
  | succ d ih =>
    intro i j h1 h2 h3 hi hj
    by_cases e : i = j
    · subst e
      refine ⟨i, Ev.step (f := fun _ => some (i : Int)) (fun k => ?_) (Ev.now _), h3, hi, hj⟩
      simp only [impl_Drive_find.l0]
      rw [if_neg (by omega)]
    · have hh : ((i : Int) + (j : Int)) / 2 = (((i + j) / 2 : Nat) : Int) := by omega
      by_cases c : pre name (l.getD ((i + j) / 2) zF) = true
      · obtain ⟨r, hr, h⟩ := ih ((i + j) / 2 + 1) j (by omega) (by omega) h3 (fun m hm => by
          by_cases e2 : m = (i + j) / 2
          · subst e2
            exact c
          · exact mono m ((i + j) / 2) (by omega) (by omega) c) hj
        refine ⟨r, Ev.step (fun k => ?_) hr, h⟩
        simp only [impl_Drive_find.l0, hh, rdF]
        rw [if_pos (by omega), if_pos (by omega), if_pos (by omega), if_pos ((cmp_lt _ _).2 c)]
        rfl
      · obtain ⟨r, hr, h⟩ := ih i ((i + j) / 2) (by omega) (by omega) (by omega) hi (fun m hm hm2 hp => by
          by_cases e2 : m = (i + j) / 2
          · subst e2
            exact c hp
          · exact c (mono ((i + j) / 2) m (by omega) hm2 hp))
        refine ⟨r, Ev.step (fun k => ?_) hr, h⟩
        simp only [impl_Drive_find.l0, hh, rdF]
        rw [if_pos (by omega), if_pos (by omega), if_pos (by omega), if_neg (fun q => c ((cmp_lt _ _).1 q))]
def nameIs (name : ByteArray) (x : IF) : Bool := x.f0.toList == name.toList
theorem dropF (l : List IF) (i : Nat) (h : i < l.length) : l.drop i = l.getD i zF :: l.drop (i + 1) := by
  rw [List.drop_eq_getElem_cons h, getF l i h]
/-- where the name stands, told by the first part of the list. -/
theorem find_at (l : List IF) (name : ByteArray) (r : Nat) (hr : r < l.length) (hlt : ∀ m, m < r → pre name (l.getD m zF) = true) (he : (l.getD r zF).f0.toList = name.toList) : ∀ d i, i + d = r → (l.drop i).find? (nameIs name) = some (l.getD r zF) := by
  intro d
  induction d with
  | zero =>
    intro i hi
    obtain rfl : i = r := by omega
    rw [dropF l i hr, List.find?_cons, show nameIs name (l.getD i zF) = true from beq_iff_eq.2 he]
  | succ d ih =>
    intro i hi
    have hp := hlt i (by omega)
    have hne : nameIs name (l.getD i zF) = false := by
      refine beq_eq_false_iff_ne.2 (fun e => ?_)
      unfold pre at hp
      rw [e, less_irrefl] at hp
      cases hp
    rw [dropF l i (by omega), List.find?_cons, hne]
    exact ih (i + 1) (by omega)
theorem find_none (l : List IF) (name : ByteArray) (r : Nat) (hlt : ∀ m, m < r → pre name (l.getD m zF) = true) (mono : ∀ i j, i < j → j < l.length → pre name (l.getD j zF) = true → pre name (l.getD i zF) = true) (rise : ∀ i j, i < j → j < l.length → Op.bytesLess (l.getD i zF).f0.toList (l.getD j zF).f0.toList = true)
    (hge : ∀ m, r ≤ m → m < l.length → ¬ pre name (l.getD m zF) = true) (hne : ¬ (r < l.length ∧ (l.getD r zF).f0.toList = name.toList)) : l.find? (nameIs name) = none := by
  rw [List.find?_eq_none]
  intro x hx he
  obtain ⟨m, hm, rfl⟩ := List.mem_iff_getElem.1 hx
  have he' : (l.getD m zF).f0.toList = name.toList := by
    rw [getF l m hm]
    exact beq_iff_eq.1 he
  have hmr : r ≤ m := by
    rcases Nat.lt_or_ge m r with h | h
    · have hp := hlt m h
      unfold pre at hp
      rw [he', less_irrefl] at hp
      cases hp
    · exact h
  by_cases e : m = r
  · subst e
    exact hne ⟨hm, he'⟩
  · have h1 := rise r m (by omega) hm
    rw [he'] at h1
    exact hge r (Nat.le_refl _) (by omega) h1
theorem l08Find_l0 (l : List IF) (room : Int) (name : ByteArray) (hl : l.length ≤ 1048576) (d : Nat) : ∀ (i : Nat), i + d = l.length → ∃ j : Int, Ev (fun k => spec_l08Find.l0 k name (i : Int) l room) j ∧ ((j < 0 ∧ (l.drop i).find? (nameIs name) = none) ∨ (0 ≤ j ∧ j < (l.length : Int) ∧ (l.drop i).find? (nameIs name) = some (rd_T127 l j))) := by
  induction d with
  | zero =>
    intro i hi
    refine ⟨-1, Ev.step (f := fun _ => some (-1)) (fun k => ?_) (Ev.now _), .inl ⟨by omega, ?_⟩⟩
    · simp only [spec_l08Find.l0]
      rw [if_neg (by omega)]
    · rw [List.drop_of_length_le (by omega)]
      rfl
  | succ d ih =>
    intro i hi
    by_cases c : (l.getD i zF).f0.toList = name.toList
    · refine ⟨i, Ev.step (f := fun _ => some (i : Int)) (fun k => ?_) (Ev.now _), .inr ⟨by omega, by omega, ?_⟩⟩
      · simp only [spec_l08Find.l0, rdF]
        rw [if_pos (by omega), if_pos (by omega), if_pos c]
      · rw [dropF l i (by omega), List.find?_cons, show nameIs name (l.getD i zF) = true from beq_iff_eq.2 c, rdF]
    · obtain ⟨j, hj, hjj⟩ := ih (i + 1) (by omega)
      refine ⟨j, Ev.step (fun k => ?_) hj, ?_⟩
      · simp only [spec_l08Find.l0, rdF, wnat' i l.length (by omega) (by omega)]
        rw [if_pos (by omega), if_pos (by omega), if_neg c]
      · rw [dropF l i (by omega), List.find?_cons, show nameIs name (l.getD i zF) = false from beq_eq_false_iff_ne.2 c]
        exact hjj
abbrev DO := ByteArray × Int
def readOut (o : Option IF) : DO := match o with
  | some x => (x.f1, 0)
  | none => ((⟨#[]⟩ : ByteArray), 8)
def driveRead (l : List IF) (room : Int) (name : ByteArray) : DO := if (name.size : Int) > 20000 then ((⟨#[]⟩ : ByteArray), 2) else if driveRight l room = true then readOut (l.find? (nameIs name)) else ((⟨#[]⟩ : ByteArray), 1)
theorem driveRead_s (l : List IF) (room : Int) (name : ByteArray) (hl : l.length ≤ 1048576) (hs : ∀ x ∈ l, x.f0.size ≤ 9223372036854775807) (hu : usedOf l ≤ 9223372036854775807) : Ev (fun k => spec_DriveRead.f k l room name) (driveRead l room name) := by
  unfold spec_DriveRead.f driveRead
  by_cases c0 : (name.size : Int) > 20000
  · rw [if_pos c0]
    exact ev_if_pos c0 (Ev.now _)
  rw [if_neg c0]
  refine ev_if_neg c0 (Ev.bind (driveRight_s l room hs hu) ?_)
  by_cases c1 : driveRight l room = true
  case neg =>
    rw [if_neg c1]
    exact ev_if_neg c1 (Ev.now _)
  rw [if_pos c1]
  refine ev_if_pos c1 ?_
  obtain ⟨j, hj, hjj⟩ := l08Find_l0 l room name hl l.length 0 (by omega)
  rw [List.drop_zero] at hjj
  refine Ev.bind hj ?_
  rcases hjj with ⟨h1, h2⟩ | ⟨h1, h2, h3⟩
  · rw [h2]
    exact ev_if_pos h1 (Ev.now _)
  · rw [h3]
    exact ev_if_neg (by omega) (ev_if_pos h1 (ev_if_pos h2 (Ev.now _)))
theorem driveRead_i (l : List IF) (room : Int) (name : ByteArray) (hl : l.length ≤ 1048576) (hs : ∀ x ∈ l, x.f0.size ≤ 9223372036854775807) (hu : usedOf l ≤ 9223372036854775807) : Ev (fun k => impl_DriveRead.f k l room name) (driveRead l room name) := by
  unfold impl_DriveRead.f driveRead impl_isLong.f
  simp only [Option.bind_some]
  by_cases c0 : (name.size : Int) > 20000
  · rw [if_pos c0]
    exact ev_if_pos (decide_eq_true c0) (Ev.now _)
  rw [if_neg c0]
  refine ev_if_neg (by simpa using c0) (Ev.bind (driveRight_i l room hs hu) ?_)
  by_cases c1 : driveRight l room = true
  case neg =>
    rw [if_neg c1]
    exact ev_if_neg c1 (Ev.now _)
  rw [if_pos c1]
  refine ev_if_pos c1 ?_
  have rise : ∀ i j, i < j → j < l.length → Op.bytesLess (l.getD i zF).f0.toList (l.getD j zF).f0.toList = true := by
    intro i j h1 h2
    have := rises l room c1 (j - i - 1) i (by omega)
    rwa [show i + (j - i - 1) + 1 = j by omega] at this
  have mono : ∀ i j, i < j → j < l.length → pre name (l.getD j zF) = true → pre name (l.getD i zF) = true := fun i j h1 h2 h3 => less_trans _ _ _ (rise i j h1 h2) h3
  obtain ⟨r, hr, hr1, hr2, hr3⟩ := search_ev l name hl mono l.length 0 l.length (by omega) (by omega) (by omega) (fun m hm => absurd hm (by omega)) (fun m h1 h2 => absurd h2 (by omega))
  have hfind : Ev (fun k => impl_Drive_find.f k l room name) ((r : Int), decide ((r : Int) < (l.length : Int)) && decide (Lib.compareBytes (rd_T127 l (r : Int)).f0.data.toList name.data.toList = 0)) := by
    unfold impl_Drive_find.f
    exact ev_if_pos (by omega) (Ev.bind hr (ev_if_pos (by omega) (Ev.now _)))
  refine Ev.bind hfind ?_
  by_cases c2 : r < l.length ∧ (l.getD r zF).f0.toList = name.toList
  · have hb : (decide ((r : Int) < (l.length : Int)) && decide (Lib.compareBytes (rd_T127 l (r : Int)).f0.data.toList name.data.toList = 0)) = true := by
      rw [rdF, decide_eq_true (show (r : Int) < (l.length : Int) by omega), decide_eq_true ((cmp_zero _ _).2 c2.2)]
      rfl
    have hf := find_at l name r c2.1 hr2 c2.2 r 0 (by omega)
    rw [List.drop_zero] at hf
    rw [hf]
    refine ev_if_pos hb (ev_if_pos (show (0 : Int) ≤ (r : Int) by omega) (ev_if_pos (show (r : Int) < (l.length : Int) by omega) ?_))
    simp only [rdF]
    exact Ev.now _
  · have hb : ¬ (decide ((r : Int) < (l.length : Int)) && decide (Lib.compareBytes (rd_T127 l (r : Int)).f0.data.toList name.data.toList = 0)) = true := by
      rw [rdF]
      intro h
      simp only [Bool.and_eq_true, decide_eq_true_eq] at h
      exact c2 ⟨by omega, (cmp_zero _ _).1 h.2⟩
    rw [find_none l name r hr2 mono rise hr3 c2]
    exact ev_if_neg hb (Ev.now _)
def wStored (x : S163) : Int := (x.f0.size : Int) + (x.f1.size : Int)
theorem wStored_pos (x : S163) : 0 ≤ wStored x := by
  unfold wStored
  omega
theorem szStored_ev (x : S163) (left : Int) (h0 : 0 ≤ left) (h1 : left ≤ 1048576) (hx : ok163 x) : Evs (fun k => laws_szStored.f x.f0 x.f1 x.f2 left) (fun r => 0 ≤ r → r + wStored x = left) := by
  obtain ⟨hf0, hf1, hf2⟩ := hx
  unfold wStored laws_szStored.f
  rw [sz_wrap (left := left) (s := (x.f0.size : Int)) (by omega) (by omega) (by omega) (by omega)]
  refine Evs.ite (fun _ => Evs.now _ (by omega)) (fun n0 => ?_)
  rw [sz_wrap (left := (left - (x.f0.size : Int))) (s := (x.f1.size : Int)) (by omega) (by omega) (by omega) (by omega)]
  refine Evs.ite (fun _ => Evs.now _ (by omega)) (fun n1 => ?_)
  exact Evs.now _ (by omega)
theorem szStoredS_ev (l : List (S163)) (left : Int) (h0 : 0 ≤ left) (h1 : left ≤ 1048576) (hlo : (l.length ≤ 9223372036854775807 ∧ ∀ x ∈ l, ok163 x)) : Evs (fun k => laws_szStoredS.f k l left) (fun r => 0 ≤ r → r + ((l.length : Int) + (l.map (fun x => wStored x)).sum) = left) := by
  obtain ⟨hl, hok⟩ := hlo
  unfold laws_szStoredS.f
  rw [sz_wrap h0 h1 (by omega) (by omega)]
  refine Evs.ite (fun _ => Evs.now _ (by have := sum_pos (fun x => wStored x) l (fun x => wStored_pos x); omega)) (fun hneg => ?_)
  have hpos : ∀ x : S163, 0 ≤ wStored x := fun x => wStored_pos x
  refine Evs.mon (fun k => (laws_szStoredS.mono_l k) _ _ _) ?_
  obtain ⟨r, h3, h4⟩ := loop_up (fun k (s : Int) i => laws_szStoredS.l0 k l s i) l.length hl 0 (fun i s => 0 ≤ s ∧ s + ((l.take i).map (fun x => wStored x)).sum = left - l.length) (fun r => 0 ≤ r → r + (l.map (fun x => wStored x)).sum = left - l.length)
    (fun k i s hi hs hK hw => by
      obtain ⟨hs0, hs1⟩ := hs
      have hsum := sum_pos (fun x => wStored x) (l.take i) hpos
      have hp := hpos l[i]
      have e : rd_T163 l (i : Int) = l[i] := getD_nat l i _ hi
      have ht := sum_take_succ (fun x => wStored x) l i hi
      obtain ⟨r0, hr0, hq0⟩ := szStored_ev l[i] s hs0 (by omega) (hok l[i] (List.getElem_mem hi))
      obtain ⟨r1, hr1⟩ : ∃ r1, laws_szStored.f l[i].f0 l[i].f1 l[i].f2 s = some r1 := ⟨r0, (hr0.choose_spec _ (Nat.le_refl _))⟩
      obtain rfl : r1 = r0 := Option.some.inj (hr1.symm.trans (hr0.choose_spec _ (Nat.le_refl _)))
      simp only [laws_szStoredS.l0, e]
      rw [if_pos (by omega), if_pos (by omega), hr1, hw]
      simp only [Option.bind_some]
      by_cases hr : r1 < 0
      · exact Or.inr ⟨-1, by rw [if_pos hr], by omega⟩
      · exact Or.inl ⟨r1, ⟨by omega, by rw [ht]; have := hq0 (by omega); omega⟩, by rw [if_neg hr]⟩      )
    (fun k s hs => by
      obtain ⟨hs0, hs1⟩ := hs
      refine ⟨s, by simp only [laws_szStoredS.l0]; rw [if_neg (by omega)], fun _ => ?_⟩
      rw [List.take_of_length_le (Nat.le_refl _)] at hs1
      exact hs1)
    l.length 0 (l.length + 0 + 1) (left - l.length) (by omega) ⟨by omega, by simp⟩ (by omega)
  exact ⟨_, r, h3, fun h => by have := h4 h; omega⟩
structure S61 where
  f0 : List (S163)
  f1 : Int
def ok61 (y : S61) : Prop := (y.f0.length ≤ 9223372036854775807 ∧ ∀ x ∈ y.f0, ok163 x) ∧ (Lit.int .i64 y.f1).wf = true
def wDrive (x : S61) : Int := ((x.f0.length : Int) + (x.f0.map (fun x => wStored x)).sum)
theorem wDrive_pos (x : S61) : 0 ≤ wDrive x := by
  unfold wDrive
  have p0 := sum_pos (fun x => wStored x) x.f0 (fun x => wStored_pos x)
  omega
theorem szDrive_ev (x : S61) (left : Int) (h0 : 0 ≤ left) (h1 : left ≤ 1048576) (hx : ok61 x) : Evs (fun k => laws_szDrive.f k x.f0 x.f1 left) (fun r => 0 ≤ r → r + wDrive x = left) := by
  obtain ⟨hf0, hf1⟩ := hx
  unfold wDrive laws_szDrive.f
  refine Evs.bind (szStoredS_ev x.f0 left (by omega) (by omega) hf0) (fun r0 hr0 => ?_)
  refine Evs.ite (fun _ => Evs.now _ (by omega)) (fun n0 => ?_)
  have e0 := hr0 (by omega)
  have g0 := sum_pos (fun x => wStored x) x.f0 (fun x => wStored_pos x)
  exact Evs.now _ (by omega)
def toStored (x : S163) : S127 := ⟨x.f0, x.f1, x.f2⟩
theorem toStoredS_ev (l : List (S163)) (hl : l.length ≤ 1048576) : Ev (fun k => laws_toStoredS.f k l) (l.map toStored) := by
  have hn : ((l.length : Int)).toNat = l.length := Int.toNat_natCast _
  refine Ev.congr (f := fun k => laws_toStoredS.l0 k l (List.replicate l.length z127) 0) (fun k => ?_) ?_
  · unfold laws_toStoredS.f
    rw [if_pos (by omega), if_pos (by omega), hn]
  · exact loop_ev (fun k (s : List (S127)) i => laws_toStoredS.l0 k l s i) l.length (by omega) 0 (fun i s => s.length = l.length ∧ ∀ j, j < i → s[j]? = (l.map toStored)[j]?) _
      (fun k i s hi hv hK hw => by
      have e : rd_T163 l (i : Int) = l[i] := getD_nat l i _ hi
      have hlen := hv.1
      simp only [laws_toStoredS.l0, e, laws_toStored.f]
      rw [if_pos (by omega), if_pos (by omega), hw]
      simp only [Option.bind_some]
      rw [if_pos (by omega)]
      exact Or.inl ⟨_, fill_step toStored l s i hi hv.1 hv.2 _ rfl, rfl⟩)
      (fun k s hv => by
      simp only [laws_toStoredS.l0]
      rw [if_neg (by omega)]
      exact congrArg some (fill_done toStored l s hv.1 hv.2))
      _ ⟨by simp, fun j hj => absurd hj (by omega)⟩
theorem toDrive_ev (a0 : List (S163)) (a1 : Int) (ha0 : a0.length ≤ 1048576) : Ev (fun k => laws_toDrive.f k a0 a1) ((a0.map toStored), a1) := by
  unfold laws_toDrive.f
  refine Ev.bind (toStoredS_ev a0 ha0) ?_
  exact Ev.now _
theorem eqStored_refl (a0 : ByteArray) (a1 : ByteArray) (a2 : Int) : laws_eqStored.f a0 a1 a2 a0 a1 a2 = some true := by
  unfold laws_eqStored.f
  rw [if_pos rfl]
  rw [if_pos rfl]
  rw [if_pos rfl]
theorem eqStoredS_refl (l : List (S127)) (hl : l.length ≤ 9223372036854775807) : Ev (fun k => laws_eqStoredS.f k l l) true := by
  unfold laws_eqStoredS.f
  refine ev_if_pos rfl ?_
  exact loop_ev (fun k (s : Unit) i => laws_eqStoredS.l0 k l l i) l.length hl 0 (fun _ _ => True) true
    (fun k i s hi _ hK hw => Or.inl ⟨(), trivial, by
      simp only [laws_eqStoredS.l0, eqStored_refl, Option.bind_some]
      rw [if_pos (by omega), if_pos (by omega), if_pos (by omega), if_pos trivial, hw]⟩)
    (fun k s _ => by simp only [laws_eqStoredS.l0]; rw [if_neg (by omega)]) () trivial
theorem eqDrive_refl (a0 : List (S127)) (a1 : Int) (ha0 : a0.length ≤ 9223372036854775807) : Ev (fun k => laws_eqDrive.f k a0 a1 a0 a1) true := by
  unfold laws_eqDrive.f
  refine Ev.bind (eqStoredS_refl a0 ha0) (ev_if_pos rfl ?_)
  refine ev_if_pos rfl ?_
  exact Ev.now _
theorem FnExactDriveRead : FnExactDriveRead_Pure := by
  intro l room name hl hok hroom hname
  refine Ev.rounds (g := fun k => laws_FnExactDriveRead.f k l room name) (Evs.ev ?_)
  unfold laws_FnExactDriveRead.f
  refine Evs.ite (fun _ => Evs.now _ rfl) (fun hk => ?_)
  refine Evs.bind (szDrive_ev ⟨l, room⟩ 1048576 (by omega) (by omega) ⟨⟨hl, hok⟩, hroom⟩) (fun r hr => Evs.ite (fun _ => Evs.now _ rfl) (fun hn => ?_))
  have hsum := hr (by omega)
  have hpos := sum_pos (fun x => wStored x) l (fun x => wStored_pos x)
  have hsum2 : r + ((l.length : Int) + (l.map (fun x => wStored x)).sum) = 1048576 := hsum
  have hto := toDrive_ev l room (by omega)
  have hs : ∀ x ∈ l.map toStored, x.f0.size ≤ 9223372036854775807 := by
    intro x hx
    obtain ⟨y, hy, rfl⟩ := List.mem_map.1 hx
    exact (hok y hy).1
  have hu : ∀ m : List S163, usedOf (m.map toStored) ≤ (m.map (fun x => wStored x)).sum := by
    intro m
    induction m with
    | nil => exact Int.le_refl _
    | cons a m ih =>
      have e : usedOf ((a :: m).map toStored) = (a.f1.size : Int) + usedOf (m.map toStored) := rfl
      have e2 : ((a :: m).map (fun x => wStored x)).sum = ((a.f0.size : Int) + (a.f1.size : Int)) + (m.map (fun x => wStored x)).sum := rfl
      rw [e, e2]
      omega
  have hu' := hu l
  have hu2 : usedOf (l.map toStored) ≤ 9223372036854775807 := by omega
  have hl2 : (l.map toStored).length ≤ 1048576 := by simp; omega
  have heq : ∀ q : DO, laws_eqDataOut.f q.1 q.2 q.1 q.2 = some true := by
    intro q
    unfold laws_eqDataOut.f
    simp
  refine ⟨_, Ev.bind hto (Ev.bind (driveRead_s _ room name hl2 hs hu2) (Ev.bind hto (Ev.bind (driveRead_i _ room name hl2 hs hu2) (ev_bind1 (heq _) (ev_if_pos rfl (Ev.bind hto (Ev.bind (eqDrive_refl (l.map toStored) room (by omega)) (ev_if_pos rfl (Ev.now _))))))))), rfl⟩
end Go.Proofs.Yteljfdhjbnlgoaa.Pure
