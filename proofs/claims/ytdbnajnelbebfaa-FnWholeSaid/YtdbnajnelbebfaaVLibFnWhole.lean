/- Plain words and laws that the proofs of this seat share: numbers, bytes, rounds. No statement is proved here. -/
import Derived.Test.YtdbnajnelbebfaaVFnWhole
import Derived.Laws.BitsAllLaws
namespace Go.Proofs.Ytdbnajnelbebfaa.Lib
open Go.RowKit Go.Proofs.YtdbnajnelbebfaaW.PrintWords
set_option linter.unusedVariables false

theorem w64 {n : Int} (h0 : -9223372036854775808 ≤ n) (h1 : n ≤ 9223372036854775807) : wrap64 n = n := by unfold wrap64; omega
/-- what ends in a value, whatever the rounds above some number. -/
theorem ev_if_pos {α : Type} {c : Prop} [Decidable c] {f g : Nat → Option α} {r : α} (h : c) (hf : Ev f r) : Ev (fun k => if c then f k else g k) r := Ev.congr (fun k => if_pos h) hf
theorem ev_if_neg {α : Type} {c : Prop} [Decidable c] {f g : Nat → Option α} {r : α} (h : ¬ c) (hg : Ev g r) : Ev (fun k => if c then f k else g k) r := Ev.congr (fun k => if_neg h) hg
theorem ev_some {α : Type} (r : α) : Ev (fun _ => some r) r := Ev.now r
theorem ev_eq {α : Type} {r r' : α} (h : r = r') : Ev (fun _ => some r) r' := h ▸ Ev.now r
theorem ev_from {α : Type} {f : Nat → Option α} {r : α} (K : Nat) (h : ∀ k, K ≤ k → f k = some r) : Ev f r := ⟨K, h⟩
/-- a part without rounds ahead. -/
theorem ev_bind1 {α β : Type} {x : Option α} {f : Nat → α → Option β} {a : α} {r : β} (h : x = some a) (k : Ev (fun n => f n a) r) : Ev (fun n => x.bind (f n)) r := by
  subst h
  exact k

/-- a loop upward: each round goes on, or ends. -/
theorem loop_up {σ ρ : Type} (F : Nat → σ → Int → Option ρ) (n : Nat) (hn : n ≤ 9223372036854775807) (K : Nat) (inv : Nat → σ → Prop) (res : ρ → Prop)
    (hstep : ∀ (k i : Nat) (s : σ), i < n → inv i s → K ≤ k → (wrap64 ((i : Int) + 1) = ((i + 1 : Nat) : Int)) → (∃ s', inv (i + 1) s' ∧ F (k + 1) s i = F k s' ((i + 1 : Nat) : Int)) ∨ ∃ r, F (k + 1) s i = some r ∧ res r)
    (hend : ∀ (k : Nat) (s : σ), inv n s → ∃ r, F (k + 1) s n = some r ∧ res r) :
    ∀ (d i k : Nat) (s : σ), i + d = n → inv i s → d + K < k → ∃ r, F k s i = some r ∧ res r := by
  intro d
  induction d with
  | zero =>
    intro i k s hi hs hk
    obtain ⟨k, rfl⟩ : ∃ m, k = m + 1 := ⟨k - 1, by omega⟩
    obtain rfl : i = n := by omega
    exact hend k s hs
  | succ d ih =>
    intro i k s hi hs hk
    obtain ⟨k, rfl⟩ : ∃ m, k = m + 1 := ⟨k - 1, by omega⟩
    rcases hstep k i s (by omega) hs (by omega) (by rw [w64 (by omega) (by omega)]; omega) with ⟨s', hs', he⟩ | ⟨r, he, hr⟩
    · obtain ⟨r, h1, h2⟩ := ih (i + 1) k s' (by omega) hs' (by omega)
      exact ⟨r, he.trans h1, h2⟩
    · exact ⟨r, he, hr⟩
/-- the same, as what ends in a value. -/
theorem loop_ev {σ ρ : Type} (F : Nat → σ → Int → Option ρ) (n : Nat) (hn : n ≤ 9223372036854775807) (K : Nat) (inv : Nat → σ → Prop) (v : ρ)
    (hstep : ∀ (k i : Nat) (s : σ), i < n → inv i s → K ≤ k → (wrap64 ((i : Int) + 1) = ((i + 1 : Nat) : Int)) → (∃ s', inv (i + 1) s' ∧ F (k + 1) s i = F k s' ((i + 1 : Nat) : Int)) ∨ F (k + 1) s i = some v)
    (hend : ∀ (k : Nat) (s : σ), inv n s → F (k + 1) s n = some v) (s : σ) (hs : inv 0 s) : Ev (fun k => F k s 0) v := by
  refine ev_from (n + K + 1) fun k hk => ?_
  obtain ⟨r, h1, h2⟩ := loop_up F n hn K inv (fun r => r = v) (fun k i s hi hv hK hw => (hstep k i s hi hv hK hw).imp id (fun h => ⟨v, h, rfl⟩)) (fun k s hv => ⟨v, hend k s hv, rfl⟩) n 0 k s (by omega) hs (by omega)
  rw [← h2]
  exact h1
/-- what ends in a value of which P holds. -/
def Evs {α : Type} (g : Nat → Option α) (P : α → Prop) : Prop := ∃ r, Ev g r ∧ P r
theorem Evs.now {α : Type} {P : α → Prop} (r : α) (h : P r) : Evs (fun _ => some r) P := ⟨r, Ev.now r, h⟩
theorem Evs.mono {α : Type} {g : Nat → Option α} {P Q : α → Prop} (h : Evs g P) (hq : ∀ r, P r → Q r) : Evs g Q := h.imp fun r hr => ⟨hr.1, hq r hr.2⟩
theorem Evs.of {α : Type} {g : Nat → Option α} {r : α} (h : Ev g r) : Evs g (fun x => x = r) := ⟨r, h, rfl⟩
theorem Evs.ev {α : Type} {g : Nat → Option α} {r : α} (h : Evs g (fun x => x = r)) : Ev g r := by
  obtain ⟨x, hx, rfl⟩ := h
  exact hx
theorem Evs.bind {α β : Type} {g : Nat → Option α} {f : Nat → α → Option β} {Q : α → Prop} {P : β → Prop} (h : Evs g Q) (hf : ∀ a, Q a → Evs (fun k => f k a) P) : Evs (fun k => (g k).bind (f k)) P := by
  obtain ⟨a, ha, hq⟩ := h
  obtain ⟨r, hr, hp⟩ := hf a hq
  exact ⟨r, Ev.bind ha hr, hp⟩
theorem Evs.bind1 {α β : Type} {x : Option α} {f : Nat → α → Option β} {a : α} {P : β → Prop} (h : x = some a) (hf : Evs (fun k => f k a) P) : Evs (fun k => x.bind (f k)) P := by
  subst h
  exact hf
theorem Evs.if_pos {α : Type} {c : Prop} [Decidable c] {f g : Nat → Option α} {P : α → Prop} (h : c) (hf : Evs f P) : Evs (fun k => if c then f k else g k) P := hf.imp fun _ hr => ⟨ev_if_pos h hr.1, hr.2⟩
theorem Evs.if_neg {α : Type} {c : Prop} [Decidable c] {f g : Nat → Option α} {P : α → Prop} (h : ¬ c) (hg : Evs g P) : Evs (fun k => if c then f k else g k) P := hg.imp fun _ hr => ⟨ev_if_neg h hr.1, hr.2⟩
theorem Evs.ite {α : Type} {c : Prop} [Decidable c] {f g : Nat → Option α} {P : α → Prop} (hf : c → Evs f P) (hg : ¬ c → Evs g P) : Evs (fun k => if c then f k else g k) P := by
  by_cases h : c
  · exact Evs.if_pos h (hf h)
  · exact Evs.if_neg h (hg h)
theorem Evs.mon {α : Type} {g : Nat → Option α} {P : α → Prop} (hg : ∀ k, LeO (g k) (g (k + 1))) (h : ∃ k r, g k = some r ∧ P r) : Evs g P := by
  obtain ⟨k, r, hr, hp⟩ := h
  exact ⟨r, Ev.of hg hr, hp⟩
/-- a loop that asks each place, and ends with false at the first that is not as wanted. -/
theorem loop_all (F : Nat → Int → Option Bool) (n : Nat) (hn : n ≤ 9223372036854775807) (K : Nat) (P : Nat → Bool)
    (hstep : ∀ (k i : Nat), i < n → K ≤ k → (wrap64 ((i : Int) + 1) = ((i + 1 : Nat) : Int)) → F (k + 1) i = if P i = true then F k ((i + 1 : Nat) : Int) else some false)
    (hend : ∀ (k : Nat), F (k + 1) n = some true) : Ev (fun k => F k 0) ((List.range n).all P) := by
  refine loop_ev (fun k (_ : Unit) i => F k i) n hn K (fun i _ => ∀ j, j < i → P j = true) _ (fun k i s hi hv hK hw => ?_) (fun k s hv => ?_) () (fun j hj => absurd hj (by omega))
  · have h := hstep k i hi hK hw
    by_cases hp : P i = true
    · rw [if_pos hp] at h
      refine Or.inl ⟨(), fun j hj => ?_, h⟩
      rcases Nat.lt_or_ge j i with h1 | h1
      · exact hv j h1
      · obtain rfl : j = i := by omega
        exact hp
    · rw [if_neg hp] at h
      refine Or.inr (h.trans (congrArg some ?_))
      symm
      rw [Bool.eq_false_iff]
      intro hall
      rw [List.all_eq_true] at hall
      exact hp (hall i (List.mem_range.2 hi))
  · refine (hend k).trans (congrArg some ?_)
    symm
    rw [List.all_eq_true]
    intro j hj
    exact hv j (List.mem_range.1 hj)
/-- the same, for a loop whose round takes c steps of the count. -/
theorem loop_allC (c : Nat) (F : Nat → Int → Option Bool) (n : Nat) (hn : n ≤ 9223372036854775807) (K : Nat) (P : Nat → Bool) (last : Bool)
    (hstep : ∀ (k i : Nat), i < n → K ≤ k → (wrap64 ((i : Int) + 1) = ((i + 1 : Nat) : Int)) → F (k + c) i = if P i = true then F k ((i + 1 : Nat) : Int) else some false)
    (hend : ∀ (k : Nat), K ≤ k → F (k + 1) n = some last) : Ev (fun k => F k 0) ((List.range n).all P && last) := by
  have main : ∀ (d i k : Nat), i + d = n → (∀ j, j < i → P j = true) → d * c + K < k → F k i = some ((List.range n).all P && last) := by
    intro d
    induction d with
    | zero =>
      intro i k hi hv hk
      obtain ⟨k, rfl⟩ : ∃ m, k = m + 1 := ⟨k - 1, by omega⟩
      obtain rfl : i = n := by omega
      have hall : (List.range i).all P = true := by
        rw [List.all_eq_true]
        intro j hj
        exact hv j (List.mem_range.1 hj)
      rw [hend k (by omega), hall, Bool.true_and]
    | succ d ih =>
      intro i k hi hv hk
      have e : (d + 1) * c = d * c + c := Nat.succ_mul d c
      obtain ⟨k, rfl⟩ : ∃ m, k = m + c := ⟨k - c, by omega⟩
      rw [hstep k i (by omega) (by omega) (by rw [w64 (by omega) (by omega)]; omega)]
      by_cases hp : P i = true
      · rw [if_pos hp]
        refine ih (i + 1) k (by omega) (fun j hj => ?_) (by omega)
        rcases Nat.lt_or_ge j i with h1 | h1
        · exact hv j h1
        · obtain rfl : j = i := by omega
          exact hp
      · rw [if_neg hp]
        have hall : (List.range n).all P = false := by
          rw [Bool.eq_false_iff]
          intro hall
          rw [List.all_eq_true] at hall
          exact hp (hall i (List.mem_range.2 (by omega)))
        rw [hall]; rfl
  refine ev_from (n * c + K + 1) fun k hk => ?_
  exact main n 0 k (by omega) (fun j hj => absurd hj (by omega)) (by omega)
/-- the same, with a last word behind it. -/
theorem loop_allK (F : Nat → Int → Option Bool) (n : Nat) (hn : n ≤ 9223372036854775807) (K : Nat) (P : Nat → Bool) (last : Bool)
    (hstep : ∀ (k i : Nat), i < n → K ≤ k → (wrap64 ((i : Int) + 1) = ((i + 1 : Nat) : Int)) → F (k + 1) i = if P i = true then F k ((i + 1 : Nat) : Int) else some false)
    (hend : ∀ (k : Nat), K ≤ k → F (k + 1) n = some last) : Ev (fun k => F k 0) ((List.range n).all P && last) := by
  have main : ∀ (d i k : Nat), i + d = n → (∀ j, j < i → P j = true) → d + K < k → F k i = some ((List.range n).all P && last) := by
    intro d
    induction d with
    | zero =>
      intro i k hi hv hk
      obtain ⟨k, rfl⟩ : ∃ m, k = m + 1 := ⟨k - 1, by omega⟩
      obtain rfl : i = n := by omega
      have hall : (List.range i).all P = true := by
        rw [List.all_eq_true]
        intro j hj
        exact hv j (List.mem_range.1 hj)
      rw [hend k (by omega), hall, Bool.true_and]
    | succ d ih =>
      intro i k hi hv hk
      obtain ⟨k, rfl⟩ : ∃ m, k = m + 1 := ⟨k - 1, by omega⟩
      rw [hstep k i (by omega) (by omega) (by rw [w64 (by omega) (by omega)]; omega)]
      by_cases hp : P i = true
      · rw [if_pos hp]
        refine ih (i + 1) k (by omega) (fun j hj => ?_) (by omega)
        rcases Nat.lt_or_ge j i with h1 | h1
        · exact hv j h1
        · obtain rfl : j = i := by omega
          exact hp
      · rw [if_neg hp]
        have hall : (List.range n).all P = false := by
          rw [Bool.eq_false_iff]
          intro hall
          rw [List.all_eq_true] at hall
          exact hp (hall i (List.mem_range.2 (by omega)))
        rw [hall, Bool.false_and]
  exact ev_from (n + K + 1) fun k hk => main n 0 k (by omega) (fun j hj => absurd hj (by omega)) (by omega)
/-- rounds enough for all elements of a list. -/
theorem ev_all {α β : Type} (g : α → Nat → Option β) (r : α → β) : ∀ (xs : List α), (∀ x ∈ xs, Ev (g x) (r x)) → ∃ K, ∀ x ∈ xs, ∀ k, K ≤ k → g x k = some (r x)
  | [], _ => ⟨0, fun x hx => absurd hx (by simp)⟩
  | x :: xs, h => by
    obtain ⟨K1, h1⟩ := h x (by simp)
    obtain ⟨K2, h2⟩ := ev_all g r xs (fun y hy => h y (by simp [hy]))
    refine ⟨K1 + K2, fun y hy k hk => ?_⟩
    rcases List.mem_cons.1 hy with rfl | hy
    · exact h1 k (by omega)
    · exact h2 y hy k (by omega)
/-- the element ahead of a place. -/
theorem getD_prev {α : Type} (xs : List α) (i : Nat) (z : α) (h0 : 0 < i) (h : i < xs.length) (hl : xs.length ≤ 9223372036854775807) : xs.getD (wrap64 ((i : Int) - 1)).toNat z = xs.getD (i - 1) z ∧ 0 ≤ wrap64 ((i : Int) - 1) ∧ wrap64 ((i : Int) - 1) < (xs.length : Int) := by
  have e : wrap64 ((i : Int) - 1) = ((i - 1 : Nat) : Int) := by rw [w64 (by omega) (by omega)]; omega
  rw [e]
  exact ⟨by rw [Int.toNat_natCast], by omega, by omega⟩
theorem getD_nat {α : Type} (xs : List α) (i : Nat) (z : α) (h : i < xs.length) : xs.getD ((i : Int)).toNat z = xs[i] := by
  rw [Int.toNat_natCast, List.getD_eq_getElem?_getD, List.getElem?_eq_getElem h]
  rfl
/-- what the guard on sizes leaves. -/
def szv : Int → List Int → Int
  | left, [] => left
  | left, s :: t => if left - s < 0 then -1 else szv (left - s) t
theorem szv_le : ∀ (l : List Int) (left : Int), (∀ s ∈ l, 0 ≤ s) → (0 ≤ left ∨ left = -1) → szv left l ≤ left ∨ szv left l = -1
  | [], left, _, _ => Or.inl (Int.le_refl _)
  | s :: t, left, h, h0 => by
    unfold szv
    split
    · exact Or.inr rfl
    · have hs := h s (by simp)
      rcases szv_le t (left - s) (fun x hx => h x (by simp [hx])) (Or.inl (by omega)) with h1 | h1
      · exact Or.inl (by omega)
      · exact Or.inr h1
theorem szv_sum : ∀ (l : List Int) (left : Int), (∀ s ∈ l, 0 ≤ s) → 0 ≤ szv left l → szv left l + l.sum = left
  | [], left, _, _ => by simp [szv]
  | s :: t, left, h, h0 => by
    unfold szv at h0 ⊢
    split at h0
    · omega
    · rename_i hn
      rw [if_neg hn]
      have := szv_sum t (left - s) (fun x hx => h x (by simp [hx])) h0
      rw [List.sum_cons]
      omega
/-- one size taken off. -/
theorem sz_wrap {left s : Int} (h0 : 0 ≤ left) (h1 : left ≤ 1048576) (h2 : 0 ≤ s) (h3 : s ≤ 9223372036854775807) : wrap64 (left - s) = left - s := w64 (by omega) (by omega)
theorem mem_le_sum {α : Type} (f : α → Int) : ∀ (l : List α), (∀ x ∈ l, 0 ≤ f x) → ∀ x ∈ l, f x ≤ (l.map f).sum
  | [], _, x, hx => absurd hx (by simp)
  | y :: l, h, x, hx => by
    have h1 := h y (by simp)
    have h2 : 0 ≤ (l.map f).sum := by
      clear hx
      induction l with
      | nil => simp
      | cons z l ih =>
        rw [List.map_cons, List.sum_cons]
        have := h z (by simp)
        have := ih (fun x hx => h x (by rcases List.mem_cons.1 hx with rfl | hx <;> simp [*]))
        omega
    rw [List.map_cons, List.sum_cons]
    rcases List.mem_cons.1 hx with rfl | hx
    · omega
    · have := mem_le_sum f l (fun z hz => h z (by simp [hz])) x hx
      omega
theorem sum_drop_cons {α : Type} (f : α → Int) (l : List α) (i : Nat) (h : i < l.length) : ((l.drop i).map f).sum = f l[i] + ((l.drop (i + 1)).map f).sum := by
  rw [List.drop_eq_getElem_cons h, List.map_cons, List.sum_cons]
theorem sum_pos {α : Type} (f : α → Int) : ∀ (l : List α), (∀ x, 0 ≤ f x) → 0 ≤ (l.map f).sum
  | [], _ => by simp
  | x :: l, h => by
    rw [List.map_cons, List.sum_cons]
    have := h x
    have := sum_pos f l h
    omega
theorem sum_take_succ {α : Type} (f : α → Int) (l : List α) (i : Nat) (h : i < l.length) : ((l.take (i + 1)).map f).sum = ((l.take i).map f).sum + f l[i] := by
  rw [List.take_succ_eq_append_getElem h, List.map_append, List.sum_append]
  simp
/-- a list filled place by place. -/
theorem fill_done {α β : Type} (f : α → β) (xs : List α) (acc : List β) (hl : acc.length = xs.length) (h : ∀ j, j < xs.length → acc[j]? = (xs.map f)[j]?) : acc = xs.map f := by
  apply List.ext_getElem?
  intro j
  rcases Nat.lt_or_ge j xs.length with hj | hj
  · exact h j hj
  · rw [List.getElem?_eq_none (by omega), List.getElem?_eq_none (by simp; omega)]
theorem fill_step {α β : Type} (f : α → β) (xs : List α) (acc : List β) (i : Nat) (hi : i < xs.length) (hl : acc.length = xs.length) (h : ∀ j, j < i → acc[j]? = (xs.map f)[j]?) (y : β) (hy : y = f xs[i]) :
    (acc.set ((i : Int)).toNat y).length = xs.length ∧ ∀ j, j < i + 1 → (acc.set ((i : Int)).toNat y)[j]? = (xs.map f)[j]? := by
  rw [Int.toNat_natCast]
  refine ⟨by simp [hl], fun j hj => ?_⟩
  by_cases e : j = i
  · subst e
    rw [List.getElem?_set_self (by omega), List.getElem?_map, List.getElem?_eq_getElem hi, hy]
    rfl
  · rw [List.getElem?_set_ne (fun h => e h.symm)]
    exact h j (by omega)

/-- a byte that may stand in a name, at the place i. -/
def nameCh (c : Int) (i : Nat) : Bool := (decide (97 ≤ c) && decide (c ≤ 122)) || (!(i == 0) && ((decide (48 ≤ c) && decide (c ≤ 57)) || (c == 45)))
theorem nameStep (c : Int) (i : Nat) (X : Bool) : (if c ≥ 97 then (if (c ≤ 122) then some X else (if (i : Int) = 0 then (some false) else (if c ≥ 48 then (if (c ≤ 57) then some X else (if c = 45 then some X else (some false))) else (if c = 45 then some X else (some false))))) else (if (i : Int) = 0 then (some false) else (if c ≥ 48 then (if (c ≤ 57) then some X else (if c = 45 then some X else (some false))) else (if c = 45 then some X else (some false))))) = some (nameCh c i && X) := by
  have e : ((i : Int) = 0) = (i = 0) := by rw [eq_iff_iff]; omega
  simp only [e, nameCh]
  clear e
  rcases Nat.eq_zero_or_pos i with rfl | hi
  · by_cases h1 : 97 ≤ c <;> by_cases h2 : c ≤ 122 <;> simp [h1, h2]
  · have hi' : ¬ i = 0 := by omega
    by_cases h1 : 97 ≤ c <;> by_cases h2 : c ≤ 122 <;> by_cases h3 : 48 ≤ c <;> by_cases h4 : c ≤ 57 <;> by_cases h5 : c = 45 <;> simp [h1, h2, h3, h4, h5, hi'] <;> omega
def nameOk (s : ByteArray) : Nat → Nat → Bool
  | 0, _ => true
  | d + 1, i => nameCh (bt s i) i && nameOk s d (i + 1)
/-- a name of at most most bytes. -/
def isName (s : ByteArray) (most : Int) : Bool := nameOk s s.size 0 && (decide ((s.size : Int) ≥ 1) && decide ((s.size : Int) ≤ most))
theorem xor_ones (x : Nat) (h : x < 18446744073709551616) : x ^^^ 18446744073709551615 = 18446744073709551615 - x := by
  have h1 := BitVec.xor_allOnes (x := BitVec.ofNat 64 x)
  have h2 := congrArg BitVec.toNat h1
  rw [BitVec.toNat_xor, BitVec.toNat_not, BitVec.toNat_allOnes, BitVec.toNat_ofNat, Nat.mod_eq_of_lt h] at h2
  exact h2

/-! numbers as bytes -/
def numL (u : Nat) : List Int := if u < 128 then [(u : Int)] else ((u % 128 + 128 : Nat) : Int) :: numL (u / 128)
termination_by u
decreasing_by omega
theorem numL_lt {u : Nat} (h : u < 128) : numL u = [(u : Int)] := by unfold numL; rw [if_pos h]
theorem numL_ge {u : Nat} (h : ¬ u < 128) : numL u = ((u % 128 + 128 : Nat) : Int) :: numL (u / 128) := by rw [numL, if_neg h]
def fold (n : Int) : Nat := (if n < 0 then -2 * n - 1 else 2 * n).toNat
def putNum (n : Int) : ByteArray := strOfNums (numL (fold n))
theorem numL_length (m : Nat) : ∀ u, u < 128 ^ (m + 1) → (numL u).length ≤ m + 1 ∧ 1 ≤ (numL u).length := by
  induction m with
  | zero =>
    intro u hu
    rw [numL_lt (by simpa using hu)]
    simp
  | succ m ih =>
    intro u hu
    by_cases h : u < 128
    · rw [numL_lt h]
      simp
    · rw [numL_ge h]
      have := ih (u / 128) (by rw [Nat.div_lt_iff_lt_mul (by decide)]; rw [← Nat.pow_succ]; exact hu)
      simp only [List.length_cons]
      omega
theorem fold_lt (n : Int) (h0 : -9223372036854775808 ≤ n) (h1 : n ≤ 9223372036854775807) : fold n < 18446744073709551616 := by
  unfold fold
  split <;> omega
theorem putNum_size (n : Int) (h0 : -9223372036854775808 ≤ n) (h1 : n ≤ 9223372036854775807) : (putNum n).size ≤ 10 ∧ 1 ≤ (putNum n).size := by
  unfold putNum
  rw [strOfNums_size]
  exact numL_length 9 _ (Nat.lt_of_lt_of_le (fold_lt n h0 h1) (by decide))
theorem wf64 {n : Int} (h : (Lit.int .i64 n).wf = true) : -9223372036854775808 ≤ n ∧ n ≤ 9223372036854775807 := by
  have := h
  simp [Lit.wf, IntKind.signed, IntKind.bits, IntKind.min, IntKind.max] at this
  omega
end Go.Proofs.Ytdbnajnelbebfaa.Lib
