/- Plain words and laws that the proofs of this seat share: numbers, bytes, rounds. No statement is proved here. -/
import Derived.Test.YtgmdakcfcmkhkaaWWords
import Derived.Test.YtgmdakcfcmkhkaaWMore
namespace Go.Proofs.Ytgmdakcfcmkhkaa.Lib
open Go.RowKit Go.Proofs.YtgmdakcfcmkhkaaW.PrintWords
set_option linter.unusedVariables false

theorem w64 {n : Int} (h0 : -9223372036854775808 ≤ n) (h1 : n ≤ 9223372036854775807) : wrap64 n = n := by unfold wrap64; omega
/-- what ends in a value, whatever the rounds above some number. -/
theorem ev_if_pos {α : Type} {c : Prop} [Decidable c] {f g : Nat → Option α} {r : α} (h : c) (hf : Ev f r) : Ev (fun k => if c then f k else g k) r := Ev.congr (fun k => if_pos h) hf
theorem ev_if_neg {α : Type} {c : Prop} [Decidable c] {f g : Nat → Option α} {r : α} (h : ¬ c) (hg : Ev g r) : Ev (fun k => if c then f k else g k) r := Ev.congr (fun k => if_neg h) hg
theorem ev_some {α : Type} (r : α) : Ev (fun _ => some r) r := Ev.now r
theorem ev_eq {α : Type} {r r' : α} (h : r = r') : Ev (fun _ => some r) r' := h ▸ Ev.now r
theorem ev_from {α : Type} {f : Nat → Option α} {r : α} (K : Nat) (h : ∀ k, K ≤ k → f k = some r) : Ev f r := ⟨K, h⟩
/-- a part without rounds ahead. -/
theorem ev_bind1 {α β : Type} {x : Option α} {f : Nat → α → Option β} {a : α} {r : β} (h : x = some a) (k : Ev (fun n => f n a) r) : Ev (fun n => x.bind (f n)) r := by
  subst h
  exact k

/-- a byte that may stand in a name, at the place i. -/
def nameCh (c : Int) (i : Nat) : Bool := (decide (97 ≤ c) && decide (c ≤ 122)) || (!(i == 0) && ((decide (48 ≤ c) && decide (c ≤ 57)) || (c == 45)))
theorem nameStep (c : Int) (i : Nat) (X : Bool) : (if c ≥ 97 then (if (c ≤ 122) then some X else (if (i : Int) = 0 then (some false) else (if c ≥ 48 then (if (c ≤ 57) then some X else (if c = 45 then some X else (some false))) else (if c = 45 then some X else (some false))))) else (if (i : Int) = 0 then (some false) else (if c ≥ 48 then (if (c ≤ 57) then some X else (if c = 45 then some X else (some false))) else (if c = 45 then some X else (some false))))) = some (nameCh c i && X) := by
  have e : ((i : Int) = 0) = (i = 0) := by rw [eq_iff_iff]; omega
  simp only [e, nameCh]
  clear e
  rcases Nat.eq_zero_or_pos i with rfl | hi
  · by_cases h1 : 97 ≤ c <;> by_cases h2 : c ≤ 122 <;> simp [h1, h2]
  · have hi' : ¬ i = 0 := by omega
    by_cases h1 : 97 ≤ c <;> by_cases h2 : c ≤ 122 <;> by_cases h3 : 48 ≤ c <;> by_cases h4 : c ≤ 57 <;> by_cases h5 : c = 45 <;> simp [h1, h2, h3, h4, h5, hi'] <;> omega
def nameOk (s : ByteArray) : Nat → Nat → Bool
  | 0, _ => true
  | d + 1, i => nameCh (bt s i) i && nameOk s d (i + 1)
/-- a name of at most most bytes. -/
def isName (s : ByteArray) (most : Int) : Bool := nameOk s s.size 0 && (decide ((s.size : Int) ≥ 1) && decide ((s.size : Int) ≤ most))
end Go.Proofs.Ytgmdakcfcmkhkaa.Lib
