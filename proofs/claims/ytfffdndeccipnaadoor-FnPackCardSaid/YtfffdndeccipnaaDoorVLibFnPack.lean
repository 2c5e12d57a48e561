/- Plain words and laws that the proofs of this seat share: numbers, bytes, rounds. No statement is proved here. -/
import Derived.Test.YtfffdndeccipnaaDoorVFnPack
import Derived.Laws.BitsAllLaws
namespace Go.Proofs.YtfffdndeccipnaaDoor.Lib
open Go.RowKit Go.Proofs.YtfffdndeccipnaaDoorW.PrintWords
set_option linter.unusedVariables false
theorem w64 {n : Int} (h0 : -9223372036854775808 ≤ n) (h1 : n ≤ 9223372036854775807) : wrap64 n = n := by unfold wrap64; omega
/-- what ends in a value, whatever the rounds above some number. -/
theorem zu_ {α : Type} {c : Prop} [Decidable c] {f g : Nat → Option α} {r : α} (h : c) (hf : Ev f r) : Ev (fun k => if c then f k else g k) r := Ev.congr (fun k => if_pos h) hf
theorem z0_ {α : Type} {c : Prop} [Decidable c] {f g : Nat → Option α} {r : α} (h : ¬ c) (hg : Ev g r) : Ev (fun k => if c then f k else g k) r := Ev.congr (fun k => if_neg h) hg
theorem ev_eq {α : Type} {r r' : α} (h : r = r') : Ev (fun _ => some r) r' := h ▸ Ev.now r
theorem ev_from {α : Type} {f : Nat → Option α} {r : α} (K : Nat) (h : ∀ k, K ≤ k → f k = some r) : Ev f r := ⟨K, h⟩
/-- a part without rounds ahead. -/
theorem ys_ {α β : Type} {x : Option α} {f : Nat → α → Option β} {a : α} {r : β} (h : x = some a) (k : Ev (fun n => f n a) r) : Ev (fun n => x.bind (f n)) r := by
 subst h
 exact k
/-- what ends in a value of which P holds. -/
def Evs {α : Type} (g : Nat → Option α) (P : α → Prop) : Prop := ∃ r, Ev g r ∧ P r
theorem Evs.now {α : Type} {P : α → Prop} (r : α) (h : P r) : Evs (fun _ => some r) P := ⟨r, Ev.now r, h⟩
theorem Evs.mono {α : Type} {g : Nat → Option α} {P Q : α → Prop} (h : Evs g P) (hq : ∀ r, P r → Q r) : Evs g Q := h.imp fun r hr => ⟨hr.1, hq r hr.2⟩
theorem Evs.of {α : Type} {g : Nat → Option α} {r : α} (h : Ev g r) : Evs g (fun x => x = r) := ⟨r, h, rfl⟩
theorem Evs.ev {α : Type} {g : Nat → Option α} {r : α} (h : Evs g (fun x => x = r)) : Ev g r := by
 obtain ⟨x, hx, rfl⟩ := h
 exact hx
theorem Evs.bind {α β : Type} {g : Nat → Option α} {f : Nat → α → Option β} {Q : α → Prop} {P : β → Prop} (h : Evs g Q) (hf : ∀ a, Q a → Evs (fun k => f k a) P) : Evs (fun k => (g k).bind (f k)) P := by
 obtain ⟨a, ha, hq⟩ := h
 obtain ⟨r, hr, hp⟩ := hf a hq
 exact ⟨r, Ev.bind ha hr, hp⟩
theorem Evs.bind1 {α β : Type} {x : Option α} {f : Nat → α → Option β} {a : α} {P : β → Prop} (h : x = some a) (hf : Evs (fun k => f k a) P) : Evs (fun k => x.bind (f k)) P := by
 subst h
 exact hf
theorem Evs.if_pos {α : Type} {c : Prop} [Decidable c] {f g : Nat → Option α} {P : α → Prop} (h : c) (hf : Evs f P) : Evs (fun k => if c then f k else g k) P := hf.imp fun _ hr => ⟨zu_ h hr.1, hr.2⟩
theorem Evs.if_neg {α : Type} {c : Prop} [Decidable c] {f g : Nat → Option α} {P : α → Prop} (h : ¬ c) (hg : Evs g P) : Evs (fun k => if c then f k else g k) P := hg.imp fun _ hr => ⟨z0_ h hr.1, hr.2⟩
theorem Evs.ite {α : Type} {c : Prop} [Decidable c] {f g : Nat → Option α} {P : α → Prop} (hf : c → Evs f P) (hg : ¬ c → Evs g P) : Evs (fun k => if c then f k else g k) P := by
 by_cases h : c
 · exact Evs.if_pos h (hf h)
 · exact Evs.if_neg h (hg h)
theorem getD_nat {α : Type} (xs : List α) (i : Nat) (z : α) (h : i < xs.length) : xs.getD ((i : Int)).toNat z = xs[i] := by
 rw [Int.toNat_natCast, List.getD_eq_getElem?_getD, List.getElem?_eq_getElem h]
 rfl
theorem xor_ones (x : Nat) (h : x < 18446744073709551616) : x ^^^ 18446744073709551615 = 18446744073709551615 - x := by
 have h1 := BitVec.xor_allOnes (x := BitVec.ofNat 64 x)
 have h2 := congrArg BitVec.toNat h1
 rw [BitVec.toNat_xor, BitVec.toNat_not, BitVec.toNat_allOnes, BitVec.toNat_ofNat, Nat.mod_eq_of_lt h] at h2
 exact h2
/-! numbers as bytes -/
def numL (u : Nat) : List Int := if u < 128 then [(u : Int)] else ((u % 128 + 128 : Nat) : Int) :: numL (u / 128)
termination_by u
decreasing_by omega
theorem numL_lt {u : Nat} (h : u < 128) : numL u = [(u : Int)] := by unfold numL; rw [if_pos h]
theorem numL_ge {u : Nat} (h : ¬ u < 128) : numL u = ((u % 128 + 128 : Nat) : Int) :: numL (u / 128) := by rw [numL, if_neg h]
def fold (n : Int) : Nat := (if n < 0 then -2 * n - 1 else 2 * n).toNat
def yr_ (n : Int) : ByteArray := strOfNums (numL (fold n))
theorem numL_length (m : Nat) : ∀ u, u < 128 ^ (m + 1) → (numL u).length ≤ m + 1 ∧ 1 ≤ (numL u).length := by
 induction m with
 | zero =>
  intro u hu
  rw [numL_lt (by simpa using hu)]
  simp
 | succ m ih =>
  intro u hu
  by_cases h : u < 128
  ·
   rw [numL_lt h]
   simp
  ·
   rw [numL_ge h]
   have := ih (u / 128) (by rw [Nat.div_lt_iff_lt_mul (by decide)]; rw [← Nat.pow_succ]; exact hu)
   simp only [List.length_cons]
   omega
theorem fold_lt (n : Int) (h0 : -9223372036854775808 ≤ n) (h1 : n ≤ 9223372036854775807) : fold n < 18446744073709551616 := by
 unfold fold
 split <;> omega
theorem yP_ (n : Int) (h0 : -9223372036854775808 ≤ n) (h1 : n ≤ 9223372036854775807) : (yr_ n).size ≤ 10 ∧ 1 ≤ (yr_ n).size := by
 unfold yr_
 rw [strOfNums_size]
 exact numL_length 9 _ (Nat.lt_of_lt_of_le (fold_lt n h0 h1) (by decide))
end Go.Proofs.YtfffdndeccipnaaDoor.Lib
