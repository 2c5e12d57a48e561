/- What is read as data of a type is of a print's kind: for arguments that are structs, and slices of structs. A library text: it proves no statement by itself. -/
import Derived.Test.YtdbnajnelbebfaaVFnExactObjectNames
import Derived.SizedLaws
import Derived.Deep.Slices
import Derived.Deep.Fields
import Derived.ChangeSame
import Derived.ChangeOld
import Derived.ChangeArms
import Derived.OpenShut
import Derived.ProofKit
import Derived.WalkKit
import Derived.Carry
namespace Go.Proofs.Ytdbnajnelbebfaa.Opening
open Go.ChangeShapes Go.WideShapes Go.RowKit Go.Proofs.YtdbnajnelbebfaaW.PrintWords
set_option linter.unusedVariables false

/-- What is read as data of the type t is of the kind d. -/
structure Opens {α : Type} (P : Program) (d : Kd α) (t : TypeId) (ok : α → Prop) : Prop where
  sz : P.cellsOf t = d.sz
  op : ∀ (H : Type) (enc : TypeId × Value → H) (w : World) (base : Nat) (sp : Nat → Bool) (hd : Bool) (fuel : Nat) (cs : List Value) (x : DataW H × List MemPlace),
    DataW.trod enc P w base sp hd fuel t cs = some x → ∃ a, d.K w a cs ∧ ok a

theorem opens_int {P : Program} {t : TypeId} {k : IntKind} (ht : P.underlying t = some (.int k)) (hc : P.cellsOf t = 1) : Opens P (Kd.int k) t (fun n => (Lit.int k n).wf = true) := by
  refine ⟨hc, fun H enc w base sp hd fuel cs x h => ?_⟩
  obtain ⟨n, h1, _, h2⟩ := DataW.trod_int ht h
  exact ⟨n, h1, h2⟩
theorem opens_string {P : Program} {t : TypeId} (ht : P.underlying t = some .string) (hc : P.cellsOf t = 1) : Opens P Kd.string t (fun s => s.size ≤ 9223372036854775807) := by
  refine ⟨hc, fun H enc w base sp hd fuel cs x h => ?_⟩
  obtain ⟨n, h1, _, h2⟩ := DataW.trod_string ht h
  exact ⟨n, h1, h2⟩
theorem opens_bool {P : Program} {t : TypeId} (ht : P.underlying t = some .bool) (hc : P.cellsOf t = 1) : Opens P Kd.bool t (fun _ => True) := by
  refine ⟨hc, fun H enc w base sp hd fuel cs x h => ?_⟩
  obtain ⟨n, h1, _⟩ := DataW.trod_bool ht h
  exact ⟨n, h1, trivial⟩

theorem exists_list {α : Type} (Q : Nat → α → Prop) : ∀ (n : Nat), (∀ i, i < n → ∃ a, Q i a) → ∃ l : List α, l.length = n ∧ ∀ i a, l[i]? = some a → Q i a := by
  intro n
  induction n with
  | zero => exact fun _ => ⟨[], rfl, fun i a h => by simp at h⟩
  | succ n ih =>
    intro h
    obtain ⟨l, hl, hq⟩ := ih (fun i hi => h i (by omega))
    obtain ⟨a, ha⟩ := h n (by omega)
    refine ⟨l ++ [a], by simp [hl], fun i b hb => ?_⟩
    rcases Nat.lt_or_ge i n with hi | hi
    · rw [List.getElem?_append_left (by omega)] at hb
      exact hq i b hb
    · rw [List.getElem?_append_right (by omega)] at hb
      have hi0 : i - l.length = 0 := by
        rcases Nat.eq_zero_or_pos (i - l.length) with h0 | h0
        · exact h0
        · rw [List.getElem?_eq_none (by simp; omega)] at hb
          cases hb
      rw [hi0] at hb
      have : b = a := by simpa using hb.symm
      subst this
      obtain rfl : i = n := by omega
      exact ha

theorem opens_slice {α : Type} {P : Program} {d : Kd α} {t e : TypeId} {ok : α → Prop} (ht : P.underlying t = some (.slice e)) (hc : P.cellsOf t = 1) (he : Opens P d e ok) :
    Opens P (Kd.slice e d) t (fun l => l.length ≤ 9223372036854775807 ∧ ∀ x ∈ l, ok x) := by
  refine ⟨hc, fun H enc w base sp hd fuel cs x h => ?_⟩
  rcases Go.Deep.open_slice ht h with ⟨rfl, _⟩ | ⟨a, len, cap, m, n, D, Pl, rfl, hb, hl, hcap, hm, hx, hi⟩
  · exact ⟨[], ⟨none, 0, rfl, Nat.le_refl _, rfl, by simp, fun h => absurd h (by simp)⟩, by simp, by simp⟩
  · have hml : len ≤ m := by rw [hm]; split <;> omega
    obtain ⟨l, hll, hq⟩ := exists_list (fun i (a' : α) => (∃ c, c.length = d.sz ∧ d.K w a' c ∧ ∀ j u, c[j]? = some u → w.cell? (a.add (i * d.sz + j)) = some u) ∧ ok a') len (fun i hil => by
      obtain ⟨cs', h1, h2⟩ := hi i (by omega)
      obtain ⟨a', hk, hok⟩ := he.op H enc w base sp hd n cs' _ h2
      refine ⟨a', ⟨cs', d.K_len hk, hk, fun j u hu => ?_⟩, hok⟩
      obtain ⟨_, hcl, hat⟩ := World.cells?_some h1
      obtain ⟨hjl, _⟩ := List.getElem?_eq_some_iff.1 hu
      have hsz := d.K_len hk
      rw [he.sz] at hat
      have hcell := hat j (by omega)
      rw [← hcell] at hu
      rw [← Go.Deep.add_add]
      exact hu)
    have hcap' : cap ≤ 9223372036854775807 := hcap
    refine ⟨l, ⟨some a, cap, by rw [hll], by omega, rfl, by omega, fun _ => ⟨a, rfl, fun j p hp => (hq j p hp).1⟩⟩, by omega, fun y hy => ?_⟩
    obtain ⟨j, hj⟩ := List.mem_iff_getElem?.1 hy
    exact (hq j y hj).2

/-- The fields of a struct from a place on. -/
structure OpensFs {α : Type} (P : Program) (d : Kd α) (off : Nat) (fs : List Field) (ok : α → Prop) : Prop where
  op : ∀ (H : Type) (enc : TypeId × Value → H) (w : World) (base : Nat) (sp : Nat → Bool) (hd : Bool) (fuel : Nat) (cs : List Value), cs.length = off + d.sz →
    (∀ f ∈ fs, ∃ x : DataW H × List MemPlace, DataW.trod enc P w base sp hd fuel f.type ((cs.drop f.offset).take (P.cellsOf f.type)) = some x) → ∃ a, d.K w a (cs.drop off) ∧ ok a

/-- Both parts of a pair. -/
def okp {α β : Type} (ok1 : α → Prop) (ok2 : β → Prop) (x : α × β) : Prop := ok1 x.1 ∧ ok2 x.2
theorem opens_last {α : Type} {P : Program} {d : Kd α} {off : Nat} {f : Field} {ok : α → Prop} (hf : f.offset = off) (h : Opens P d f.type ok) : OpensFs P d off [f] ok := by
  refine ⟨fun H enc w base sp hd fuel cs hl hx => ?_⟩
  obtain ⟨x, hx⟩ := hx f (by simp)
  rw [h.sz, hf, List.take_of_length_le (by simp; omega)] at hx
  exact h.op H enc w base sp hd fuel _ x hx
theorem opens_cons {α β : Type} {P : Program} {d1 : Kd α} {d2 : Kd β} {off : Nat} {f : Field} {fs : List Field} {ok1 : α → Prop} {ok2 : β → Prop} (hf : f.offset = off) (h1 : Opens P d1 f.type ok1) (h2 : OpensFs P d2 (off + d1.sz) fs ok2) :
    OpensFs P (Kd.pair d1 d2) off (f :: fs) (okp ok1 ok2) := by
  refine ⟨fun H enc w base sp hd fuel cs hl hx => ?_⟩
  have hl' : cs.length = off + (d1.sz + d2.sz) := hl
  obtain ⟨x, hx1⟩ := hx f (by simp)
  rw [h1.sz, hf] at hx1
  obtain ⟨a1, hk1, ho1⟩ := h1.op H enc w base sp hd fuel _ x hx1
  obtain ⟨a2, hk2, ho2⟩ := h2.op H enc w base sp hd fuel cs (by omega) (fun g hg => hx g (by simp [hg]))
  refine ⟨(a1, a2), ⟨_, _, ?_, hk1, hk2⟩, ho1, ho2⟩
  rw [← List.drop_drop]
  exact (List.take_append_drop _ _).symm
theorem opens_struct {α : Type} {P : Program} {d : Kd α} {t : TypeId} {fs : Array Field} {ok : α → Prop} (ht : P.underlying t = some (.struct fs)) (hc : P.cellsOf t = d.sz) (h : OpensFs P d 0 fs.toList ok) : Opens P d t ok := by
  refine ⟨hc, fun H enc w base sp hd fuel cs x hx => ?_⟩
  obtain ⟨xs, n, _, _, hl, hxl, hf⟩ := DataW.trod_struct ht hx
  have := h.op H enc w base sp hd n cs (by omega) (fun f hm => by
    obtain ⟨i, hi⟩ := List.mem_iff_getElem?.1 hm
    have hi' : fs[i]? = some f := by simpa using hi
    have := hf i f hi'
    have hlt : i < fs.size := (Array.getElem?_eq_some_iff.1 hi').1
    rw [List.getElem?_eq_getElem (by omega)] at this
    exact ⟨_, this⟩)
  simpa using this
theorem opens_iso {α β : Type} {P : Program} {d : Kd α} {t : TypeId} {ok : α → Prop} {f : β → α} (g : α → β) (hg : ∀ x, f (g x) = x) (h : Opens P d t ok) : Opens P (Kd.iso d f) t (fun y => ok (f y)) := by
  refine ⟨h.sz, fun H enc w base sp hd fuel cs x hx => ?_⟩
  obtain ⟨a, hk, ho⟩ := h.op H enc w base sp hd fuel cs x hx
  refine ⟨g a, ?_, ?_⟩
  · show d.K w (f (g a)) cs
    rw [hg]
    exact hk
  · show ok (f (g a))
    rw [hg]
    exact ho

/-- A struct argument: its cells. -/
theorem open_agg {α : Type} {P : Program} {d : Kd α} {t : TypeId} {fs : Array Field} {ok : α → Prop} (ho : Opens P d t ok) (ht : P.underlying t = some (.struct fs)) {H : Type} {enc : TypeId × Value → H} {W : World} {base b0 : Nat} {r : Reach} {sp : Nat → Bool} {hd : Bool} {v : Value} {dt : DataW H} {p : List MemPlace}
    (hv : Value.okWide P W r b0 t v) (h : DataW.Trod enc P W base sp hd t v dt p) : ∃ (cs : List Value) (a : α), v = .agg cs.toArray ∧ d.K W a cs ∧ ok a := by
  obtain ⟨cs, rfl, hsz⟩ := okWide_struct ht hv
  obtain ⟨fuel, hf⟩ := h
  obtain ⟨a, hk, hok⟩ := ho.op H enc W base sp hd fuel _ _ hf
  exact ⟨cs.toList, a, by simp, hk, hok⟩
/-- A slice argument: its row. -/
theorem open_row {α : Type} {P : Program} {d : Kd α} {t e : TypeId} {ok : α → Prop} (ho : Opens P d e ok) (ht : P.underlying t = some (.slice e)) (hc : P.cellsOf t = 1) {H : Type} {enc : TypeId × Value → H} {W : World} {base b0 : Nat} {r : Reach} {sp : Nat → Bool} {hd : Bool} {v : Value} {dt : DataW H} {p : List MemPlace}
    (hv : Value.okWide P W r b0 t v) (h : DataW.Trod enc P W base sp hd t v dt p) : ∃ (A : Option Addr) (c : Nat) (l : List α), v = .slice A l.length c ∧ l.length ≤ c ∧ d.C W A l.length l ∧ l.length ≤ 9223372036854775807 ∧ ∀ x ∈ l, ok x := by
  obtain ⟨a, len, cap, rfl⟩ := okWide_slice ht hv
  obtain ⟨fuel, hf⟩ := h
  obtain ⟨l, ⟨A, c, hcs, hl, hC⟩, hok, hall⟩ := (opens_slice ht hc ho).op H enc W base sp hd fuel _ _ hf
  have hcs' : [Value.slice a len cap] = [Value.slice A l.length c] := by simpa [Value.cells] using hcs
  injection hcs' with hcs' _
  exact ⟨A, c, l, hcs', hl, hC, hok, hall⟩
theorem trod_lt' {P : Program} {t : TypeId} {H : Type} {enc : TypeId × Value → H} {W : World} {base : Nat} {sp : Nat → Bool} {hd : Bool} {v : Value} {dt : DataW H} {p : List MemPlace} (h : DataW.Trod enc P W base sp hd t v dt p) : ∀ x ∈ p, x.block < W.heap.size := by
  obtain ⟨m, hm⟩ := h
  exact DataW.trod_lt m _ _ _ hm
end Go.Proofs.Ytdbnajnelbebfaa.Opening
