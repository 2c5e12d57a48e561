/- A row of bytes that '[]byte(s)' has made: one's own, with a mark behind its end; the words that a printed walk uses of it. No statement is proved here. -/
import Derived.Test.YtdbnajnelbebfaaVRegFnWhole
import Derived.Test.YtdbnajnelbebfaaVAutFnWhole
import Derived.Lib.ConvBytes
import Derived.Lib.AppendStr
import Derived.Laws.IdiomCopy
import Derived.Maps.AppendAt
import Derived.OwnWalk
namespace Go.Proofs.YtdbnajnelbebfaaW.PrintWords.Km
open Go.RowKit Go.Proofs.YtdbnajnelbebfaaW.PrintWords
set_option linter.unusedVariables false
/-- The cells of a row of one's own, of which nothing within is frozen. -/
def Row (w : World) (base : Nat) (e : TypeId) (v : Value) (cs : List Value) : Prop :=
  (v = .slice none 0 0 ∧ cs = []) ∨ ∃ g cap cur fz, v = .slice (some ⟨g, 0, none⟩) cs.length cap ∧ base ≤ g ∧ w.heap[g]? = some (.cells cur e fz) ∧ (fz.2 = 0 ∨ cur.size ≤ fz.1) ∧ cs.length ≤ cap ∧ cap ≤ maxLen ∧ cur.size = cap ∧ cur.toList.take cs.length = cs
def R (d : Kd Int) (e : Nat) (w : World) (base : Nat) (ok : Nat → Prop) (v : Value) (xs : List Int) : Prop := Row w base e v (nums .u8 xs)
section
variable {d : Kd Int} {e base base' : Nat} {w w1 : World} {ok : Nat → Prop} {v : Value} {xs : List Int}
theorem row_own {cs : List Value} (h : w.ownsRow base e 1 v cs.length cs) : Row w base e v cs := by
  rcases h.2 with ⟨rfl, h0⟩ | ⟨g, cap, cur, rfl, hb, hg, h1, h2, h3, h4⟩
  · exact Or.inl ⟨rfl, List.eq_nil_of_length_eq_zero h0⟩
  · refine Or.inr ⟨g, cap, cur, (0, 0), rfl, hb, hg, Or.inl rfl, h1, h2, by simpa using h3, by simpa using h4⟩
theorem R_lower (h : R d e w base ok v xs) (hb : base' ≤ base) : R d e w base' ok v xs := by
  rcases h with h | ⟨g, cap, cur, fz, h0, h1, h2⟩
  · exact Or.inl h
  · exact Or.inr ⟨g, cap, cur, fz, h0, Nat.le_trans hb h1, h2⟩
theorem R_below (h : R d e w base ok v xs) (hb : Below w.heap.size w w1) : R d e w1 base ok v xs := by
  rcases h with h | ⟨g, cap, cur, fz, h0, h1, h2, h3⟩
  · exact Or.inl h
  · have hlt : g < w.heap.size := (Array.getElem?_eq_some_iff.1 h2).1
    exact Or.inr ⟨g, cap, cur, fz, h0, h1, (hb.block g hlt).trans h2, h3⟩
theorem R_alloc (h : R d e w base ok v xs) (o : Obj) : R d e (w.alloc o) base ok v xs := R_below h (below_alloc (Below.refl _ _) o)
theorem R_drew (h : R d e w base ok v xs) : R d e w.drew base ok v xs := R_below h (below_drew (Below.refl _ _))
theorem R_drewN (h : R d e w base ok v xs) (m : Nat) : R d e (w.drewN m) base ok v xs := R_below h (pw_below_drewN (Below.refl _ _) m)
theorem ro_ {W : World} (h : R d e w base ok v xs) (r : R d e w base ok v xs → R d e W base ok v xs := by intro h; (with_reducible repeat (first | apply Km.R_alloc | apply Km.R_drewN | apply Km.R_drew)); exact h) : R d e W base ok v xs := r h
theorem R_slice (h : R d e w base ok v xs) : ∃ A c, v = .slice A xs.length c := by
  rcases h with ⟨rfl, h0⟩ | ⟨g, cap, cur, fz, h0, _⟩
  · have : xs = [] := by
      cases xs with
      | nil => rfl
      | cons x xs => simp [nums] at h0
    subst this
    exact ⟨none, 0, rfl⟩
  · exact ⟨some ⟨g, 0, none⟩, cap, by rw [h0]; simp [nums]⟩
theorem row_base {cs : List Value} (h : Row w base e v cs) : ∀ k, v.ownBlock = some k → base ≤ k := by
  intro k hk
  rcases h with ⟨rfl, _⟩ | ⟨g, cap, cur, fz, rfl, h1, _⟩
  · simp [Value.ownBlock] at hk
  · have : g = k := by simpa [Value.ownBlock] using hk
    omega
theorem cell_of {cs : List Value} {g cap : Nat} {cur : Array Value} {fz : Nat × Nat} (hg : w.heap[g]? = some (.cells cur e fz)) (htake : cur.toList.take cs.length = cs) : ∀ (j : Nat) (u : Value), cs[j]? = some u → w.cell? ⟨g, j, none⟩ = some u := by
  intro j u hu
  rw [← htake, List.getElem?_take] at hu
  split at hu
  · simp only [World.cell?, hg]
    simpa using hu
  · cases hu
theorem own_string {P : Program} {src dst e' : TypeId} (hs : P.underlying src = some (.slice e')) (he : P.underlying e' = some (.int .u8)) (hd : P.underlying dst = some .string)
    (h : R d e w base ok v xs) : (convert src dst v).run P w = .ok (.string (strOfNums xs)) w := by
  rcases h with ⟨rfl, h0⟩ | ⟨g, cap, cur, fz, rfl, h1, hg, h3, h4, h5, h6, h7⟩
  · have : xs = [] := by
      cases xs with
      | nil => rfl
      | cons x xs => simp [nums] at h0
    subst this
    exact run_convert_bytes_nil w src e' hs he 0 0 dst hd
  · have hl : (nums .u8 xs).length = xs.length := by simp [nums]
    rw [hl]
    refine run_convert_bytes_arg w src e' hs he g 0 xs.length cap xs rfl (fun i hi => ?_) dst hd
    have := cell_of (cap := cap) hg h7 i (.int .u8 (xs.getD i 0)) (by simp [nums, List.getElem?_eq_getElem hi, List.getD_eq_getElem?_getD])
    simpa using this
end
/-! writing behind what is there -/
theorem setCell_heap (w : World) (g o : Nat) (cur : Array Value) (e : TypeId) (fz : Nat × Nat) (v : Value) (hg : w.heap[g]? = some (.cells cur e fz)) : (w.setCell ⟨g, o, none⟩ v).heap[g]? = some (.cells (cur.setIfInBounds o v) e fz) := by
  obtain ⟨lo, hi⟩ := fz
  simp [World.setCell, Array.getElem?_modify, hg]
theorem setCells_heap (g : Nat) (e : TypeId) (fz : Nat × Nat) : ∀ (vs : List Value) (o : Nat) (cur : Array Value) (w : World), w.heap[g]? = some (.cells cur e fz) → o + vs.length ≤ cur.size →
    ∃ cur' : Array Value, (w.setCells g o vs).heap[g]? = some (.cells cur' e fz) ∧ cur'.size = cur.size ∧ cur'.toList.take (o + vs.length) = cur.toList.take o ++ vs
  | [], o, cur, w, hg, _ => ⟨cur, hg, rfl, by simp⟩
  | v :: r, o, cur, w, hg, hl => by
    simp only [List.length_cons] at hl
    obtain ⟨cur', h1, h2, h3⟩ := setCells_heap g e fz r (o + 1) (cur.setIfInBounds o v) (w.setCell ⟨g, o, none⟩ v) (setCell_heap w g o cur e fz v hg) (by simp; omega)
    refine ⟨cur', h1, by simpa using h2, ?_⟩
    rw [List.length_cons, show o + (r.length + 1) = o + 1 + r.length by omega, h3, Array.toList_setIfInBounds]
    have e1 : (cur.toList.set o v).take (o + 1) = cur.toList.take o ++ [v] := by
      rw [List.take_succ_eq_append_getElem (by simp; omega), List.take_set_of_le (Nat.le_refl _)]
      simp
    rw [e1, List.append_assoc]
    rfl
theorem setCells_grown (g : Nat) : ∀ (vs : List Value) (o : Nat) (w : World), w.grownBy (w.setCells g o vs) (some g)
  | [], _, w => World.grownBy.refl w _
  | v :: r, o, w => by
    have h1 : w.grownBy (w.setCell ⟨g, o, none⟩ v) (some g) := ⟨rfl, rfl, rfl, by simp [World.setCell], fun k _ hk => Below.heap_setCell _ _ _ _ (fun e => hk (by simp [e]))⟩
    exact h1.trans (setCells_grown g r (o + 1) _)
section
variable {P : Program} {ops : Array Oper} {Q : Exit → Act → World → Prop} {rest : List Oper} {o : Oper} {a : Act}
theorem strs_u8 (y : ByteArray) : nums .u8 (bytesOf y) = Lib.strCells y := by simp [nums, bytesOf, Lib.strCells]
theorem run_append {d : Kd Int} {ok : Nat → Prop} {W : World} (base : Nat) (t u ty e : TypeId) (i0 : TypeInfo) (ht : P.underlying t = some (.slice e)) (hu : P.underlying u = some .string) (hi : P.info? e = some i0) (hz0 : i0.zero = some (.int .u8 0)) (hz1 : i0.size = 1) (hz2 : i0.bytes = 1)
    (v : Value) (xs : List Int) (y : ByteArray) (HO : R d e W base ok v xs) (hbase : base ≤ W.heap.size) (hl : xs.length + y.size ≤ 140737488355328) :
    ∃ v1 w1, (Builtin.append_ #[t, u] ty #[v, .string y]).run P W = .ok v1 w1 ∧ R d e w1 base ok v1 (xs ++ bytesOf y) ∧ W.grownBy w1 v.ownBlock := by
  have hc : nums .u8 (xs ++ bytesOf y) = nums .u8 xs ++ Lib.strCells y := by rw [nums_append, strs_u8]
  have hnx : (nums .u8 xs).length = xs.length := by simp [nums]
  have hsl := Lib.strCells_length y
  rcases HO with ⟨rfl, h0⟩ | ⟨g, cap, cur, fz, rfl, h1, hg, h3, h4, h5, h6, h7⟩
  · have hx0 : xs = [] := by
      cases xs with
      | nil => rfl
      | cons x xs => simp [nums] at h0
    subst hx0
    obtain ⟨v', w', r1, r2, r3, _⟩ := Lib.run_append_own_string (P := P) W base t u ty e i0 ht hu hi hz0 hz1 hz2 (.slice none 0 0) 0 [] ⟨by simp, .inl ⟨rfl, rfl⟩⟩ y (by simp only [maxLen]; simp at hl; omega) (by simpa using hl) hbase
    refine ⟨v', w', r1, row_own ?_, r3⟩
    rw [hc]
    simp only [List.length_append, hnx, hsl]
    simpa [nums] using r2
  · rw [hnx] at h4 h7 ⊢
    by_cases hroom : xs.length + y.size ≤ cap
    · have hf := Lib.run_firstCells_string (P := P) W 1 y
      have hst := run_storeCells_cells (P := P) g xs.length (Lib.strCells y) 0 W
        (fun j hj => by
          have : xs.length + 0 + j < cur.size := by omega
          simp [World.cell?, hg]; omega)
        (fun j hj => by
          obtain ⟨lo, hi'⟩ := fz
          simp only at h3
          simp only [World.frozen?, hg, Bool.and_eq_false_iff, decide_eq_false_iff_not]
          rcases h3 with h3 | h3
          · right; omega
          · left; omega) (Lib.strCells_oneCell y)
      simp only [Nat.add_zero] at hst
      obtain ⟨cur', c1, c2, c3⟩ := setCells_heap g e fz (Lib.strCells y) xs.length cur W hg (by omega)
      refine ⟨.slice (some ⟨g, 0, none⟩) (xs.length + y.size) cap, W.setCells g xs.length (Lib.strCells y), by simp [Builtin.append_, run_underlying ht, run_underlying hu, sizeOf, typeInfo, hi, hz1, Builtin.lenOf, hroom, hf, Addr.add_lit, hst], Or.inr ⟨g, cap, cur', fz, ?_, h1, c1, by rw [c2]; exact h3, ?_, h5, by rw [c2]; exact h6, ?_⟩, setCells_grown g (Lib.strCells y) xs.length W⟩
      · rw [hc]; simp [hnx, hsl]
      · rw [hc, List.length_append, hnx, hsl]; omega
      · rw [hc, List.length_append, hnx, c3, h7]
    · have holds : ∀ j u, (nums .u8 xs)[j]? = some u → W.cell? ((⟨g, 0, none⟩ : Addr).add j) = some u := by
        intro j u hu
        have hadd : (⟨g, 0, none⟩ : Addr).add j = ⟨g, j, none⟩ := by unfold Addr.add; split <;> simp_all
        rw [hadd]
        exact cell_of (cap := cap) hg (by rw [hnx]; exact h7) j u hu
      have hsmall : xs.length + y.size ≤ maxLen := by simp only [maxLen]; omega
      have hr := Lib.run_append_grow_string (P := P) W t u ty e i0 (.int .u8 0) ht hu hi hz0 ⟨g, 0, none⟩ xs.length cap (nums .u8 xs) (by rw [hz1, hnx]; omega) holds y (by omega) (by omega) (by rw [hz2]; exact growslice_fits (by omega) (by omega))
      have hge := grownCap_ge W (xs.length + y.size) cap e
      have hcm2 := grownCap_le_maxLen W (xs.length + y.size) cap e hsmall
      refine ⟨_, _, hr, Or.inr ⟨W.heap.size, _, _, (0, 0), ?_, hbase, heap_alloc_new W.drew _, Or.inl rfl, ?_, hcm2, ?_, ?_⟩, ⟨rfl, rfl, rfl, by simp, fun k hk _ => by first | exact heap_alloc_old W.drew _ k hk | exact heap_alloc_old W.drew _ hk | exact Lib.heap_alloc_old W.drew _ k hk⟩⟩
      · rw [hc]; simp [hnx, hsl]
      · rw [hc, List.length_append, hnx, hsl]; exact hge
      · have hz1' : (Value.int IntKind.u8 0).cells.size = 1 := rfl
        simp only [Array.size_append, List.size_toArray, size_zeroCells, hz1', hnx, hsl]
        omega
      · rw [hc]
        simp only [Array.toList_append, List.append_assoc, List.length_append]
        rw [← List.append_assoc, ← List.length_append]
        exact List.take_left
theorem print_append_str {w0 W : World} (base : Nat) (hgd : o.guard = none) (s x : Operand) (t u e : TypeId)
    (ho : o.op = .call { callee := .builtin .append, args := #[s, x], argTypes := #[t, u] })
    (ht : P.underlying t = some (.slice e)) (hu : P.underlying u = some .string) (hinfo : (P.info? e).map (fun i => (i.zero, i.size, i.bytes)) = some (some (.int .u8 0), 1, 1))
    (v : Value) (xs : List Int) (y : ByteArray) (hs : a.eval s = v) (hx : a.eval x = .string y)
    (HO : R (Kd.int .u8) e W base (fun _ => True) v xs) (HB : Below base w0 W) (hbase : base ≤ W.heap.size) (hl : xs.length + y.size ≤ 140737488355328)
    (h : ∀ v1 w1, R (Kd.int .u8) e w1 base (fun _ => True) v1 (xs ++ bytesOf y) → Below base w0 w1 → W.grownBy w1 v.ownBlock → wpList P ops Q rest (a.put o.dst v1) w1) :
    wpList P ops Q (o :: rest) a W := by
  obtain ⟨i0, hi, hzz⟩ := Option.map_eq_some_iff.1 hinfo
  simp only [Prod.mk.injEq] at hzz
  obtain ⟨hz0, hz1, hz2⟩ := hzz
  refine wpList_plain hgd fun K hK => ?_
  obtain ⟨v', w', hr, h2, h3⟩ := run_append (P := P) base t u o.type e i0 ht hu hi hz0 hz1 hz2 v xs y HO hbase hl
  unfold Oper.wp execOp
  simp only [ho, resolve, invoke, builtin, Sem.run_bind, Sem.run_pure, Result.andThen_ok, List.map_toArray, List.map_cons, List.map_nil, hs, hx, hr]
  exact hK _ _ (h v' w' h2 (HB.grown h3 hbase (row_base HO)) h3)
theorem conv_run {P : Program} (W : World) (e src dst : TypeId) (y : ByteArray) (hs : P.underlying src = some .string) (hd : P.underlying dst = some (.slice e)) (he : P.underlying e = some (.int .u8)) (hy : y.size ≤ 9223372036854775807) {d : Kd Int} {ok : Nat → Prop} :
    ∃ v1 w1, (convert src dst (.string y)).run P W = .ok v1 w1 ∧ R d e w1 W.heap.size ok v1 (bytesOf y) ∧ Below W.heap.size W w1 := by
  have hr := Lib.run_convert_string_bytes (P := P) W src dst e y hs hd he
  have hgr : W.grownBy (Lib.bytesWorld W e y) none := ⟨rfl, rfl, rfl, by rw [Lib.bytesWorld_size]; omega, fun k hk _ => Lib.bytesWorld_at_old W e y k hk⟩
  have hsz : (Lib.bytesCells W e y).size = grownCap W y.size 0 e := by
    have := grownCap_ge W y.size 0 e
    simp [Lib.bytesCells]
    have e2 : y.data.size = y.size := rfl
    omega
  refine ⟨_, _, hr, Or.inr ⟨W.heap.size, grownCap W y.size 0 e, Lib.bytesCells W e y, _, ?_, Nat.le_refl _, Lib.bytesWorld_at_new W e y, Or.inr (Nat.le_refl _), ?_, grownCap_le_maxLen W y.size 0 e (by simpa [maxLen] using hy), hsz, ?_⟩, (Below.refl _ _).grown hgr (Nat.le_refl _) (fun k hk => by cases hk)⟩
  · rw [strs_u8, Lib.strCells_length]
  · rw [strs_u8, Lib.strCells_length]; exact grownCap_ge W y.size 0 e
  · rw [strs_u8]
    have e3 : (Lib.bytesCells W e y).toList = Lib.strCells y ++ (Array.replicate (grownCap W y.size 0 e - y.size) (Value.int .u8 0)).toList := by
      simp [Lib.bytesCells, Lib.strCells]
    rw [e3]
    exact List.take_left
end
end Go.Proofs.YtdbnajnelbebfaaW.PrintWords.Km
