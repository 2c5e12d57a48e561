/- Functions of the law FnExactPlacesDrop: the print's, with walks of this session's own. No statement is proved here. -/
import Derived.Lib.SliceRun
import Derived.WalkLawsBesides
import Derived.Test.YtggbpjfgfenpdaaVRegFnExactPlacesDrop
-- A program of this session wrote this text: a changed copy of the kit print, with given functions.
import Derived.Test.YtggbpjfgfenpdaaPFnExactPlacesDropx0
import Derived.Test.YtggbpjfgfenpdaaPFnExactPlacesDropx4
import Derived.Test.YtggbpjfgfenpdaaPFnExactPlacesDropx6
namespace Go.Proofs.Ytggbpjfgfenpdaa.PFnExactPlacesDrop
open Go.RowKit Go.Proofs.YtggbpjfgfenpdaaW.PrintWords Go.Proofs.YtggbpjfgfenpdaaW.PrintLast Go.Proofs.YtggbpjfgfenpdaaW.PrintMore Go.Proofs.Ytggbpjfgfenpdaa.Reg Go.Proofs.Ytggbpjfgfenpdaa.Aut
attribute [local go_sem] max2_int min2_int max_two min_two max_three min_three max_four min_four   -- for this text's walks alone
set_option linter.unusedVariables false
set_option linter.unusedSimpArgs false

/-! ### impl_isLong: function 56 -/
def impl_isLong.f (a0 : ByteArray) : Option (Bool) := some (decide ((a0.size : Int) > 20000))
set_option maxHeartbeats 8000000 in
set_option maxRecDepth 100000 in
theorem impl_isLong.calls (a0 : ByteArray) (r : Bool) (w : World) (h : impl_isLong.f a0 = some r) :
    Calls Try.prog 56 #[.string a0] w fun e w' => e = .returned (.bool r) ∧ Drawn0 w w' := by
  have H : (some (decide ((a0.size : Int) > 20000))) = some r := h
  clear h
  obtain rfl := Option.some.inj H
  go_enter Try.func56, Try.ntmps56
  go_wp2
  go_ret
  exact ⟨by first | rfl | (simp; done) | (simp [*]; done), by repeat (first | exact Drawn0.refl _ | apply Drawn0.step)⟩

-- NOT PRINTED: function 114 (impl_Place_114)

-- NOT PRINTED: function 60 (impl_Place_60)

-- NOT PRINTED: function 61 (impl_Place_61)

/-! ### impl_PlacesDrop: function 25 -/
def impl_PlacesDrop.l0 : Nat → List (S66) → ByteArray → Int → Option (Int)
  | 0, _, _, _ => none
  | k + 1, l, key, x => if x < (l.length : Int) then (if 0 ≤ x then (if (rd_T66 l x).f1.toList = key.toList then (some x) else (impl_PlacesDrop.l0 k l key (wrap64 (x + 1)))) else (none)) else (some (-1))
theorem impl_PlacesDrop.mono_l : ∀ k, (∀ y0 y1 y2, LeO (impl_PlacesDrop.l0 k y0 y1 y2) (impl_PlacesDrop.l0 (k + 1) y0 y1 y2))
  | 0 => fun _ _ _ r h => by simp [impl_PlacesDrop.l0] at h
  | k + 1 => by
    have ih0 := impl_PlacesDrop.mono_l k
    · intro y0 y1 y2
      unfold impl_PlacesDrop.l0
      repeat' first
      | (with_reducible exact ih0 _ _ _)
      | (with_reducible exact LeO.refl _)
      | (with_reducible exact LeO.none _)
      | (with_reducible refine LeO.ite ?_ ?_)
      | exact ih0 _ _ _
set_option maxHeartbeats 4000000 in
set_option maxRecDepth 100000 in
theorem impl_PlacesDrop.pred (q : S66) (key : ByteArray) (B : Nat) (v : Bool) (hv : (q.f1.toList == key.toList) = v) (w : World) (hc : w.cell? ⟨B, 0, none⟩ = some (.string key)) :
    Calls Try.prog 62 #[.agg #[.string q.f0, .string q.f1, .int .i64 q.f2, .int .i64 q.f3, .int .i64 q.f4], .pointer (some ⟨B, 0, none⟩)] w fun e w' => e = .returned (.bool v) ∧ Below w.heap.size w w' := by
  have hu := Try.underlying66
  have hg := ((Below.refl w.heap.size w).alloc (Nat.le_refl _) (Obj.cells #[.string q.f0, .string q.f1, .int .i64 q.f2, .int .i64 q.f3, .int .i64 q.f4] 66))
  have hc' := Reg.cellG (Reg.grow_refl _) hg hc
  have HG := AM hg
  clear hg hc
  go_enter Try.func62, Try.ntmps62
  go_wp2
  go_ret
  exact ⟨rfl, HG.out⟩
set_option maxHeartbeats 4000000 in
set_option maxRecDepth 100000 in
theorem impl_PlacesDrop.idx (k : Nat) (A0 : Option Addr) (c0 : Nat) (l0 : List (S66)) (key : ByteArray) (B : Nat) (r : Int) (w : World) (hr0 : Kd.C k66 w A0 l0.length l0) (hc0 : l0.length ≤ c0) (hcell : w.cell? ⟨B, 0, none⟩ = some (.string key)) (h : impl_PlacesDrop.l0 k l0 key 0 = some r) :
    Calls Try.prog 114 #[.slice A0 l0.length c0, .func (.func 62) #[] #[.pointer (some ⟨B, 0, none⟩)]] w fun e w' => e = .returned (.int .i64 r) ∧ Below w.heap.size w w' := by
  have hu := Try.underlying66
  have HR0 := AM hr0
  have HC0 := AM hc0
  have HCL := AM hcell
  clear hr0 hc0 hcell
  have HB := AM (Below.refl w.heap.size w)
  have H' := AM h
  clear h
  go_enter Try.func114, Try.ntmps114
  go_wp2
  go_loopg [8] k (fun kq v8 w' => ∃ (x : Int), v8 = .int .i64 x ∧ Aside0 (impl_PlacesDrop.l0 kq l0 key x = some r) ∧ Aside0 (kq ≤ k) ∧ Aside0 (Below w.heap.size w w'))
  case atStart => exact ⟨0, rfl, H', ⟨Nat.le_refl _⟩, HB⟩
  case round =>
    clear H'
    obtain ⟨x, rfl, HA, HK1, HB⟩ := hrel
    cases gk with
    | zero => exact absurd HA.out (by simp [impl_PlacesDrop.l0])
    | succ k1 =>
      have H := HA.out
      clear HA
      simp only [impl_PlacesDrop.l0] at H
      by_cases c3 : x < (l0.length : Int)
      · rw [if_pos c3] at H
        by_cases c4 : 0 ≤ x
        · rw [if_pos c4] at H
          have H' := AM H
          clear H
          obtain ⟨ad, rfl, hx0, hx1, hx2, hx3, hx4⟩ := at_T66 HR0.out x c4 c3
          replace hx0 := Reg.cellG HB.out (Reg.grow_refl _) hx0
          replace hx1 := Reg.cellG HB.out (Reg.grow_refl _) hx1
          replace hx2 := Reg.cellG HB.out (Reg.grow_refl _) hx2
          replace hx3 := Reg.cellG HB.out (Reg.grow_refl _) hx3
          replace hx4 := Reg.cellG HB.out (Reg.grow_refl _) hx4
          have hkc := AM (Reg.cellG HB.out (Reg.grow_refl _) HCL.out)
          have c3b0 : decide (x < (l0.length : Int)) = true := decide_eq_true c3
          have c3b1 := eq_true c3
          have c4b0 := eq_true c4
          clear c3 c4
          by_cases c5 : (rd_T66 l0 x).f1.toList = key.toList
          · have H := H'.out
            rw [if_pos c5] at H
            obtain rfl := Option.some.inj H
            have c5b : ((rd_T66 l0 x).f1.toList == key.toList) = true := beq_iff_eq.mpr c5
            have C5 := AM c5b
            clear H H' c5 c5b
            go_wp2_with (go_at_call 62; refine (impl_PlacesDrop.pred (rd_T66 l0 x) key B _ C5.out _ hkc.out).mono ?_; rintro e w2 ⟨rfl, hb⟩; replace HB := AM (Reg.below_grow HB.out hb); clear hb hx0 hx1 hx2 hx3 hx4 hkc)
            go_ret
            exact ⟨rfl, HB.out⟩
          · have H := H'.out
            rw [if_neg c5] at H
            have c5b : ((rd_T66 l0 x).f1.toList == key.toList) = false := beq_eq_false_iff_ne.mpr c5
            have C5 := AM c5b
            have H1 := AM H
            clear H H' c5 c5b
            go_wp2_with (go_at_call 62; refine (impl_PlacesDrop.pred (rd_T66 l0 x) key B _ C5.out _ hkc.out).mono ?_; rintro e w2 ⟨rfl, hb⟩; replace HB := AM (Reg.below_grow HB.out hb); clear hb hx0 hx1 hx2 hx3 hx4 hkc)
            go_roundg k1
            case measure => have := HK1.out; omega
            case rel => exact ⟨(wrap64 (x + 1)), (by first | rfl | (simp; done) | (simp [*]; done)), H1, ⟨by have := HK1.out; omega⟩, HB⟩
        · rw [if_neg c4] at H
          exact absurd H (by simp)
      · rw [if_neg c3] at H
        have c3b0 : decide (x < (l0.length : Int)) = false := decide_eq_false c3
        clear c3
        obtain rfl := Option.some.inj H
        go_wp2
        go_ret
        exact ⟨rfl, HB.out⟩
def impl_PlacesDrop.l1 : Nat → List (S66) → ByteArray → Int → Int → Option (List (S66) × Int)
  | 0, _, _, _, _ => none
  | k + 1, xs, key, i, j => if j < (xs.length : Int) then (if 0 ≤ j then (if (rd_T66 xs j).f1.toList = key.toList then (impl_PlacesDrop.l1 k xs key i (wrap64 (j + 1))) else (if 0 ≤ i then (if i < (xs.length : Int) then (impl_PlacesDrop.l1 k (xs.set i.toNat (rd_T66 xs j)) key (wrap64 (i + 1)) (wrap64 (j + 1))) else (none)) else (none))) else (none)) else (if 0 ≤ i then (if i ≤ (xs.length : Int) then some (xs, i) else none) else none)
def impl_PlacesDrop.g (k : Nat) (l : List (S66)) (key : ByteArray) : Option (List (S66)) := (impl_PlacesDrop.l0 k l key 0).bind fun i => if i = -1 then some l else (impl_PlacesDrop.l1 k l key i (wrap64 (i + 1))).bind fun p => some (p.1.take p.2.toNat)
def impl_PlacesDrop.f (k : Nat) (l0 : List (S66)) (a1 : ByteArray) : Option (List (S66)) := (impl_Place_43.f l0).bind fun t1 => if t1 = true then some [] else (impl_isLong.f a1).bind fun t2 => if t2 = true then some [] else (impl_PlacesRight.f k l0).bind fun t3 => if t3 = true then (if l0.length < 2513169434916 then impl_PlacesDrop.g k l0 a1 else none) else some []
theorem impl_PlacesDrop.mono_1 : ∀ k, (∀ y0 y1 y2 y3, LeO (impl_PlacesDrop.l1 k y0 y1 y2 y3) (impl_PlacesDrop.l1 (k + 1) y0 y1 y2 y3))
  | 0 => fun _ _ _ _ r h => by simp [impl_PlacesDrop.l1] at h
  | k + 1 => by
    have ih0 := impl_PlacesDrop.mono_1 k
    · intro y0 y1 y2 y3
      unfold impl_PlacesDrop.l1
      repeat' first
      | (with_reducible exact ih0 _ _ _ _)
      | (with_reducible exact LeO.refl _)
      | (with_reducible exact LeO.none _)
      | (with_reducible refine LeO.ite ?_ ?_)
      | exact ih0 _ _ _ _
theorem impl_PlacesDrop.mono : ∀ a0 a1 k, LeO (impl_PlacesDrop.f k a0 a1) (impl_PlacesDrop.f (k + 1) a0 a1) := by
  intro a0 a1 k
  unfold impl_PlacesDrop.f impl_PlacesDrop.g
  repeat' first
      | (with_reducible exact impl_PlacesRight.mono _ _)
      | (with_reducible exact impl_PlacesDrop.mono_l _ _ _ _)
      | (with_reducible exact impl_PlacesDrop.mono_1 _ _ _ _ _)
      | (with_reducible exact LeO.refl _)
      | (with_reducible refine LeO.ite ?_ ?_)
      | (with_reducible refine LeO.bind ?_ (fun _ => ?_))
/-- cells behind a row's own are written: the row stays. -/
theorem pd_past {α : Type} {d : Kd α} {e base g n cap : Nat} {ok : Nat → Prop} {W : World} {xs : List α} (h : d.R e W base ok (.slice (some ⟨g, 0, none⟩) n cap) xs) (o : Nat) (seg : List Value) (h1 : n * d.sz ≤ o) (h2 : o + seg.length ≤ cap * d.sz) :
    d.R e (W.setCells g o seg) base ok (.slice (some ⟨g, 0, none⟩) n cap) xs ∧ W.grownBy (W.setCells g o seg) (some g) := by
  obtain ⟨hn, hnc, _⟩ := Kd.R_reads' h
  obtain ⟨hok, inner, ⟨ho1, ho2⟩, hr⟩ := h
  rcases ho2 with ⟨hv, _⟩ | ⟨g', cap', cur, hv, hb, hh, hnc', hcm, hcs, ht⟩
  · cases hv
  injection hv with ha _ hc
  injection ha with ha
  injection ha with hg
  subst hg; subst hc
  obtain ⟨cur', h3, h4, h5⟩ := setCells_row seg o W cur hh (by omega)
  obtain ⟨s1, s2, s3, s4⟩ := setCells_same g seg o W
  have hfar : ∀ k, k ≠ g → (W.setCells g o seg).heap[k]? = W.heap[k]? := fun k hk => setCells_far seg _ k hk
  refine ⟨⟨hok, inner, ⟨ho1, .inr ⟨g, cap, cur', by rw [hn], hb, h3, hnc', hcm, by rw [h4, hcs], ?_⟩⟩, hr.imp_ (fun _ _ hp => ?_)⟩, ⟨s1, s2, s3, by rw [s4]; exact Nat.le_refl _, fun k _ hk => hfar k (fun he => hk (by rw [he]))⟩⟩
  · have hle : xs.length * d.sz ≤ (cur.toList.take o).length := by
      have h6 : n * d.sz ≤ cap * d.sz := Nat.mul_le_mul_right _ hnc
      have h9 : cur.toList.length = cur.size := Array.length_toList
      rw [List.length_take, h9, hcs, ← hn]
      omega
    rw [h5, ← ht, List.append_assoc, List.take_append_of_le_length hle, List.take_take, Nat.min_eq_left (by rw [← hn]; exact h1)]
  · exact Kd.M_step hp (fun k hk _ => hfar k (fun he => hk.2 (by rw [he]; simp [Value.ownBlock])))
theorem pd_clear {P : Program} (w : World) (t e ty : TypeId) (z : Value) (ht : P.underlying t = some (.slice e)) (hv : ∀ w, (zeroValue e).run P w = .ok z w) (hs : 0 < z.cells.size) (h1 : ∀ v ∈ z.cells.toList, v.oneCell' = true) (b o n c : Nat)
    (hc : ∀ j, j < n * z.cells.size → (w.cell? ⟨b, o + j, none⟩).isSome = true) (hf : ∀ j, j < n * z.cells.size → w.frozen? ⟨b, o + j, none⟩ = false) :
    (Builtin.clear_ #[t] ty #[.slice (some ⟨b, o, none⟩) n c]).run P w = .ok (.tuple #[]) (w.setCells b o (Builtin.zeroCells z.cells n).toList) := by
  cases n with
  | zero =>
    have e0 : (Builtin.zeroCells z.cells 0).toList = [] := by
      apply List.length_eq_zero_iff.1
      rw [Array.length_toList, size_zeroCells]
      omega
    rw [e0]
    simp [Builtin.clear_, run_underlying ht, World.setCells]
  | succ m =>
    have hl : (Builtin.zeroCells z.cells (m + 1)).toList.length = (m + 1) * z.cells.size := by rw [Array.length_toList, size_zeroCells]
    have hst := run_storeCells_cells (P := P) b o (Builtin.zeroCells z.cells (m + 1)).toList 0 w (by intro j hj; rw [hl] at hj; simpa using hc j hj) (by intro j hj; rw [hl] at hj; simpa using hf j hj) (by
      intro v hv'
      simp only [Builtin.zeroCells, Array.toList_map, Array.toList_range, List.mem_map] at hv'
      obtain ⟨i, _, rfl⟩ := hv'
      apply h1
      have hi : i % z.cells.size < z.cells.size := Nat.mod_lt _ hs
      rw [getElem!_pos z.cells _ hi]
      exact Array.getElem_mem_toList hi)
    simp only [Nat.add_zero] at hst
    simp [Builtin.clear_, run_underlying ht, hv, hst]
theorem pd_box {w : World} {gb : Nat} {v0 v1 v2 v3 v4 : Value} (h : w.heap[gb]? = some (.cells #[.string ⟨#[]⟩, .string ⟨#[]⟩, .int .i64 0, .int .i64 0, .int .i64 0] 66 (0, 0))) :
    (((((w.setCell ⟨gb, 0, none⟩ v0).setCell ⟨gb, 1, none⟩ v1).setCell ⟨gb, 2, none⟩ v2).setCell ⟨gb, 3, none⟩ v3).setCell ⟨gb, 4, none⟩ v4).heap[gb]? = some (.cells #[v0, v1, v2, v3, v4] 66 (0, 0)) :=
  blk_set (blk_set (blk_set (blk_set (blk_set h 0 v0) 1 v1) 2 v2) 3 v3) 4 v4
theorem pd_far {α : Type} {d : Kd α} {e : Nat} {w : World} {base : Nat} {v : Value} {xs : List α} {gb : Nat} (h : d.R e w base (fun k => k ≠ gb) v xs) (u0 u1 u2 u3 u4 : Value) :
    d.R e (((((w.setCell ⟨gb, 0, none⟩ u0).setCell ⟨gb, 1, none⟩ u1).setCell ⟨gb, 2, none⟩ u2).setCell ⟨gb, 3, none⟩ u3).setCell ⟨gb, 4, none⟩ u4) base (fun k => k ≠ gb) v xs :=
  Kd.R_far (p := ⟨gb, 4, none⟩) (Kd.R_far (p := ⟨gb, 3, none⟩) (Kd.R_far (p := ⟨gb, 2, none⟩) (Kd.R_far (p := ⟨gb, 1, none⟩) (Kd.R_far (p := ⟨gb, 0, none⟩) h (fun _ hk => hk) u0) (fun _ hk => hk) u1) (fun _ hk => hk) u2) (fun _ hk => hk) u3) (fun _ hk => hk) u4
theorem pd_cell5 {w : World} {g o B : Nat} {v : Value} (hBg : B ≠ g) (h : w.cell? ⟨B, 0, none⟩ = some v) (u0 u1 u2 u3 u4 : Value) :
    (((((w.setCell ⟨g, o, none⟩ u0).setCell ⟨g, o + 1, none⟩ u1).setCell ⟨g, o + 2, none⟩ u2).setCell ⟨g, o + 3, none⟩ u3).setCell ⟨g, o + 4, none⟩ u4).cell? ⟨B, 0, none⟩ = some v := by
  rw [cell_far hBg, cell_far hBg, cell_far hBg, cell_far hBg, cell_far hBg]
  exact h
theorem pd_block {α : Type} {d : Kd α} {e base g n cap : Nat} {ok : Nat → Prop} {W : World} {xs : List α} (h : d.R e W base ok (.slice (some ⟨g, 0, none⟩) n cap) xs) : ∃ cur, W.heap[g]? = some (.cells cur e (0, 0)) ∧ cur.size = cap * d.sz := by
  obtain ⟨hok, inner, ⟨ho1, ho2⟩, hr⟩ := h
  rcases ho2 with ⟨hv, _⟩ | ⟨g', cap', cur, hv, hb, hh, hnc', hcm, hcs, ht⟩
  · cases hv
  injection hv with ha _ hc
  injection ha with ha
  injection ha with hg
  subst hg; subst hc
  exact ⟨cur, hh, hcs⟩
set_option maxHeartbeats 4000000 in
set_option maxRecDepth 100000 in
theorem impl_PlacesDrop.del (k : Nat) (g c B : Nat) (l : List (S66)) (key : ByteArray) (i0 : Int) (ys : List (S66)) (iy : Int) (w0 w : World)
    (hB : Below w0.heap.size w0 w) (hr : Kd.R k66 66 w w0.heap.size (fun _ => True) (.slice (some ⟨g, 0, none⟩) l.length c) l) (hcell : w.cell? ⟨B, 0, none⟩ = some (.string key)) (hBg : B ≠ g)
    (h0 : impl_PlacesDrop.l0 k l key 0 = some i0) (hi : i0 ≠ -1) (h1 : impl_PlacesDrop.l1 k l key i0 (wrap64 (i0 + 1)) = some (ys, iy)) :
    Calls Try.prog 60 #[.slice (some ⟨g, 0, none⟩) l.length c, .func (.func 62) #[] #[.pointer (some ⟨B, 0, none⟩)]] w fun e w' => ∃ v, e = .returned v ∧ Kd.R k66 66 w' w0.heap.size (fun _ => True) v (ys.take iy.toNat) ∧ Below w0.heap.size w0 w' := by
  have hu := Try.underlying66
  have hus := Try.underlying25
  have HR := AM hr
  have HB := AM hB
  have HCL := AM hcell
  have HBG := AM hBg
  have H0 := AM h0
  have H1 := AM h1
  have hgb := AM (Kd.R_base hr g (by simp [Value.ownBlock]))
  have hi0 : (i0 == -1) = false := beq_eq_false_iff_ne.2 hi
  clear hr hB hcell hBg h0 h1 hi
  go_enter Try.func60, Try.ntmps60
  go_wp2_with (go_at_call 114; refine (impl_PlacesDrop.idx k (some ⟨g, 0, none⟩) c l key B i0 _ (Kd.R_reads' (by (with_reducible repeat (first | apply Kd.R_alloc | apply Kd.R_drewN | apply Kd.R_drew)); exact HR.out)).2.2 (Kd.R_reads' HR.out).2.1 HCL.out H0.out).mono ?_; rintro e w2 ⟨rfl, hb⟩; replace HR := AM (Kd.R_below (by (with_reducible repeat (first | apply Kd.R_alloc | apply Kd.R_drewN | apply Kd.R_drew)); exact HR.out) hb); replace HCL := AM ((hb.cell (World.block_lt_of_cell? _ _ HCL.out)).trans HCL.out); replace HB := AM (below_step HB.out hb); clear hb)
  go_loopg [5, 6] k (fun kq v5 v6 w' => ∃ (xs : List (S66)) (i j : Int), v5 = .int .i64 i ∧ v6 = .int .i64 j ∧ Aside0 (impl_PlacesDrop.l1 kq xs key i j = some (ys, iy)) ∧ Aside0 (kq ≤ k) ∧ Aside0 (xs.length = l.length) ∧ Aside0 (Kd.R k66 66 w' w0.heap.size (fun _ => True) (.slice (some ⟨g, 0, none⟩) l.length c) xs) ∧ Aside0 (Below w0.heap.size w0 w') ∧ Aside0 (w'.cell? ⟨B, 0, none⟩ = some (.string key)))
  case atStart => exact ⟨l, i0, _, rfl, rfl, H1, ⟨Nat.le_refl _⟩, ⟨rfl⟩, ⟨(by (with_reducible repeat (first | apply Kd.R_alloc | apply Kd.R_drewN | apply Kd.R_drew)); exact HR.out)⟩, ⟨bel_⟩, ⟨HCL.out⟩⟩
  case round =>
    clear H1 HR HB HCL hi0 H0
    obtain ⟨xs, i, j, rfl, rfl, HA, HK1, HLEN, HR, HB, HCL⟩ := hrel
    cases gk with
    | zero => exact absurd HA.out (by simp [impl_PlacesDrop.l1])
    | succ k1 =>
      have H := HA.out
      clear HA
      simp only [impl_PlacesDrop.l1] at H
      rw [HLEN.out] at H
      by_cases c3 : j < (l.length : Int)
      · rw [if_pos c3] at H
        by_cases c4 : 0 ≤ j
        rotate_left
        · rw [if_neg c4] at H
          exact absurd H (by simp)
        rw [if_pos c4] at H
        have H' := AM H
        clear H
        obtain ⟨ce, hcl, hM, hcc, hfr⟩ := Kd.R_elem HR.out z66 j c4 c3
        obtain rfl := k66_openM hM
        have hx0 : wr.cell? ⟨g, j.toNat * 5, none⟩ = some (.string (rd_T66 xs j).f0) := hcc 0 _ rfl
        have hx1 : wr.cell? ⟨g, j.toNat * 5 + 1, none⟩ = some (.string (rd_T66 xs j).f1) := hcc 1 _ rfl
        have hx2 : wr.cell? ⟨g, j.toNat * 5 + 2, none⟩ = some (.int .i64 (rd_T66 xs j).f2) := hcc 2 _ rfl
        have hx3 : wr.cell? ⟨g, j.toNat * 5 + 3, none⟩ = some (.int .i64 (rd_T66 xs j).f3) := hcc 3 _ rfl
        have hx4 : wr.cell? ⟨g, j.toNat * 5 + 4, none⟩ = some (.int .i64 (rd_T66 xs j).f4) := hcc 4 _ rfl
        clear hcl hM hcc hfr
        have c3b0 : decide (j < (l.length : Int)) = true := decide_eq_true c3
        have c3b1 := eq_true c3
        have c4b0 := eq_true c4
        clear c3 c4
        by_cases c5 : (rd_T66 xs j).f1.toList = key.toList
        · have H := H'.out
          rw [if_pos c5] at H
          have c5b : ((rd_T66 xs j).f1.toList == key.toList) = true := beq_iff_eq.mpr c5
          have C5 := AM c5b
          have H1 := AM H
          clear H H' c5 c5b
          go_wp2_with (first
          | ((with_reducible refine gate_dst (N := 7) rfl ?_); refine box_event rfl (N := 7) rfl (cs := #[.string ⟨#[]⟩, .string ⟨#[]⟩, .int .i64 0, .int .i64 0, .int .i64 0]) (t := 66) ?hrun ?_; (case hrun => first | (go_simp; done) | (go_simp; rfl)); intro gb hg w3 hbox hb;
             have HR3 := AM (Kd.R_mono (ok' := fun k_ => k_ ≠ gb) (Kd.R_below (Kd.R_bound (by (with_reducible repeat (first | apply Kd.R_alloc | apply Kd.R_drewN | apply Kd.R_drew)); exact HR.out)) hb) (fun k_ hk_ e_ => by have h_ := hk_.2.2.1; omega));
             have GBX := AM (show w0.heap.size ≤ gb from (by rw [hg]; exact (bel_ : Below w0.heap.size w0 _).size)); have BNE := AM (show B ≠ gb from (fun e_ => by have h_ := World.block_lt_of_cell? _ _ HCL.out; simp only at h_; omega));
             replace HCL := AM ((hb.cell (World.block_lt_of_cell? _ _ HCL.out)).trans HCL.out); replace HB := AM (below_step bel_ hb); have BK := AM hbox; replace hx0 := (hb.cell (World.block_lt_of_cell? _ _ hx0)).trans hx0; replace hx1 := (hb.cell (World.block_lt_of_cell? _ _ hx1)).trans hx1; replace hx2 := (hb.cell (World.block_lt_of_cell? _ _ hx2)).trans hx2; replace hx3 := (hb.cell (World.block_lt_of_cell? _ _ hx3)).trans hx3; replace hx4 := (hb.cell (World.block_lt_of_cell? _ _ hx4)).trans hx4; clear hb hg hbox HR; have hz0 : w3.cell? ⟨gb, 0, none⟩ = some (.string ⟨#[]⟩) := (blk_cell BK.out 0).trans rfl; have hf0 := blk_frozen BK.out 0; have hz1 : w3.cell? ⟨gb, 1, none⟩ = some (.string ⟨#[]⟩) := (blk_cell BK.out 1).trans rfl; have hf1 := blk_frozen BK.out 1; have hz2 : w3.cell? ⟨gb, 2, none⟩ = some (.int .i64 0) := (blk_cell BK.out 2).trans rfl; have hf2 := blk_frozen BK.out 2; have hz3 : w3.cell? ⟨gb, 3, none⟩ = some (.int .i64 0) := (blk_cell BK.out 3).trans rfl; have hf3 := blk_frozen BK.out 3; have hz4 : w3.cell? ⟨gb, 4, none⟩ = some (.int .i64 0) := (blk_cell BK.out 4).trans rfl; have hf4 := blk_frozen BK.out 4)
          | ((with_reducible refine gate_store (t := 66) (p := 7) rfl ?_); refine store_event (t := 66) (p := 7) (v := ?vo) (w1 := (((((w3.setCell ⟨gb, 0, none⟩ (.string (rd_T66 xs j).f0)).setCell ⟨gb, 1, none⟩ (.string (rd_T66 xs j).f1)).setCell ⟨gb, 2, none⟩ (.int .i64 (rd_T66 xs j).f2)).setCell ⟨gb, 3, none⟩ (.int .i64 (rd_T66 xs j).f3)).setCell ⟨gb, 4, none⟩ (.int .i64 (rd_T66 xs j).f4))) ?hg ?ho ?hn ?hr ?_; (case ho => rfl); (case hg => rfl); (case hn => rfl); (case hr => first | (go_simp; done) | (go_simp; rfl)); intro w4 hw; have HR := AM (show Kd.R k66 66 w4 w0.heap.size (fun k_ => k_ ≠ gb) (.slice (some ⟨g, 0, none⟩) l.length c) xs from (by rw [hw]; exact pd_far HR3.out _ _ _ _ _)); replace BK := AM (show w4.heap[gb]? = some (.cells #[.string (rd_T66 xs j).f0, .string (rd_T66 xs j).f1, .int .i64 (rd_T66 xs j).f2, .int .i64 (rd_T66 xs j).f3, .int .i64 (rd_T66 xs j).f4] 66 (0, 0)) from (by rw [hw]; exact pd_box BK.out)); replace HB := AM (show Below w0.heap.size w0 w4 from (by rw [hw]; exact below_set (below_set (below_set (below_set (below_set HB.out GBX.out) GBX.out) GBX.out) GBX.out) GBX.out)); replace HCL := AM (show w4.cell? ⟨B, 0, none⟩ = some (.string key) from (by rw [hw]; rw [cell_far BNE.out, cell_far BNE.out, cell_far BNE.out, cell_far BNE.out, cell_far BNE.out]; exact HCL.out)); clear hw HR3 hz0 hz1 hz2 hz3 hz4 hf0 hf1 hf2 hf3 hf4 hx0 hx1 hx2 hx3 hx4; have hy0 : w4.cell? ⟨gb, 0, none⟩ = some (.string (rd_T66 xs j).f0) := (blk_cell BK.out 0).trans rfl; have hy1 : w4.cell? ⟨gb, 1, none⟩ = some (.string (rd_T66 xs j).f1) := (blk_cell BK.out 1).trans rfl; have hy2 : w4.cell? ⟨gb, 2, none⟩ = some (.int .i64 (rd_T66 xs j).f2) := (blk_cell BK.out 2).trans rfl; have hy3 : w4.cell? ⟨gb, 3, none⟩ = some (.int .i64 (rd_T66 xs j).f3) := (blk_cell BK.out 3).trans rfl; have hy4 : w4.cell? ⟨gb, 4, none⟩ = some (.int .i64 (rd_T66 xs j).f4) := (blk_cell BK.out 4).trans rfl)
          | (go_at_call 62; refine (impl_PlacesDrop.pred (rd_T66 xs j) key B _ C5.out _ HCL.out).mono ?_; rintro e w5 ⟨rfl, hb⟩; replace HR := AM (Kd.R_below (by (with_reducible repeat (first | apply Kd.R_alloc | apply Kd.R_drewN | apply Kd.R_drew)); exact HR.out) hb); replace HCL := AM ((hb.cell (World.block_lt_of_cell? _ _ HCL.out)).trans HCL.out); replace HB := AM (below_step bel_ hb); replace BK := AM (blk_below BK.out hb); clear hb hy0 hy1 hy2 hy3 hy4))
          go_roundg k1
          case measure => have := HK1.out; omega
          case rel => exact ⟨xs, i, (wrap64 (j + 1)), rfl, (by first | rfl | (simp; done) | (simp [*]; done)), H1, ⟨by have := HK1.out; omega⟩, HLEN, ⟨Kd.R_mono (by (with_reducible repeat (first | apply Kd.R_alloc | apply Kd.R_drewN | apply Kd.R_drew)); exact HR.out) (fun _ _ => trivial)⟩, ⟨bel_⟩, ⟨HCL.out⟩⟩
        · have H := H'.out
          rw [if_neg c5] at H
          by_cases c6 : 0 ≤ i
          rotate_left
          · rw [if_neg c6] at H
            exact absurd H (by simp)
          rw [if_pos c6] at H
          by_cases c7 : i < (l.length : Int)
          rotate_left
          · rw [if_neg c7] at H
            exact absurd H (by simp)
          rw [if_pos c7] at H
          have c5b : ((rd_T66 xs j).f1.toList == key.toList) = false := beq_eq_false_iff_ne.mpr c5
          have C5 := AM c5b
          have H1 := AM H
          have C6 := AM c6
          have C7 := AM c7
          have c6b := eq_true c6
          have c7b := eq_true c7
          clear H H' c5 c5b c6 c7
          go_wp2_with (first
          | ((with_reducible refine gate_dst (N := 7) rfl ?_); refine box_event rfl (N := 7) rfl (cs := #[.string ⟨#[]⟩, .string ⟨#[]⟩, .int .i64 0, .int .i64 0, .int .i64 0]) (t := 66) ?hrun ?_; (case hrun => first | (go_simp; done) | (go_simp; rfl)); intro gb hg w3 hbox hb;
             have HR3 := AM (Kd.R_mono (ok' := fun k_ => k_ ≠ gb) (Kd.R_below (Kd.R_bound (by (with_reducible repeat (first | apply Kd.R_alloc | apply Kd.R_drewN | apply Kd.R_drew)); exact HR.out)) hb) (fun k_ hk_ e_ => by have h_ := hk_.2.2.1; omega));
             have GBX := AM (show w0.heap.size ≤ gb from (by rw [hg]; exact (bel_ : Below w0.heap.size w0 _).size)); have BNE := AM (show B ≠ gb from (fun e_ => by have h_ := World.block_lt_of_cell? _ _ HCL.out; simp only at h_; omega));
             replace HCL := AM ((hb.cell (World.block_lt_of_cell? _ _ HCL.out)).trans HCL.out); replace HB := AM (below_step bel_ hb); have BK := AM hbox; replace hx0 := (hb.cell (World.block_lt_of_cell? _ _ hx0)).trans hx0; replace hx1 := (hb.cell (World.block_lt_of_cell? _ _ hx1)).trans hx1; replace hx2 := (hb.cell (World.block_lt_of_cell? _ _ hx2)).trans hx2; replace hx3 := (hb.cell (World.block_lt_of_cell? _ _ hx3)).trans hx3; replace hx4 := (hb.cell (World.block_lt_of_cell? _ _ hx4)).trans hx4; clear hb hg hbox HR; have hz0 : w3.cell? ⟨gb, 0, none⟩ = some (.string ⟨#[]⟩) := (blk_cell BK.out 0).trans rfl; have hf0 := blk_frozen BK.out 0; have hz1 : w3.cell? ⟨gb, 1, none⟩ = some (.string ⟨#[]⟩) := (blk_cell BK.out 1).trans rfl; have hf1 := blk_frozen BK.out 1; have hz2 : w3.cell? ⟨gb, 2, none⟩ = some (.int .i64 0) := (blk_cell BK.out 2).trans rfl; have hf2 := blk_frozen BK.out 2; have hz3 : w3.cell? ⟨gb, 3, none⟩ = some (.int .i64 0) := (blk_cell BK.out 3).trans rfl; have hf3 := blk_frozen BK.out 3; have hz4 : w3.cell? ⟨gb, 4, none⟩ = some (.int .i64 0) := (blk_cell BK.out 4).trans rfl; have hf4 := blk_frozen BK.out 4)
          | ((with_reducible refine gate_store (t := 66) (p := 7) rfl ?_); refine store_event (t := 66) (p := 7) (v := ?vo) (w1 := (((((w3.setCell ⟨gb, 0, none⟩ (.string (rd_T66 xs j).f0)).setCell ⟨gb, 1, none⟩ (.string (rd_T66 xs j).f1)).setCell ⟨gb, 2, none⟩ (.int .i64 (rd_T66 xs j).f2)).setCell ⟨gb, 3, none⟩ (.int .i64 (rd_T66 xs j).f3)).setCell ⟨gb, 4, none⟩ (.int .i64 (rd_T66 xs j).f4))) ?hg ?ho ?hn ?hr ?_; (case ho => rfl); (case hg => rfl); (case hn => rfl); (case hr => first | (go_simp; done) | (go_simp; rfl)); intro w4 hw; have HR := AM (show Kd.R k66 66 w4 w0.heap.size (fun k_ => k_ ≠ gb) (.slice (some ⟨g, 0, none⟩) l.length c) xs from (by rw [hw]; exact pd_far HR3.out _ _ _ _ _)); replace BK := AM (show w4.heap[gb]? = some (.cells #[.string (rd_T66 xs j).f0, .string (rd_T66 xs j).f1, .int .i64 (rd_T66 xs j).f2, .int .i64 (rd_T66 xs j).f3, .int .i64 (rd_T66 xs j).f4] 66 (0, 0)) from (by rw [hw]; exact pd_box BK.out)); replace HB := AM (show Below w0.heap.size w0 w4 from (by rw [hw]; exact below_set (below_set (below_set (below_set (below_set HB.out GBX.out) GBX.out) GBX.out) GBX.out) GBX.out)); replace HCL := AM (show w4.cell? ⟨B, 0, none⟩ = some (.string key) from (by rw [hw]; rw [cell_far BNE.out, cell_far BNE.out, cell_far BNE.out, cell_far BNE.out, cell_far BNE.out]; exact HCL.out)); clear hw HR3 hz0 hz1 hz2 hz3 hz4 hf0 hf1 hf2 hf3 hf4 hx0 hx1 hx2 hx3 hx4; have hy0 : w4.cell? ⟨gb, 0, none⟩ = some (.string (rd_T66 xs j).f0) := (blk_cell BK.out 0).trans rfl; have hy1 : w4.cell? ⟨gb, 1, none⟩ = some (.string (rd_T66 xs j).f1) := (blk_cell BK.out 1).trans rfl; have hy2 : w4.cell? ⟨gb, 2, none⟩ = some (.int .i64 (rd_T66 xs j).f2) := (blk_cell BK.out 2).trans rfl; have hy3 : w4.cell? ⟨gb, 3, none⟩ = some (.int .i64 (rd_T66 xs j).f3) := (blk_cell BK.out 3).trans rfl; have hy4 : w4.cell? ⟨gb, 4, none⟩ = some (.int .i64 (rd_T66 xs j).f4) := (blk_cell BK.out 4).trans rfl)
          | (go_at_call 62; refine (impl_PlacesDrop.pred (rd_T66 xs j) key B _ C5.out _ HCL.out).mono ?_; rintro e w5 ⟨rfl, hb⟩; replace HR := AM (Kd.R_below (by (with_reducible repeat (first | apply Kd.R_alloc | apply Kd.R_drewN | apply Kd.R_drew)); exact HR.out) hb); replace HCL := AM ((hb.cell (World.block_lt_of_cell? _ _ HCL.out)).trans HCL.out); replace HB := AM (below_step bel_ hb); replace BK := AM (blk_below BK.out hb); clear hb hy0 hy1 hy2 hy3 hy4; have hy0 : w5.cell? ⟨gb, 0, none⟩ = some (.string (rd_T66 xs j).f0) := (blk_cell BK.out 0).trans rfl; have hy1 : w5.cell? ⟨gb, 1, none⟩ = some (.string (rd_T66 xs j).f1) := (blk_cell BK.out 1).trans rfl; have hy2 : w5.cell? ⟨gb, 2, none⟩ = some (.int .i64 (rd_T66 xs j).f2) := (blk_cell BK.out 2).trans rfl; have hy3 : w5.cell? ⟨gb, 3, none⟩ = some (.int .i64 (rd_T66 xs j).f3) := (blk_cell BK.out 3).trans rfl; have hy4 : w5.cell? ⟨gb, 4, none⟩ = some (.int .i64 (rd_T66 xs j).f4) := (blk_cell BK.out 4).trans rfl; obtain ⟨ce_, hcl_, hM_, hcc_, hfr_⟩ := Kd.R_elem HR.out z66 i C6.out C7.out; obtain rfl := k66_openM hM_; have HP := Kd.R_seg HR.out i C6.out C7.out (seg := [.string (rd_T66 xs j).f0, .string (rd_T66 xs j).f1, .int .i64 (rd_T66 xs j).f2, .int .i64 (rd_T66 xs j).f3, .int .i64 (rd_T66 xs j).f4]) (j := 0) hcl_ hcc_ (show 5 ≤ 5 from by decide) (x' := rd_T66 xs j) (k66_mkM _ _ _ _) (fun _ hk => hk); have hi0 := hcc_ 0 _ rfl; have hj0 := hfr_ 0; (try simp only [show (k66).sz = 5 from rfl, Nat.mul_one, Nat.add_zero] at hi0); (try simp only [show (k66).sz = 5 from rfl, Nat.mul_one, Nat.add_zero] at hj0); have hi1 := hcc_ 1 _ rfl; have hj1 := hfr_ 1; (try simp only [show (k66).sz = 5 from rfl, Nat.mul_one, Nat.add_zero] at hi1); (try simp only [show (k66).sz = 5 from rfl, Nat.mul_one, Nat.add_zero] at hj1); have hi2 := hcc_ 2 _ rfl; have hj2 := hfr_ 2; (try simp only [show (k66).sz = 5 from rfl, Nat.mul_one, Nat.add_zero] at hi2); (try simp only [show (k66).sz = 5 from rfl, Nat.mul_one, Nat.add_zero] at hj2); have hi3 := hcc_ 3 _ rfl; have hj3 := hfr_ 3; (try simp only [show (k66).sz = 5 from rfl, Nat.mul_one, Nat.add_zero] at hi3); (try simp only [show (k66).sz = 5 from rfl, Nat.mul_one, Nat.add_zero] at hj3); have hi4 := hcc_ 4 _ rfl; have hj4 := hfr_ 4; (try simp only [show (k66).sz = 5 from rfl, Nat.mul_one, Nat.add_zero] at hi4); (try simp only [show (k66).sz = 5 from rfl, Nat.mul_one, Nat.add_zero] at hj4); clear hcl_ hcc_ hfr_ hM_)
          | ((with_reducible refine gate_store (t := 66) (p := 33) rfl ?_); refine store_event (t := 66) (p := 33) (v := ?vo2) (w1 := (((((w5.setCell ⟨g, i.toNat * 5, none⟩ (.string (rd_T66 xs j).f0)).setCell ⟨g, i.toNat * 5 + 1, none⟩ (.string (rd_T66 xs j).f1)).setCell ⟨g, i.toNat * 5 + 2, none⟩ (.int .i64 (rd_T66 xs j).f2)).setCell ⟨g, i.toNat * 5 + 3, none⟩ (.int .i64 (rd_T66 xs j).f3)).setCell ⟨g, i.toNat * 5 + 4, none⟩ (.int .i64 (rd_T66 xs j).f4))) ?hg2 ?ho2 ?hn2 ?hr2 ?_; (case ho2 => rfl); (case hg2 => rfl); (case hn2 => rfl); (case hr2 => first | (go_simp; done) | (go_simp; rfl)); intro w6 hw; replace HR := AM (show Kd.R k66 66 w6 w0.heap.size (fun k_ => k_ ≠ gb) (.slice (some ⟨g, 0, none⟩) l.length c) (xs.set i.toNat (rd_T66 xs j)) from (by rw [hw]; exact HP.1)); replace HB := AM (show Below w0.heap.size w0 w6 from (by rw [hw]; exact below_set (below_set (below_set (below_set (below_set HB.out hgb.out) hgb.out) hgb.out) hgb.out) hgb.out)); replace HCL := AM (show w6.cell? ⟨B, 0, none⟩ = some (.string key) from (by rw [hw]; rw [cell_far HBG.out, cell_far HBG.out, cell_far HBG.out, cell_far HBG.out, cell_far HBG.out]; exact HCL.out)); clear hw HP hi0 hi1 hi2 hi3 hi4 hj0 hj1 hj2 hj3 hj4 hy0 hy1 hy2 hy3 hy4))
          go_roundg k1
          case measure => have := HK1.out; omega
          case rel => exact ⟨_, (wrap64 (i + 1)), (wrap64 (j + 1)), (by first | rfl | (simp; done) | (simp [*]; done)), (by first | rfl | (simp; done) | (simp [*]; done)), H1, ⟨by have := HK1.out; omega⟩, ⟨by rw [List.length_set]; exact HLEN.out⟩, ⟨Kd.R_mono (by (with_reducible repeat (first | apply Kd.R_alloc | apply Kd.R_drewN | apply Kd.R_drew)); exact HR.out) (fun _ _ => trivial)⟩, ⟨bel_⟩, ⟨HCL.out⟩⟩
      · rw [if_neg c3] at H
        by_cases c6 : 0 ≤ i
        rotate_left
        · rw [if_neg c6] at H
          exact absurd H (by simp)
        rw [if_pos c6] at H
        by_cases c7 : i ≤ (l.length : Int)
        rotate_left
        · rw [if_neg c7] at H
          exact absurd H (by simp)
        rw [if_pos c7] at H
        simp only [Option.some.injEq, Prod.mk.injEq] at H
        obtain ⟨rfl, rfl⟩ := H
        have c3b0 : decide (j < (l.length : Int)) = false := decide_eq_false c3
        have c6b := eq_true c6
        have c7b := eq_true c7
        have C6 := AM c6
        have C7 := AM c7
        clear c3 c6 c7
        have HLE := AM (Kd.R_reads' HR.out).2.1
        have hz : ∀ w, (zeroValue 66).run Try.prog w = .ok (.agg #[.string ⟨#[]⟩, .string ⟨#[]⟩, .int .i64 0, .int .i64 0, .int .i64 0]) w := fun w => by go_simp
        have HT := AM (Kd.R_take (m := i.toNat) HR.out (by have := HLEN.out; have := C6.out; have := C7.out; omega))
        have c8b : (i ≤ (c : Int)) = True := eq_true (by have := HLE.out; have := C7.out; omega)
        by_cases hcap : c = i.toNat
        · have hl0 : l.length - i.toNat = 0 := by have := HLE.out; omega
          have hcl : ∀ (a : Addr) (ty : TypeId) (W : World), (Builtin.clear_ #[25] ty #[.slice (some a) (l.length - i.toNat) (c - i.toNat)]).run Try.prog W = .ok (.tuple #[]) W := by
            intro a ty W
            rw [hl0]
            simp [Builtin.clear_, run_underlying hus]
          have hcapb := eq_true hcap
          clear hcap hl0 hz
          go_wp2
          go_ret
          exact ⟨_, rfl, HT.out, HB.out⟩
        · obtain ⟨cur, hcur, hcs⟩ := pd_block HR.out
          have hcl : ∀ (ty : TypeId), (Builtin.clear_ #[25] ty #[.slice (some ⟨g, i.toNat * 5, none⟩) (l.length - i.toNat) (c - i.toNat)]).run Try.prog wr = .ok (.tuple #[]) (wr.setCells g (i.toNat * 5) (Builtin.zeroCells (Value.agg #[.string ⟨#[]⟩, .string ⟨#[]⟩, .int .i64 0, .int .i64 0, .int .i64 0]).cells (l.length - i.toNat)).toList) := fun ty =>
            pd_clear wr 25 66 ty _ hus hz (by decide) (by intro v hv; simp [Value.cells] at hv; rcases hv with rfl | rfl <;> rfl) g (i.toNat * 5) _ _ (fun j hj => by
              rw [cell_of_row wr g _ cur 66 (0, 0) hcur]
              have h5 : (Value.agg #[.string ⟨#[]⟩, .string ⟨#[]⟩, .int .i64 0, .int .i64 0, .int .i64 0]).cells.size = 5 := by decide
              have h6 : (k66).sz = 5 := rfl
              rw [h5] at hj
              rw [h6] at hcs
              have := HLE.out
              simp
              omega) (fun j _ => blk_frozen hcur _)
          have HP := pd_past HT.out (i.toNat * 5) (Builtin.zeroCells (Value.agg #[.string ⟨#[]⟩, .string ⟨#[]⟩, .int .i64 0, .int .i64 0, .int .i64 0]).cells (l.length - i.toNat)).toList (Nat.le_refl _) (by
            have h5 : (Value.agg #[.string ⟨#[]⟩, .string ⟨#[]⟩, .int .i64 0, .int .i64 0, .int .i64 0]).cells.size = 5 := by decide
            have h6 : (k66).sz = 5 := rfl
            rw [Array.length_toList, size_zeroCells, h5, h6]
            have := HLE.out
            have := C6.out
            have := C7.out
            omega)
          generalize hseg : (Builtin.zeroCells (Value.agg #[.string ⟨#[]⟩, .string ⟨#[]⟩, .int .i64 0, .int .i64 0, .int .i64 0]).cells (l.length - i.toNat)).toList = seg at hcl HP
          have hcapb := eq_false hcap
          have HP' := AM HP
          clear hcap hz hcur hcs hseg HP
          go_wp2
          go_ret
          exact ⟨_, rfl, HP'.out.1, HB.out.trans ⟨HP'.out.2.os, HP'.out.2.tape, HP'.out.2.output, HP'.out.2.size, fun k_ hk_ => HP'.out.2.block k_ (Nat.lt_of_lt_of_le hk_ HB.out.size) (fun e_ => by have := hgb.out; injection e_ with e_; omega)⟩⟩
set_option maxHeartbeats 8000000 in
set_option maxRecDepth 100000 in
theorem impl_PlacesDrop.clone (A0 : Option Addr) (c0 : Nat) (l0 : List (S66)) (w : World) (hr0 : Kd.C k66 w A0 l0.length l0) (hc0 : l0.length ≤ c0) (hl : l0.length < 2513169434916) :
    Calls Try.prog 61 #[.slice A0 l0.length c0] w fun e w' => ∃ v0_ : Value, e = .returned v0_ ∧ Kd.R k66 66 w' w.heap.size (fun _ => True) v0_ l0 ∧ Below w.heap.size w w' := by
  have hu := Try.underlying66
  have HR0 := AM hr0
  have HC0 := AM hc0
  have HL := AM hl
  have HB := AM (Below.refl w.heap.size w)
  have heq : ∀ W : World, (binOp .eql 25 (.slice A0 l0.length c0) (.slice none 0 0)).run Try.prog W = .ok (.bool A0.isNone) W := fun W => Lib.run_eql_slice_nil W 25 66 A0 l0.length c0 0 0 Try.underlying25
  cases A0 with
  | none =>
    have h0 : l0 = [] := by
      cases l0 with
      | nil => rfl
      | cons x r =>
        obtain ⟨ad, e, _⟩ := at_T66 hr0 0 (by omega) (by simp)
        cases e
    subst h0
    simp only [Option.isNone_none, List.length_nil] at heq
    clear hr0 hc0 hl
    go_enter Try.func61, Try.ntmps61
    go_wp2
    go_ret
    exact ⟨_, rfl, Kd.R_nil _ _ _ _ _, HB.out⟩
  | some ad =>
    simp only [Option.isNone_some] at heq
    clear hr0 hc0 hl
    go_enter Try.func61, Try.ntmps61
    go_wp2_with (first
      | ((with_reducible refine gate_dst (N := 5) rfl ?_); refine Kd.R_lit k66 _ 66 ?hgL1 (N := 5) ?hdL1 (xs := ([] : List (S66))) (inner := []) (ok := fun _ => True) (okp := fun _ => True) ?hrL1 ?hpL1 (fun _ hk => hk) trivial (Below.refl _ _) (Nat.le_refl _) (by simp) ?_; (case hdL1 => rfl); (case hgL1 => rfl); (case hrL1 => first | (go_simp; done) | (go_simp; rfl)); (case hpL1 => exact (Reps.none _ _)); intro v5 w3 ho4 hb hg_ hnew_; clear hg_ hnew_; have HO := AM (Kd.R_lower ho4 (below_size HB.out)); replace HB := AM (below_step HB.out hb); clear hb ho4)
      | ((with_reducible refine gate_builtin (b := .append) (xs := #[.tmp 5, .tmp 6]) rfl ?_); at_builtin; refine Kd.R_append_rows k66 (w0 := w) w.heap.size rfl (.tmp 5) (.tmp 6) 25 66 (.agg #[(.string ⟨#[]⟩), (.string ⟨#[]⟩), (.int .i64 0), (.int .i64 0), (.int .i64 0)]) 56 rfl Try.underlying25 info66 rfl (by decide) (by omega) v5 ([] : List (S66)) l0 _ _ _ (fun _ => True) (fun _ => False) rfl rfl ?aO ?aR (fun _ _ h => h) (fun _ h => h.elim) ?aF ?aB ?aS ?aL ?_; (case aR => repeat (first | exact (Kd.C_below HR0.out HB.out) | (with_reducible refine Kd.C_alloc ?_ _) | (with_reducible refine Kd.C_drewN ?_ _) | (with_reducible refine Kd.C_drew ?_))); (case aB => repeat (first | exact HB.out | apply below_alloc | apply pw_below_drewN | apply below_drew1)); (case aF => exact (fun _ _ => trivial)); (case aO => (with_reducible repeat (first | apply Kd.R_alloc | apply Kd.R_drewN | apply Kd.R_drew)); exact HO.out); (case aS => exact below_size HB.out); (case aL => have := HL.out; simp only [List.length_nil]; omega); intro v7 w5 ho hb hg hat; rw [List.nil_append] at ho; replace HB := AM hb; have HO2 := AM ho; clear ho hb hg hat))
    go_ret
    exact ⟨_, rfl, HO2.out, HB.out⟩
set_option maxHeartbeats 4000000 in
set_option maxRecDepth 100000 in
theorem impl_PlacesDrop.del0 (k : Nat) (c B : Nat) (A : Option Addr) (l : List (S66)) (key : ByteArray) (w0 w : World)
    (hB : Below w0.heap.size w0 w) (hr : Kd.R k66 66 w w0.heap.size (fun _ => True) (.slice A l.length c) l) (hcell : w.cell? ⟨B, 0, none⟩ = some (.string key)) (h0 : impl_PlacesDrop.l0 k l key 0 = some (-1)) :
    Calls Try.prog 60 #[.slice A l.length c, .func (.func 62) #[] #[.pointer (some ⟨B, 0, none⟩)]] w fun e w' => ∃ v, e = .returned v ∧ Kd.R k66 66 w' w0.heap.size (fun _ => True) v l ∧ Below w0.heap.size w0 w' := by
  have hu := Try.underlying66
  have HR := AM hr
  have HB := AM hB
  have HCL := AM hcell
  have H0 := AM h0
  clear hr hB hcell h0
  go_enter Try.func60, Try.ntmps60
  go_wp2_with (go_at_call 114; refine (impl_PlacesDrop.idx k A c l key B (-1) _ (Kd.R_reads' (by (with_reducible repeat (first | apply Kd.R_alloc | apply Kd.R_drewN | apply Kd.R_drew)); exact HR.out)).2.2 (Kd.R_reads' HR.out).2.1 HCL.out H0.out).mono ?_; rintro e w2 ⟨rfl, hb⟩; replace HR := AM (Kd.R_below (by (with_reducible repeat (first | apply Kd.R_alloc | apply Kd.R_drewN | apply Kd.R_drew)); exact HR.out) hb); replace HB := AM (below_step HB.out hb); clear hb HCL)
  go_ret
  exact ⟨_, rfl, (by (with_reducible repeat (first | apply Kd.R_alloc | apply Kd.R_drewN | apply Kd.R_drew)); exact HR.out), bel_⟩
theorem pd_empty (k : Nat) (key : ByteArray) (i : Int) (h : impl_PlacesDrop.l0 k [] key 0 = some i) : i = -1 := by
  cases k with
  | zero => simp [impl_PlacesDrop.l0] at h
  | succ k =>
    simp [impl_PlacesDrop.l0] at h
    exact h.symm
set_option maxHeartbeats 8000000 in
set_option maxRecDepth 100000 in
theorem impl_PlacesDrop.calls (k : Nat) (A0 : Option Addr) (c0 : Nat) (l0 : List (S66)) (a1 : ByteArray) (r : List (S66)) (w : World) (hr0 : Kd.C k66 w A0 l0.length l0) (hc0 : l0.length ≤ c0) (h : impl_PlacesDrop.f k l0 a1 = some r) :
    Calls Try.prog 25 #[.slice A0 l0.length c0, .string a1] w fun e w' => ∃ v0_ : Value, e = .returned (v0_) ∧ Kd.R k66 66 w' w.heap.size (fun _ => True) v0_ r ∧ Below w.heap.size w w' := by
  have hu := Try.underlying66
  have HR0 := AM hr0
  have HC0 := AM hc0
  have HB := AM (Below.refl w.heap.size w)
  clear hr0 hc0
  obtain ⟨t1, h1, h⟩ := Option.bind_eq_some_iff.mp h
  have A2 := AM h1
  clear h1
  cases t1 with
  | true =>
    rw [if_pos rfl] at h
    obtain rfl := Option.some.inj h
    clear h
    go_enter Try.func25, Try.ntmps25
    go_wp2_with (first
      | ((with_reducible refine gate_dst (N := 3) rfl ?_); refine box_event ?hgb (N := 3) ?hdb (cs := #[.string a1]) (t := 9) ?hrb ?_; (case hdb => rfl); (case hgb => rfl); (case hrb => first | (go_simp; done) | (go_simp; rfl)); intro g3 hg3 w3 hbox hb; replace HB := AM (show Below w.heap.size w w3 from hb); have K3 := AM hbox; replace HR0 := AM (Kd.C_below HR0.out hb); have hk3 : w3.cell? ⟨g3, 0, none⟩ = some (.string a1) := (blk_cell K3.out 0).trans rfl; clear hbox hb hg3)
      | (go_at_call 43; refine (impl_Place_43.calls _ _ l0 _ _ (by repeat (first | exact HR0.out | (with_reducible refine Kd.C_alloc ?_ _) | (with_reducible refine Kd.C_drewN ?_ _) | (with_reducible refine Kd.C_drew ?_))) HC0.out A2.out).mono ?_; rintro e w4 ⟨rfl, ⟨nd, rfl⟩⟩))
    go_ret
    exact ⟨_, rfl, Kd.R_nil _ _ _ _ _, bel_⟩
  | false =>
    rw [if_neg Bool.false_ne_true] at h
    obtain ⟨t2, h2, h⟩ := Option.bind_eq_some_iff.mp h
    have A3 := AM h2
    clear h2
    cases t2 with
    | true =>
      rw [if_pos rfl] at h
      obtain rfl := Option.some.inj h
      clear h
      go_enter Try.func25, Try.ntmps25
      go_wp2_with (first
        | ((with_reducible refine gate_dst (N := 3) rfl ?_); refine box_event ?hgb (N := 3) ?hdb (cs := #[.string a1]) (t := 9) ?hrb ?_; (case hdb => rfl); (case hgb => rfl); (case hrb => first | (go_simp; done) | (go_simp; rfl)); intro g3 hg3 w3 hbox hb; replace HB := AM (show Below w.heap.size w w3 from hb); have K3 := AM hbox; replace HR0 := AM (Kd.C_below HR0.out hb); have hk3 : w3.cell? ⟨g3, 0, none⟩ = some (.string a1) := (blk_cell K3.out 0).trans rfl; clear hbox hb hg3)
        | (go_at_call 43; refine (impl_Place_43.calls _ _ l0 _ _ (by repeat (first | exact HR0.out | (with_reducible refine Kd.C_alloc ?_ _) | (with_reducible refine Kd.C_drewN ?_ _) | (with_reducible refine Kd.C_drew ?_))) HC0.out A2.out).mono ?_; rintro e w4 ⟨rfl, ⟨nd, rfl⟩⟩)
        | (go_at_call 56; refine (impl_isLong.calls a1 _ _ A3.out).mono ?_; rintro e w4 ⟨rfl, ⟨nd, rfl⟩⟩))
      go_ret
      exact ⟨_, rfl, Kd.R_nil _ _ _ _ _, bel_⟩
    | false =>
      rw [if_neg Bool.false_ne_true] at h
      obtain ⟨t3, h3, h⟩ := Option.bind_eq_some_iff.mp h
      have A4 := AM h3
      clear h3
      cases t3 with
      | false =>
        rw [if_neg Bool.false_ne_true] at h
        obtain rfl := Option.some.inj h
        clear h
        go_enter Try.func25, Try.ntmps25
        go_wp2_with (first
          | ((with_reducible refine gate_dst (N := 3) rfl ?_); refine box_event ?hgb (N := 3) ?hdb (cs := #[.string a1]) (t := 9) ?hrb ?_; (case hdb => rfl); (case hgb => rfl); (case hrb => first | (go_simp; done) | (go_simp; rfl)); intro g3 hg3 w3 hbox hb; replace HB := AM (show Below w.heap.size w w3 from hb); have K3 := AM hbox; replace HR0 := AM (Kd.C_below HR0.out hb); have hk3 : w3.cell? ⟨g3, 0, none⟩ = some (.string a1) := (blk_cell K3.out 0).trans rfl; clear hbox hb hg3)
          | (go_at_call 43; refine (impl_Place_43.calls _ _ l0 _ _ (by repeat (first | exact HR0.out | (with_reducible refine Kd.C_alloc ?_ _) | (with_reducible refine Kd.C_drewN ?_ _) | (with_reducible refine Kd.C_drew ?_))) HC0.out A2.out).mono ?_; rintro e w4 ⟨rfl, ⟨nd, rfl⟩⟩)
          | (go_at_call 56; refine (impl_isLong.calls a1 _ _ A3.out).mono ?_; rintro e w4 ⟨rfl, ⟨nd, rfl⟩⟩)
          | (go_at_call 44; refine (impl_PlacesRight.calls k _ _ l0 _ _ (by repeat (first | exact HR0.out | (with_reducible refine Kd.C_alloc ?_ _) | (with_reducible refine Kd.C_drewN ?_ _) | (with_reducible refine Kd.C_drew ?_))) HC0.out A4.out).mono ?_; rintro e w5 ⟨rfl, hb⟩; replace HR0 := AM (Kd.C_below (by repeat (first | exact HR0.out | (with_reducible refine Kd.C_alloc ?_ _) | (with_reducible refine Kd.C_drewN ?_ _) | (with_reducible refine Kd.C_drew ?_))) hb); replace K3 := AM (blk_below (by first | exact K3.out | exact blk_drewN K3.out _ | exact blk_drew K3.out) hb); replace HB := AM (below_step bel_ hb); clear hb hk3))
        go_ret
        exact ⟨_, rfl, Kd.R_nil _ _ _ _ _, bel_⟩
      | true =>
        rw [if_pos rfl] at h
        by_cases hl : l0.length < 2513169434916
        rotate_left
        · rw [if_neg hl] at h
          cases h
        rw [if_pos hl] at h
        have HL := AM hl
        unfold impl_PlacesDrop.g at h
        obtain ⟨i0, h0, h⟩ := Option.bind_eq_some_iff.mp h
        by_cases hi : i0 = -1
        · subst hi
          rw [if_pos rfl] at h
          obtain rfl := Option.some.inj h
          have H0 := AM h0
          clear h h0 hl
          go_enter Try.func25, Try.ntmps25
          go_wp2_with (first
            | ((with_reducible refine gate_dst (N := 3) rfl ?_); refine box_event ?hgb (N := 3) ?hdb (cs := #[.string a1]) (t := 9) ?hrb ?_; (case hdb => rfl); (case hgb => rfl); (case hrb => first | (go_simp; done) | (go_simp; rfl)); intro g3 hg3 w3 hbox hb; replace HB := AM (show Below w.heap.size w w3 from hb); have K3 := AM hbox; replace HR0 := AM (Kd.C_below HR0.out hb); have hk3 : w3.cell? ⟨g3, 0, none⟩ = some (.string a1) := (blk_cell K3.out 0).trans rfl; clear hbox hb hg3)
            | (go_at_call 43; refine (impl_Place_43.calls _ _ l0 _ _ (by repeat (first | exact HR0.out | (with_reducible refine Kd.C_alloc ?_ _) | (with_reducible refine Kd.C_drewN ?_ _) | (with_reducible refine Kd.C_drew ?_))) HC0.out A2.out).mono ?_; rintro e w4 ⟨rfl, ⟨nd, rfl⟩⟩)
            | (go_at_call 56; refine (impl_isLong.calls a1 _ _ A3.out).mono ?_; rintro e w4 ⟨rfl, ⟨nd, rfl⟩⟩)
            | (go_at_call 44; refine (impl_PlacesRight.calls k _ _ l0 _ _ (by repeat (first | exact HR0.out | (with_reducible refine Kd.C_alloc ?_ _) | (with_reducible refine Kd.C_drewN ?_ _) | (with_reducible refine Kd.C_drew ?_))) HC0.out A4.out).mono ?_; rintro e w5 ⟨rfl, hb⟩; replace HR0 := AM (Kd.C_below (by repeat (first | exact HR0.out | (with_reducible refine Kd.C_alloc ?_ _) | (with_reducible refine Kd.C_drewN ?_ _) | (with_reducible refine Kd.C_drew ?_))) hb); replace K3 := AM (blk_below (by first | exact K3.out | exact blk_drewN K3.out _ | exact blk_drew K3.out) hb); replace HB := AM (below_step bel_ hb); clear hb hk3)
            | (go_at_call 61; refine (impl_PlacesDrop.clone _ _ l0 _ (by repeat (first | exact HR0.out | (with_reducible refine Kd.C_alloc ?_ _) | (with_reducible refine Kd.C_drewN ?_ _) | (with_reducible refine Kd.C_drew ?_))) HC0.out HL.out).mono ?_; rintro e w6 ⟨v6, rfl, ho, hb⟩; have HR := AM (Kd.R_lower ho (by exact (bel_ : Below w.heap.size w _).size)); replace K3 := AM (blk_below (by first | exact K3.out | exact blk_drewN K3.out _ | exact blk_drew K3.out) hb); replace HB := AM (below_step bel_ hb); clear hb ho; obtain ⟨A6, c6, e6⟩ := Kd.R_slice HR.out; subst e6)
            | (go_at_call 60; refine (impl_PlacesDrop.del0 k c6 g3 A6 l0 a1 w _ bel_ (by (with_reducible repeat (first | apply Kd.R_alloc | apply Kd.R_drewN | apply Kd.R_drew)); exact HR.out) ((blk_cell (by first | exact K3.out | exact blk_drewN K3.out _ | exact blk_drew K3.out) 0).trans rfl) H0.out).mono ?_; rintro e w7 ⟨v7, rfl, ho, hb⟩; have HO := AM ho; have HBZ := AM hb; clear ho hb))
          go_ret
          exact ⟨_, rfl, HO.out, HBZ.out⟩
        · rw [if_neg hi] at h
          obtain ⟨⟨ys, iy⟩, h1, h⟩ := Option.bind_eq_some_iff.mp h
          obtain rfl := Option.some.inj h
          have hp : 0 < l0.length := by
            cases l0 with
            | nil => exact absurd (pd_empty k a1 i0 h0) hi
            | cons x xs => simp
          have H0 := AM h0
          have H1 := AM h1
          have HI := AM hi
          have HP := AM hp
          clear h h0 h1 hl hi hp
          go_enter Try.func25, Try.ntmps25
          go_wp2_with (first
            | ((with_reducible refine gate_dst (N := 3) rfl ?_); refine box_event ?hgb (N := 3) ?hdb (cs := #[.string a1]) (t := 9) ?hrb ?_; (case hdb => rfl); (case hgb => rfl); (case hrb => first | (go_simp; done) | (go_simp; rfl)); intro g3 hg3 w3 hbox hb; replace HB := AM (show Below w.heap.size w w3 from hb); have K3 := AM hbox; replace HR0 := AM (Kd.C_below HR0.out hb); have hk3 : w3.cell? ⟨g3, 0, none⟩ = some (.string a1) := (blk_cell K3.out 0).trans rfl; clear hbox hb hg3)
            | (go_at_call 43; refine (impl_Place_43.calls _ _ l0 _ _ (by repeat (first | exact HR0.out | (with_reducible refine Kd.C_alloc ?_ _) | (with_reducible refine Kd.C_drewN ?_ _) | (with_reducible refine Kd.C_drew ?_))) HC0.out A2.out).mono ?_; rintro e w4 ⟨rfl, ⟨nd, rfl⟩⟩)
            | (go_at_call 56; refine (impl_isLong.calls a1 _ _ A3.out).mono ?_; rintro e w4 ⟨rfl, ⟨nd, rfl⟩⟩)
            | (go_at_call 44; refine (impl_PlacesRight.calls k _ _ l0 _ _ (by repeat (first | exact HR0.out | (with_reducible refine Kd.C_alloc ?_ _) | (with_reducible refine Kd.C_drewN ?_ _) | (with_reducible refine Kd.C_drew ?_))) HC0.out A4.out).mono ?_; rintro e w5 ⟨rfl, hb⟩; replace HR0 := AM (Kd.C_below (by repeat (first | exact HR0.out | (with_reducible refine Kd.C_alloc ?_ _) | (with_reducible refine Kd.C_drewN ?_ _) | (with_reducible refine Kd.C_drew ?_))) hb); replace K3 := AM (blk_below (by first | exact K3.out | exact blk_drewN K3.out _ | exact blk_drew K3.out) hb); replace HB := AM (below_step bel_ hb); clear hb hk3)
            | (go_at_call 61; refine (impl_PlacesDrop.clone _ _ l0 _ (by repeat (first | exact HR0.out | (with_reducible refine Kd.C_alloc ?_ _) | (with_reducible refine Kd.C_drewN ?_ _) | (with_reducible refine Kd.C_drew ?_))) HC0.out HL.out).mono ?_; rintro e w6 ⟨v6, rfl, ho, hb⟩; have HR := AM (Kd.R_lower ho (by exact (bel_ : Below w.heap.size w _).size)); replace K3 := AM (blk_below (by first | exact K3.out | exact blk_drewN K3.out _ | exact blk_drew K3.out) hb); replace HB := AM (below_step bel_ hb); clear hb ho; have NE := AM (Kd.R_ne HR.out K3.out (by decide)); obtain ⟨g6, c6, e6, _⟩ := Kd.R_form HR.out HP.out; subst e6; replace NE := AM (show g3 ≠ g6 from fun e_ => NE.out (by rw [e_]; simp [Value.ownBlock])))
            | (go_at_call 60; refine (impl_PlacesDrop.del k g6 c6 g3 l0 a1 i0 ys iy w _ bel_ (by (with_reducible repeat (first | apply Kd.R_alloc | apply Kd.R_drewN | apply Kd.R_drew)); exact HR.out) ((blk_cell (by first | exact K3.out | exact blk_drewN K3.out _ | exact blk_drew K3.out) 0).trans rfl) NE.out H0.out HI.out H1.out).mono ?_; rintro e w7 ⟨v7, rfl, ho, hb⟩; have HO := AM ho; have HBZ := AM hb; clear ho hb))
          go_ret
          exact ⟨_, rfl, HO.out, HBZ.out⟩

/-! ### laws_markText: function 63 -/
def laws_markText.l0 : Nat → Int → ByteArray → Option (ByteArray)
  | 0, _, _ => none
  | k + 1, x0, x3 => if x0 > 0 then ((some (([(wrap64 (48 + (Int.tmod x0 10))) % 256] : List Int) : List Int)).bind fun y162 => (if (strOfNums y162).size + x3.size ≤ 9223372036854775807 then (laws_markText.l0 k (wrap64 (Int.tdiv x0 10)) ((strOfNums y162) ++ x3)) else (none))) else (if 1 + x3.size ≤ 9223372036854775807 then (some ((⟨#[109]⟩ : ByteArray) ++ x3)) else (none))
def laws_markText.f (k : Nat) (a0 : Int) : Option (ByteArray) := if a0 ≤ 0 then (some (⟨#[109, 48]⟩ : ByteArray)) else (laws_markText.l0 k a0 (⟨#[]⟩ : ByteArray))
theorem laws_markText.mono_l : ∀ k, (∀ y0 y1, LeO (laws_markText.l0 k y0 y1) (laws_markText.l0 (k + 1) y0 y1))
  | 0 => fun _ _ r h => by simp [laws_markText.l0] at h
  | k + 1 => by
    have ih0 := laws_markText.mono_l k
    · intro y0 y1
      unfold laws_markText.l0
      repeat' first
      | (with_reducible exact ih0 _ _)
      | (with_reducible exact LeO.refl _)
      | (with_reducible exact LeO.none _)
      | (with_reducible refine LeO.ite ?_ ?_)
      | (with_reducible refine LeO.bind ?_ (fun _ => ?_))
      | exact ih0 _ _
      | exact LeO.none _
      | refine LeO.ite ?_ ?_
      | refine LeO.bind ?_ (fun _ => ?_)
theorem laws_markText.mono : ∀ a0 k, LeO (laws_markText.f k a0) (laws_markText.f (k + 1) a0) := by
  intro a0 k
  have ih0 := laws_markText.mono_l k
  unfold laws_markText.f
  repeat' first
      | (with_reducible exact ih0 _ _)
      | (with_reducible exact LeO.refl _)
      | (with_reducible exact LeO.none _)
      | (with_reducible refine LeO.ite ?_ ?_)
      | (with_reducible refine LeO.bind ?_ (fun _ => ?_))
      | exact ih0 _ _
      | exact LeO.none _
      | refine LeO.ite ?_ ?_
      | refine LeO.bind ?_ (fun _ => ?_)
set_option maxHeartbeats 8000000 in
set_option maxRecDepth 100000 in
theorem laws_markText.calls (k : Nat) (a0 : Int) (r : ByteArray) (w : World) (h : laws_markText.f k a0 = some r) :
    Calls Try.prog 63 #[.int .i64 a0] w fun e w' => e = .returned (.string r) ∧ Below w.heap.size w w' := by
  have HB := AM (Below.refl w.heap.size w)
  have H : (if a0 ≤ 0 then (some (⟨#[109, 48]⟩ : ByteArray)) else (laws_markText.l0 k a0 (⟨#[]⟩ : ByteArray))) = some r := h
  clear h
  by_cases c2 : a0 ≤ 0
  · rw [if_pos c2] at H
    have c2b0 : decide (a0 ≤ 0) = true := decide_eq_true c2
    clear c2
    obtain rfl := Option.some.inj H
    go_enter Try.func63, Try.ntmps63
    go_wp2
    go_ret
    exact ⟨ri_, bel_⟩
  · rw [if_neg c2] at H
    have c2b0 : decide (a0 ≤ 0) = false := decide_eq_false c2
    clear c2
    have H' := AM H
    clear H
    go_enter Try.func63, Try.ntmps63
    go_wp2
    go_loopg [0, 3] k (fun kq v0 v3 w' => ∃ (x0_1 : Int) (x3_1 : ByteArray), v0 = .int .i64 x0_1 ∧ v3 = .string x3_1 ∧ Aside0 (laws_markText.l0 kq x0_1 x3_1 = some r) ∧ Aside0 (kq ≤ k) ∧ Aside0 (Below w.heap.size w w'))
    case atStart => exact ⟨(a0), ((⟨#[]⟩ : ByteArray)), (by first | rfl | (simp; done) | (simp [*]; done)), (by first | rfl | (simp; done) | (simp [*]; done)), H', ⟨Nat.le_refl _⟩, ⟨bel_⟩⟩
    case round =>
      clear H'
      try clear c2
      try clear c2b0
      try clear p2
      obtain ⟨x0_1, x3_1, rfl, rfl, HA, HK1, HB⟩ := hrel
      cases gk with
      | zero => exact absurd HA.out (by simp [laws_markText.l0])
      | succ k1 =>
        have H := HA.out
        clear HA
        simp only [laws_markText.l0] at H
        by_cases c3 : x0_1 > 0
        · rw [if_pos c3] at H
          have c3b0 : decide (0 < x0_1) = true := decide_eq_true c3
          clear c3
          obtain ⟨y162, hy162⟩ : ∃ y_ : List Int, y_ = (([(wrap64 (48 + (Int.tmod x0_1 10))) % 256] : List Int)) := ⟨_, rfl⟩
          replace H : (if (strOfNums y162).size + x3_1.size ≤ 9223372036854775807 then (laws_markText.l0 k1 (wrap64 (Int.tdiv x0_1 10)) ((strOfNums y162) ++ x3_1)) else (none)) = some r := by first | (rw [hy162]; with_reducible exact H) | (have H2_ := (Option.bind_some _ _).symm.trans H; rw [hy162]; with_reducible exact H2_) | (have H2_ := (Option.bind_some _ _).symm.trans H; with_reducible exact H2_) | with_reducible exact H | (rw [hy162]; exact H) | exact H
          have Ny162 := AM hy162
          clear hy162
          by_cases c4 : (strOfNums y162).size + x3_1.size ≤ 9223372036854775807
          · rw [if_pos c4] at H
            have c4b0 := eq_true c4
            have c4b1 : decide ((strOfNums y162).size + x3_1.size ≤ 9223372036854775807) = true := decide_eq_true c4
            try have c4b2 : (9223372036854775807 < (strOfNums y162).size + x3_1.size) = False := eq_false (Nat.not_lt.2 c4)
            have H' := AM H
            clear H
            go_wp2_with (first | ((with_reducible refine gate_dst (N := 12) rfl ?_); refine Kd.R_lit (Kd.int .u8) _ 5 ?hgL2 (N := 12) ?hdL2 (xs := ([(wrap64 (48 + (Int.tmod x0_1 10))) % 256] : List Int)) (inner := [.int .u8 ((wrap64 (48 + (Int.tmod x0_1 10))) % 256)]) (ok := fun _ => True) (okp := fun _ => True) ?hrL2 ?hpL2 (fun _ hk => hk) trivial (Below.refl _ _) (Nat.le_refl _) (by simp) ?_; (case hdL2 => rfl); (case hgL2 => rfl); (case hrL2 => first | (go_simp; done) | (go_simp; rfl)); (case hpL2 => exact (Reps.one (show Kd.M (Kd.int .u8) _ _ _ ((wrap64 (48 + (Int.tmod x0_1 10))) % 256) [.int .u8 ((wrap64 (48 + (Int.tmod x0_1 10))) % 256)] from rfl) (Reps.none _ _))); intro v163 w5 ho6 hb hg_ hnew_; clear hg_ hnew_; (first | rw [← Ny162.out] at ho6 | (simp only [Int.reduceToNat] at ho6; rw [← Ny162.out] at ho6)); have HO164 := AM (Kd.R_lower ho6 (below_size bel_)); replace HB := AM (below_step bel_ hb); clear hb ho6; have hcv7 := own_string (P := Try.prog) Try.underlying51 Try.underlying5 Try.underlying9 (Kd.own_of_R HO164.out)))
            go_roundg k1
            case measure => have := HK1.out; omega
            case rel => exact ⟨(wrap64 (Int.tdiv x0_1 10)), ((strOfNums y162) ++ x3_1), (by first | rfl | (simp; done) | (simp [*]; done)), (by first | rfl | (simp; done) | (simp [*]; done)), H', ⟨by have := HK1.out; omega⟩, ⟨bel_⟩⟩
          · rw [if_neg c4] at H
            exact absurd H (by simp)
        · rw [if_neg c3] at H
          have c3b0 : decide (0 < x0_1) = false := decide_eq_false c3
          clear c3
          by_cases c8 : 1 + x3_1.size ≤ 9223372036854775807
          · rw [if_pos c8] at H
            have c8b0 := eq_true c8
            have c8b1 : decide (1 + x3_1.size ≤ 9223372036854775807) = true := decide_eq_true c8
            try have c8b2 : (9223372036854775807 < 1 + x3_1.size) = False := eq_false (Nat.not_lt.2 c8)
            obtain rfl := Option.some.inj H
            go_wp2
            go_ret
            exact ⟨ri_, bel_⟩
          · rw [if_neg c8] at H
            exact absurd H (by simp)

/-! ### laws_markPlaceS: function 26 -/
def laws_markPlaceS.l0 : Nat → List (S66) → Int → Int → Option (Int × (List (S66)))
  | 0, _, _, _ => none
  | k + 1, x0, x1, x5 => if x5 < (x0.length : Int) then ((laws_markText.f k x1).bind fun t165 => (if 0 ≤ x5 then ((some (x0.set (x5 : Int).toNat (⟨t165, (rd_T66 x0 x5).f1, (rd_T66 x0 x5).f2, (rd_T66 x0 x5).f3, (rd_T66 x0 x5).f4⟩ : S66) : List (S66))).bind fun y166 => ((laws_markText.f k (wrap64 (x1 + 1))).bind fun t167 => ((some (y166.set (x5 : Int).toNat (⟨(rd_T66 y166 x5).f0, t167, (rd_T66 y166 x5).f2, (rd_T66 y166 x5).f3, (rd_T66 y166 x5).f4⟩ : S66) : List (S66))).bind fun y168 => ((some (y168.set (x5 : Int).toNat (⟨(rd_T66 y168 x5).f0, (rd_T66 y168 x5).f1, wrap64 ((wrap64 (x1 + 1)) + 1), (rd_T66 y168 x5).f3, (rd_T66 y168 x5).f4⟩ : S66) : List (S66))).bind fun y169 => ((some (y169.set (x5 : Int).toNat (⟨(rd_T66 y169 x5).f0, (rd_T66 y169 x5).f1, (rd_T66 y169 x5).f2, wrap64 ((wrap64 ((wrap64 (x1 + 1)) + 1)) + 1), (rd_T66 y169 x5).f4⟩ : S66) : List (S66))).bind fun y170 => (laws_markPlaceS.l0 k (y170.set (x5 : Int).toNat (⟨(rd_T66 y170 x5).f0, (rd_T66 y170 x5).f1, (rd_T66 y170 x5).f2, (rd_T66 y170 x5).f3, wrap64 ((wrap64 ((wrap64 ((wrap64 (x1 + 1)) + 1)) + 1)) + 1)⟩ : S66)) (wrap64 ((wrap64 ((wrap64 ((wrap64 ((wrap64 (x1 + 1)) + 1)) + 1)) + 1)) + 1)) (wrap64 (x5 + 1)))))))) else (none))) else (some (x1, x0))
def laws_markPlaceS.f (k : Nat) (l0 : List (S66)) (a1 : Int) : Option (Int × (List (S66))) := laws_markPlaceS.l0 k l0 a1 0
theorem laws_markPlaceS.mono_l : ∀ k, (∀ y0 y1 y2, LeO (laws_markPlaceS.l0 k y0 y1 y2) (laws_markPlaceS.l0 (k + 1) y0 y1 y2))
  | 0 => fun _ _ _ r h => by simp [laws_markPlaceS.l0] at h
  | k + 1 => by
    have ih0 := laws_markPlaceS.mono_l k
    · intro y0 y1 y2
      unfold laws_markPlaceS.l0
      repeat' first
      | (with_reducible exact ih0 _ _ _)
      | (with_reducible exact laws_markText.mono _ _)
      | (with_reducible exact LeO.refl _)
      | (with_reducible exact LeO.none _)
      | (with_reducible refine LeO.ite ?_ ?_)
      | (with_reducible refine LeO.bind ?_ (fun _ => ?_))
      | exact ih0 _ _ _
      | exact laws_markText.mono _ _
      | exact LeO.none _
      | refine LeO.ite ?_ ?_
      | refine LeO.bind ?_ (fun _ => ?_)
theorem laws_markPlaceS.mono : ∀ a0 a1 k, LeO (laws_markPlaceS.f k a0 a1) (laws_markPlaceS.f (k + 1) a0 a1) := by
  intro a0 a1 k
  have ih0 := laws_markPlaceS.mono_l k
  unfold laws_markPlaceS.f
  repeat' first
      | (with_reducible exact ih0 _ _ _)
      | (with_reducible exact laws_markText.mono _ _)
      | (with_reducible exact LeO.refl _)
      | (with_reducible exact LeO.none _)
      | (with_reducible refine LeO.ite ?_ ?_)
      | (with_reducible refine LeO.bind ?_ (fun _ => ?_))
      | exact ih0 _ _ _
      | exact laws_markText.mono _ _
      | exact LeO.none _
      | refine LeO.ite ?_ ?_
      | refine LeO.bind ?_ (fun _ => ?_)
set_option maxHeartbeats 8000000 in
set_option maxRecDepth 100000 in
theorem laws_markPlaceS.calls (k : Nat) (P0_ : Nat → Prop) (u9000_ : Value) (l0 : List (S66)) (a1 : Int) (r1 : Int) (r2 : List (S66)) (w0 w : World) (hB : Below w0.heap.size w0 w) (ho0 : Kd.R k66 66 w w0.heap.size P0_ u9000_ l0) (h : laws_markPlaceS.f k l0 a1 = some (r1, r2)) :
    Calls Try.prog 26 #[u9000_, .int .i64 a1] w fun e w' => e = .returned (.int .i64 r1) ∧ Kd.R k66 66 w' w0.heap.size (fun k_ => (P0_ k_ ∨ w.heap.size ≤ k_)) u9000_ r2 ∧ Below w0.heap.size w0 w' ∧ Kept w w' (fun k_ => P0_ k_) := by
  have HO0 := AM (show Kd.R k66 66 w w0.heap.size (fun k_ => (P0_ k_ ∨ w.heap.size ≤ k_)) u9000_ l0 from Kd.R_mono ho0 (fun k_ hk => (.inl hk)))
  have HK := AM (Kept.refl w (fun k_ => P0_ k_))
  have HW0 := AM hB.size
  have HB := AM hB
  clear hB
  have H : (laws_markPlaceS.l0 k l0 a1 0) = some (r1, r2) := h
  clear h
  have H' := AM H
  clear H
  go_enter Try.func26, Try.ntmps26
  go_wp2
  go_loopg [1, 5] k (fun kq v1 v5 w' => ∃ (x0_1 : List (S66)) (x1_1 : Int) (x5_1 : Int), v1 = .int .i64 x1_1 ∧ v5 = .int .i64 x5_1 ∧ Aside0 (laws_markPlaceS.l0 kq x0_1 x1_1 x5_1 = some (r1, r2)) ∧ Aside0 (kq ≤ k) ∧ Aside0 (Kd.R k66 66 w' w0.heap.size (fun k_ => (P0_ k_ ∨ w.heap.size ≤ k_)) u9000_ x0_1) ∧ Aside0 (Kept w w' (fun k_ => P0_ k_)) ∧ Aside0 (Below w0.heap.size w0 w'))
  case atStart => exact ⟨(l0), (a1), (0), (by first | rfl | (simp; done) | (simp [*]; done)), (by first | rfl | (simp; done) | (simp [*]; done)), H', ⟨Nat.le_refl _⟩, ⟨ro_ HO0.out⟩, ⟨kt_⟩, ⟨bel_⟩⟩
  case round =>
    clear H'
    try clear c2
    try clear p2
    obtain ⟨x0_1, x1_1, x5_1, rfl, rfl, HA, HK1, HO_0, HK, HB⟩ := hrel
    cases gk with
    | zero => exact absurd HA.out (by simp [laws_markPlaceS.l0])
    | succ k1 =>
      have H := HA.out
      clear HA
      simp only [laws_markPlaceS.l0] at H
      by_cases c3 : x5_1 < (x0_1.length : Int)
      · rw [if_pos c3] at H
        have c3b0 : decide (x5_1 < (x0_1.length : Int)) = true := decide_eq_true c3
        clear c3
        obtain ⟨t165, A4, H⟩ := OB H
        try dsimp only at H
        replace A4 := AM A4
        by_cases c5 : 0 ≤ x5_1
        · rw [if_pos c5] at H
          have c5b0 : decide (0 ≤ x5_1) = true := decide_eq_true c5
          clear c5
          obtain ⟨y166, hy166⟩ : ∃ y_ : List (S66), y_ = (x0_1.set (x5_1 : Int).toNat (⟨t165, (rd_T66 x0_1 x5_1).f1, (rd_T66 x0_1 x5_1).f2, (rd_T66 x0_1 x5_1).f3, (rd_T66 x0_1 x5_1).f4⟩ : S66)) := ⟨_, rfl⟩
          replace H : ((laws_markText.f k1 (wrap64 (x1_1 + 1))).bind fun t167 => ((some (y166.set (x5_1 : Int).toNat (⟨(rd_T66 y166 x5_1).f0, t167, (rd_T66 y166 x5_1).f2, (rd_T66 y166 x5_1).f3, (rd_T66 y166 x5_1).f4⟩ : S66) : List (S66))).bind fun y168 => ((some (y168.set (x5_1 : Int).toNat (⟨(rd_T66 y168 x5_1).f0, (rd_T66 y168 x5_1).f1, wrap64 ((wrap64 (x1_1 + 1)) + 1), (rd_T66 y168 x5_1).f3, (rd_T66 y168 x5_1).f4⟩ : S66) : List (S66))).bind fun y169 => ((some (y169.set (x5_1 : Int).toNat (⟨(rd_T66 y169 x5_1).f0, (rd_T66 y169 x5_1).f1, (rd_T66 y169 x5_1).f2, wrap64 ((wrap64 ((wrap64 (x1_1 + 1)) + 1)) + 1), (rd_T66 y169 x5_1).f4⟩ : S66) : List (S66))).bind fun y170 => (laws_markPlaceS.l0 k1 (y170.set (x5_1 : Int).toNat (⟨(rd_T66 y170 x5_1).f0, (rd_T66 y170 x5_1).f1, (rd_T66 y170 x5_1).f2, (rd_T66 y170 x5_1).f3, wrap64 ((wrap64 ((wrap64 ((wrap64 (x1_1 + 1)) + 1)) + 1)) + 1)⟩ : S66)) (wrap64 ((wrap64 ((wrap64 ((wrap64 ((wrap64 (x1_1 + 1)) + 1)) + 1)) + 1)) + 1)) (wrap64 (x5_1 + 1))))))) = some (r1, r2) := by first | (rw [hy166]; with_reducible exact H) | (have H2_ := (Option.bind_some _ _).symm.trans H; rw [hy166]; with_reducible exact H2_) | (have H2_ := (Option.bind_some _ _).symm.trans H; with_reducible exact H2_) | with_reducible exact H | (rw [hy166]; exact H) | exact H
          have Ny166 := AM hy166
          clear hy166
          obtain ⟨t167, A7, H⟩ := OB H
          try dsimp only at H
          replace A7 := AM A7
          obtain ⟨y168, hy168⟩ : ∃ y_ : List (S66), y_ = (y166.set (x5_1 : Int).toNat (⟨(rd_T66 y166 x5_1).f0, t167, (rd_T66 y166 x5_1).f2, (rd_T66 y166 x5_1).f3, (rd_T66 y166 x5_1).f4⟩ : S66)) := ⟨_, rfl⟩
          replace H : ((some (y168.set (x5_1 : Int).toNat (⟨(rd_T66 y168 x5_1).f0, (rd_T66 y168 x5_1).f1, wrap64 ((wrap64 (x1_1 + 1)) + 1), (rd_T66 y168 x5_1).f3, (rd_T66 y168 x5_1).f4⟩ : S66) : List (S66))).bind fun y169 => ((some (y169.set (x5_1 : Int).toNat (⟨(rd_T66 y169 x5_1).f0, (rd_T66 y169 x5_1).f1, (rd_T66 y169 x5_1).f2, wrap64 ((wrap64 ((wrap64 (x1_1 + 1)) + 1)) + 1), (rd_T66 y169 x5_1).f4⟩ : S66) : List (S66))).bind fun y170 => (laws_markPlaceS.l0 k1 (y170.set (x5_1 : Int).toNat (⟨(rd_T66 y170 x5_1).f0, (rd_T66 y170 x5_1).f1, (rd_T66 y170 x5_1).f2, (rd_T66 y170 x5_1).f3, wrap64 ((wrap64 ((wrap64 ((wrap64 (x1_1 + 1)) + 1)) + 1)) + 1)⟩ : S66)) (wrap64 ((wrap64 ((wrap64 ((wrap64 ((wrap64 (x1_1 + 1)) + 1)) + 1)) + 1)) + 1)) (wrap64 (x5_1 + 1))))) = some (r1, r2) := by first | (rw [hy168]; with_reducible exact H) | (have H2_ := (Option.bind_some _ _).symm.trans H; rw [hy168]; with_reducible exact H2_) | (have H2_ := (Option.bind_some _ _).symm.trans H; with_reducible exact H2_) | with_reducible exact H | (rw [hy168]; exact H) | exact H
          have Ny168 := AM hy168
          clear hy168
          obtain ⟨y169, hy169⟩ : ∃ y_ : List (S66), y_ = (y168.set (x5_1 : Int).toNat (⟨(rd_T66 y168 x5_1).f0, (rd_T66 y168 x5_1).f1, wrap64 ((wrap64 (x1_1 + 1)) + 1), (rd_T66 y168 x5_1).f3, (rd_T66 y168 x5_1).f4⟩ : S66)) := ⟨_, rfl⟩
          replace H : ((some (y169.set (x5_1 : Int).toNat (⟨(rd_T66 y169 x5_1).f0, (rd_T66 y169 x5_1).f1, (rd_T66 y169 x5_1).f2, wrap64 ((wrap64 ((wrap64 (x1_1 + 1)) + 1)) + 1), (rd_T66 y169 x5_1).f4⟩ : S66) : List (S66))).bind fun y170 => (laws_markPlaceS.l0 k1 (y170.set (x5_1 : Int).toNat (⟨(rd_T66 y170 x5_1).f0, (rd_T66 y170 x5_1).f1, (rd_T66 y170 x5_1).f2, (rd_T66 y170 x5_1).f3, wrap64 ((wrap64 ((wrap64 ((wrap64 (x1_1 + 1)) + 1)) + 1)) + 1)⟩ : S66)) (wrap64 ((wrap64 ((wrap64 ((wrap64 ((wrap64 (x1_1 + 1)) + 1)) + 1)) + 1)) + 1)) (wrap64 (x5_1 + 1)))) = some (r1, r2) := by first | (rw [hy169]; with_reducible exact H) | (have H2_ := (Option.bind_some _ _).symm.trans H; rw [hy169]; with_reducible exact H2_) | (have H2_ := (Option.bind_some _ _).symm.trans H; with_reducible exact H2_) | with_reducible exact H | (rw [hy169]; exact H) | exact H
          have Ny169 := AM hy169
          clear hy169
          obtain ⟨y170, hy170⟩ : ∃ y_ : List (S66), y_ = (y169.set (x5_1 : Int).toNat (⟨(rd_T66 y169 x5_1).f0, (rd_T66 y169 x5_1).f1, (rd_T66 y169 x5_1).f2, wrap64 ((wrap64 ((wrap64 (x1_1 + 1)) + 1)) + 1), (rd_T66 y169 x5_1).f4⟩ : S66)) := ⟨_, rfl⟩
          replace H : (laws_markPlaceS.l0 k1 (y170.set (x5_1 : Int).toNat (⟨(rd_T66 y170 x5_1).f0, (rd_T66 y170 x5_1).f1, (rd_T66 y170 x5_1).f2, (rd_T66 y170 x5_1).f3, wrap64 ((wrap64 ((wrap64 ((wrap64 (x1_1 + 1)) + 1)) + 1)) + 1)⟩ : S66)) (wrap64 ((wrap64 ((wrap64 ((wrap64 ((wrap64 (x1_1 + 1)) + 1)) + 1)) + 1)) + 1)) (wrap64 (x5_1 + 1))) = some (r1, r2) := by first | (rw [hy170]; with_reducible exact H) | (have H2_ := (Option.bind_some _ _).symm.trans H; rw [hy170]; with_reducible exact H2_) | (have H2_ := (Option.bind_some _ _).symm.trans H; with_reducible exact H2_) | with_reducible exact H | (rw [hy170]; exact H) | exact H
          have Ny170 := AM hy170
          clear hy170
          obtain ⟨y171, hy171⟩ : ∃ y_ : List (S66), y_ = (y170.set (x5_1 : Int).toNat (⟨(rd_T66 y170 x5_1).f0, (rd_T66 y170 x5_1).f1, (rd_T66 y170 x5_1).f2, (rd_T66 y170 x5_1).f3, wrap64 ((wrap64 ((wrap64 ((wrap64 (x1_1 + 1)) + 1)) + 1)) + 1)⟩ : S66)) := ⟨_, rfl⟩
          replace H : (laws_markPlaceS.l0 k1 y171 (wrap64 ((wrap64 ((wrap64 ((wrap64 ((wrap64 (x1_1 + 1)) + 1)) + 1)) + 1)) + 1)) (wrap64 (x5_1 + 1))) = some (r1, r2) := by first | (rw [hy171]; with_reducible exact H) | (have H2_ := (Option.bind_some _ _).symm.trans H; rw [hy171]; with_reducible exact H2_) | (have H2_ := (Option.bind_some _ _).symm.trans H; with_reducible exact H2_) | with_reducible exact H | (rw [hy171]; exact H) | exact H
          have Ny171 := AM hy171
          clear hy171
          have H' := AM H
          clear H
          obtain ⟨Ao12, co12, eo12⟩ := Kd.R_slice HO_0.out
          subst eo12
          go_wp2_with (first | ((with_reducible refine gate_callee (f := 63) rfl ?_); refine gl_ (some 15) Try.func63 #[.int .i64 x1_1] ?_; (with_reducible refine (laws_markText.calls k1 x1_1 t165 _ A4.out).mono ?_); rintro e w13 ⟨rfl, hb⟩; refine ⟨_, rfl, ?_⟩; replace HO_0 := AM (Kd.R_below (ro_ HO_0.out) hb); replace HK := AM (Kept.below (S := (fun k_ => P0_ k_)) kt_ hb); replace HB := AM (below_step bel_ hb); (try clear hb); (try clear hb2); (try clear hk); (try clear hi); have p6 : 0 ≤ (x5_1 : Int) := of_decide_eq_true (by first | (with_reducible assumption) | assumption); have q6 : (x5_1 : Int) < ((x0_1.length : Int) : Int) := of_decide_eq_true (by first | (with_reducible assumption) | assumption); obtain ⟨go6, co6, eo6, gb6, gl6, cl6, HG6⟩ := Kd.R_form HO_0.out (by omega); (first | cases eo6 | (injection eo6 with ea_ en_ ec_; (first | subst ea_ | (injection ea_ with ea_; subst ea_)); subst ec_; clear en_)); have GB6 := AM gb6; have GG6 := AM HG6; clear gb6 gl6 HG6; have HMgo6 := AM (show (P0_ go6 ∨ w.heap.size ≤ go6) from (HO_0.out.1 _ rfl)); obtain ⟨ce6, hcl6, hM6, hcc6, hfr6⟩ := Kd.R_elem HO_0.out z66 (x5_1 : Int) p6 q6; obtain rfl := k66_openM hM6; have hx6_0 : w13.cell? ⟨go6, (x5_1 : Int).toNat * 5, none⟩ = some (.string ((rd_T66 x0_1 x5_1).f0)) := hcc6 0 _ rfl; have hx6_1 : w13.cell? ⟨go6, (x5_1 : Int).toNat * 5 + 1, none⟩ = some (.string ((rd_T66 x0_1 x5_1).f1)) := hcc6 1 _ rfl; have hx6_2 : w13.cell? ⟨go6, (x5_1 : Int).toNat * 5 + 2, none⟩ = some (.int .i64 ((rd_T66 x0_1 x5_1).f2)) := hcc6 2 _ rfl; have hx6_3 : w13.cell? ⟨go6, (x5_1 : Int).toNat * 5 + 3, none⟩ = some (.int .i64 ((rd_T66 x0_1 x5_1).f3)) := hcc6 3 _ rfl; have hx6_4 : w13.cell? ⟨go6, (x5_1 : Int).toNat * 5 + 4, none⟩ = some (.int .i64 ((rd_T66 x0_1 x5_1).f4)) := hcc6 4 _ rfl; have hf6_0 : w13.frozen? ⟨go6, (x5_1 : Int).toNat * 5, none⟩ = false := hfr6 0; have hf6_1 : w13.frozen? ⟨go6, (x5_1 : Int).toNat * 5 + 1, none⟩ = false := hfr6 1; have hf6_2 : w13.frozen? ⟨go6, (x5_1 : Int).toNat * 5 + 2, none⟩ = false := hfr6 2; have hf6_3 : w13.frozen? ⟨go6, (x5_1 : Int).toNat * 5 + 3, none⟩ = false := hfr6 3; have hf6_4 : w13.frozen? ⟨go6, (x5_1 : Int).toNat * 5 + 4, none⟩ = false := hfr6 4; clear hcl6 hcc6 hfr6 hM6; replace p6 := eq_true p6; replace q6 := eq_true q6; have HX14 := AM (show Kd.R k66 66 w13 w0.heap.size (fun k_ => (P0_ k_ ∨ w.heap.size ≤ k_)) (.slice (some ⟨go6, 0, none⟩) x0_1.length co12) x0_1 from (ro_ HO_0.out)); obtain ⟨ce14, hcl14, hM14, hcc14, hfr14⟩ := Kd.R_elem HX14.out z66 (x5_1 : Int) (of_decide_eq_true (by first | (with_reducible assumption) | assumption)) (by have h_ : (x5_1 : Int) < ((x0_1.length : Int) : Int) := of_decide_eq_true (by first | (with_reducible assumption) | assumption); first | exact h_ | (have e_ := (Kd.R_reads' HO_0.out).1; omega) | simpa using h_); obtain rfl := k66_openM hM14; have HP14 := Kd.R_seg HX14.out (x5_1 : Int) (of_decide_eq_true (by first | (with_reducible assumption) | assumption)) (by have h_ : (x5_1 : Int) < ((x0_1.length : Int) : Int) := of_decide_eq_true (by first | (with_reducible assumption) | assumption); first | exact h_ | (have e_ := (Kd.R_reads' HO_0.out).1; omega) | simpa using h_) (seg := [.string t165]) (j := 0) hcl14 hcc14 (show 1 ≤ 5 from by decide) (x' := (⟨t165, (rd_T66 x0_1 x5_1).f1, (rd_T66 x0_1 x5_1).f2, (rd_T66 x0_1 x5_1).f3, (rd_T66 x0_1 x5_1).f4⟩ : S66)) (k66_mkM _ _ _ (⟨t165, (rd_T66 x0_1 x5_1).f1, (rd_T66 x0_1 x5_1).f2, (rd_T66 x0_1 x5_1).f3, (rd_T66 x0_1 x5_1).f4⟩ : S66) ) (fun _ hk => hk); have hx14_0 := hcc14 0 _ rfl; (try simp only [show (k66).sz = 5 from rfl, Nat.mul_one, Nat.add_zero] at hx14_0); have hf14_0 := hfr14 0; (try simp only [show (k66).sz = 5 from rfl, Nat.mul_one, Nat.add_zero] at hf14_0); clear hcl14 hcc14 hfr14 hM14) | ((with_reducible refine gate_store (t := 9) (p := 17) rfl ?_); refine store_event (t := 9) (p := 17) (v := ?vo_w15) (w1 := (w13.setCell ⟨go6, (x5_1 : Int).toNat * 5, none⟩ (.string t165))) ?hg ?ho ?hn ?hr ?_; (case ho => rfl); (case hg => rfl); (case hn => rfl); (case hr => first | (go_simp; done) | (go_simp; rfl)); intro w15 hw; have hg : w13.grownBy w15 (some go6) := (by rw [hw]; exact HP14.2); have hp_ : Kd.R k66 66 w15 w0.heap.size (fun k_ => (P0_ k_ ∨ w.heap.size ≤ k_)) (.slice (some ⟨go6, 0, none⟩) x0_1.length co12) y166 := (by rw [hw, Ny166.out]; exact HP14.1); clear HP14; replace HB := AM ((by rw [hw]; exact below_set (HB.out) GB6.out : Below w0.heap.size w0 w15)); replace HK := AM (Kept.of_grown (S := (fun k_ => P0_ k_)) hg kt_ (fun k_ e_ => (HO_0.out.1 k_ e_))); replace HO_0 := AM hp_; clear hg hw hp_) | ((with_reducible refine gate_callee (f := 63) rfl ?_); refine gl_ (some 23) Try.func63 #[.int .i64 (wrap64 (x1_1 + 1))] ?_; (with_reducible refine (laws_markText.calls k1 (wrap64 (x1_1 + 1)) t167 _ A7.out).mono ?_); rintro e w16 ⟨rfl, hb⟩; refine ⟨_, rfl, ?_⟩; replace HO_0 := AM (Kd.R_below (ro_ HO_0.out) hb); replace HK := AM (Kept.below (S := (fun k_ => P0_ k_)) kt_ hb); replace HB := AM (below_step bel_ hb); (try clear hb); (try clear hb2); (try clear hk); (try clear hi); have p8 : 0 ≤ (x5_1 : Int) := of_decide_eq_true (by first | (with_reducible assumption) | assumption); have q8 : (x5_1 : Int) < ((x0_1.length : Int) : Int) := of_decide_eq_true (by first | (with_reducible assumption) | assumption); obtain ⟨ce8, hcl8, hM8, hcc8, hfr8⟩ := Kd.R_elem HO_0.out z66 (x5_1 : Int) p8 q8; obtain rfl := k66_openM hM8; have hx8_0 : w16.cell? ⟨go6, (x5_1 : Int).toNat * 5, none⟩ = some (.string ((rd_T66 y166 x5_1).f0)) := hcc8 0 _ rfl; have hx8_1 : w16.cell? ⟨go6, (x5_1 : Int).toNat * 5 + 1, none⟩ = some (.string ((rd_T66 y166 x5_1).f1)) := hcc8 1 _ rfl; have hx8_2 : w16.cell? ⟨go6, (x5_1 : Int).toNat * 5 + 2, none⟩ = some (.int .i64 ((rd_T66 y166 x5_1).f2)) := hcc8 2 _ rfl; have hx8_3 : w16.cell? ⟨go6, (x5_1 : Int).toNat * 5 + 3, none⟩ = some (.int .i64 ((rd_T66 y166 x5_1).f3)) := hcc8 3 _ rfl; have hx8_4 : w16.cell? ⟨go6, (x5_1 : Int).toNat * 5 + 4, none⟩ = some (.int .i64 ((rd_T66 y166 x5_1).f4)) := hcc8 4 _ rfl; have hf8_0 : w16.frozen? ⟨go6, (x5_1 : Int).toNat * 5, none⟩ = false := hfr8 0; have hf8_1 : w16.frozen? ⟨go6, (x5_1 : Int).toNat * 5 + 1, none⟩ = false := hfr8 1; have hf8_2 : w16.frozen? ⟨go6, (x5_1 : Int).toNat * 5 + 2, none⟩ = false := hfr8 2; have hf8_3 : w16.frozen? ⟨go6, (x5_1 : Int).toNat * 5 + 3, none⟩ = false := hfr8 3; have hf8_4 : w16.frozen? ⟨go6, (x5_1 : Int).toNat * 5 + 4, none⟩ = false := hfr8 4; clear hcl8 hcc8 hfr8 hM8; replace p8 := eq_true p8; replace q8 := eq_true q8; have HX17 := AM (show Kd.R k66 66 w16 w0.heap.size (fun k_ => (P0_ k_ ∨ w.heap.size ≤ k_)) (.slice (some ⟨go6, 0, none⟩) x0_1.length co12) y166 from (ro_ HO_0.out)); obtain ⟨ce17, hcl17, hM17, hcc17, hfr17⟩ := Kd.R_elem HX17.out z66 (x5_1 : Int) (of_decide_eq_true (by first | (with_reducible assumption) | assumption)) (by have h_ : (x5_1 : Int) < ((x0_1.length : Int) : Int) := of_decide_eq_true (by first | (with_reducible assumption) | assumption); first | exact h_ | (have e_ := (Kd.R_reads' HO_0.out).1; omega) | simpa using h_); obtain rfl := k66_openM hM17; have HP17 := Kd.R_seg HX17.out (x5_1 : Int) (of_decide_eq_true (by first | (with_reducible assumption) | assumption)) (by have h_ : (x5_1 : Int) < ((x0_1.length : Int) : Int) := of_decide_eq_true (by first | (with_reducible assumption) | assumption); first | exact h_ | (have e_ := (Kd.R_reads' HO_0.out).1; omega) | simpa using h_) (seg := [.string t167]) (j := 1) hcl17 hcc17 (show 2 ≤ 5 from by decide) (x' := (⟨(rd_T66 y166 x5_1).f0, t167, (rd_T66 y166 x5_1).f2, (rd_T66 y166 x5_1).f3, (rd_T66 y166 x5_1).f4⟩ : S66)) (k66_mkM _ _ _ (⟨(rd_T66 y166 x5_1).f0, t167, (rd_T66 y166 x5_1).f2, (rd_T66 y166 x5_1).f3, (rd_T66 y166 x5_1).f4⟩ : S66) ) (fun _ hk => hk); have hx17_1 := hcc17 1 _ rfl; (try simp only [show (k66).sz = 5 from rfl, Nat.mul_one, Nat.add_zero] at hx17_1); have hf17_1 := hfr17 1; (try simp only [show (k66).sz = 5 from rfl, Nat.mul_one, Nat.add_zero] at hf17_1); clear hcl17 hcc17 hfr17 hM17) | ((with_reducible refine gate_store (t := 9) (p := 25) rfl ?_); refine store_event (t := 9) (p := 25) (v := ?vo_w18) (w1 := (w16.setCell ⟨go6, (x5_1 : Int).toNat * 5 + 1, none⟩ (.string t167))) ?hg ?ho ?hn ?hr ?_; (case ho => rfl); (case hg => rfl); (case hn => rfl); (case hr => first | (go_simp; done) | (go_simp; rfl)); intro w18 hw; have hg : w16.grownBy w18 (some go6) := (by rw [hw]; exact HP17.2); have hp_ : Kd.R k66 66 w18 w0.heap.size (fun k_ => (P0_ k_ ∨ w.heap.size ≤ k_)) (.slice (some ⟨go6, 0, none⟩) x0_1.length co12) y168 := (by rw [hw, Ny168.out]; exact HP17.1); clear HP17; replace HB := AM ((by rw [hw]; exact below_set (HB.out) GB6.out : Below w0.heap.size w0 w18)); replace HK := AM (Kept.of_grown (S := (fun k_ => P0_ k_)) hg kt_ (fun k_ e_ => (HO_0.out.1 k_ e_))); replace HO_0 := AM hp_; clear hg hw hp_; have p9 : 0 ≤ (x5_1 : Int) := of_decide_eq_true (by first | (with_reducible assumption) | assumption); have q9 : (x5_1 : Int) < ((x0_1.length : Int) : Int) := of_decide_eq_true (by first | (with_reducible assumption) | assumption); obtain ⟨ce9, hcl9, hM9, hcc9, hfr9⟩ := Kd.R_elem HO_0.out z66 (x5_1 : Int) p9 q9; obtain rfl := k66_openM hM9; have hx9_0 : w18.cell? ⟨go6, (x5_1 : Int).toNat * 5, none⟩ = some (.string ((rd_T66 y168 x5_1).f0)) := hcc9 0 _ rfl; have hx9_1 : w18.cell? ⟨go6, (x5_1 : Int).toNat * 5 + 1, none⟩ = some (.string ((rd_T66 y168 x5_1).f1)) := hcc9 1 _ rfl; have hx9_2 : w18.cell? ⟨go6, (x5_1 : Int).toNat * 5 + 2, none⟩ = some (.int .i64 ((rd_T66 y168 x5_1).f2)) := hcc9 2 _ rfl; have hx9_3 : w18.cell? ⟨go6, (x5_1 : Int).toNat * 5 + 3, none⟩ = some (.int .i64 ((rd_T66 y168 x5_1).f3)) := hcc9 3 _ rfl; have hx9_4 : w18.cell? ⟨go6, (x5_1 : Int).toNat * 5 + 4, none⟩ = some (.int .i64 ((rd_T66 y168 x5_1).f4)) := hcc9 4 _ rfl; have hf9_0 : w18.frozen? ⟨go6, (x5_1 : Int).toNat * 5, none⟩ = false := hfr9 0; have hf9_1 : w18.frozen? ⟨go6, (x5_1 : Int).toNat * 5 + 1, none⟩ = false := hfr9 1; have hf9_2 : w18.frozen? ⟨go6, (x5_1 : Int).toNat * 5 + 2, none⟩ = false := hfr9 2; have hf9_3 : w18.frozen? ⟨go6, (x5_1 : Int).toNat * 5 + 3, none⟩ = false := hfr9 3; have hf9_4 : w18.frozen? ⟨go6, (x5_1 : Int).toNat * 5 + 4, none⟩ = false := hfr9 4; clear hcl9 hcc9 hfr9 hM9; replace p9 := eq_true p9; replace q9 := eq_true q9; have HX19 := AM (show Kd.R k66 66 w18 w0.heap.size (fun k_ => (P0_ k_ ∨ w.heap.size ≤ k_)) (.slice (some ⟨go6, 0, none⟩) x0_1.length co12) y168 from (ro_ HO_0.out)); obtain ⟨ce19, hcl19, hM19, hcc19, hfr19⟩ := Kd.R_elem HX19.out z66 (x5_1 : Int) (of_decide_eq_true (by first | (with_reducible assumption) | assumption)) (by have h_ : (x5_1 : Int) < ((x0_1.length : Int) : Int) := of_decide_eq_true (by first | (with_reducible assumption) | assumption); first | exact h_ | (have e_ := (Kd.R_reads' HO_0.out).1; omega) | simpa using h_); obtain rfl := k66_openM hM19; have HP19 := Kd.R_seg HX19.out (x5_1 : Int) (of_decide_eq_true (by first | (with_reducible assumption) | assumption)) (by have h_ : (x5_1 : Int) < ((x0_1.length : Int) : Int) := of_decide_eq_true (by first | (with_reducible assumption) | assumption); first | exact h_ | (have e_ := (Kd.R_reads' HO_0.out).1; omega) | simpa using h_) (seg := [.int .i64 (wrap64 ((wrap64 (x1_1 + 1)) + 1))]) (j := 2) hcl19 hcc19 (show 3 ≤ 5 from by decide) (x' := (⟨(rd_T66 y168 x5_1).f0, (rd_T66 y168 x5_1).f1, wrap64 ((wrap64 (x1_1 + 1)) + 1), (rd_T66 y168 x5_1).f3, (rd_T66 y168 x5_1).f4⟩ : S66)) (k66_mkM _ _ _ (⟨(rd_T66 y168 x5_1).f0, (rd_T66 y168 x5_1).f1, wrap64 ((wrap64 (x1_1 + 1)) + 1), (rd_T66 y168 x5_1).f3, (rd_T66 y168 x5_1).f4⟩ : S66) ) (fun _ hk => hk); have hx19_2 := hcc19 2 _ rfl; (try simp only [show (k66).sz = 5 from rfl, Nat.mul_one, Nat.add_zero] at hx19_2); have hf19_2 := hfr19 2; (try simp only [show (k66).sz = 5 from rfl, Nat.mul_one, Nat.add_zero] at hf19_2); clear hcl19 hcc19 hfr19 hM19) | ((with_reducible refine gate_store (t := 2) (p := 32) rfl ?_); refine store_event (t := 2) (p := 32) (v := ?vo_w20) (w1 := (w18.setCell ⟨go6, (x5_1 : Int).toNat * 5 + 2, none⟩ (.int .i64 (wrap64 ((wrap64 (x1_1 + 1)) + 1))))) ?hg ?ho ?hn ?hr ?_; (case ho => rfl); (case hg => rfl); (case hn => rfl); (case hr => first | (go_simp; done) | (go_simp; rfl)); intro w20 hw; have hg : w18.grownBy w20 (some go6) := (by rw [hw]; exact HP19.2); have hp_ : Kd.R k66 66 w20 w0.heap.size (fun k_ => (P0_ k_ ∨ w.heap.size ≤ k_)) (.slice (some ⟨go6, 0, none⟩) x0_1.length co12) y169 := (by rw [hw, Ny169.out]; exact HP19.1); clear HP19; replace HB := AM ((by rw [hw]; exact below_set (HB.out) GB6.out : Below w0.heap.size w0 w20)); replace HK := AM (Kept.of_grown (S := (fun k_ => P0_ k_)) hg kt_ (fun k_ e_ => (HO_0.out.1 k_ e_))); replace HO_0 := AM hp_; clear hg hw hp_; have p10 : 0 ≤ (x5_1 : Int) := of_decide_eq_true (by first | (with_reducible assumption) | assumption); have q10 : (x5_1 : Int) < ((x0_1.length : Int) : Int) := of_decide_eq_true (by first | (with_reducible assumption) | assumption); obtain ⟨ce10, hcl10, hM10, hcc10, hfr10⟩ := Kd.R_elem HO_0.out z66 (x5_1 : Int) p10 q10; obtain rfl := k66_openM hM10; have hx10_0 : w20.cell? ⟨go6, (x5_1 : Int).toNat * 5, none⟩ = some (.string ((rd_T66 y169 x5_1).f0)) := hcc10 0 _ rfl; have hx10_1 : w20.cell? ⟨go6, (x5_1 : Int).toNat * 5 + 1, none⟩ = some (.string ((rd_T66 y169 x5_1).f1)) := hcc10 1 _ rfl; have hx10_2 : w20.cell? ⟨go6, (x5_1 : Int).toNat * 5 + 2, none⟩ = some (.int .i64 ((rd_T66 y169 x5_1).f2)) := hcc10 2 _ rfl; have hx10_3 : w20.cell? ⟨go6, (x5_1 : Int).toNat * 5 + 3, none⟩ = some (.int .i64 ((rd_T66 y169 x5_1).f3)) := hcc10 3 _ rfl; have hx10_4 : w20.cell? ⟨go6, (x5_1 : Int).toNat * 5 + 4, none⟩ = some (.int .i64 ((rd_T66 y169 x5_1).f4)) := hcc10 4 _ rfl; have hf10_0 : w20.frozen? ⟨go6, (x5_1 : Int).toNat * 5, none⟩ = false := hfr10 0; have hf10_1 : w20.frozen? ⟨go6, (x5_1 : Int).toNat * 5 + 1, none⟩ = false := hfr10 1; have hf10_2 : w20.frozen? ⟨go6, (x5_1 : Int).toNat * 5 + 2, none⟩ = false := hfr10 2; have hf10_3 : w20.frozen? ⟨go6, (x5_1 : Int).toNat * 5 + 3, none⟩ = false := hfr10 3; have hf10_4 : w20.frozen? ⟨go6, (x5_1 : Int).toNat * 5 + 4, none⟩ = false := hfr10 4; clear hcl10 hcc10 hfr10 hM10; replace p10 := eq_true p10; replace q10 := eq_true q10; have HX21 := AM (show Kd.R k66 66 w20 w0.heap.size (fun k_ => (P0_ k_ ∨ w.heap.size ≤ k_)) (.slice (some ⟨go6, 0, none⟩) x0_1.length co12) y169 from (ro_ HO_0.out)); obtain ⟨ce21, hcl21, hM21, hcc21, hfr21⟩ := Kd.R_elem HX21.out z66 (x5_1 : Int) (of_decide_eq_true (by first | (with_reducible assumption) | assumption)) (by have h_ : (x5_1 : Int) < ((x0_1.length : Int) : Int) := of_decide_eq_true (by first | (with_reducible assumption) | assumption); first | exact h_ | (have e_ := (Kd.R_reads' HO_0.out).1; omega) | simpa using h_); obtain rfl := k66_openM hM21; have HP21 := Kd.R_seg HX21.out (x5_1 : Int) (of_decide_eq_true (by first | (with_reducible assumption) | assumption)) (by have h_ : (x5_1 : Int) < ((x0_1.length : Int) : Int) := of_decide_eq_true (by first | (with_reducible assumption) | assumption); first | exact h_ | (have e_ := (Kd.R_reads' HO_0.out).1; omega) | simpa using h_) (seg := [.int .i64 (wrap64 ((wrap64 ((wrap64 (x1_1 + 1)) + 1)) + 1))]) (j := 3) hcl21 hcc21 (show 4 ≤ 5 from by decide) (x' := (⟨(rd_T66 y169 x5_1).f0, (rd_T66 y169 x5_1).f1, (rd_T66 y169 x5_1).f2, wrap64 ((wrap64 ((wrap64 (x1_1 + 1)) + 1)) + 1), (rd_T66 y169 x5_1).f4⟩ : S66)) (k66_mkM _ _ _ (⟨(rd_T66 y169 x5_1).f0, (rd_T66 y169 x5_1).f1, (rd_T66 y169 x5_1).f2, wrap64 ((wrap64 ((wrap64 (x1_1 + 1)) + 1)) + 1), (rd_T66 y169 x5_1).f4⟩ : S66) ) (fun _ hk => hk); have hx21_3 := hcc21 3 _ rfl; (try simp only [show (k66).sz = 5 from rfl, Nat.mul_one, Nat.add_zero] at hx21_3); have hf21_3 := hfr21 3; (try simp only [show (k66).sz = 5 from rfl, Nat.mul_one, Nat.add_zero] at hf21_3); clear hcl21 hcc21 hfr21 hM21) | ((with_reducible refine gate_store (t := 2) (p := 39) rfl ?_); refine store_event (t := 2) (p := 39) (v := ?vo_w22) (w1 := (w20.setCell ⟨go6, (x5_1 : Int).toNat * 5 + 3, none⟩ (.int .i64 (wrap64 ((wrap64 ((wrap64 (x1_1 + 1)) + 1)) + 1))))) ?hg ?ho ?hn ?hr ?_; (case ho => rfl); (case hg => rfl); (case hn => rfl); (case hr => first | (go_simp; done) | (go_simp; rfl)); intro w22 hw; have hg : w20.grownBy w22 (some go6) := (by rw [hw]; exact HP21.2); have hp_ : Kd.R k66 66 w22 w0.heap.size (fun k_ => (P0_ k_ ∨ w.heap.size ≤ k_)) (.slice (some ⟨go6, 0, none⟩) x0_1.length co12) y170 := (by rw [hw, Ny170.out]; exact HP21.1); clear HP21; replace HB := AM ((by rw [hw]; exact below_set (HB.out) GB6.out : Below w0.heap.size w0 w22)); replace HK := AM (Kept.of_grown (S := (fun k_ => P0_ k_)) hg kt_ (fun k_ e_ => (HO_0.out.1 k_ e_))); replace HO_0 := AM hp_; clear hg hw hp_; have p11 : 0 ≤ (x5_1 : Int) := of_decide_eq_true (by first | (with_reducible assumption) | assumption); have q11 : (x5_1 : Int) < ((x0_1.length : Int) : Int) := of_decide_eq_true (by first | (with_reducible assumption) | assumption); obtain ⟨ce11, hcl11, hM11, hcc11, hfr11⟩ := Kd.R_elem HO_0.out z66 (x5_1 : Int) p11 q11; obtain rfl := k66_openM hM11; have hx11_0 : w22.cell? ⟨go6, (x5_1 : Int).toNat * 5, none⟩ = some (.string ((rd_T66 y170 x5_1).f0)) := hcc11 0 _ rfl; have hx11_1 : w22.cell? ⟨go6, (x5_1 : Int).toNat * 5 + 1, none⟩ = some (.string ((rd_T66 y170 x5_1).f1)) := hcc11 1 _ rfl; have hx11_2 : w22.cell? ⟨go6, (x5_1 : Int).toNat * 5 + 2, none⟩ = some (.int .i64 ((rd_T66 y170 x5_1).f2)) := hcc11 2 _ rfl; have hx11_3 : w22.cell? ⟨go6, (x5_1 : Int).toNat * 5 + 3, none⟩ = some (.int .i64 ((rd_T66 y170 x5_1).f3)) := hcc11 3 _ rfl; have hx11_4 : w22.cell? ⟨go6, (x5_1 : Int).toNat * 5 + 4, none⟩ = some (.int .i64 ((rd_T66 y170 x5_1).f4)) := hcc11 4 _ rfl; have hf11_0 : w22.frozen? ⟨go6, (x5_1 : Int).toNat * 5, none⟩ = false := hfr11 0; have hf11_1 : w22.frozen? ⟨go6, (x5_1 : Int).toNat * 5 + 1, none⟩ = false := hfr11 1; have hf11_2 : w22.frozen? ⟨go6, (x5_1 : Int).toNat * 5 + 2, none⟩ = false := hfr11 2; have hf11_3 : w22.frozen? ⟨go6, (x5_1 : Int).toNat * 5 + 3, none⟩ = false := hfr11 3; have hf11_4 : w22.frozen? ⟨go6, (x5_1 : Int).toNat * 5 + 4, none⟩ = false := hfr11 4; clear hcl11 hcc11 hfr11 hM11; replace p11 := eq_true p11; replace q11 := eq_true q11; have HX23 := AM (show Kd.R k66 66 w22 w0.heap.size (fun k_ => (P0_ k_ ∨ w.heap.size ≤ k_)) (.slice (some ⟨go6, 0, none⟩) x0_1.length co12) y170 from (ro_ HO_0.out)); obtain ⟨ce23, hcl23, hM23, hcc23, hfr23⟩ := Kd.R_elem HX23.out z66 (x5_1 : Int) (of_decide_eq_true (by first | (with_reducible assumption) | assumption)) (by have h_ : (x5_1 : Int) < ((x0_1.length : Int) : Int) := of_decide_eq_true (by first | (with_reducible assumption) | assumption); first | exact h_ | (have e_ := (Kd.R_reads' HO_0.out).1; omega) | simpa using h_); obtain rfl := k66_openM hM23; have HP23 := Kd.R_seg HX23.out (x5_1 : Int) (of_decide_eq_true (by first | (with_reducible assumption) | assumption)) (by have h_ : (x5_1 : Int) < ((x0_1.length : Int) : Int) := of_decide_eq_true (by first | (with_reducible assumption) | assumption); first | exact h_ | (have e_ := (Kd.R_reads' HO_0.out).1; omega) | simpa using h_) (seg := [.int .i64 (wrap64 ((wrap64 ((wrap64 ((wrap64 (x1_1 + 1)) + 1)) + 1)) + 1))]) (j := 4) hcl23 hcc23 (show 5 ≤ 5 from by decide) (x' := (⟨(rd_T66 y170 x5_1).f0, (rd_T66 y170 x5_1).f1, (rd_T66 y170 x5_1).f2, (rd_T66 y170 x5_1).f3, wrap64 ((wrap64 ((wrap64 ((wrap64 (x1_1 + 1)) + 1)) + 1)) + 1)⟩ : S66)) (k66_mkM _ _ _ (⟨(rd_T66 y170 x5_1).f0, (rd_T66 y170 x5_1).f1, (rd_T66 y170 x5_1).f2, (rd_T66 y170 x5_1).f3, wrap64 ((wrap64 ((wrap64 ((wrap64 (x1_1 + 1)) + 1)) + 1)) + 1)⟩ : S66) ) (fun _ hk => hk); have hx23_4 := hcc23 4 _ rfl; (try simp only [show (k66).sz = 5 from rfl, Nat.mul_one, Nat.add_zero] at hx23_4); have hf23_4 := hfr23 4; (try simp only [show (k66).sz = 5 from rfl, Nat.mul_one, Nat.add_zero] at hf23_4); clear hcl23 hcc23 hfr23 hM23) | ((with_reducible refine gate_store (t := 2) (p := 46) rfl ?_); refine store_event (t := 2) (p := 46) (v := ?vo_w24) (w1 := (w22.setCell ⟨go6, (x5_1 : Int).toNat * 5 + 4, none⟩ (.int .i64 (wrap64 ((wrap64 ((wrap64 ((wrap64 (x1_1 + 1)) + 1)) + 1)) + 1))))) ?hg ?ho ?hn ?hr ?_; (case ho => rfl); (case hg => rfl); (case hn => rfl); (case hr => first | (go_simp; done) | (go_simp; rfl)); intro w24 hw; have hg : w22.grownBy w24 (some go6) := (by rw [hw]; exact HP23.2); have hp_ : Kd.R k66 66 w24 w0.heap.size (fun k_ => (P0_ k_ ∨ w.heap.size ≤ k_)) (.slice (some ⟨go6, 0, none⟩) x0_1.length co12) y171 := (by rw [hw, Ny171.out]; exact HP23.1); clear HP23; replace HB := AM ((by rw [hw]; exact below_set (HB.out) GB6.out : Below w0.heap.size w0 w24)); replace HK := AM (Kept.of_grown (S := (fun k_ => P0_ k_)) hg kt_ (fun k_ e_ => (HO_0.out.1 k_ e_))); replace HO_0 := AM hp_; clear hg hw hp_))
          go_roundg k1
          case measure => have := HK1.out; omega
          case rel => exact ⟨(y171), (wrap64 ((wrap64 ((wrap64 ((wrap64 ((wrap64 (x1_1 + 1)) + 1)) + 1)) + 1)) + 1)), (wrap64 (x5_1 + 1)), (by first | rfl | (simp; done) | (simp [*]; done)), (by first | rfl | (simp; done) | (simp [*]; done)), H', ⟨by have := HK1.out; omega⟩, ⟨ro_ HO_0.out⟩, ⟨kt_⟩, ⟨bel_⟩⟩
        · rw [if_neg c5] at H
          exact absurd H (by simp)
      · rw [if_neg c3] at H
        have c3b0 : decide (x5_1 < (x0_1.length : Int)) = false := decide_eq_false c3
        clear c3
        simp only [Option.some.injEq, Prod.mk.injEq] at H
        obtain ⟨rfl, rfl⟩ := H
        obtain ⟨Ao25, co25, eo25⟩ := Kd.R_slice HO_0.out
        subst eo25
        go_wp2
        go_ret
        exact ⟨ri_, ro_ HO_0.out, bel_, kt_⟩

end Go.Proofs.Ytggbpjfgfenpdaa.PFnExactPlacesDrop
