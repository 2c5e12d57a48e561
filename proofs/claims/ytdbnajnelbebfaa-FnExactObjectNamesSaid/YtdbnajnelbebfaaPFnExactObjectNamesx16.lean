/- Functions of the law FnExactObjectNames: the print's, with walks of this session's own. No statement is proved here. -/
import Derived.Deep.Cut
import Derived.Carry
import Derived.Test.YtdbnajnelbebfaaHSFnExactObjectNames
import Derived.WalkLawsBesides
import Derived.Test.YtdbnajnelbebfaaVRegFnExactObjectNames
-- A program of this session wrote this text: a changed copy of the kit print, with given functions.
import Derived.Test.YtdbnajnelbebfaaPFnExactObjectNamesx0
import Derived.Test.YtdbnajnelbebfaaPFnExactObjectNamesx8
namespace Go.Proofs.Ytdbnajnelbebfaa.PFnExactObjectNames
open Go.RowKit Go.Proofs.YtdbnajnelbebfaaW.PrintWords Go.Proofs.YtdbnajnelbebfaaW.PrintLast Go.Proofs.YtdbnajnelbebfaaW.PrintMore Go.Proofs.Ytdbnajnelbebfaa.Reg Go.Proofs.Ytdbnajnelbebfaa.Aut
attribute [local go_sem] max2_int min2_int max_two min_two max_three min_three max_four min_four   -- for this text's walks alone
set_option linter.unusedVariables false
set_option linter.unusedSimpArgs false

-- NOT PRINTED: function 212 (slices_pdqsortOrdered_string)

-- NOT PRINTED: function 192 (slices_Sort_string_string)

-- NOT PRINTED: function 193 (slices_Compact_string_string)

-- NOT PRINTED: function 160 (impl_Array_namesThat)

/-! ### impl_Array_objects: function 106 -/
section nt
open Go.Sort hiding Below rd
open Go.Shelf
open Go.Lib
/-! A row of strings of the call's own, sorted and made compact by the library: what is left is such a row again. -/
theorem st_nil {α : Type} {d : Kd α} {e base n cap : Nat} {ok : Nat → Prop} {W : World} {xs : List α} {A : Option Addr} (h : Kd.R d e W base ok (.slice A n cap) xs) : (A = none ∧ xs = [] ∧ n = 0) ∨ ∃ g, A = some ⟨g, 0, none⟩ ∧ n = xs.length := by
  obtain ⟨h0, inner, ⟨ho1, ho2⟩, hr⟩ := h
  rcases ho2 with ⟨hv, hx⟩ | ⟨g', cap', cur, hv, hb, hh, hnc, hcm, hcs, ht⟩
  · injection hv with ha hn hc
    exact .inl ⟨ha, List.eq_nil_of_length_eq_zero hx, hn⟩
  · injection hv with ha hn hc
    exact .inr ⟨g', ha, hn⟩
def st_b (x : ByteArray) : List UInt8 := x.data.toList
def st_m (l : List UInt8) : ByteArray := ⟨l.toArray⟩
theorem st_mb (x : ByteArray) : st_m (st_b x) = x := by
  unfold st_m st_b
  rw [Array.toArray_toList]
theorem st_holds {e base g n cap : Nat} {ok : Nat → Prop} {W : World} {xs : List ByteArray} (h : Kd.R Kd.string e W base ok (.slice (some ⟨g, 0, none⟩) n cap) xs) : Holds encStr W g 0 (xs.map st_b).toArray ∧ g < W.heap.size ∧ xs.length ≤ cap := by
  obtain ⟨h0, inner, ⟨ho1, ho2⟩, hr⟩ := h
  rcases ho2 with ⟨hv, _⟩ | ⟨g', cap', cur, hv, hb, hh, hnc, hcm, hcs, ht⟩
  · cases hv
  injection hv with ha hn hc
  injection ha with ha
  injection ha with hg
  subst hg; subst hc
  refine ⟨fun j hj => ?_, (Array.getElem?_eq_some_iff.1 hh).1, hnc⟩
  have hj' : j < xs.length := by simpa using hj
  have hp := hr.2 j xs[j] (List.getElem?_eq_getElem hj')
  have hm : (inner.drop (j * 1)).take 1 = [.string xs[j]] := hp
  have hi : inner[j]? = some (.string xs[j]) := by
    have h2 : ((inner.drop (j * 1)).take 1)[0]? = some (.string xs[j]) := by rw [hm]; rfl
    rw [List.getElem?_take, if_pos (by decide), List.getElem?_drop, Nat.mul_one, Nat.add_zero] at h2
    exact h2
  rw [← ht, List.getElem?_take] at hi
  have hc : cur[j]? = some (.string xs[j]) := by
    by_cases hq : j < xs.length * Kd.string.sz
    · rw [if_pos hq, Array.getElem?_toList] at hi
      exact hi
    · rw [if_neg hq] at hi
      cases hi
  refine ⟨?_, ?_⟩
  · rw [Nat.zero_add, getElem!_pos _ j hj]
    simp only [World.cell?, hh]
    show cur[j]? = _
    rw [hc]
    simp only [List.getElem_toArray, List.getElem_map]
    show some (Value.string xs[j]) = some (Value.string (st_m (st_b xs[j])))
    rw [st_mb]
  · rw [Nat.zero_add]
    exact blk_frozen hh j
theorem st_put (d : Array (List UInt8)) (cur : Array Value) (h : d.size ≤ cur.size) : (Sort.putCells encStr 0 d cur).toList.take d.size = d.toList.map encStr := by
  apply List.ext_getElem?
  intro k
  rw [List.getElem?_take, List.getElem?_map]
  by_cases hk : k < d.size
  · rw [if_pos hk, Array.getElem?_toList, Array.getElem?_toList]
    simp only [Sort.putCells, Array.getElem?_mapIdx]
    rw [Array.getElem?_eq_getElem (show k < cur.size by omega), Option.map_some, if_pos ⟨by omega, by omega⟩, Nat.sub_zero, getElem!_pos d k hk, Array.getElem?_eq_getElem hk]
    rfl
  · rw [if_neg hk, List.getElem?_eq_none (by simpa using Nat.le_of_not_lt hk)]
    rfl
theorem st_back {e base g n cap m : Nat} {W : World} {xs : List ByteArray} (h : Kd.R Kd.string e W base (fun _ => True) (.slice (some ⟨g, 0, none⟩) n cap) xs) (d : Array (List UInt8)) (os : Array Obj) (hd : d.size = xs.length) :
    Kd.R Kd.string e (grow (putRow encStr (Sort.ahead W m) g 0 d) os) base (fun _ => True) (.slice (some ⟨g, 0, none⟩) n cap) (d.toList.map st_m) ∧ (∀ B, B ≤ base → B ≤ W.heap.size → Below B W (grow (putRow encStr (Sort.ahead W m) g 0 d) os)) ∧ ∀ k, k < W.heap.size → g ≠ k → (grow (putRow encStr (Sort.ahead W m) g 0 d) os).heap[k]? = W.heap[k]? := by
  obtain ⟨h0, inner, ⟨ho1, ho2⟩, hr⟩ := h
  rcases ho2 with ⟨hv, _⟩ | ⟨g', cap', cur, hv, hb, hh, hnc, hcm, hcs, ht⟩
  · cases hv
  injection hv with ha hn hc
  injection ha with ha
  injection ha with hg
  subst hg; subst hc
  have hg : g < W.heap.size := (Array.getElem?_eq_some_iff.1 hh).1
  have hsz : (putRow encStr (Sort.ahead W m) g 0 d).heap.size = W.heap.size := by
    rw [Sort.size_putRow]
    rfl
  have hX : ∀ k, k < W.heap.size → (grow (putRow encStr (Sort.ahead W m) g 0 d) os).heap[k]? = if g = k then some (.cells (Sort.putCells encStr 0 d cur) e (0, 0)) else W.heap[k]? := by
    intro k hk
    show ((putRow encStr (Sort.ahead W m) g 0 d).heap ++ os)[k]? = _
    rw [Array.getElem?_append_left (by rw [hsz]; exact hk)]
    show (W.heap.modify g (Sort.onCells (Sort.putCells encStr 0 d)))[k]? = _
    rw [Array.getElem?_modify]
    by_cases hgk : g = k
    · subst hgk
      rw [if_pos rfl, if_pos rfl, hh]
      rfl
    · rw [if_neg hgk, if_neg hgk]
  have hl : (d.toList.map st_m).length = d.size := by simp
  have hle : d.size ≤ cur.size := by
    have h1 : cur.size = cap * 1 := hcs
    rw [h1, hd]
    omega
  refine ⟨⟨fun _ _ => trivial, d.toList.map encStr, ⟨by rw [List.length_map, List.length_map]; exact (Nat.mul_one _).symm, .inr ⟨g, cap, Sort.putCells encStr 0 d cur, by rw [hl, hd, hn], hb, ?_, by rw [hl, hd]; exact hnc, hcm, ?_, ?_⟩⟩, ?_, ?_⟩, ?_, fun k hk hg2 => by rw [hX k hk, if_neg hg2]⟩
  · rw [hX g hg, if_pos rfl]
  · rw [← hcs]
    simp [Sort.putCells]
  · rw [hl]
    show (Sort.putCells encStr 0 d cur).toList.take (d.size * 1) = _
    rw [Nat.mul_one]
    exact st_put _ _ hle
  · rw [List.length_map, List.length_map]
    exact (Nat.mul_one _).symm
  · intro j p hp
    rw [List.getElem?_map] at hp
    obtain ⟨b, hb1, rfl⟩ := Option.map_eq_some_iff.1 hp
    show List.take 1 (List.drop (j * 1) (d.toList.map encStr)) = [Value.string (st_m b)]
    apply List.ext_getElem?
    intro i
    rw [List.getElem?_take]
    by_cases hi : i < 1
    · obtain rfl : i = 0 := by omega
      rw [if_pos hi, List.getElem?_drop, Nat.mul_one, Nat.add_zero, List.getElem?_map, hb1]
      rfl
    · rw [if_neg hi]
      symm
      rw [List.getElem?_eq_none_iff]
      simp only [List.length_cons, List.length_nil]
      omega
  · intro B hB hBW
    refine ⟨rfl, rfl, rfl, ?_, fun k hk => ?_⟩
    · show W.heap.size ≤ ((putRow encStr (Sort.ahead W m) g 0 d).heap ++ os).size
      rw [Array.size_append, hsz]
      exact Nat.le_add_right _ _
    · rw [hX k (by omega), if_neg (by omega)]
def st_sorted (xs : List ByteArray) : List ByteArray := ((xs.map st_b).mergeSort fun x y => decide (x ≤ y)).map st_m
def st_compact (xs : List ByteArray) : List ByteArray := (Lib.compact (xs.map st_b)).map st_m
theorem st_sorted_length (xs : List ByteArray) : (st_sorted xs).length = xs.length := by
  unfold st_sorted
  rw [List.length_map, List.length_mergeSort, List.length_map]
set_option maxHeartbeats 4000000 in
theorem st_sort (A : Option Addr) (cap : Nat) (xs : List ByteArray) (hl : xs.length ≤ 1000000) (w0 w : World) (hB : Below w0.heap.size w0 w) (hr : Kd.R Kd.string 9 w w0.heap.size (fun _ => True) (.slice A xs.length cap) xs) :
    Calls Try.prog 192 #[.slice A xs.length cap] w fun e w' => e = .returned (.tuple #[]) ∧ Kd.R Kd.string 9 w' w0.heap.size (fun _ => True) (.slice A xs.length cap) (st_sorted xs) ∧ Below w0.heap.size w0 w' ∧ ∀ k, k < w.heap.size → (∀ a, A = some a → a.block ≠ k) → w'.heap[k]? = w.heap[k]? := by
  rcases st_nil hr with ⟨rfl, rfl, _⟩ | ⟨g, rfl, _⟩
  · refine (Try.slices_Sort_string_none none cap w).mono ?_
    rintro e w' ⟨rfl, rfl⟩
    exact ⟨rfl, (by rw [show st_sorted [] = [] by simp [st_sorted]]; exact hr), hB, fun _ _ _ => rfl⟩
  · obtain ⟨hH, hblk, _⟩ := st_holds hr
    have h := Try.slices_Sort_string g 0 cap (xs.map st_b) w hH hblk (by rw [List.length_map]; omega)
    rw [List.length_map] at h
    refine h.mono ?_
    rintro e w' ⟨rfl, n, os, rfl⟩
    obtain ⟨k1, k2, k3⟩ := st_back (m := n) hr (((xs.map st_b).mergeSort fun x y => decide (x ≤ y)).toArray) os (by rw [List.size_toArray, List.length_mergeSort, List.length_map])
    exact ⟨rfl, k1, hB.trans (k2 _ (Nat.le_refl _) hB.size), fun k hk hg => k3 k hk (hg _ rfl)⟩
theorem st_compact_le (zs : List (List UInt8)) : (Lib.compact zs).length ≤ zs.length := by
  unfold Lib.compact compactUpTo
  rw [List.length_map]
  refine Nat.le_trans (List.length_filter_le _ _) ?_
  rw [List.length_range]
  exact Nat.le_refl _
set_option maxHeartbeats 4000000 in
theorem st_compacted (A : Option Addr) (cap : Nat) (xs : List ByteArray) (hl : xs.length ≤ 1000000) (w0 w : World) (hB : Below w0.heap.size w0 w) (hr : Kd.R Kd.string 9 w w0.heap.size (fun _ => True) (.slice A xs.length cap) xs) :
    Calls Try.prog 193 #[.slice A xs.length cap] w fun e w' => ∃ v : Value, e = .returned v ∧ Kd.R Kd.string 9 w' w0.heap.size (fun _ => True) v (st_compact xs) ∧ Below w0.heap.size w0 w' := by
  rcases st_nil hr with ⟨rfl, rfl, _⟩ | ⟨g, rfl, _⟩
  · refine (Try.slices_Compact_string_empty none cap w).mono ?_
    rintro e w' ⟨rfl, rfl⟩
    exact ⟨_, rfl, (by rw [show st_compact [] = [] by simp [st_compact, Lib.compact, compactUpTo]]; exact hr), hB⟩
  · obtain ⟨hH, hblk, hcap⟩ := st_holds hr
    have h := Try.slices_Compact_string g 0 cap (xs.map st_b) w hH (by rw [List.length_map]; omega) (by rw [List.length_map]; exact hcap)
    rw [List.length_map] at h
    refine h.mono ?_
    rintro e w' ⟨rfl, q, rfl⟩
    have hle := st_compact_le (xs.map st_b)
    rw [List.length_map] at hle
    obtain ⟨k1, k2, k3⟩ := st_back (m := q) hr ((Lib.compact (xs.map st_b) ++ List.replicate (xs.length - (Lib.compact (xs.map st_b)).length) []).toArray) #[] (by rw [List.size_toArray, List.length_append, List.length_replicate]; omega)
    have hg : ∀ W : World, grow W #[] = W := fun W => by simp [grow]
    rw [hg] at k1 k2
    have k4 := Kd.R_take (m := (Lib.compact (xs.map st_b)).length) k1 (by rw [List.length_map, List.toList_toArray, List.length_append]; exact Nat.le_add_right _ _)
    have e4 : ((Lib.compact (xs.map st_b) ++ List.replicate (xs.length - (Lib.compact (xs.map st_b)).length) []).toArray.toList.map st_m).take (Lib.compact (xs.map st_b)).length = st_compact xs := by
      rw [List.toList_toArray, List.map_append, List.take_left' (by rw [List.length_map])]
      rfl
    rw [e4] at k4
    exact ⟨_, rfl, k4, hB.trans (k2 _ (Nat.le_refl _) hB.size)⟩
theorem st_compacted' (A : Option Addr) (cap : Nat) (xs : List ByteArray) (hl : xs.length ≤ 1000000) (w0 w : World) (hB : Below w0.heap.size w0 w) (hr : Kd.R Kd.string 9 w w0.heap.size (fun _ => True) (.slice A xs.length cap) (st_sorted xs)) :
    Calls Try.prog 193 #[.slice A xs.length cap] w fun e w' => ∃ v : Value, e = .returned v ∧ Kd.R Kd.string 9 w' w0.heap.size (fun _ => True) v (st_compact (st_sorted xs)) ∧ Below w0.heap.size w0 w' := by
  have e := st_sorted_length xs
  have h := st_compacted A cap (st_sorted xs) (by rw [e]; exact hl) w0 w hB (by rw [e]; exact hr)
  rw [e] at h
  exact h
theorem nt_drawn {w w' : World} (h : Drawn0 w w') : Below w.heap.size w w' := by
  obtain ⟨q, hq⟩ := h.out
  rw [hq]
  exact pw_below_drewN (Below.refl _ _) _
/-! the names of all drives' files that are such -/
def nt_in (k : Nat) : List ByteArray → List ByteArray → Option (List ByteArray)
  | [], out => some out
  | s :: r, out => (impl_ObjectRight.f k s).bind fun b => if b = true then nt_in k r (out ++ [s]) else nt_in k r out
def nt_out (k : Nat) : List (S192) → List ByteArray → Option (List ByteArray)
  | [], out => some out
  | d :: r, out => (impl_Drive_names.f k d.f0 d.f1).bind fun ns => if ns.length < 1000 then ((nt_in k ns out).bind fun o => nt_out k r o) else none
theorem nt_in_mono (k : Nat) : ∀ l out, LeO (nt_in k l out) (nt_in (k + 1) l out)
  | [], _ => LeO.refl _
  | s :: r, out => by
    unfold nt_in
    refine LeO.bind (impl_ObjectRight.mono _ _) (fun _ => ?_)
    refine LeO.ite ?_ ?_
    · exact nt_in_mono k r _
    · exact nt_in_mono k r _
theorem nt_out_mono (k : Nat) : ∀ l out, LeO (nt_out k l out) (nt_out (k + 1) l out)
  | [], _ => LeO.refl _
  | d :: r, out => by
    unfold nt_out
    refine LeO.bind (impl_Drive_names.mono _ _ _) (fun _ => LeO.ite (LeO.bind (nt_in_mono k _ _) (fun _ => nt_out_mono k r _)) (LeO.refl _))
theorem nt_in_len (k : Nat) : ∀ l out r, nt_in k l out = some r → r.length ≤ out.length + l.length
  | [], out, r, h => by
    obtain rfl := Option.some.inj h
    simp
  | s :: l, out, r, h => by
    unfold nt_in at h
    obtain ⟨b, hb, h⟩ := Option.bind_eq_some_iff.mp h
    split at h
    · have := nt_in_len k l _ r h
      simp only [List.length_append, List.length_cons, List.length_nil] at this ⊢
      omega
    · have := nt_in_len k l _ r h
      simp only [List.length_cons]
      omega
def impl_Array_objects.f (k : Nat) (a0_0 : Int) (a0_1 : Int) (l0_2 : List (S192)) : Option (List ByteArray) := if l0_2.length < 100 then ((nt_out k l0_2 []).bind fun r => some (st_compact (st_sorted r))) else none
theorem impl_Array_objects.mono : ∀ a0 a1 a2 k, LeO (impl_Array_objects.f k a0 a1 a2) (impl_Array_objects.f (k + 1) a0 a1 a2) := fun _ _ _ k => LeO.ite (LeO.bind (nt_out_mono k _ _) (fun _ => LeO.refl _)) (LeO.refl _)
theorem nt_nxt (x : Int) (i : Nat) (hx : x = (i : Int)) (hi : i < 100000) : wrap64 (x + 1) = ((i + 1 : Nat) : Int) := by
  subst hx
  unfold wrap64
  omega
theorem nt_drop (l : List (S192)) (i : Nat) (hi : i < l.length) : l.drop i = rd_T192 l (i : Int) :: l.drop (i + 1) := by
  rw [List.drop_eq_getElem_cons hi]
  unfold rd_T192
  rw [Int.toNat_natCast, List.getD_eq_getElem?_getD, List.getElem?_eq_getElem hi]
  rfl
theorem nt_dropS (l : List ByteArray) (i : Nat) (hi : i < l.length) : l.drop i = rdOf ByteArray.empty l (i : Int) :: l.drop (i + 1) := by
  rw [List.drop_eq_getElem_cons hi]
  unfold rdOf
  rw [Int.toNat_natCast, List.getD_eq_getElem?_getD, List.getElem?_eq_getElem hi]
  rfl
set_option maxHeartbeats 8000000 in
set_option maxRecDepth 100000 in
theorem nt_walk (k : Nat) (a0 a1 : Int) (A : Option Addr) (c : Nat) (l : List (S192)) (r : List ByteArray) (w : World) (hr0 : Kd.C k192 w A l.length l) (hc0 : l.length ≤ c) (hl : l.length < 100) (h : nt_out k l [] = some r) :
    Calls Try.prog 160 #[.agg #[.int .i64 a0, .int .i64 a1, .slice A l.length c], .func (.func 87) #[] #[]] w fun e w' => ∃ v0_ : Value, e = .returned (v0_) ∧ Kd.R Kd.string 9 w' w.heap.size (fun _ => True) v0_ (st_compact (st_sorted r)) ∧ Below w.heap.size w w' := by
  have hu := Try.underlying64
  have HR := AM hr0
  have HC := AM hc0
  have HLL := AM hl
  have HB := AM (Below.refl w.heap.size w)
  have H0 := AM h
  clear hr0 hc0 hl h
  go_enter Try.func160, Try.ntmps160
  go_wp2_with ((with_reducible refine gate_dst (N := 2) rfl ?_); refine be_ 2 #[.int .i64 a0, .int .i64 a1, .slice A l.length c] 64 ?_; intro g2 hg w1 hbox hb; replace HB := AM (below_step HB.out hb); have cz0 : w1.cell? ⟨g2, 0, none⟩ = some (.int .i64 a0) := (blk_cell hbox 0).trans rfl; have cz1 : w1.cell? ⟨g2, 1, none⟩ = some (.int .i64 a1) := (blk_cell hbox 1).trans rfl; have cz2 : w1.cell? ⟨g2, 2, none⟩ = some (.slice A l.length c) := (blk_cell hbox 2).trans rfl; clear hb hbox hg)
  clear cz0 cz1 cz2
  go_loopg [5, 13] (l.length : Nat) (fun (q : Nat) v5 v13 w' => ∃ (u : Value) (xs : List ByteArray) (x : Int) (i : Nat), i + q = l.length ∧ v5 = u ∧ v13 = .int .i64 x ∧ Aside0 (x = (i : Int)) ∧ Aside0 (xs.length ≤ 1000 * i) ∧ Aside0 (nt_out k (l.drop i) xs = some r) ∧ Aside0 (Kd.R Kd.string 9 w' w.heap.size (fun _ => True) u xs) ∧ Aside0 (Below w.heap.size w w'))
  case atStart => exact ⟨_, [], 0, 0, by omega, rfl, rfl, ⟨rfl⟩, ⟨Nat.le_refl _⟩, H0, ⟨Kd.R_nil _ _ _ _ _⟩, HB⟩
  case round =>
    clear H0 HB
    obtain ⟨u, xs, x, i, hi, rfl, rfl, HX, HXL, HN, HO, HB⟩ := hrel
    have HI := AM hi
    clear hi
    by_cases c1 : i < l.length
    · have x1 : decide (x < (l.length : Int)) = true := decide_eq_true (by have := HX.out; omega)
      have C1 := AM c1
      have p2_ : (0 ≤ x) = True := eq_true (by rw [HX.out]; omega)
      have q2_ : (x < (l.length : Int)) = True := eq_true (by rw [HX.out]; omega)
      obtain ⟨ad, A1, c1_, e1, hx0, hx1, hl1, hk1⟩ := at_T192 HR.out x (by rw [HX.out]; omega) (by rw [HX.out]; omega)
      subst e1
      replace hx0 := (HB.out.cell (World.block_lt_of_cell? w _ hx0)).trans hx0
      replace hx1 := (HB.out.cell (World.block_lt_of_cell? w _ hx1)).trans hx1
      have H := HN.out
      rw [nt_drop l i c1, ← HX.out] at H
      unfold nt_out at H
      obtain ⟨ns, hns, H⟩ := Option.bind_eq_some_iff.mp H
      by_cases cn : ns.length < 1000
      case neg => rw [if_neg cn] at H; exact absurd H (by simp)
      rw [if_pos cn] at H
      obtain ⟨o, ho, H⟩ := Option.bind_eq_some_iff.mp H
      have HNS := AM hns
      have HIN := AM ho
      have HNL := AM cn
      have HL1 := AM hl1
      have HK1 := AM (Kd.C_below hk1 HB.out)
      replace HN := AM H
      have HOL : Aside0 (o.length ≤ 1000 * (i + 1)) := ⟨by have := nt_in_len k ns xs o HIN.out; have := HXL.out; omega⟩
      clear H hns ho cn hl1 hk1 c1
      generalize rd_T192 l x = dd at hx0 hx1 HNS HL1 HK1
      go_wp2_with (go_at_call 191; refine (impl_Drive_names.calls k A1 c1_ dd.f0 dd.f1 ns _ (Kd.C_below HK1.out ((Below.refl wr.heap.size wr).alloc (Nat.le_refl _) _)) HL1.out HNS.out).mono ?_; rintro e w2 ⟨v2, rfl, ho, hb⟩; have hb0 := (Below.refl wr.heap.size wr).alloc (Nat.le_refl _) (Obj.cells #[.slice A1 dd.f0.length c1_, .int .i64 dd.f1] 192); have h1 := AM (Kd.R_lower (Kd.R_new' ho (Kd.R_lt (ro_ HO.out))) (below_size (bel_ (w := w)))); replace HO := AM (Kd.R_elder' (ro_ HO.out) (Kd.R_base ho) hb); replace HB := AM (below_step (bel_ (w := w)) hb); have HNR := h1; clear h1 ho hb hb0 hx0 hx1; obtain ⟨A2, c2, e2⟩ := Kd.R_slice HNR.out; subst e2)
      replace HNR : Aside0 (Kd.R Kd.string 9 w2 w.heap.size (fun k => some k = (.slice A2 ns.length c2 : Value).ownBlock) (.slice A2 ns.length c2) ns) := ⟨Kd.R_tight rfl HNR.out⟩
      have HLT : Aside0 (∀ k, (.slice A2 ns.length c2 : Value).ownBlock = some k → k < w2.heap.size) := ⟨Kd.R_lt HNR.out⟩
      clear x1 p2_ q2_
      go_loopg [5, 20] (ns.length : Nat) (fun (q : Nat) v5 v20 w' => ∃ (u : Value) (xs : List ByteArray) (y : Int) (j : Nat), j + q = ns.length ∧ v5 = u ∧ v20 = .int .i64 y ∧ Aside0 (y = (j : Int)) ∧ Aside0 (xs.length ≤ 1000 * i + j) ∧ Aside0 (nt_in k (ns.drop j) xs = some o) ∧ Aside0 (Kd.R Kd.string 9 w' w.heap.size (fun k => some k ≠ (.slice A2 ns.length c2 : Value).ownBlock) u xs) ∧ Aside0 (Kd.R Kd.string 9 w' w.heap.size (fun k => some k = (.slice A2 ns.length c2 : Value).ownBlock) (.slice A2 ns.length c2) ns) ∧ Aside0 (Below w.heap.size w w'))
      case atStart => exact ⟨_, xs, 0, 0, by omega, rfl, rfl, ⟨rfl⟩, HXL, HIN, ⟨Kd.R_mono HO.out (fun _ h => h.2)⟩, HNR, HB⟩
      case round =>
        clear HO HB HIN HXL HNR HLT
        obtain ⟨u, xs, y, j, hj, rfl, rfl, HY, HXL, HIN, HO, HNR, HB⟩ := hrel
        have HJ := AM hj
        clear hj
        by_cases c3 : j < ns.length
        · have x1 : decide (y < (ns.length : Int)) = true := decide_eq_true (by have := HY.out; omega)
          have C3 := AM c3
          have p2_ : (0 ≤ y) = True := eq_true (by rw [HY.out]; omega)
          have q2_ : (y < (ns.length : Int)) = True := eq_true (by rw [HY.out]; omega)
          obtain ⟨ad2, e1, hz⟩ := Kd.at_string (Kd.R_reads' HNR.out).2.2 y (by rw [HY.out]; omega) (by rw [HY.out]; omega)
          subst e1
          have H := HIN.out
          rw [nt_dropS ns j c3, ← HY.out] at H
          unfold nt_in at H
          obtain ⟨b, hb, H⟩ := Option.bind_eq_some_iff.mp H
          have HBR := AM hb
          replace HIN := AM H
          clear H hb c3
          generalize rdOf ByteArray.empty ns y = s at hz HBR HIN
          cases b
          case false =>
            replace HIN := AM (by have h := HIN.out; rw [if_neg (by decide)] at h; exact h : nt_in k (ns.drop (j + 1)) xs = some o)
            go_wp2_with (go_at_call 87; refine (impl_ObjectRight.calls k s false _ HBR.out).mono ?_; rintro e w4 ⟨rfl, hd⟩; have hb := nt_drawn hd; replace HO := AM (Kd.R_below HO.out hb); replace HNR := AM (Kd.R_below HNR.out hb); replace HB := AM (below_step HB.out hb); clear hd hb hz)
            go_roundg (ns.length - (j + 1))
            case measure => have := HJ.out; have := C3.out; omega
            case rel => exact ⟨_, xs, _, j + 1, (by have := HJ.out; have := C3.out; omega), rfl, rfl, ⟨nt_nxt y j HY.out (by have := C3.out; have := HNL.out; omega)⟩, ⟨by have := HXL.out; omega⟩, HIN, HO, HNR, HB⟩
          case true =>
            replace HIN := AM (by have h := HIN.out; rw [if_pos rfl] at h; exact h : nt_in k (ns.drop (j + 1)) (xs ++ [s]) = some o)
            obtain ⟨Y, eY⟩ : ∃ Y : List ByteArray, Y = [s] := ⟨_, rfl⟩
            have HY2 := AM eY
            have HYl : Aside0 (Y.length = 1) := ⟨by rw [eY]; rfl⟩
            rw [← eY] at HIN
            clear eY
            obtain ⟨Au, cu, eu⟩ := Kd.R_slice HO.out
            subst eu
            go_wp2_with (first
              | (go_at_call 87; refine (impl_ObjectRight.calls k s true _ HBR.out).mono ?_; rintro e w4 ⟨rfl, hd⟩; have hb := nt_drawn hd; replace HO := AM (Kd.R_below HO.out hb); replace HNR := AM (Kd.R_below HNR.out hb); replace HB := AM (below_step HB.out hb); clear hd hb hz)
              | ((with_reducible refine gate_dst (N := 29) rfl ?_); refine Kd.R_lit Kd.string _ 9 ?hgL1 (N := 29) ?hdL1 (xs := [s]) (inner := [.string s]) (ok := fun _ => True) (okp := fun _ => True) ?hrL1 ?hpL1 (fun _ hk => hk) trivial (Below.refl _ _) (Nat.le_refl _) (by simp) ?_; (case hdL1 => rfl); (case hgL1 => rfl); (case hrL1 => first | (go_simp; done) | (go_simp; rfl)); (case hpL1 => exact (Reps.one (show Kd.M Kd.string _ _ _ s [.string s] from rfl) (Reps.none _ _))); intro u29 w11 ho hb hg_ hnew_; clear hg_ hnew_; rw [← HY2.out] at ho; have HN1 := AM (Kd.R_lower (Kd.R_new' ho (Kd.R_lt (ro_ HO.out))) (below_size HB.out)); replace HO := AM (Kd.R_elder' (ro_ HO.out) (Kd.R_base ho) hb); replace HNR := AM (Kd.R_below HNR.out hb); replace HB := AM (below_step HB.out hb); obtain ⟨Al, col, eol⟩ := Kd.R_slice HN1.out; subst eol; clear hb ho)
              | ((with_reducible refine gate_builtin (b := .append) (xs := #[.tmp 27, .tmp 29]) rfl ?_); at_builtin; refine Kd.R_append_rows Kd.string (w0 := w) w.heap.size rfl (.tmp 27) (.tmp 29) 25 9 (.string ⟨#[]⟩) 16 rfl Try.underlying25 info9 rfl (by decide) (by omega) (.slice Au xs.length cu) xs Y _ _ _ (fun k_ => some k_ ≠ (.slice (some ad2) ns.length c2 : Value).ownBlock ∧ some k_ ≠ (.slice Al Y.length col : Value).ownBlock) (fun _ => False) rfl rfl ?aO ?aR (fun _ _ h => h) (fun _ h => h.elim) ?aF ?aB ?aS ?aL ?_; (case aR => repeat (first | exact (Kd.R_reads' HN1.out).2.2 | (with_reducible refine Kd.C_alloc ?_ _) | (with_reducible refine Kd.C_drewN ?_ _) | (with_reducible refine Kd.C_drew ?_))); (case aB => exact HB.out); (case aF => exact (fun k_ hk => ⟨Kd.fresh' (Kd.R_lt (ro_ HNR.out)) k_ hk, Kd.fresh' (Kd.R_lt (ro_ HN1.out)) k_ hk⟩)); (case aO => exact (ro_ HO.out)); (case aS => exact (below_size HB.out)); (case aL => have := HYl.out; have := HXL.out; have := HI.out; have := HJ.out; have := HNL.out; have := HLL.out; omega); intro u30 w12 ho hb hg hat; have hno := HO.out.1; replace HNR := AM (Kd.R_grown HNR.out hg (fun k_ hk e => (hno k_ e.symm).1 hk)); replace HB := AM hb; replace HO := AM (Kd.R_mono ho (fun _ hk => hk.1)); clear HN1 ho hb hg hat hno))
            go_roundg (ns.length - (j + 1))
            case measure => have := HJ.out; have := C3.out; omega
            case rel => exact ⟨_, xs ++ Y, _, j + 1, (by have := HJ.out; have := C3.out; omega), rfl, rfl, ⟨nt_nxt y j HY.out (by have := C3.out; have := HNL.out; omega)⟩, ⟨by rw [List.length_append, HYl.out]; have := HXL.out; omega⟩, HIN, HO, HNR, HB⟩
        · have x1 : decide (y < (ns.length : Int)) = false := decide_eq_false (by rw [HY.out]; omega)
          have hJ : j = ns.length := by have := HJ.out; omega
          have HXO : Aside0 (xs = o) := ⟨by have h := HIN.out; rw [hJ, List.drop_length] at h; exact Option.some.inj h⟩
          clear c3 hJ
          go_wp2
          go_roundg (l.length - (i + 1))
          case measure => have := HI.out; have := C1.out; omega
          case rel => exact ⟨_, xs, _, i + 1, (by have := HI.out; have := C1.out; omega), rfl, rfl, ⟨nt_nxt x i HX.out (by have := C1.out; have := HLL.out; omega)⟩, ⟨by rw [HXO.out]; exact HOL.out⟩, ⟨by rw [HXO.out]; exact HN.out⟩, ⟨Kd.R_mono HO.out (fun _ _ => trivial)⟩, HB⟩
    · have x1 : decide (x < (l.length : Int)) = false := decide_eq_false (by rw [HX.out]; omega)
      have hI : i = l.length := by have := HI.out; omega
      have HXR : Aside0 (xs = r) := ⟨by have h := HN.out; rw [hI, List.drop_length] at h; exact Option.some.inj h⟩
      have HXS : Aside0 (xs.length ≤ 1000000) := ⟨by have := HXL.out; have := HLL.out; omega⟩
      clear c1 hI
      obtain ⟨Au, cu, eu⟩ := Kd.R_slice HO.out
      subst eu
      go_wp2_with (first
        | (go_at_call 192; refine (st_sort Au cu xs HXS.out w _ HB.out HO.out).mono ?_; rintro e w3 ⟨rfl, ho, hb, hk⟩; replace HO := AM ho; replace HB := AM hb; clear ho hb hk)
        | (go_at_call 193; refine (st_compacted' Au cu xs HXS.out w _ HB.out HO.out).mono ?_; rintro e w4 ⟨v4, rfl, ho, hb⟩; replace HO := AM ho; replace HB := AM hb; clear ho hb))
      go_ret
      exact ⟨_, rfl, (by have h := HO.out; rw [HXR.out] at h; exact h), HB.out⟩
theorem impl_Array_objects.calls (k : Nat) (a0_0 : Int) (a0_1 : Int) (A0_2 : Option Addr) (c0_2 : Nat) (l0_2 : List (S192)) (r : List ByteArray) (w : World) (hr0_2 : Kd.C k192 w A0_2 l0_2.length l0_2) (hc0_2 : l0_2.length ≤ c0_2) (h : impl_Array_objects.f k a0_0 a0_1 l0_2 = some r) :
    Calls Try.prog 106 #[.agg #[.int .i64 a0_0, .int .i64 a0_1, .slice A0_2 l0_2.length c0_2]] w fun e w' => ∃ v0_ : Value, e = .returned (v0_) ∧ Kd.R Kd.string 9 w' w.heap.size (fun _ => True) v0_ r ∧ Below w.heap.size w w' := by
  have hu := Try.underlying64
  unfold impl_Array_objects.f at h
  by_cases hl : l0_2.length < 100
  case neg => rw [if_neg hl] at h; exact absurd h (by simp)
  rw [if_pos hl] at h
  obtain ⟨q, hq, h⟩ := Option.bind_eq_some_iff.mp h
  obtain rfl := Option.some.inj h
  have HR := AM hr0_2
  have HC := AM hc0_2
  have HL := AM hl
  have HQ := AM hq
  have HB := AM (Below.refl w.heap.size w)
  clear hr0_2 hc0_2 hl hq h
  go_enter Try.func106, Try.ntmps106
  go_wp2_with (first
    | ((with_reducible refine gate_dst (N := 1) rfl ?_); refine be_ 1 #[.int .i64 a0_0, .int .i64 a0_1, .slice A0_2 l0_2.length c0_2] 64 ?_; intro g2 hg w1 hbox hb; replace HB := AM (below_step HB.out hb); have cz0 : w1.cell? ⟨g2, 0, none⟩ = some (.int .i64 a0_0) := (blk_cell hbox 0).trans rfl; have cz1 : w1.cell? ⟨g2, 1, none⟩ = some (.int .i64 a0_1) := (blk_cell hbox 1).trans rfl; have cz2 : w1.cell? ⟨g2, 2, none⟩ = some (.slice A0_2 l0_2.length c0_2) := (blk_cell hbox 2).trans rfl; clear hb hbox hg)
    | (go_at_call 160; refine (nt_walk k a0_0 a0_1 A0_2 c0_2 l0_2 q _ (Kd.C_below HR.out HB.out) HC.out HL.out HQ.out).mono ?_; rintro e w3 ⟨v3, rfl, ho, hb⟩; have HO := AM (Kd.R_lower ho (below_size HB.out)); replace HB := AM (below_step HB.out hb); clear ho hb cz0 cz1 cz2))
  go_ret
  exact ⟨_, rfl, HO.out, HB.out⟩
end nt

/-! ### impl_ObjectNames: function 37 -/
def impl_ObjectNames.f (k : Nat) (a0_0 : Int) (a0_1 : Int) (l0_2 : List (S192)) : Option (List ByteArray) := (impl_ArrayRight.f k a0_0 a0_1 l0_2).bind fun t382 => (if t382 = true then ((impl_Array_objects.f k a0_0 a0_1 l0_2).bind fun t383 => (some t383)) else (some ([] : List ByteArray)))
theorem impl_ObjectNames.mono : ∀ a0 a1 a2 k, LeO (impl_ObjectNames.f k a0 a1 a2) (impl_ObjectNames.f (k + 1) a0 a1 a2) := by
  intro a0 a1 a2 k
  unfold impl_ObjectNames.f
  repeat' first
      | (with_reducible exact impl_ArrayRight.mono _ _ _ _)
      | (with_reducible exact impl_Array_objects.mono _ _ _ _)
      | (with_reducible exact LeO.refl _)
      | (with_reducible exact LeO.none _)
      | (with_reducible refine LeO.ite ?_ ?_)
      | (with_reducible refine LeO.bind ?_ (fun _ => ?_))
      | exact impl_ArrayRight.mono _ _ _ _
      | exact impl_Array_objects.mono _ _ _ _
      | exact LeO.none _
      | refine LeO.ite ?_ ?_
      | refine LeO.bind ?_ (fun _ => ?_)
set_option maxHeartbeats 8000000 in
set_option maxRecDepth 100000 in
theorem impl_ObjectNames.calls (k : Nat) (a0_0 : Int) (a0_1 : Int) (A0_2 : Option Addr) (c0_2 : Nat) (l0_2 : List (S192)) (r : List ByteArray) (w : World) (hr0_2 : Kd.C k192 w A0_2 l0_2.length l0_2) (hc0_2 : l0_2.length ≤ c0_2) (h : impl_ObjectNames.f k a0_0 a0_1 l0_2 = some r) :
    Calls Try.prog 37 #[.agg #[.int .i64 a0_0, .int .i64 a0_1, .slice A0_2 l0_2.length c0_2]] w fun e w' => ∃ v0_ : Value, e = .returned (v0_) ∧ Kd.R Kd.string 9 w' w.heap.size (fun _ => True) v0_ r ∧ Below w.heap.size w w' := by
  have hu64 := Try.underlying64
  have HR0_2 := AM hr0_2
  have HC0_2 := AM hc0_2
  clear hr0_2 hc0_2
  have HB := AM (Below.refl w.heap.size w)
  have H : ((impl_ArrayRight.f k a0_0 a0_1 l0_2).bind fun t382 => (if t382 = true then ((impl_Array_objects.f k a0_0 a0_1 l0_2).bind fun t383 => (some t383)) else (some ([] : List ByteArray)))) = some r := h
  clear h
  obtain ⟨t382, A2, H⟩ := OB H
  try dsimp only at H
  replace A2 := AM A2
  by_cases c3 : t382 = true
  · subst c3
    rw [if_pos rfl] at H
    obtain ⟨t383, A4, H⟩ := OB H
    try dsimp only at H
    replace A4 := AM A4
    obtain rfl := Option.some.inj H
    go_enter Try.func37, Try.ntmps37
    go_wp2_with (first | ((with_reducible refine gate_dst (N := 1) rfl ?_); refine be_ 1 #[.int .i64 a0_0, .int .i64 a0_1, .slice A0_2 l0_2.length c0_2] 64 ?_; intro gb381 hg w5 hbox hb; have BK381 := AM hbox; have GW381 := AM ((by rw [hg]; exact (below_size bel_) : w.heap.size ≤ gb381)); have GE381 := AM ((by rw [hg]; exact (below_size bel_) : w.heap.size ≤ gb381)); replace HB := AM (below_step bel_ hb); clear hb hbox hg; have hcz6_0 : w5.cell? ⟨gb381, 0, none⟩ = some (.int .i64 a0_0) := (blk_cell BK381.out 0).trans rfl; have hcz6_1 : w5.cell? ⟨gb381, 1, none⟩ = some (.int .i64 a0_1) := (blk_cell BK381.out 1).trans rfl; have hcz6_2 : w5.cell? ⟨gb381, 2, none⟩ = some (.slice A0_2 l0_2.length c0_2) := (blk_cell BK381.out 2).trans rfl; have hfz6_0 := blk_frozen BK381.out 0; have hfz6_1 := blk_frozen BK381.out 1; have hfz6_2 := blk_frozen BK381.out 2) | ((with_reducible refine gate_callee (f := 105) rfl ?_); refine gl_ (some 4) Try.func105 #[.agg #[.int .i64 a0_0, .int .i64 a0_1, .slice A0_2 l0_2.length c0_2]] ?_; (with_reducible refine (impl_ArrayRight.calls k a0_0 a0_1 _ _ l0_2 true _ ?side1 ?side2 A2.out).mono ?_); (case side1 => repeat (first | exact (Kd.C_below HR0_2.out HB.out) | (with_reducible refine Kd.C_alloc ?_ _) | (with_reducible refine Kd.C_drewN ?_ _) | (with_reducible refine Kd.C_drew ?_))); (case side2 => exact HC0_2.out); rintro e w7 ⟨rfl, hb⟩; refine ⟨_, rfl, ?_⟩; replace BK381 := AM (blk_below (g := gb381) (o := .cells #[.int .i64 a0_0, .int .i64 a0_1, .slice A0_2 l0_2.length c0_2] 64 (0, 0)) (bk_ BK381.out) hb); replace HB := AM (below_step bel_ hb); (try clear hb); (try clear hb2); (try clear hk); (try clear hi); have hcz8_0 : w7.cell? ⟨gb381, 0, none⟩ = some (.int .i64 a0_0) := (blk_cell BK381.out 0).trans rfl; have hcz8_1 : w7.cell? ⟨gb381, 1, none⟩ = some (.int .i64 a0_1) := (blk_cell BK381.out 1).trans rfl; have hcz8_2 : w7.cell? ⟨gb381, 2, none⟩ = some (.slice A0_2 l0_2.length c0_2) := (blk_cell BK381.out 2).trans rfl; have hfz8_0 := blk_frozen BK381.out 0; have hfz8_1 := blk_frozen BK381.out 1; have hfz8_2 := blk_frozen BK381.out 2) | ((with_reducible refine gate_callee (f := 106) rfl ?_); refine gl_ (some 7) Try.func106 #[.agg #[.int .i64 a0_0, .int .i64 a0_1, .slice A0_2 l0_2.length c0_2]] ?_; (with_reducible refine (impl_Array_objects.calls k a0_0 a0_1 _ _ l0_2 t383 _ ?side1 ?side2 A4.out).mono ?_); (case side1 => repeat (first | exact (Kd.C_below HR0_2.out HB.out) | (with_reducible refine Kd.C_alloc ?_ _) | (with_reducible refine Kd.C_drewN ?_ _) | (with_reducible refine Kd.C_drew ?_))); (case side2 => exact HC0_2.out); rintro e w9 ⟨v384, rfl, ho0, hb⟩; refine ⟨_, rfl, ?_⟩; have HO385 := AM (Kd.R_lower ho0 (below_size bel_)); replace BK381 := AM (blk_below (g := gb381) (o := .cells #[.int .i64 a0_0, .int .i64 a0_1, .slice A0_2 l0_2.length c0_2] 64 (0, 0)) (bk_ BK381.out) hb); replace HB := AM (below_step bel_ hb); (try clear hb); (try clear hb2); (try clear hk); (try clear hi); (try clear ho0)))
    go_ret
    exact ⟨_, ri_, ro_ HO385.out, bel_⟩
  · replace c3 := Bool.eq_false_iff.mpr c3
    subst c3
    rw [if_neg (show ¬ (false = true) by decide)] at H
    obtain rfl := Option.some.inj H
    go_enter Try.func37, Try.ntmps37
    go_wp2_with (first | ((with_reducible refine gate_dst (N := 1) rfl ?_); refine be_ 1 #[.int .i64 a0_0, .int .i64 a0_1, .slice A0_2 l0_2.length c0_2] 64 ?_; intro gb381 hg w10 hbox hb; have BK381 := AM hbox; have GW381 := AM ((by rw [hg]; exact (below_size bel_) : w.heap.size ≤ gb381)); have GE381 := AM ((by rw [hg]; exact (below_size bel_) : w.heap.size ≤ gb381)); replace HB := AM (below_step bel_ hb); clear hb hbox hg; have hcz11_0 : w10.cell? ⟨gb381, 0, none⟩ = some (.int .i64 a0_0) := (blk_cell BK381.out 0).trans rfl; have hcz11_1 : w10.cell? ⟨gb381, 1, none⟩ = some (.int .i64 a0_1) := (blk_cell BK381.out 1).trans rfl; have hcz11_2 : w10.cell? ⟨gb381, 2, none⟩ = some (.slice A0_2 l0_2.length c0_2) := (blk_cell BK381.out 2).trans rfl; have hfz11_0 := blk_frozen BK381.out 0; have hfz11_1 := blk_frozen BK381.out 1; have hfz11_2 := blk_frozen BK381.out 2) | ((with_reducible refine gate_callee (f := 105) rfl ?_); refine gl_ (some 4) Try.func105 #[.agg #[.int .i64 a0_0, .int .i64 a0_1, .slice A0_2 l0_2.length c0_2]] ?_; (with_reducible refine (impl_ArrayRight.calls k a0_0 a0_1 _ _ l0_2 false _ ?side1 ?side2 A2.out).mono ?_); (case side1 => repeat (first | exact (Kd.C_below HR0_2.out HB.out) | (with_reducible refine Kd.C_alloc ?_ _) | (with_reducible refine Kd.C_drewN ?_ _) | (with_reducible refine Kd.C_drew ?_))); (case side2 => exact HC0_2.out); rintro e w12 ⟨rfl, hb⟩; refine ⟨_, rfl, ?_⟩; replace BK381 := AM (blk_below (g := gb381) (o := .cells #[.int .i64 a0_0, .int .i64 a0_1, .slice A0_2 l0_2.length c0_2] 64 (0, 0)) (bk_ BK381.out) hb); replace HB := AM (below_step bel_ hb); (try clear hb); (try clear hb2); (try clear hk); (try clear hi)))
    go_ret
    exact ⟨_, ri_, by first | exact Kd.R_nil _ _ _ _ _ | exact Kd.N_nil _ _ _ _ _ | exact Kd.V_nil _ _ _ _ _ | exact Kd.Q_nil _ _ _ _ _ | exact Kd.S_nil _ _ _ _ _, bel_⟩

/-! ### laws_eqStringS: function 38 -/
def laws_eqStringS.l0 : Nat → List ByteArray → List ByteArray → Int → Option (Bool)
  | 0, _, _, _ => none
  | k + 1, x0, x1, x5 => if x5 < (x0.length : Int) then (if 0 ≤ x5 then (if x5 < (x1.length : Int) then (if (rdOf ByteArray.empty x0 x5).toList = (rdOf ByteArray.empty x1 x5).toList then (laws_eqStringS.l0 k x0 x1 (wrap64 (x5 + 1))) else (some false)) else (none)) else (none)) else (some true)
def laws_eqStringS.f (k : Nat) (l0 : List ByteArray) (l1 : List ByteArray) : Option (Bool) := if (l0.length : Int) = (l1.length : Int) then (laws_eqStringS.l0 k l0 l1 0) else (some false)
theorem laws_eqStringS.mono_l : ∀ k, (∀ y0 y1 y2, LeO (laws_eqStringS.l0 k y0 y1 y2) (laws_eqStringS.l0 (k + 1) y0 y1 y2))
  | 0 => fun _ _ _ r h => by simp [laws_eqStringS.l0] at h
  | k + 1 => by
    have ih0 := laws_eqStringS.mono_l k
    · intro y0 y1 y2
      unfold laws_eqStringS.l0
      repeat' first
      | (with_reducible exact ih0 _ _ _)
      | (with_reducible exact LeO.refl _)
      | (with_reducible exact LeO.none _)
      | (with_reducible refine LeO.ite ?_ ?_)
      | (with_reducible refine LeO.bind ?_ (fun _ => ?_))
      | exact ih0 _ _ _
      | exact LeO.none _
      | refine LeO.ite ?_ ?_
      | refine LeO.bind ?_ (fun _ => ?_)
theorem laws_eqStringS.mono : ∀ a0 a1 k, LeO (laws_eqStringS.f k a0 a1) (laws_eqStringS.f (k + 1) a0 a1) := by
  intro a0 a1 k
  have ih0 := laws_eqStringS.mono_l k
  unfold laws_eqStringS.f
  repeat' first
      | (with_reducible exact ih0 _ _ _)
      | (with_reducible exact LeO.refl _)
      | (with_reducible exact LeO.none _)
      | (with_reducible refine LeO.ite ?_ ?_)
      | (with_reducible refine LeO.bind ?_ (fun _ => ?_))
      | exact ih0 _ _ _
      | exact LeO.none _
      | refine LeO.ite ?_ ?_
      | refine LeO.bind ?_ (fun _ => ?_)
set_option maxHeartbeats 8000000 in
set_option maxRecDepth 100000 in
theorem laws_eqStringS.calls (k : Nat) (A0 : Option Addr) (c0 : Nat) (l0 : List ByteArray) (A1 : Option Addr) (c1 : Nat) (l1 : List ByteArray) (r : Bool) (w : World) (hr0 : Kd.C Kd.string w A0 l0.length l0) (hc0 : l0.length ≤ c0) (hr1 : Kd.C Kd.string w A1 l1.length l1) (hc1 : l1.length ≤ c1) (h : laws_eqStringS.f k l0 l1 = some r) :
    Calls Try.prog 38 #[.slice A0 l0.length c0, .slice A1 l1.length c1] w fun e w' => e = .returned (.bool r) ∧ Drawn0 w w' := by
  have HR0 := AM hr0
  have HC0 := AM hc0
  clear hr0 hc0
  have HR1 := AM hr1
  have HC1 := AM hc1
  clear hr1 hc1
  have H : (if (l0.length : Int) = (l1.length : Int) then (laws_eqStringS.l0 k l0 l1 0) else (some false)) = some r := h
  clear h
  by_cases c3 : (l0.length : Int) = (l1.length : Int)
  · rw [if_pos c3] at H
    have c3b0 : ((l0.length : Int) == (l1.length : Int)) = true := beq_iff_eq.mpr c3
    have c3b1 : ((l0.length : Int) != (l1.length : Int)) = false := bne_eq_false_iff_eq.mpr c3
    have c3b2 : (l0.length == l1.length) = true := by first | simpa using c3 | (simp at c3 ⊢; omega)
    clear c3
    have H' := AM H
    clear H
    go_enter Try.func38, Try.ntmps38
    go_wp2
    repeat (go_quiet (fail); try go_wp2)
    go_loopg [5] k (fun kq v5 w' => ∃ (x5_1 : Int), v5 = .int .i64 x5_1 ∧ Aside0 (laws_eqStringS.l0 kq l0 l1 x5_1 = some r) ∧ Aside0 (kq ≤ k) ∧ Drawn0 w w')
    case atStart => exact ⟨(0), (by first | rfl | (simp; done) | (simp [*]; done)), H', ⟨Nat.le_refl _⟩, by repeat (first | exact Drawn0.refl _ | apply Drawn0.step)⟩
    case round =>
      clear H'
      try clear c1
      try clear p2
      try clear c3
      try clear c3b0
      try clear c3b1
      try clear c3b2
      obtain ⟨x5_1, rfl, HA, HK1, ⟨m1, rfl⟩⟩ := hrel
      cases gk with
      | zero => exact absurd HA.out (by simp [laws_eqStringS.l0])
      | succ k1 =>
        have H := HA.out
        clear HA
        simp only [laws_eqStringS.l0] at H
        by_cases c4 : x5_1 < (l0.length : Int)
        · rw [if_pos c4] at H
          have c4b0 : decide (x5_1 < (l0.length : Int)) = true := decide_eq_true c4
          clear c4
          by_cases c5 : 0 ≤ x5_1
          · rw [if_pos c5] at H
            have c5b0 : decide (0 ≤ x5_1) = true := decide_eq_true c5
            clear c5
            by_cases c6 : x5_1 < (l1.length : Int)
            · rw [if_pos c6] at H
              have c6b0 : decide (x5_1 < (l1.length : Int)) = true := decide_eq_true c6
              clear c6
              by_cases c7 : (rdOf ByteArray.empty l0 x5_1).toList = (rdOf ByteArray.empty l1 x5_1).toList
              · rw [if_pos c7] at H
                have c7b0 : ((rdOf ByteArray.empty l0 x5_1).toList == (rdOf ByteArray.empty l1 x5_1).toList) = true := beq_iff_eq.mpr c7
                have c7b1 : ((rdOf ByteArray.empty l0 x5_1).toList != (rdOf ByteArray.empty l1 x5_1).toList) = false := bne_eq_false_iff_eq.mpr c7
                clear c7
                have H' := AM H
                clear H
                have p386 : 0 ≤ (x5_1 : Int) := of_decide_eq_true (by first | (with_reducible assumption) | assumption)
                have q386 : x5_1 < (l0.length : Int) := of_decide_eq_true (by first | (with_reducible assumption) | assumption)
                obtain ⟨ad386, e386, hx386_0⟩ := Kd.at_string HR0.out x5_1 p386 q386
                cases e386
                replace p386 := eq_true p386
                replace q386 := eq_true q386
                have p387 : 0 ≤ (x5_1 : Int) := of_decide_eq_true (by first | (with_reducible assumption) | assumption)
                have q387 : x5_1 < (l1.length : Int) := of_decide_eq_true (by first | (with_reducible assumption) | assumption)
                obtain ⟨ad387, e387, hx387_0⟩ := Kd.at_string HR1.out x5_1 p387 q387
                cases e387
                replace p387 := eq_true p387
                replace q387 := eq_true q387
                go_wp2
                repeat (go_quiet (fail); try go_wp2)
                go_roundg k1
                case measure => have := HK1.out; omega
                case rel => exact ⟨(wrap64 (x5_1 + 1)), (by first | rfl | (simp; done) | (simp [*]; done)), H', ⟨by have := HK1.out; omega⟩, by repeat (first | exact Drawn0.refl _ | apply Drawn0.step)⟩
              · rw [if_neg c7] at H
                have c7b0 : ((rdOf ByteArray.empty l0 x5_1).toList == (rdOf ByteArray.empty l1 x5_1).toList) = false := beq_eq_false_iff_ne.mpr c7
                have c7b1 : ((rdOf ByteArray.empty l0 x5_1).toList != (rdOf ByteArray.empty l1 x5_1).toList) = true := bne_iff_ne.mpr c7
                obtain rfl := Option.some.inj H
                have p386 : 0 ≤ (x5_1 : Int) := of_decide_eq_true (by first | (with_reducible assumption) | assumption)
                have q386 : x5_1 < (l0.length : Int) := of_decide_eq_true (by first | (with_reducible assumption) | assumption)
                obtain ⟨ad386, e386, hx386_0⟩ := Kd.at_string HR0.out x5_1 p386 q386
                cases e386
                replace p386 := eq_true p386
                replace q386 := eq_true q386
                have p387 : 0 ≤ (x5_1 : Int) := of_decide_eq_true (by first | (with_reducible assumption) | assumption)
                have q387 : x5_1 < (l1.length : Int) := of_decide_eq_true (by first | (with_reducible assumption) | assumption)
                obtain ⟨ad387, e387, hx387_0⟩ := Kd.at_string HR1.out x5_1 p387 q387
                cases e387
                replace p387 := eq_true p387
                replace q387 := eq_true q387
                go_wp2
                repeat (go_quiet (fail); try go_wp2)
                go_ret
                exact ⟨by first | rfl | (simp; done) | (simp [*]; done), by repeat (first | exact Drawn0.refl _ | apply Drawn0.step)⟩
            · rw [if_neg c6] at H
              exact absurd H (by simp)
          · rw [if_neg c5] at H
            exact absurd H (by simp)
        · rw [if_neg c4] at H
          have c4b0 : decide (x5_1 < (l0.length : Int)) = false := decide_eq_false c4
          clear c4
          obtain rfl := Option.some.inj H
          go_wp2
          repeat (go_quiet (fail); try go_wp2)
          go_ret
          exact ⟨by first | rfl | (simp; done) | (simp [*]; done), by repeat (first | exact Drawn0.refl _ | apply Drawn0.step)⟩
  · rw [if_neg c3] at H
    have c3b0 : ((l0.length : Int) == (l1.length : Int)) = false := beq_eq_false_iff_ne.mpr c3
    have c3b1 : ((l0.length : Int) != (l1.length : Int)) = true := bne_iff_ne.mpr c3
    have c3b2 : (l0.length == l1.length) = false := by first | simpa using c3 | (simp at c3 ⊢; omega)
    obtain rfl := Option.some.inj H
    go_enter Try.func38, Try.ntmps38
    go_wp2
    repeat (go_quiet (fail); try go_wp2)
    go_ret
    exact ⟨by first | rfl | (simp; done) | (simp [*]; done), by repeat (first | exact Drawn0.refl _ | apply Drawn0.step)⟩

/-! ### laws_eqStored: function 214 -/
def laws_eqStored.f (a0_0 : ByteArray) (a0_1 : ByteArray) (a0_2 : Int) (a1_0 : ByteArray) (a1_1 : ByteArray) (a1_2 : Int) : Option (Bool) := if a0_0.toList = a1_0.toList then (if a0_1.toList = a1_1.toList then (if a0_2 = a1_2 then (some true) else (some false)) else (some false)) else (some false)
set_option maxHeartbeats 8000000 in
set_option maxRecDepth 100000 in
theorem laws_eqStored.calls (a0_0 : ByteArray) (a0_1 : ByteArray) (a0_2 : Int) (a1_0 : ByteArray) (a1_1 : ByteArray) (a1_2 : Int) (r : Bool) (w : World) (h : laws_eqStored.f a0_0 a0_1 a0_2 a1_0 a1_1 a1_2 = some r) :
    Calls Try.prog 214 #[.agg #[.string a0_0, .string a0_1, .int .i64 a0_2], .agg #[.string a1_0, .string a1_1, .int .i64 a1_2]] w fun e w' => e = .returned (.bool r) ∧ Below w.heap.size w w' := by
  have hu194 := Try.underlying194
  have HB := AM (Below.refl w.heap.size w)
  have H : (if a0_0.toList = a1_0.toList then (if a0_1.toList = a1_1.toList then (if a0_2 = a1_2 then (some true) else (some false)) else (some false)) else (some false)) = some r := h
  clear h
  by_cases c3 : a0_0.toList = a1_0.toList
  · rw [if_pos c3] at H
    have c3b0 : (a0_0.toList == a1_0.toList) = true := beq_iff_eq.mpr c3
    have c3b1 : (a0_0.toList != a1_0.toList) = false := bne_eq_false_iff_eq.mpr c3
    clear c3
    by_cases c4 : a0_1.toList = a1_1.toList
    · rw [if_pos c4] at H
      have c4b0 : (a0_1.toList == a1_1.toList) = true := beq_iff_eq.mpr c4
      have c4b1 : (a0_1.toList != a1_1.toList) = false := bne_eq_false_iff_eq.mpr c4
      clear c4
      by_cases c5 : a0_2 = a1_2
      · rw [if_pos c5] at H
        have c5b0 : (a0_2 == a1_2) = true := beq_iff_eq.mpr c5
        have c5b1 : (a0_2 != a1_2) = false := bne_eq_false_iff_eq.mpr c5
        clear c5
        obtain rfl := Option.some.inj H
        go_enter Try.func214, Try.ntmps214
        go_wp2_with (first | ((with_reducible refine gate_dst (N := 2) rfl ?_); refine be_ 2 #[.string a0_0, .string a0_1, .int .i64 a0_2] 194 ?_; intro gb388 hg w6 hbox hb; have BK388 := AM hbox; have GW388 := AM ((by rw [hg]; exact (below_size bel_) : w.heap.size ≤ gb388)); have GE388 := AM ((by rw [hg]; exact (below_size bel_) : w.heap.size ≤ gb388)); replace HB := AM (below_step bel_ hb); clear hb hbox hg) | ((with_reducible refine gate_dst (N := 3) rfl ?_); refine be_ 3 #[.string a1_0, .string a1_1, .int .i64 a1_2] 194 ?_; intro gb389 hg w7 hbox hb; have BK389 := AM hbox; have GW389 := AM ((by rw [hg]; exact (below_size bel_) : w.heap.size ≤ gb389)); have GE389 := AM ((by rw [hg]; exact (below_size bel_) : w.heap.size ≤ gb389)); replace HB := AM (below_step bel_ hb); have NB388_389 := AM ((by rw [hg]; exact Nat.ne_of_lt (blk_lt (g := gb388) (o := .cells #[.string a0_0, .string a0_1, .int .i64 a0_2] 194 (0, 0)) (bk_ BK388.out)) : gb388 ≠ gb389)); have NB389_388 := AM ((by rw [hg]; exact Nat.ne_of_gt (blk_lt (g := gb388) (o := .cells #[.string a0_0, .string a0_1, .int .i64 a0_2] 194 (0, 0)) (bk_ BK388.out)) : gb389 ≠ gb388)); replace BK388 := AM (blk_below (g := gb388) (o := .cells #[.string a0_0, .string a0_1, .int .i64 a0_2] 194 (0, 0)) (bk_ BK388.out) hb); clear hb hbox hg; have hnb8 := NB388_389.out; have hnc8 := NB389_388.out; have hcz9_0 : w7.cell? ⟨gb388, 0, none⟩ = some (.string a0_0) := (blk_cell BK388.out 0).trans rfl; have hcz9_1 : w7.cell? ⟨gb388, 1, none⟩ = some (.string a0_1) := (blk_cell BK388.out 1).trans rfl; have hcz9_2 : w7.cell? ⟨gb388, 2, none⟩ = some (.int .i64 a0_2) := (blk_cell BK388.out 2).trans rfl; have hfz9_0 := blk_frozen BK388.out 0; have hfz9_1 := blk_frozen BK388.out 1; have hfz9_2 := blk_frozen BK388.out 2; have hcz10_0 : w7.cell? ⟨gb389, 0, none⟩ = some (.string a1_0) := (blk_cell BK389.out 0).trans rfl; have hcz10_1 : w7.cell? ⟨gb389, 1, none⟩ = some (.string a1_1) := (blk_cell BK389.out 1).trans rfl; have hcz10_2 : w7.cell? ⟨gb389, 2, none⟩ = some (.int .i64 a1_2) := (blk_cell BK389.out 2).trans rfl; have hfz10_0 := blk_frozen BK389.out 0; have hfz10_1 := blk_frozen BK389.out 1; have hfz10_2 := blk_frozen BK389.out 2))
        go_ret
        exact ⟨ri_, bel_⟩
      · rw [if_neg c5] at H
        have c5b0 : (a0_2 == a1_2) = false := beq_eq_false_iff_ne.mpr c5
        have c5b1 : (a0_2 != a1_2) = true := bne_iff_ne.mpr c5
        obtain rfl := Option.some.inj H
        go_enter Try.func214, Try.ntmps214
        go_wp2_with (first | ((with_reducible refine gate_dst (N := 2) rfl ?_); refine be_ 2 #[.string a0_0, .string a0_1, .int .i64 a0_2] 194 ?_; intro gb388 hg w11 hbox hb; have BK388 := AM hbox; have GW388 := AM ((by rw [hg]; exact (below_size bel_) : w.heap.size ≤ gb388)); have GE388 := AM ((by rw [hg]; exact (below_size bel_) : w.heap.size ≤ gb388)); replace HB := AM (below_step bel_ hb); clear hb hbox hg) | ((with_reducible refine gate_dst (N := 3) rfl ?_); refine be_ 3 #[.string a1_0, .string a1_1, .int .i64 a1_2] 194 ?_; intro gb389 hg w12 hbox hb; have BK389 := AM hbox; have GW389 := AM ((by rw [hg]; exact (below_size bel_) : w.heap.size ≤ gb389)); have GE389 := AM ((by rw [hg]; exact (below_size bel_) : w.heap.size ≤ gb389)); replace HB := AM (below_step bel_ hb); have NB388_389 := AM ((by rw [hg]; exact Nat.ne_of_lt (blk_lt (g := gb388) (o := .cells #[.string a0_0, .string a0_1, .int .i64 a0_2] 194 (0, 0)) (bk_ BK388.out)) : gb388 ≠ gb389)); have NB389_388 := AM ((by rw [hg]; exact Nat.ne_of_gt (blk_lt (g := gb388) (o := .cells #[.string a0_0, .string a0_1, .int .i64 a0_2] 194 (0, 0)) (bk_ BK388.out)) : gb389 ≠ gb388)); replace BK388 := AM (blk_below (g := gb388) (o := .cells #[.string a0_0, .string a0_1, .int .i64 a0_2] 194 (0, 0)) (bk_ BK388.out) hb); clear hb hbox hg; have hnb13 := NB388_389.out; have hnc13 := NB389_388.out; have hcz14_0 : w12.cell? ⟨gb388, 0, none⟩ = some (.string a0_0) := (blk_cell BK388.out 0).trans rfl; have hcz14_1 : w12.cell? ⟨gb388, 1, none⟩ = some (.string a0_1) := (blk_cell BK388.out 1).trans rfl; have hcz14_2 : w12.cell? ⟨gb388, 2, none⟩ = some (.int .i64 a0_2) := (blk_cell BK388.out 2).trans rfl; have hfz14_0 := blk_frozen BK388.out 0; have hfz14_1 := blk_frozen BK388.out 1; have hfz14_2 := blk_frozen BK388.out 2; have hcz15_0 : w12.cell? ⟨gb389, 0, none⟩ = some (.string a1_0) := (blk_cell BK389.out 0).trans rfl; have hcz15_1 : w12.cell? ⟨gb389, 1, none⟩ = some (.string a1_1) := (blk_cell BK389.out 1).trans rfl; have hcz15_2 : w12.cell? ⟨gb389, 2, none⟩ = some (.int .i64 a1_2) := (blk_cell BK389.out 2).trans rfl; have hfz15_0 := blk_frozen BK389.out 0; have hfz15_1 := blk_frozen BK389.out 1; have hfz15_2 := blk_frozen BK389.out 2))
        go_ret
        exact ⟨ri_, bel_⟩
    · rw [if_neg c4] at H
      have c4b0 : (a0_1.toList == a1_1.toList) = false := beq_eq_false_iff_ne.mpr c4
      have c4b1 : (a0_1.toList != a1_1.toList) = true := bne_iff_ne.mpr c4
      obtain rfl := Option.some.inj H
      go_enter Try.func214, Try.ntmps214
      go_wp2_with (first | ((with_reducible refine gate_dst (N := 2) rfl ?_); refine be_ 2 #[.string a0_0, .string a0_1, .int .i64 a0_2] 194 ?_; intro gb388 hg w16 hbox hb; have BK388 := AM hbox; have GW388 := AM ((by rw [hg]; exact (below_size bel_) : w.heap.size ≤ gb388)); have GE388 := AM ((by rw [hg]; exact (below_size bel_) : w.heap.size ≤ gb388)); replace HB := AM (below_step bel_ hb); clear hb hbox hg) | ((with_reducible refine gate_dst (N := 3) rfl ?_); refine be_ 3 #[.string a1_0, .string a1_1, .int .i64 a1_2] 194 ?_; intro gb389 hg w17 hbox hb; have BK389 := AM hbox; have GW389 := AM ((by rw [hg]; exact (below_size bel_) : w.heap.size ≤ gb389)); have GE389 := AM ((by rw [hg]; exact (below_size bel_) : w.heap.size ≤ gb389)); replace HB := AM (below_step bel_ hb); have NB388_389 := AM ((by rw [hg]; exact Nat.ne_of_lt (blk_lt (g := gb388) (o := .cells #[.string a0_0, .string a0_1, .int .i64 a0_2] 194 (0, 0)) (bk_ BK388.out)) : gb388 ≠ gb389)); have NB389_388 := AM ((by rw [hg]; exact Nat.ne_of_gt (blk_lt (g := gb388) (o := .cells #[.string a0_0, .string a0_1, .int .i64 a0_2] 194 (0, 0)) (bk_ BK388.out)) : gb389 ≠ gb388)); replace BK388 := AM (blk_below (g := gb388) (o := .cells #[.string a0_0, .string a0_1, .int .i64 a0_2] 194 (0, 0)) (bk_ BK388.out) hb); clear hb hbox hg; have hnb18 := NB388_389.out; have hnc18 := NB389_388.out; have hcz19_0 : w17.cell? ⟨gb388, 0, none⟩ = some (.string a0_0) := (blk_cell BK388.out 0).trans rfl; have hcz19_1 : w17.cell? ⟨gb388, 1, none⟩ = some (.string a0_1) := (blk_cell BK388.out 1).trans rfl; have hcz19_2 : w17.cell? ⟨gb388, 2, none⟩ = some (.int .i64 a0_2) := (blk_cell BK388.out 2).trans rfl; have hfz19_0 := blk_frozen BK388.out 0; have hfz19_1 := blk_frozen BK388.out 1; have hfz19_2 := blk_frozen BK388.out 2; have hcz20_0 : w17.cell? ⟨gb389, 0, none⟩ = some (.string a1_0) := (blk_cell BK389.out 0).trans rfl; have hcz20_1 : w17.cell? ⟨gb389, 1, none⟩ = some (.string a1_1) := (blk_cell BK389.out 1).trans rfl; have hcz20_2 : w17.cell? ⟨gb389, 2, none⟩ = some (.int .i64 a1_2) := (blk_cell BK389.out 2).trans rfl; have hfz20_0 := blk_frozen BK389.out 0; have hfz20_1 := blk_frozen BK389.out 1; have hfz20_2 := blk_frozen BK389.out 2))
      go_ret
      exact ⟨ri_, bel_⟩
  · rw [if_neg c3] at H
    have c3b0 : (a0_0.toList == a1_0.toList) = false := beq_eq_false_iff_ne.mpr c3
    have c3b1 : (a0_0.toList != a1_0.toList) = true := bne_iff_ne.mpr c3
    obtain rfl := Option.some.inj H
    go_enter Try.func214, Try.ntmps214
    go_wp2_with (first | ((with_reducible refine gate_dst (N := 2) rfl ?_); refine be_ 2 #[.string a0_0, .string a0_1, .int .i64 a0_2] 194 ?_; intro gb388 hg w21 hbox hb; have BK388 := AM hbox; have GW388 := AM ((by rw [hg]; exact (below_size bel_) : w.heap.size ≤ gb388)); have GE388 := AM ((by rw [hg]; exact (below_size bel_) : w.heap.size ≤ gb388)); replace HB := AM (below_step bel_ hb); clear hb hbox hg) | ((with_reducible refine gate_dst (N := 3) rfl ?_); refine be_ 3 #[.string a1_0, .string a1_1, .int .i64 a1_2] 194 ?_; intro gb389 hg w22 hbox hb; have BK389 := AM hbox; have GW389 := AM ((by rw [hg]; exact (below_size bel_) : w.heap.size ≤ gb389)); have GE389 := AM ((by rw [hg]; exact (below_size bel_) : w.heap.size ≤ gb389)); replace HB := AM (below_step bel_ hb); have NB388_389 := AM ((by rw [hg]; exact Nat.ne_of_lt (blk_lt (g := gb388) (o := .cells #[.string a0_0, .string a0_1, .int .i64 a0_2] 194 (0, 0)) (bk_ BK388.out)) : gb388 ≠ gb389)); have NB389_388 := AM ((by rw [hg]; exact Nat.ne_of_gt (blk_lt (g := gb388) (o := .cells #[.string a0_0, .string a0_1, .int .i64 a0_2] 194 (0, 0)) (bk_ BK388.out)) : gb389 ≠ gb388)); replace BK388 := AM (blk_below (g := gb388) (o := .cells #[.string a0_0, .string a0_1, .int .i64 a0_2] 194 (0, 0)) (bk_ BK388.out) hb); clear hb hbox hg; have hnb23 := NB388_389.out; have hnc23 := NB389_388.out; have hcz24_0 : w22.cell? ⟨gb388, 0, none⟩ = some (.string a0_0) := (blk_cell BK388.out 0).trans rfl; have hcz24_1 : w22.cell? ⟨gb388, 1, none⟩ = some (.string a0_1) := (blk_cell BK388.out 1).trans rfl; have hcz24_2 : w22.cell? ⟨gb388, 2, none⟩ = some (.int .i64 a0_2) := (blk_cell BK388.out 2).trans rfl; have hfz24_0 := blk_frozen BK388.out 0; have hfz24_1 := blk_frozen BK388.out 1; have hfz24_2 := blk_frozen BK388.out 2; have hcz25_0 : w22.cell? ⟨gb389, 0, none⟩ = some (.string a1_0) := (blk_cell BK389.out 0).trans rfl; have hcz25_1 : w22.cell? ⟨gb389, 1, none⟩ = some (.string a1_1) := (blk_cell BK389.out 1).trans rfl; have hcz25_2 : w22.cell? ⟨gb389, 2, none⟩ = some (.int .i64 a1_2) := (blk_cell BK389.out 2).trans rfl; have hfz25_0 := blk_frozen BK389.out 0; have hfz25_1 := blk_frozen BK389.out 1; have hfz25_2 := blk_frozen BK389.out 2))
    go_ret
    exact ⟨ri_, bel_⟩

end Go.Proofs.Ytdbnajnelbebfaa.PFnExactObjectNames
