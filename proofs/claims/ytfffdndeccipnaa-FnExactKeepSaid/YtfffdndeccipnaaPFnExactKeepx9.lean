/- Functions of the law FnExactKeep: the print's, with walks of this session's own. No statement is proved here. -/
import Derived.Deep.Cut
import Derived.Carry
import Derived.StringKeys
import Derived.Maps.Views
import Derived.Maps.OwnSet
import Derived.Maps.OwnOps
import Derived.Test.YtfffdndeccipnaaHSFnExactKeep
import Derived.WalkLawsBesides
import Derived.Test.YtfffdndeccipnaaVRegFnExactKeep
-- A program of this session wrote this text: a changed copy of the kit print, with given functions.
import Derived.Test.YtfffdndeccipnaaPFnExactKeepx0
import Derived.Test.YtfffdndeccipnaaPFnExactKeepx6
import Derived.Test.YtfffdndeccipnaaPFnExactKeepx7
namespace Go.Proofs.Ytfffdndeccipnaa.PFnExactKeep
open Go.RowKit Go.Proofs.YtfffdndeccipnaaW.PrintWords Go.Proofs.YtfffdndeccipnaaW.PrintLast Go.Proofs.YtfffdndeccipnaaW.PrintMore Go.Proofs.Ytfffdndeccipnaa.Reg Go.Proofs.Ytfffdndeccipnaa.Aut
attribute [local go_sem] max2_int min2_int max_two min_two max_three min_three max_four min_four   -- for this text's walks alone
set_option linter.unusedVariables false
set_option linter.unusedSimpArgs false

/-! ### impl_chosen: function 101 -/
section kc
open Go.Sort hiding Below rd
open Go.Shelf
open Go.Lib
attribute [local go_sem] max2_int min2_int max_two min_two max_three min_three max_four min_four
instance kc_inh : Inhabited (S132) := ⟨⟨⟨#[]⟩, 0, ⟨#[]⟩⟩⟩
/-! A row of snaps of the call's own, sorted by the library: what the sort leaves is such a row again. -/
def kc_enc (x : S132) : List Value := [.string x.f0, .int .i64 x.f1, .string x.f2]
theorem kc_len (x : S132) : (kc_enc x).length = 3 := rfl
theorem kc_flat (d : Array (S132)) (j i : Nat) (hj : j < d.size) (hi : i < 3) : (flatK kc_enc 3 d)[j * 3 + i]? = some ((kc_enc d[j])[i]'(by rw [kc_len]; exact hi)) := by
  have hlt : j * 3 + i < d.size * 3 := by omega
  have h := get_flatK kc_enc 3 d (j * 3 + i) hlt
  rw [show (j * 3 + i) / 3 = j by omega, show (j * 3 + i) % 3 = i by omega, getElem!_pos d j hj, getElem!_pos (kc_enc d[j]) i (by rw [kc_len]; exact hi)] at h
  rw [← h, getElem!_pos _ _ (by rw [size_flatK]; exact hlt)]
  exact Array.getElem?_eq_getElem _
theorem kc_part (d : Array (S132)) (j : Nat) (hj : j < d.size) : ((flatK kc_enc 3 d).toList.drop (j * 3)).take 3 = kc_enc d[j] := by
  apply List.ext_getElem?
  intro i
  rw [List.getElem?_take]
  by_cases hi : i < 3
  · rw [if_pos hi, List.getElem?_drop, Array.getElem?_toList, kc_flat d j i hj hi, List.getElem?_eq_getElem]
  · rw [if_neg hi]
    symm
    rw [List.getElem?_eq_none_iff, kc_len]
    omega
theorem kc_put (F cur : Array Value) (h : F.size ≤ cur.size) : (Sort.putCells id 0 F cur).toList.take F.size = F.toList := by
  apply List.ext_getElem?
  intro k
  rw [List.getElem?_take]
  by_cases hk : k < F.size
  · rw [if_pos hk, Array.getElem?_toList, Array.getElem?_toList]
    simp only [Sort.putCells, Array.getElem?_mapIdx]
    rw [Array.getElem?_eq_getElem (show k < cur.size by omega), Option.map_some, if_pos ⟨by omega, by omega⟩, Nat.sub_zero, getElem!_pos F k hk, Array.getElem?_eq_getElem hk]
    rfl
  · rw [if_neg hk]
    symm
    rw [List.getElem?_eq_none_iff]
    simp
    omega
theorem kc_holds {e base g n cap : Nat} {ok : Nat → Prop} {W : World} {xs : List (S132)} (h : Kd.R k132 e W base ok (.slice (some ⟨g, 0, none⟩) n cap) xs) : HoldsK kc_enc 3 W g 0 xs.toArray ∧ g < W.heap.size := by
  obtain ⟨h0, inner, ⟨ho1, ho2⟩, hr⟩ := h
  rcases ho2 with ⟨hv, _⟩ | ⟨g', cap', cur, hv, hb, hh, hnc, hcm, hcs, ht⟩
  · cases hv
  injection hv with ha hn hc
  injection ha with ha
  injection ha with hg
  subst hg; subst hc
  refine ⟨fun t ht3 => ?_, (Array.getElem?_eq_some_iff.1 hh).1⟩
  have hsz : t < xs.length * 3 := by
    have := ht3
    rw [size_flatK] at this
    simpa using this
  have hj : t / 3 < xs.length := by omega
  have hi : t % 3 < 3 := by omega
  have e1 : t = t / 3 * 3 + t % 3 := by omega
  have hf := kc_flat xs.toArray (t / 3) (t % 3) (by simpa using hj) hi
  rw [← e1] at hf
  have hp := hr.2 (t / 3) xs[t / 3] (List.getElem?_eq_getElem hj)
  have hm := k132_openM hp
  have hc : cur[t]? = some ((kc_enc xs[t / 3])[t % 3]'(by rw [kc_len]; exact hi)) := by
    have h1 : inner[t]? = some ((kc_enc xs[t / 3])[t % 3]'(by rw [kc_len]; exact hi)) := by
      have h2 : ((inner.drop (t / 3 * 3)).take 3)[t % 3]? = (kc_enc xs[t / 3])[t % 3]? := by
        show ((inner.drop (t / 3 * k132.sz)).take k132.sz)[t % 3]? = _
        rw [hm]
        rfl
      rw [List.getElem?_take, if_pos hi, List.getElem?_drop, ← e1] at h2
      rw [h2]
      exact List.getElem?_eq_getElem _
    rw [← ht, List.getElem?_take] at h1
    by_cases hq : t < xs.length * k132.sz
    · rw [if_pos hq, Array.getElem?_toList] at h1
      exact h1
    · rw [if_neg hq] at h1
      cases h1
  refine ⟨?_, ?_⟩
  · rw [getElem!_pos (flatK kc_enc 3 xs.toArray) t ht3]
    have h2 : (flatK kc_enc 3 xs.toArray)[t]? = some (flatK kc_enc 3 xs.toArray)[t] := Array.getElem?_eq_getElem ht3
    rw [hf] at h2
    injection h2 with h2
    rw [← h2, Nat.zero_add]
    simp only [World.cell?, hh]
    exact hc
  · rw [Nat.zero_add]
    exact blk_frozen hh t
theorem kc_back {e base g n cap m : Nat} {W : World} {xs : List (S132)} (h : Kd.R k132 e W base (fun _ => True) (.slice (some ⟨g, 0, none⟩) n cap) xs) (d : Array (S132)) (os : Array Obj) (hd : d.size = xs.length) :
    Kd.R k132 e (sortWorldK kc_enc 3 W g 0 m d os) base (fun _ => True) (.slice (some ⟨g, 0, none⟩) n cap) d.toList ∧ (∀ B, B ≤ base → B ≤ W.heap.size → Below B W (sortWorldK kc_enc 3 W g 0 m d os)) ∧ ∀ k, k < W.heap.size → g ≠ k → (sortWorldK kc_enc 3 W g 0 m d os).heap[k]? = W.heap[k]? := by
  obtain ⟨h0, inner, ⟨ho1, ho2⟩, hr⟩ := h
  rcases ho2 with ⟨hv, _⟩ | ⟨g', cap', cur, hv, hb, hh, hnc, hcm, hcs, ht⟩
  · cases hv
  injection hv with ha hn hc
  injection ha with ha
  injection ha with hg
  subst hg; subst hc
  have hg : g < W.heap.size := (Array.getElem?_eq_some_iff.1 hh).1
  have hX : ∀ k, k < W.heap.size → (sortWorldK kc_enc 3 W g 0 m d os).heap[k]? = if g = k then some (.cells (Sort.putCells id 0 (flatK kc_enc 3 d) cur) e (0, 0)) else W.heap[k]? := by
    intro k hk
    have hsz : (putRowK kc_enc 3 (Sort.ahead W m) g 0 d).heap.size = W.heap.size := by
      unfold putRowK
      rw [Sort.size_putRow]
      rfl
    show ((putRowK kc_enc 3 (Sort.ahead W m) g 0 d).heap ++ os)[k]? = _
    rw [Array.getElem?_append_left (by rw [hsz]; exact hk)]
    show (W.heap.modify g (Sort.onCells (Sort.putCells id 0 (flatK kc_enc 3 d))))[k]? = _
    rw [Array.getElem?_modify]
    by_cases hgk : g = k
    · subst hgk
      rw [if_pos rfl, if_pos rfl, hh]
      rfl
    · rw [if_neg hgk, if_neg hgk]
  have hfs : (flatK kc_enc 3 d).size = d.toList.length * k132.sz := by rw [size_flatK, Array.length_toList]; rfl
  have hle : d.toList.length * k132.sz ≤ cur.size := by
    rw [hcs, Array.length_toList, hd]
    exact Nat.mul_le_mul_right _ hnc
  refine ⟨⟨fun _ _ => trivial, (flatK kc_enc 3 d).toList, ⟨by rw [Array.length_toList]; exact hfs, .inr ⟨g, cap, Sort.putCells id 0 (flatK kc_enc 3 d) cur, by rw [Array.length_toList, hd, hn], hb, ?_, by rw [Array.length_toList, hd]; exact hnc, hcm, ?_, ?_⟩⟩, ?_, ?_⟩, ?_, fun k hk hg2 => by rw [hX k hk, if_neg hg2]⟩
  · rw [hX g hg, if_pos rfl]
  · rw [← hcs]
    simp [Sort.putCells]
  · rw [← hfs]
    exact kc_put _ _ (by rw [hfs]; exact hle)
  · rw [Array.length_toList]
    exact hfs
  · intro j p hp
    have hj : j < d.size := by
      have := (List.getElem?_eq_some_iff.1 hp).1
      simpa using this
    have hpe : p = d[j] := by
      rw [Array.getElem?_toList, Array.getElem?_eq_getElem hj] at hp
      exact (Option.some.inj hp).symm
    subst hpe
    show k132.M _ _ _ d[j] (((flatK kc_enc 3 d).toList.drop (j * 3)).take 3)
    rw [kc_part d j hj]
    exact k132_mkM _ _ _ _
  · intro B hB hBW
    refine ⟨rfl, rfl, rfl, ?_, fun k hk => ?_⟩
    · show W.heap.size ≤ ((putRowK kc_enc 3 (Sort.ahead W m) g 0 d).heap ++ os).size
      rw [Array.size_append]
      unfold putRowK
      rw [Sort.size_putRow]
      exact Nat.le_add_right _ _
    · rw [hX k (by omega), if_neg (by omega)]
/-! the order of snaps: the newest first -/
def kc_day (x y : Int) : Int := if x < y then -1 else if y < x then 1 else 0
def kc_or (a b : Int) : Int := if a = 0 then b else a
def kc_cmp (s t : S132) : Int := kc_or (kc_day t.f1 s.f1) (Lib.compareBytes t.f0.data.toList s.f0.data.toList)
theorem kc_nan (x : Int) (w : World) : Calls Try.prog 253 #[.int .i64 x] w fun e w' => e = .returned (.bool false) ∧ w' = w := by
  go_enter Try.func253, Try.ntmps253
  go_wp2
  go_ret
  exact ⟨by simp, rfl⟩
theorem kc_dayc (x y : Int) (w : World) : Calls Try.prog 218 #[.int .i64 x, .int .i64 y] w fun e w' => e = .returned (.int .i64 (kc_day x y)) ∧ w' = w := by
  by_cases h1 : x < y
  · have x1 : decide (x < y) = true := decide_eq_true h1
    have hv : kc_day x y = -1 := if_pos h1
    rw [hv]
    go_enter Try.func218, Try.ntmps218
    go_wp2_with (go_at_call 253; refine (kc_nan _ _).mono ?_; rintro e w2 ⟨rfl, rfl⟩)
    go_ret
    exact ⟨rfl, rfl⟩
  · have x1 : decide (x < y) = false := decide_eq_false h1
    by_cases h2 : y < x
    · have x2 : decide (y < x) = true := decide_eq_true h2
      have hv : kc_day x y = 1 := (if_neg h1).trans (if_pos h2)
      rw [hv]
      go_enter Try.func218, Try.ntmps218
      go_wp2_with (go_at_call 253; refine (kc_nan _ _).mono ?_; rintro e w2 ⟨rfl, rfl⟩)
      go_ret
      exact ⟨rfl, rfl⟩
    · have x2 : decide (y < x) = false := decide_eq_false h2
      have hv : kc_day x y = 0 := (if_neg h1).trans (if_neg h2)
      rw [hv]
      go_enter Try.func218, Try.ntmps218
      go_wp2_with (go_at_call 253; refine (kc_nan _ _).mono ?_; rintro e w2 ⟨rfl, rfl⟩)
      go_ret
      exact ⟨rfl, rfl⟩
theorem kc_orc (a b : Int) (g : Nat) (w : World) (ha : w.cell? ⟨g, 0, none⟩ = some (.int .i64 a)) (hb : w.cell? ⟨g, 1, none⟩ = some (.int .i64 b)) : Calls Try.prog 158 #[.slice (some ⟨g, 0, none⟩) 2 2] w fun e w' => e = .returned (.int .i64 (kc_or a b)) ∧ w' = w := by
  go_enter Try.func158, Try.ntmps158
  go_wp2
  go_loopg [8] (2 : Nat) (fun (q : Nat) v8 w' => ∃ (x : Int), v8 = .int .i64 x ∧ ((x = 0 ∧ q = 2) ∨ (x = 1 ∧ q = 1 ∧ a = 0) ∨ (x = 2 ∧ q = 0 ∧ a = 0 ∧ b = 0)) ∧ w' = w)
  case atStart => exact ⟨0, rfl, .inl ⟨rfl, rfl⟩, rfl⟩
  case round =>
    obtain ⟨x, rfl, hx, rfl⟩ := hrel
    rcases hx with ⟨rfl, hq⟩ | ⟨rfl, hq, h0⟩ | ⟨rfl, hq, h0, h1⟩
    · by_cases h0 : a = 0
      · have e1 : (a == 0) = true := by simpa using h0
        have e2 : (a != 0) = false := by simpa using h0
        go_wp2
        go_roundg 1
        case measure => omega
        case rel => exact ⟨1, rfl, .inr (.inl ⟨rfl, rfl, h0⟩), rfl⟩
      · have e1 : (a == 0) = false := by simpa using h0
        have e2 : (a != 0) = true := by simpa using h0
        have hv : kc_or a b = a := if_neg h0
        go_wp2
        go_ret
        exact ⟨by rw [hv]; rfl, rfl⟩
    · by_cases h1 : b = 0
      · have e1 : (b == 0) = true := by simpa using h1
        have e2 : (b != 0) = false := by simpa using h1
        go_wp2
        go_roundg 0
        case measure => omega
        case rel => exact ⟨2, rfl, .inr (.inr ⟨rfl, rfl, h0, h1⟩), rfl⟩
      · have e1 : (b == 0) = false := by simpa using h1
        have e2 : (b != 0) = true := by simpa using h1
        have hv : kc_or a b = b := if_pos h0
        go_wp2
        go_ret
        exact ⟨by rw [hv]; rfl, rfl⟩
    · have hv : kc_or a b = 0 := by rw [kc_or, if_pos h0, h1]
      go_wp2
      go_ret
      exact ⟨by rw [hv]; rfl, rfl⟩
/-! the sort -/
def kc1.T : Bool × List (List Nat × List Nat) := (true, [([], []), ([0], [0]), ([], []), ([2], [2]), ([1, 3], [1, 3]), ([], []), ([5], [5]), ([], []), ([7], [7]), ([6, 8, 4], [6, 8]), ([4, 9], [4, 9]), ([10, 9], [10]), ([11, 11, 0, 1, 2, 3, 4, 5, 6, 7, 8, 9, 10, 11], [11])])
def kc1.B : List Nat := [0, 1, 0, 4, 15, 0, 32, 0, 128, 511, 1023, 2047, 4095]
theorem kc1.tab : rtab .any (opsOf Try.f217 1) = kc1.T := by kernel_rfl
theorem kc1.bits : waitsOk kc1.T.2 kc1.B = true := by kernel_rfl
theorem kc_three (w : World) (a b c : Obj) : (((w.alloc a).alloc b).drew).alloc c = grow (w.drewN 1) #[a, b, c] := by
  rw [alloc_eq_grow, alloc_eq_grow, alloc_eq_grow]
  unfold grow World.drew World.drewN
  congr 1
set_option maxHeartbeats 4000000 in
set_option maxRecDepth 100000 in
theorem kc_pred (s t : S132) (w : World) : Calls Try.prog 217 #[.agg (kc_enc s).toArray, .agg (kc_enc t).toArray] w fun e w' => e = .returned (.int .i64 (kc_cmp s t)) ∧ ∃ q os', w' = grow (w.drewN q) os' := by
  show Calls Try.prog 217 #[.agg #[.string s.f0, .int .i64 s.f1, .string s.f2], .agg #[.string t.f0, .int .i64 t.f1, .string t.f2]] w _
  obtain ⟨x, hx⟩ : ∃ x, kc_day t.f1 s.f1 = x := ⟨_, rfl⟩
  obtain ⟨y, hy⟩ : ∃ y, Lib.compareBytes t.f0.data.toList s.f0.data.toList = y := ⟨_, rfl⟩
  have QX : Aside0 (∀ w, Calls Try.prog 218 #[.int .i64 t.f1, .int .i64 s.f1] w fun e w' => e = .returned (.int .i64 x) ∧ w' = w) := ⟨fun w => by rw [← hx]; exact kc_dayc t.f1 s.f1 w⟩
  have QY : Aside0 (∀ w, Calls Try.prog 159 #[.string t.f0, .string s.f0] w fun e w' => e = .returned (.int .i64 y) ∧ w' = w) := ⟨fun w => by rw [← hy]; exact Try.strings_Compare t.f0 s.f0 w⟩
  have EX := AM hx
  have EY := AM hy
  clear hx hy
  go_enter Try.func217, Try.ntmps217
  go_wp2
  have B0 : Aside0 (((w.alloc (.cells (kc_enc s).toArray 132)).alloc (.cells (kc_enc t).toArray 132)).heap[w.heap.size]? = some (.cells (kc_enc s).toArray 132 (0, 0))) := ⟨blk_alloc (blk_new w _) _⟩
  have B1 : Aside0 (((w.alloc (.cells (kc_enc s).toArray 132)).alloc (.cells (kc_enc t).toArray 132)).heap[w.heap.size + 1]? = some (.cells (kc_enc t).toArray 132 (0, 0))) := ⟨by
    have h := blk_new (w.alloc (.cells (kc_enc s).toArray 132)) (.cells (kc_enc t).toArray 132)
    rw [show (w.alloc (.cells (kc_enc s).toArray 132)).heap.size = w.heap.size + 1 by simp] at h
    exact h⟩
  obtain ⟨g0, hg0⟩ : ∃ g, w.heap.size = g := ⟨_, rfl⟩
  obtain ⟨g1, hg1⟩ : ∃ g, w.heap.size + 1 = g := ⟨_, rfl⟩
  obtain ⟨w2, hw2⟩ : ∃ w2, (w.alloc (.cells (kc_enc s).toArray 132)).alloc (.cells (kc_enc t).toArray 132) = w2 := ⟨_, rfl⟩
  have hw2' : (w.alloc (.cells #[.string s.f0, .int .i64 s.f1, .string s.f2] 132)).alloc (.cells #[.string t.f0, .int .i64 t.f1, .string t.f2] 132) = w2 := hw2
  rw [hw2] at B0 B1
  rw [hg1] at B1
  rw [hg0] at B0
  try rw [hw2']
  try rw [hg1]
  try rw [hg0]
  replace B0 := AM (blk_drew B0.out)
  replace B1 := AM (blk_drew B1.out)
  refine start_ (n := 13) (S := fun w' => w'.cell? ⟨g0, 0, none⟩ = some (.string s.f0) ∧ w'.cell? ⟨g0, 1, none⟩ = some (.int .i64 s.f1) ∧ w'.cell? ⟨g1, 0, none⟩ = some (.string t.f0) ∧ w'.cell? ⟨g1, 1, none⟩ = some (.int .i64 t.f1)) (ds := []) #[false, false, false, false, false, false, false, false, false, false, false, false, false] (by kernel_rfl) rfl rfl ⟨(blk_cell B0.out 0).trans rfl, (blk_cell B0.out 1).trans rfl, (blk_cell B1.out 0).trans rfl, (blk_cell B1.out 1).trans rfl⟩ (fun hHeld => ?_)
  refine with_tabW kc1.tab kc1.bits (fun HT_ HW_ => ?_)
  obtain ⟨w3, hw3⟩ : ∃ w3, w2.drew = w3 := ⟨_, rfl⟩
  rw [hw3] at B0 B1 hHeld ⊢
  have E3 := AM hw3
  clear hw3
  refine pu_ HT_ 0 (some 5) #[true, false, false, false, false, false, false, false, false, false, false, false, false] ?_
  refine pu_ HT_ 2 (some 7) #[true, false, true, false, false, false, false, false, false, false, false, false, false] ?_
  refine pu_ HT_ 5 (some 10) #[true, false, true, false, false, true, false, false, false, false, false, false, false] ?_
  refine pu_ HT_ 7 (some 12) #[true, false, true, false, false, true, false, true, false, false, false, false, false] ?_
  refine ta_ HT_ HW_ 1 (some 6) #[true, true, true, false, false, true, false, true, false, false, false, false, false] hHeld ?_
  refine ta_ HT_ HW_ 3 (some 8) #[true, true, true, true, false, true, false, true, false, false, false, false, false] hHeld ?_
  refine ta_ HT_ HW_ 6 (some 11) #[true, true, true, true, false, true, true, true, false, false, false, false, false] hHeld ?_
  refine ta_ HT_ HW_ 8 (some 13) #[true, true, true, true, false, true, true, true, true, false, false, false, false] hHeld ?_
  refine on_ HT_ 4 (some 9) #[true, true, true, true, true, true, true, true, true, false, false, false, false] (fun K hK => ?_)
  refine go1_ Try.func218 #[.int .i64 t.f1, .int .i64 s.f1] ?_
  refine (QX.out _).mono ?_
  rintro e w_ ⟨rfl, hw_⟩
  rw [hw_]
  clear hw_ w_
  refine ⟨_, rfl, ?_⟩
  refine hK.out _ _ hHeld (fun hHeld => ?_)
  clear hK K
  refine nm_ ?_
  refine on_ HT_ 9 (some 14) #[true, true, true, true, true, true, true, true, true, true, false, false, false] (fun K hK => ?_)
  refine go1_ Try.func159 #[.string t.f0, .string s.f0] ?_
  refine (QY.out _).mono ?_
  rintro e w_ ⟨rfl, hw_⟩
  rw [hw_]
  clear hw_ w_
  refine ⟨_, rfl, ?_⟩
  refine hK.out _ _ hHeld (fun hHeld => ?_)
  clear hK K
  refine nm_ ?_
  refine on_ HT_ 10 (some 15) #[true, true, true, true, true, true, true, true, true, true, true, false, false] (fun K hK => ?_)
  refine value_ (w1 := w3.alloc (.cells #[.int .i64 x, .int .i64 y] 3)) (v := .slice (some ⟨w3.heap.size, 0, none⟩) 2 2) (by rfl) rfl ?_ ?_
  · first | (go_simp; done) | (go_simp; rfl) | (go_simp; constructor; · rfl; · rfl)
  obtain ⟨w4, hw4⟩ : ∃ w4, w3.alloc (.cells #[.int .i64 x, .int .i64 y] 3) = w4 := ⟨_, rfl⟩
  have C0 : w4.cell? ⟨w3.heap.size, 0, none⟩ = some (.int .i64 x) := by rw [← hw4]; simp
  have C1 : w4.cell? ⟨w3.heap.size, 1, none⟩ = some (.int .i64 y) := by rw [← hw4]; simp
  replace B0 : Aside0 (w4.heap[g0]? = some (.cells (kc_enc s).toArray 132 (0, 0))) := ⟨by rw [← hw4]; exact blk_alloc B0.out _⟩
  replace B1 : Aside0 (w4.heap[g1]? = some (.cells (kc_enc t).toArray 132 (0, 0))) := ⟨by rw [← hw4]; exact blk_alloc B1.out _⟩
  rw [hw4]
  have E4 := AM hw4
  have D0 := AM C0
  have D1 := AM C1
  clear hw4 C0 C1
  refine hK.out _ _ ⟨(blk_cell B0.out 0).trans rfl, (blk_cell B0.out 1).trans rfl, (blk_cell B1.out 0).trans rfl, (blk_cell B1.out 1).trans rfl⟩ (fun hHeld => ?_)
  clear hK K
  refine nm_ ?_
  refine on_ HT_ 11 (some 16) #[true, true, true, true, true, true, true, true, true, true, true, true, false] (fun K hK => ?_)
  refine go1_ Try.func158 #[.slice (some ⟨w3.heap.size, 0, none⟩) 2 2] ?_
  refine (kc_orc x y _ _ D0.out D1.out).mono ?_
  rintro e w_ ⟨rfl, hw_⟩
  rw [hw_]
  clear hw_ w_
  refine ⟨_, rfl, ?_⟩
  refine hK.out _ _ hHeld (fun hHeld => ?_)
  clear hK K
  refine nm_ ?_
  refine pu_ HT_ 12 (some 4) #[true, true, true, true, true, true, true, true, true, true, true, true, true] ?_
  refine dn_ HT_ ?_
  try go_wp2
  go_ret
  refine ⟨by rw [kc_cmp, EX.out, EY.out]; rfl, 1, #[.cells (kc_enc s).toArray 132, .cells (kc_enc t).toArray 132, .cells #[.int .i64 x, .int .i64 y] 3], ?_⟩
  rw [← E4.out, ← E3.out, ← hw2]
  exact kc_three _ _ _ _
/-! behind the sort -/
theorem kc_irrefl (l : List UInt8) : Op.bytesLess l l = false := by
  induction l with
  | nil => rfl
  | cons a l ih => simp [Op.bytesLess, ih]
theorem kc_cmpeq : ∀ (a b : List UInt8), Lib.compareBytes a b = if Op.bytesLess a b = true then -1 else if a = b then 0 else 1
  | [], [] => rfl
  | [], _ :: _ => rfl
  | _ :: _, [] => rfl
  | a :: xs, b :: bs => by
    have ih := kc_cmpeq xs bs
    simp only [Lib.compareBytes, ih, Op.bytesLess]
    by_cases h1 : a < b
    · simp [h1]
    · by_cases h2 : b < a
      · have h3 : a ≠ b := fun e => by subst e; exact h1 h2
        simp [h1, h2, h3]
      · have h3 : a = b := UInt8.le_antisymm (UInt8.not_lt.1 h2) (UInt8.not_lt.1 h1)
        subst h3
        simp [h1]
theorem kc_trans : ∀ (a b c : List UInt8), Op.bytesLess a b = true → Op.bytesLess b c = true → Op.bytesLess a c = true
  | [], [], _, h, _ => by cases h
  | [], _ :: _, [], _, h => by cases h
  | [], _ :: _, _ :: _, _, _ => rfl
  | _ :: _, [], _, h, _ => by cases h
  | _ :: _, _ :: _, [], _, h => by cases h
  | a :: xs, b :: ys, c :: zs, h, g => by
    have ih := kc_trans xs ys zs
    simp only [Op.bytesLess] at h g ⊢
    simp only [Bool.or_eq_true, Bool.and_eq_true, decide_eq_true_eq, beq_iff_eq] at h g ⊢
    rcases h with h | ⟨rfl, h⟩
    · rcases g with g | ⟨rfl, g⟩
      · exact .inl (UInt8.lt_trans h g)
      · exact .inl h
    · rcases g with g | ⟨rfl, g⟩
      · exact .inl g
      · exact .inr ⟨rfl, ih h g⟩
theorem kc_total : ∀ a b : List UInt8, Op.bytesLess a b = false → Op.bytesLess b a = false → a = b
  | [], [], _, _ => rfl
  | [], _ :: _, h, _ => by cases h
  | _ :: _, [], _, h => by cases h
  | x :: a, y :: b, h, g => by
    simp only [Op.bytesLess, Bool.or_eq_false_iff, Bool.and_eq_false_iff, decide_eq_false_iff_not, beq_eq_false_iff_ne] at h g
    have e : x = y := UInt8.le_antisymm (UInt8.not_lt.1 g.1) (UInt8.not_lt.1 h.1)
    subst e
    have h2 := h.2.resolve_left (fun q => q rfl)
    have g2 := g.2.resolve_left (fun q => q rfl)
    rw [kc_total a b h2 g2]
/-- y stands before x. -/
def kc_bef (y x : S132) : Bool := decide (x.f1 < y.f1) || (decide (y.f1 = x.f1) && Op.bytesLess x.f0.toList y.f0.toList)
theorem kc_bef_iff (y x : S132) : kc_bef y x = true ↔ (x.f1 < y.f1 ∨ (y.f1 = x.f1 ∧ Op.bytesLess x.f0.toList y.f0.toList = true)) := by
  simp [kc_bef]
theorem kc_lt (s t : S132) : ltOf kc_cmp s t = kc_bef s t := by
  rw [Bool.eq_iff_iff, kc_bef_iff]
  unfold ltOf
  rw [decide_eq_true_eq]
  unfold kc_cmp kc_day kc_or
  have h := kc_cmpeq t.f0.data.toList s.f0.data.toList
  rw [h, ByteArray.toList_eq, ByteArray.toList_eq]
  by_cases h1 : t.f1 < s.f1
  · rw [if_pos h1, if_neg (by omega)]
    exact ⟨fun _ => .inl h1, fun _ => by omega⟩
  · rw [if_neg h1]
    by_cases h2 : s.f1 < t.f1
    · rw [if_pos h2, if_neg (by omega)]
      exact ⟨fun q => absurd q (by omega), fun q => by rcases q with q | ⟨q, _⟩ <;> omega⟩
    · rw [if_neg h2, if_pos rfl]
      by_cases h3 : Op.bytesLess t.f0.data.toList s.f0.data.toList = true
      · rw [if_pos h3]
        exact ⟨fun _ => .inr ⟨by omega, h3⟩, fun _ => by omega⟩
      · rw [if_neg h3]
        refine ⟨fun q => ?_, fun q => ?_⟩
        · split at q <;> omega
        · rcases q with q | ⟨_, q⟩
          · exact absurd q h1
          · exact absurd q h3
theorem kc_bef_false (y x : S132) : kc_bef y x = false ↔ (¬ x.f1 < y.f1 ∧ (y.f1 = x.f1 → Op.bytesLess x.f0.toList y.f0.toList = false)) := by
  rw [← Bool.not_eq_true, kc_bef_iff]
  refine ⟨fun h => ⟨fun q => h (.inl q), fun q => ?_⟩, fun h q => ?_⟩
  · rw [← Bool.not_eq_true]
    exact fun g => h (.inr ⟨q, g⟩)
  · rcases q with q | ⟨q, g⟩
    · exact h.1 q
    · rw [h.2 q] at g
      cases g
theorem kc_ntrans_b (a b c : List UInt8) (h : Op.bytesLess b a = false) (g : Op.bytesLess c b = false) : Op.bytesLess c a = false := by
  rw [← Bool.not_eq_true]
  intro q
  by_cases e : Op.bytesLess a b = true
  · rw [kc_trans c a b q e] at g
    cases g
  · have := kc_total a b (by simpa using e) h
    subst this
    rw [q] at g
    cases g
theorem kc_swo : SWO (ltOf kc_cmp) where
  irrefl x := by
    rw [kc_lt, kc_bef_false]
    exact ⟨by omega, fun _ => kc_irrefl _⟩
  trans x y z h g := by
    rw [kc_lt, kc_bef_iff] at h g ⊢
    rcases h with h | ⟨h, h2⟩ <;> rcases g with g | ⟨g, g2⟩
    · exact .inl (by omega)
    · exact .inl (by omega)
    · exact .inl (by omega)
    · exact .inr ⟨by omega, kc_trans _ _ _ g2 h2⟩
  ntrans x y z h g := by
    rw [kc_lt, kc_bef_false] at h g ⊢
    refine ⟨by omega, fun e => ?_⟩
    have e1 : x.f1 = y.f1 := by omega
    exact kc_ntrans_b _ _ _ (h.2 e1) (g.2 (by omega))
/-- a snap put among sorted ones. -/
def kc_ins (x : S132) : List (S132) → List (S132)
  | [] => [x]
  | y :: r => if kc_bef y x = true then y :: kc_ins x r else x :: y :: r
def kc_sorted (l : List (S132)) : List (S132) := l.foldl (fun out s => kc_ins s out) []
theorem kc_ins_perm (x : S132) : ∀ l, (kc_ins x l).Perm (x :: l)
  | [] => .refl _
  | y :: r => by
    rw [kc_ins]
    split
    · exact ((kc_ins_perm x r).cons y).trans (.swap x y r)
    · exact .refl _
theorem kc_fold_perm : ∀ (l out : List (S132)), (l.foldl (fun out s => kc_ins s out) out).Perm (l ++ out)
  | [], _ => .refl _
  | x :: l, out => (kc_fold_perm l (kc_ins x out)).trans (((kc_ins_perm x out).append_left l).trans List.perm_middle)
theorem kc_sorted_perm (l : List (S132)) : (kc_sorted l).Perm l := by
  have h := kc_fold_perm l []
  rwa [List.append_nil] at h
def kc_le (a b : S132) : Prop := kc_bef b a = false
theorem kc_ins_pair (x : S132) : ∀ l, l.Pairwise kc_le → (kc_ins x l).Pairwise kc_le
  | [], _ => List.pairwise_singleton _ _
  | y :: r, h => by
    rw [List.pairwise_cons] at h
    rw [kc_ins]
    split
    · rename_i q
      rw [List.pairwise_cons]
      refine ⟨fun z hz => ?_, kc_ins_pair x r h.2⟩
      rcases List.mem_cons.1 ((kc_ins_perm x r).mem_iff.1 hz) with rfl | hz
      · show kc_bef z y = false
        rw [← Bool.not_eq_true]
        intro q2
        have := kc_swo.trans y z y (by rw [kc_lt]; exact q) (by rw [kc_lt]; exact q2)
        rw [kc_swo.irrefl] at this
        cases this
      · exact h.1 z hz
    · rename_i q
      rw [Bool.not_eq_true] at q
      rw [List.pairwise_cons, List.pairwise_cons]
      refine ⟨fun z hz => ?_, h.1, h.2⟩
      rcases List.mem_cons.1 hz with rfl | hz
      · exact q
      · have := kc_swo.ntrans z y x (by rw [kc_lt]; exact h.1 z hz) (by rw [kc_lt]; exact q)
        rw [kc_lt] at this
        exact this
theorem kc_fold_pair : ∀ (l out : List (S132)), out.Pairwise kc_le → (l.foldl (fun out s => kc_ins s out) out).Pairwise kc_le
  | [], _, h => h
  | x :: l, out, h => kc_fold_pair l _ (kc_ins_pair x out h)
/-- no name stands twice. -/
def kc_dist : List (S132) → Bool
  | [] => true
  | s :: r => r.all (fun t => s.f0.toList != t.f0.toList) && kc_dist r
theorem kc_dist_inj : ∀ l, kc_dist l = true → ∀ a ∈ l, ∀ b ∈ l, a.f0.toList = b.f0.toList → a = b
  | [], _, a, ha, _, _, _ => by cases ha
  | s :: r, h, a, ha, b, hb, e => by
    rw [kc_dist, Bool.and_eq_true, List.all_eq_true] at h
    rcases List.mem_cons.1 ha with rfl | ha2 <;> rcases List.mem_cons.1 hb with rfl | hb2
    · rfl
    · have := h.1 b hb2
      rw [e] at this
      simp at this
    · have := h.1 a ha2
      rw [e] at this
      simp at this
    · exact kc_dist_inj r h.2 a ha2 b hb2 e
theorem kc_uniq (l : List (S132)) (hd : kc_dist l = true) (d : Array (S132)) (hp : PermIn 0 l.toArray.size l.toArray d) (hs : SortedIn (ltOf kc_cmp) 0 l.toArray.size d) : d.toList = kc_sorted l := by
  have hsz : d.size = l.length := hp.1
  have hperm : d.toList.Perm l := by
    have h := hp.2.2
    simp only [Array.toList_extract, List.extract_eq_take_drop, List.drop_zero, List.size_toArray, Nat.sub_zero] at h
    rw [List.take_of_length_le (by rw [Array.length_toList, hsz]; exact Nat.le_refl _), List.take_of_length_le (Nat.le_refl _)] at h
    exact h
  have hpair : d.toList.Pairwise kc_le := by
    rw [List.pairwise_iff_getElem]
    intro i j hi hj hij
    have h1 : i < d.size := by simpa using hi
    have h2 : j < d.size := by simpa using hj
    have h := hs i j (Nat.zero_le _) hij (by simpa [hsz] using h2)
    rw [kc_lt, getElem!_pos d i h1, getElem!_pos d j h2] at h
    exact h
  refine List.Perm.eq_of_pairwise (le := kc_le) (fun a b ha hb h1 h2 => ?_) hpair (kc_fold_pair l [] List.Pairwise.nil) (hperm.trans (kc_sorted_perm l).symm)
  have h1 : kc_bef b a = false := h1
  have h2 : kc_bef a b = false := h2
  rw [kc_bef_false] at h1 h2
  have e : a.f1 = b.f1 := by omega
  exact kc_dist_inj l hd a (hperm.mem_iff.1 ha) b ((kc_sorted_perm l).mem_iff.1 hb) (kc_total _ _ (h1.2 e.symm) (h2.2 e))
/-! the sort's contract -/
theorem kc_nil {e base n cap : Nat} {ok : Nat → Prop} {W : World} {xs : List (S132)} {A : Option Addr} (h : Kd.R k132 e W base ok (.slice A n cap) xs) : (A = none ∧ xs = [] ∧ n = 0) ∨ ∃ g, A = some ⟨g, 0, none⟩ ∧ n = xs.length := by
  obtain ⟨h0, inner, ⟨ho1, ho2⟩, hr⟩ := h
  rcases ho2 with ⟨hv, hx⟩ | ⟨g', cap', cur, hv, hb, hh, hnc, hcm, hcs, ht⟩
  · injection hv with ha hn hc
    exact .inl ⟨ha, List.eq_nil_of_length_eq_zero hx, hn⟩
  · injection hv with ha hn hc
    exact .inr ⟨g', ha, hn⟩
set_option maxHeartbeats 4000000 in
theorem kc_sort (A : Option Addr) (cap : Nat) (xs : List (S132)) (hd : kc_dist xs = true) (hl : xs.length ≤ 1000) (w0 w : World) (hB : Below w0.heap.size w0 w) (hr : Kd.R k132 132 w w0.heap.size (fun _ => True) (.slice A xs.length cap) xs) :
    Calls Try.prog 216 #[.slice A xs.length cap, .func (.func 217) #[] #[]] w fun e w' => e = .returned (.tuple #[]) ∧ Kd.R k132 132 w' w0.heap.size (fun _ => True) (.slice A xs.length cap) (kc_sorted xs) ∧ Below w0.heap.size w0 w' ∧ ∀ k, k < w.heap.size → (∀ a, A = some a → a.block ≠ k) → w'.heap[k]? = w.heap[k]? := by
  rcases kc_nil hr with ⟨rfl, rfl, _⟩ | ⟨g, rfl, _⟩
  · refine (AnyF.slices_SortFunc_none Try.laysSF none cap _ w).mono ?_
    rintro e w' ⟨rfl, rfl⟩
    exact ⟨rfl, hr, hB, fun _ _ _ => rfl⟩
  · obtain ⟨hH, hblk⟩ := kc_holds hr
    have hsz : xs.toArray.size < 4611686018427387904 := by
      rw [List.size_toArray]
      omega
    have h := AnyQ.slices_SortFunc Try.laysSF 3 Try.isAgg132 Try.sizeOf132 kc_enc kc_len (by
      intro x v hv
      simp only [kc_enc, List.mem_cons, List.not_mem_nil, or_false] at hv
      rcases hv with rfl | rfl | rfl <;> rfl) kc_cmp kc_swo 217 #[] g 0 cap xs.toArray w (enters_of Try.func217 (by kernel_rfl) rfl) (fun m os dk hs x y => kc_pred x y _) hH hblk hsz
    refine h.mono ?_
    rintro e w' ⟨rfl, d, n, os, hp, hs, rfl⟩
    have hds : d.size = xs.length := hp.1
    obtain ⟨k1, k2, k3⟩ := kc_back (m := n) hr d os hds
    rw [kc_uniq xs hd d hp hs] at k1
    exact ⟨rfl, k1, hB.trans (k2 _ (Nat.le_refl _) hB.size), fun k hk hg => k3 k hk (hg _ rfl)⟩
/-! kept -/
/-! A map from texts to bools that the call makes and in which all that is stored is 'true': the set of its keys. -/
abbrev sm_unit := Unit
def sm_D : List ByteArray → DataW Unit
  | [] => .map []
  | s :: ks => (sm_D ks).put (.string s.data.toList) (.lit (.bool true))
/-- the keys stand newest first. -/
def sm_set (P : Program) (w : World) (b : Nat) (ks : List ByteArray) : Prop := w.ownsMap P 9 (plainElem (H := Unit) P 4) b ks.length (sm_D ks)
theorem sm_isMap : ∀ ks, Maps.IsMap (sm_D ks)
  | [] => Maps.isMap_empty
  | s :: ks => (sm_isMap ks).put _ _
theorem sm_at (s : ByteArray) : ∀ ks : List ByteArray, (sm_D ks).atKey (.string s.data.toList) (.lit (.bool false)) = .lit (.bool (ks.any fun u => u.toList == s.toList))
  | [] => rfl
  | u :: ks => by
    show ((sm_D ks).put (.string u.data.toList) (.lit (.bool true))).atKey _ _ = _
    by_cases h : u.data.toList = s.data.toList
    · rw [h, Maps.atKey_put_same (sm_isMap ks) (show WideAt.IsKeyLit (.string s.data.toList) by simp [WideAt.IsKeyLit]), List.any_cons, ByteArray.toList_eq, ByteArray.toList_eq, h]
      simp
    · rw [Maps.atKey_put_other (fun e => h (by injection e with e; exact e.symm)), sm_at s ks, List.any_cons]
      have : (u.toList == s.toList) = false := by
        rw [ByteArray.toList_eq, ByteArray.toList_eq]
        exact beq_eq_false_iff_ne.2 h
      rw [this, Bool.false_or]
theorem sm_new {P : Program} (w : World) : sm_set P (w.alloc (.map #[] 0)) w.heap.size [] := World.ownsMap_made w P 9 _
theorem sm_lt {P : Program} {w : World} {b : Nat} {ks : List ByteArray} (h : sm_set P w b ks) : b < w.heap.size := World.ownsMap.lt h
theorem sm_below {P : Program} {w w' : World} {b : Nat} {ks : List ByteArray} (h : sm_set P w b ks) (hb : Below w.heap.size w w') : sm_set P w' b ks := by
  have hlt := sm_lt h
  obtain ⟨es, clock, h1, r⟩ := h
  exact ⟨es, clock, (hb.block b hlt).trans h1, r⟩
theorem sm_look {P : Program} {w : World} {b t : Nat} {ks : List ByteArray} (h : sm_set P w b ks) (h9 : P.underlying 9 = some .string) (h4 : P.underlying 4 = some .bool) (ht : P.underlying t = some (.map 9 4)) (hz : (zeroValue 4).run P w = .ok (.bool false) w) (s : ByteArray) (hs : s.size ≤ maxLen) :
    (Instr.lookup t (.map (some b)) (.string s) false).run P w = .ok (.bool (ks.any fun u => u.toList == s.toList)) w := by
  obtain ⟨v, ps, hrun, hv⟩ := World.ownsMap.lookup h (Maps.string_keyed h9) ht hz (plainElem_bool (H := Unit) h4 false) (WideMaps.keyOf_string_mk h9 hs)
  rw [sm_at s ks] at hv
  have : v = .bool (ks.any fun u => u.toList == s.toList) := by
    unfold plainElem at hv
    rw [h4] at hv
    cases v <;> simp at hv
    rename_i x
    rw [hv.1]
  rw [hrun, this]
set_option maxHeartbeats 4000000 in
set_option maxRecDepth 100000 in
theorem kc_clone (A0 : Option Addr) (c0 : Nat) (l0 : List (S132)) (w : World) (hr0 : Kd.C k132 w A0 l0.length l0) (hc0 : l0.length ≤ c0) (hl : l0.length < 3518437208883) :
    Calls Try.prog 215 #[.slice A0 l0.length c0] w fun e w' => ∃ v0_ : Value, e = .returned v0_ ∧ Kd.R k132 132 w' w.heap.size (fun _ => True) v0_ l0 ∧ Below w.heap.size w w' := by
  have hu := Try.underlying132
  have HR0 := AM hr0
  have HC0 := AM hc0
  have HL := AM hl
  have HB := AM (Below.refl w.heap.size w)
  have heq : ∀ W : World, (binOp .eql 58 (.slice A0 l0.length c0) (.slice none 0 0)).run Try.prog W = .ok (.bool A0.isNone) W := fun W => Lib.run_eql_slice_nil W 58 132 A0 l0.length c0 0 0 Try.underlying58
  cases A0 with
  | none =>
    have h0 : l0 = [] := by
      cases l0 with
      | nil => rfl
      | cons x r =>
        obtain ⟨ad, e, _⟩ := at_T132 hr0 0 (by omega) (by simp)
        cases e
    subst h0
    simp only [Option.isNone_none, List.length_nil] at heq
    clear hr0 hc0 hl
    go_enter Try.func215, Try.ntmps215
    go_wp2
    go_ret
    exact ⟨_, rfl, Kd.R_nil _ _ _ _ _, HB.out⟩
  | some ad =>
    simp only [Option.isNone_some] at heq
    clear hr0 hc0 hl
    go_enter Try.func215, Try.ntmps215
    go_wp2_with (first
      | ((with_reducible refine gate_dst (N := 5) rfl ?_); refine Kd.R_lit k132 _ 132 ?hgL1 (N := 5) ?hdL1 (xs := ([] : List (S132))) (inner := []) (ok := fun _ => True) (okp := fun _ => True) ?hrL1 ?hpL1 (fun _ hk => hk) trivial (Below.refl _ _) (Nat.le_refl _) (by simp) ?_; (case hdL1 => rfl); (case hgL1 => rfl); (case hrL1 => first | (go_simp; done) | (go_simp; rfl)); (case hpL1 => exact (Reps.none _ _)); intro v5 w3 ho4 hb hg_ hnew_; clear hg_ hnew_; have HO := AM (Kd.R_lower ho4 (below_size HB.out)); replace HB := AM (below_step HB.out hb); clear hb ho4)
      | ((with_reducible refine gate_builtin (b := .append) (xs := #[.tmp 5, .tmp 6]) rfl ?_); at_builtin; refine Kd.R_append_rows k132 (w0 := w) w.heap.size rfl (.tmp 5) (.tmp 6) 58 132 (.agg #[(.string ⟨#[]⟩), (.int .i64 0), (.string ⟨#[]⟩)]) 40 rfl Try.underlying58 info132 rfl (by decide) (by omega) v5 ([] : List (S132)) l0 _ _ _ (fun _ => True) (fun _ => False) rfl rfl ?aO ?aR (fun _ _ h => h) (fun _ h => h.elim) ?aF ?aB ?aS ?aL ?_; (case aR => repeat (first | exact (Kd.C_below HR0.out HB.out) | (with_reducible refine Kd.C_alloc ?_ _) | (with_reducible refine Kd.C_drewN ?_ _) | (with_reducible refine Kd.C_drew ?_))); (case aB => repeat (first | exact HB.out | apply below_alloc | apply pw_below_drewN | apply below_drew1)); (case aF => exact (fun _ _ => trivial)); (case aO => (with_reducible repeat (first | apply Kd.R_alloc | apply Kd.R_drewN | apply Kd.R_drew)); exact HO.out); (case aS => exact below_size HB.out); (case aL => have := HL.out; simp only [List.length_nil]; omega); intro v7 w5 ho hb hg hat; rw [List.nil_append] at ho; replace HB := AM hb; have HO2 := AM ho; clear ho hb hg hat))
    go_ret
    exact ⟨_, rfl, HO2.out, HB.out⟩
/-- may the map's keys and the row be reckoned. -/
def kc_ok (l : List (S132)) : Bool := kc_dist l && decide (l.length ≤ 100) && l.all (fun s => decide (s.f0.size ≤ 1000))
theorem kc_ok_of {l : List (S132)} (h : kc_ok l = true) : kc_dist l = true ∧ l.length ≤ 100 ∧ ∀ s ∈ l, s.f0.size ≤ 1000 := by
  simp only [kc_ok, Bool.and_eq_true, decide_eq_true_eq, List.all_eq_true] at h
  exact ⟨h.1.1, h.1.2, h.2⟩
def kc_mark (ks : List ByteArray) (l : List (S132)) : List ByteArray := l.foldl (fun ks s => s.f0 :: ks) ks
/-- the first so many with a number of their own. -/
def kc_some (many by_ : Int) : List (S132) → List Int → List ByteArray → List ByteArray
  | [], _, ks => ks
  | s :: r, seen, ks => if (!seen.any (fun y => y == wrap64 (Int.tdiv s.f1 by_)) && decide ((seen.length : Int) < many)) = true then kc_some many by_ r (seen ++ [wrap64 (Int.tdiv s.f1 by_)]) (s.f0 :: ks) else kc_some many by_ r seen ks
def kc_by (p1 p2 p3 : Int) (l : List (S132)) : Nat → List ByteArray → List ByteArray
  | 0, ks => ks
  | 1, ks => kc_some p3 30 l [] ks
  | 2, ks => kc_some p3 30 l [] (kc_some p2 7 l [] ks)
  | _, ks => kc_some p3 30 l [] (kc_some p2 7 l [] (kc_some p1 1 l [] ks))
def kc_kept (p0 p1 p2 p3 : Int) (l : List (S132)) : List ByteArray := kc_by p1 p2 p3 (kc_sorted l) 3 (kc_mark [] ((kc_sorted l).take (min p0 (l.length : Int)).toNat))
theorem kc_size (A : Option Addr) (n c : Nat) (w : World) : Calls Try.prog 219 #[.slice A n c] w fun e w' => e = .returned (.int .i64 (n : Int)) ∧ w' = w := by
  go_enter Try.func219, Try.ntmps219
  go_wp2
  go_ret
  exact ⟨rfl, rfl⟩
theorem kc_sizei (A : Option Addr) (n c : Nat) (w : World) : Calls Try.prog 191 #[.slice A n c] w fun e w' => e = .returned (.int .i64 (n : Int)) ∧ w' = w := by
  go_enter Try.func191, Try.ntmps191
  go_wp2
  go_ret
  exact ⟨rfl, rfl⟩
set_option maxHeartbeats 4000000 in
set_option maxRecDepth 100000 in
theorem kc_index (A : Option Addr) (c : Nat) (l : List Int) (y : Int) (hl : l.length ≤ 1000) (w : World) (hr : Kd.C (Kd.int .i64) w A l.length l) : Calls Try.prog 254 #[.slice A l.length c, .int .i64 y] w fun e w' => ∃ r : Int, e = .returned (.int .i64 r) ∧ decide (0 ≤ r) = l.any (fun u => u == y) ∧ w' = w := by
  have HR := AM hr
  have HLL := AM hl
  clear hr hl
  go_enter Try.func254, Try.ntmps254
  go_wp2
  go_loopg [8] (l.length : Nat) (fun (q : Nat) v8 w' => ∃ (x : Int) (i : Nat), i + q = l.length ∧ v8 = .int .i64 x ∧ Aside0 (x = (i : Int)) ∧ Aside0 (l.any (fun u => u == y) = (l.drop i).any (fun u => u == y)) ∧ Aside0 (w' = w))
  case atStart => exact ⟨0, 0, by omega, rfl, ⟨rfl⟩, ⟨by rw [List.drop_zero]⟩, ⟨rfl⟩⟩
  case round =>
    obtain ⟨x, i, hi, rfl, HX, HA, HW⟩ := hrel
    have HI := AM hi
    clear hi
    by_cases c1 : i < l.length
    · have x1 : decide (x < (l.length : Int)) = true := decide_eq_true (by have := HX.out; omega)
      have C1 := AM c1
      have p2 : (0 ≤ x) = True := eq_true (by rw [HX.out]; omega)
      have q2 : (x < (l.length : Int)) = True := eq_true (by rw [HX.out]; have := C1.out; omega)
      obtain ⟨ad, rfl, hz⟩ := Kd.at_int HR.out x (by rw [HX.out]; omega) (by rw [HX.out]; omega)
      have ca : wr.cell? (ad.add x.toNat) = some (.int .i64 (l.getD i 0)) := by
        rw [HW.out]
        have h := hz
        rw [show rd l x = l.getD i 0 by unfold rd; rw [HX.out, Int.toNat_natCast]] at h
        exact h
      have HD : Aside0 (l.drop i = l.getD i 0 :: l.drop (i + 1)) := ⟨by rw [List.drop_eq_getElem_cons c1, List.getD_eq_getElem?_getD, List.getElem?_eq_getElem c1]; rfl⟩
      clear c1 hz
      generalize l.getD i 0 = z at ca HD
      by_cases c2 : y = z
      · have e1 : (y == z) = true := by simpa using c2
        have hq : l.any (fun u => u == y) = true := by rw [HA.out, HD.out, List.any_cons]; simp [c2]
        have HQ := AM hq
        clear hq c2
        go_wp2
        go_ret
        exact ⟨x, rfl, by rw [HQ.out, HX.out]; exact decide_eq_true (by omega), HW.out⟩
      · have e1 : (y == z) = false := by simpa using c2
        have hq : l.any (fun u => u == y) = (l.drop (i + 1)).any (fun u => u == y) := by
          rw [HA.out, HD.out, List.any_cons, show (z == y) = false by simpa using fun q => c2 q.symm]
          rfl
        have HQ := AM hq
        clear hq c2
        go_wp2
        go_roundg (l.length - (i + 1))
        case measure => have := HI.out; have := C1.out; omega
        case rel => exact ⟨_, i + 1, (by have := HI.out; have := C1.out; omega), rfl, ⟨by rw [HX.out]; unfold wrap64; have := C1.out; have := HLL.out; omega⟩, HQ, HW⟩
    · have x1 : decide (x < (l.length : Int)) = false := decide_eq_false (by rw [HX.out]; omega)
      have hq : l.any (fun u => u == y) = false := by rw [HA.out, List.drop_of_length_le (by omega)]; rfl
      have HQ := AM hq
      clear hq c1
      go_wp2
      go_ret
      exact ⟨-1, rfl, by rw [HQ.out]; rfl, HW.out⟩
theorem kc_contains (A : Option Addr) (c : Nat) (l : List Int) (y : Int) (b : Bool) (hb : l.any (fun u => u == y) = b) (hl : l.length ≤ 1000) (w : World) (hr : Kd.C (Kd.int .i64) w A l.length l) : Calls Try.prog 220 #[.slice A l.length c, .int .i64 y] w fun e w' => e = .returned (.bool b) ∧ w' = w := by
  subst hb
  have HR := AM hr
  clear hr
  go_enter Try.func220, Try.ntmps220
  go_wp2_with (go_at_call 254; refine (kc_index A c l y hl _ HR.out).mono ?_; rintro e w2 ⟨r, rfl, hd, rfl⟩; have HD := AM hd; clear hd)
  go_ret
  exact ⟨by rw [← HD.out]; rfl, rfl⟩
/-! kept, the walk -/
def kc4.T : Bool × List (List Nat × List Nat) := (true, [([], []), ([], []), ([1], [1]), ([], []), ([3], [3]), ([2, 4], [2, 4]), ([0, 5], [0, 5]), ([6], [6]), ([], [])])
def kc4.B : List Nat := [0, 0, 2, 0, 8, 30, 63, 127, 0]
theorem kc4.tab : rtab .any (opsOf Try.f172 4) = kc4.T := by kernel_rfl
theorem kc4.bits : waitsOk kc4.T.2 kc4.B = true := by kernel_rfl
theorem sm_grown {P : Program} {w w' : World} {b : Nat} {ks : List ByteArray} {row : Option Nat} (h : sm_set P w b ks) (hg : w.grownBy w' row) (hne : some b ≠ row) : sm_set P w' b ks := by
  have hlt := sm_lt h
  obtain ⟨es, clock, h1, r⟩ := h
  exact ⟨es, clock, (hg.block b hlt hne).trans h1, r⟩
theorem kc_info2 : (Try.prog.info? 2).map (fun i => (i.zero, i.size, i.bytes)) = some (some (.int .i64 0), 1, 8) := by kernel_rfl
theorem kc_nxt (x : Int) (i : Nat) (hx : x = (i : Int)) (hi : i < 100000) : wrap64 (x + 1) = ((i + 1 : Nat) : Int) := by
  subst hx
  unfold wrap64
  omega
theorem kc_mark_snoc (ks : List ByteArray) (l : List (S132)) (s : S132) : kc_mark ks (l ++ [s]) = s.f0 :: kc_mark ks l := by
  unfold kc_mark
  rw [List.foldl_append]
  rfl
theorem kc_take (l : List (S132)) (i : Nat) (hi : i < l.length) : l.take (i + 1) = l.take i ++ [rd_T132 l (i : Int)] := by
  rw [List.take_add_one, List.getElem?_eq_getElem hi]
  unfold rd_T132
  rw [Int.toNat_natCast, List.getD_eq_getElem?_getD, List.getElem?_eq_getElem hi]
  rfl
theorem kc_drop (l : List (S132)) (i : Nat) (hi : i < l.length) : l.drop i = rd_T132 l (i : Int) :: l.drop (i + 1) := by
  rw [List.drop_eq_getElem_cons hi]
  unfold rd_T132
  rw [Int.toNat_natCast, List.getD_eq_getElem?_getD, List.getElem?_eq_getElem hi]
  rfl
theorem kc_rd_mem (l : List (S132)) (i : Nat) (hi : i < l.length) : rd_T132 l (i : Int) ∈ l := by
  unfold rd_T132
  rw [Int.toNat_natCast, List.getD_eq_getElem?_getD, List.getElem?_eq_getElem hi]
  exact List.getElem_mem hi
/-- how many, and of how many days. -/
def kc_q (p1 p2 p3 : Int) : Nat → Int
  | 0 => p1
  | 1 => p2
  | _ => p3
def kc_d : Nat → Int
  | 0 => 1
  | 1 => 7
  | _ => 30
theorem kc_d_pos (j : Nat) : 0 < kc_d j := by
  unfold kc_d
  split <;> decide
theorem kc_by_step (p1 p2 p3 : Int) (l : List (S132)) (ks : List ByteArray) (j : Nat) (hj : j < 3) : kc_by p1 p2 p3 l (3 - j) ks = kc_by p1 p2 p3 l (3 - (j + 1)) (kc_some (kc_q p1 p2 p3 j) (kc_d j) l [] ks) := by
  rcases j with _ | _ | _ | j
  · rfl
  · rfl
  · rfl
  · omega
theorem kc_row6 {w : World} {g : Nat} {p1 p2 p3 : Int} {t : TypeId} (h : w.heap[g]? = some (.cells #[.int .i64 p1, .int .i64 1, .int .i64 p2, .int .i64 7, .int .i64 p3, .int .i64 30] t (0, 0))) (j : Nat) (hj : j < 3) (x : Int) (hx : x = (j : Int)) : w.cell? ⟨g, x.toNat * 2, none⟩ = some (.int .i64 (kc_q p1 p2 p3 j)) ∧ w.cell? ⟨g, x.toNat * 2 + 1, none⟩ = some (.int .i64 (kc_d j)) := by
  subst hx
  rw [Int.toNat_natCast]
  rcases j with _ | _ | _ | j
  · exact ⟨(blk_cell h 0).trans rfl, (blk_cell h 1).trans rfl⟩
  · exact ⟨(blk_cell h 2).trans rfl, (blk_cell h 3).trans rfl⟩
  · exact ⟨(blk_cell h 4).trans rfl, (blk_cell h 5).trans rfl⟩
  · omega
set_option maxHeartbeats 4000000 in
set_option maxRecDepth 100000 in
theorem kc_kept_x (p0 p1 p2 p3 : Int) (hp : 0 ≤ p0) (A : Option Addr) (c : Nat) (l : List (S132)) (hk : kc_ok l = true) (w : World) (hr0 : Kd.C k132 w A l.length l) (hc0 : l.length ≤ c) :
    Calls Try.prog 172 #[.agg #[.int .i64 p0, .int .i64 p1, .int .i64 p2, .int .i64 p3], .slice A l.length c] w fun e w' => ∃ B, e = .returned (.map (some B)) ∧ sm_set Try.prog w' B (kc_kept p0 p1 p2 p3 l) ∧ Below w.heap.size w w' := by
  have hmm := @run_makeMap Try.prog
  obtain ⟨hd, hl, hz⟩ := kc_ok_of hk
  obtain ⟨S, hS⟩ : ∃ S, kc_sorted l = S := ⟨_, rfl⟩
  have HSL : Aside0 (S.length = l.length) := ⟨by rw [← hS]; exact (kc_sorted_perm l).length_eq⟩
  have HZ : Aside0 (∀ s ∈ S, s.f0.size ≤ 1000) := ⟨fun s hs => hz s ((kc_sorted_perm l).mem_iff.1 (by rw [hS]; exact hs))⟩
  obtain ⟨m, hm⟩ : ∃ m : Nat, min p0 (S.length : Int) = (m : Int) := ⟨(min p0 (S.length : Int)).toNat, by omega⟩
  have HM : Aside0 (m ≤ S.length) := ⟨by omega⟩
  obtain ⟨K, hK⟩ : ∃ K, kc_kept p0 p1 p2 p3 l = K := ⟨_, rfl⟩
  have HK : Aside0 (kc_by p1 p2 p3 S 3 (kc_mark [] (S.take m)) = K) := ⟨by rw [← hK, kc_kept, hS, ← HSL.out, hm, Int.toNat_natCast]⟩
  rw [hK]
  have HR := AM hr0
  have HC := AM hc0
  have HDD := AM hd
  have HLL := AM hl
  have HSS := AM hS
  clear hr0 hc0 hd hl hz hS hK hk
  go_enter Try.func172, Try.ntmps172
  go_wp2_with (first
    | ((with_reducible refine gate_dst (N := 2) rfl ?_); refine be_ 2 #[.int .i64 p0, .int .i64 p1, .int .i64 p2, .int .i64 p3] 56 ?_; intro g0 hg w1 hbox hb; have BK := AM hbox; have HB := AM hb; clear hb hbox hg)
    | (go_at_call 215; refine (kc_clone A c l _ (Kd.C_below HR.out HB.out) HC.out (by have := HLL.out; omega)).mono ?_; rintro e w2 ⟨v, rfl, ho, hb⟩; replace BK := AM (blk_below BK.out hb); have HO := AM (Kd.R_lower ho (below_size HB.out)); replace HB := AM (below_step HB.out hb); clear hb ho; obtain ⟨Ao, co, eo⟩ := Kd.R_slice HO.out; subst eo)
    | (go_at_call 216; refine (kc_sort Ao co l HDD.out (by have := HLL.out; omega) w _ HB.out HO.out).mono ?_; rintro e w3 ⟨rfl, ho, hb, hk⟩; have hne := Kd.R_ne HO.out BK.out (by decide); replace BK := AM ((hk g0 (blk_lt BK.out) (fun a ha e => hne (by rw [ha, ← e]; rfl))).trans BK.out); replace HO := AM ho; replace HB := AM hb; clear ho hb hk hne; rw [HSS.out] at HO))
  replace HO : Aside0 (Kd.R k132 132 w3 w.heap.size (fun k => k ≠ w3.heap.size) (.slice Ao S.length co) S) := ⟨by rw [HSL.out]; exact Kd.R_mono (Kd.R_bound HO.out) (fun k hk => Nat.ne_of_lt hk.2.2.1)⟩
  have HMC : Aside0 (m ≤ co) := ⟨by have := (Kd.R_reads' HO.out).2.1; have := HM.out; omega⟩
  have m1 : ((m : Int) ≤ (co : Int)) = True := eq_true (by have := HMC.out; omega)
  have m2 : (m ≤ co) = True := eq_true HMC.out
  have m3 : (if (S.length : Int) < p0 then (S.length : Int) else p0) = (m : Int) := by split <;> omega
  rw [← HSL.out]
  have HSM := AM (sm_new (P := Try.prog) w3)
  have GB : Aside0 (w.heap.size ≤ w3.heap.size) := ⟨below_size HB.out⟩
  have NB : Aside0 (g0 ≠ w3.heap.size) := ⟨Nat.ne_of_lt (blk_lt BK.out)⟩
  replace BK := AM (blk_alloc BK.out (Obj.map #[] 0))
  replace HO := AM (Kd.R_alloc HO.out (Obj.map #[] 0))
  replace HB := AM (HB.out.alloc HB.out.size (Obj.map #[] 0))
  obtain ⟨B, hB⟩ : ∃ B, w3.heap.size = B := ⟨_, rfl⟩
  rw [hB] at HSM GB NB HO ⊢
  clear hB
  generalize w3.alloc (Obj.map #[] 0) = w4 at HSM BK HO HB ⊢
  replace BK := AM (blk_drew BK.out)
  replace HO := AM (Kd.R_drew HO.out)
  replace HSM := AM (sm_below HSM.out (below_drew1 (Below.refl _ _)))
  replace HB := AM (below_drew1 HB.out)
  refine start_ (n := 9) (S := fun w' => w'.cell? ⟨g0, 0, none⟩ = some (.int .i64 p0)) (ds := []) #[false, false, false, false, false, false, false, false, false] (by kernel_rfl) rfl rfl ((blk_cell BK.out 0).trans rfl) (fun hHeld => ?_)
  refine with_tabW kc4.tab kc4.bits (fun HT_ HW_ => ?_)
  generalize w4.drew = w5 at BK HO HSM HB hHeld ⊢
  refine pu_ HT_ 0 (some 20) #[true, false, false, false, false, false, false, false, false] ?_
  refine pu_ HT_ 1 (some 21) #[true, true, false, false, false, false, false, false, false] ?_
  refine pu_ HT_ 3 (some 23) #[true, true, false, true, false, false, false, false, false] ?_
  refine pu_ HT_ 8 (some 28) #[true, true, false, true, false, false, false, false, true] ?_
  refine ta_ HT_ HW_ 2 (some 22) #[true, true, true, true, false, false, false, false, true] hHeld ?_
  refine on_ HT_ 4 (some 24) #[true, true, true, true, true, false, false, false, true] (fun K hK => ?_)
  refine go1_ Try.func219 #[.slice Ao S.length co] ?_
  refine (kc_size Ao S.length co _).mono ?_
  rintro e w_ ⟨rfl, hw_⟩
  rw [hw_]
  clear hw_ w_
  refine ⟨_, rfl, ?_⟩
  refine hK.out _ _ hHeld (fun hHeld => ?_)
  clear hK K
  refine nm_ ?_
  refine pu_ HT_ 5 (some 25) #[true, true, true, true, true, true, false, false, true] ?_
  refine pu_ HT_ 6 (some 26) #[true, true, true, true, true, true, true, false, true] ?_
  refine pu_ HT_ 7 (some 27) #[true, true, true, true, true, true, true, true, true] ?_
  refine dn_ HT_ ?_
  try go_wp2
  clear m1 m2 m3
  go_loopg [28] (m : Nat) (fun (q : Nat) v28 w' => ∃ (x : Int) (i : Nat) (ks : List ByteArray), i + q = m ∧ v28 = .int .i64 x ∧ Aside0 (x = (i : Int)) ∧ Aside0 (ks.length ≤ i) ∧ Aside0 (ks = kc_mark [] (S.take i)) ∧ Aside0 (sm_set Try.prog w' B ks) ∧ Aside0 (Kd.R k132 132 w' w.heap.size (fun k => k ≠ B) (.slice Ao S.length co) S) ∧ Aside0 (w'.heap[g0]? = some (.cells #[.int .i64 p0, .int .i64 p1, .int .i64 p2, .int .i64 p3] 56 (0, 0))) ∧ Aside0 (Below w.heap.size w w'))
  case atStart => exact ⟨0, 0, [], by omega, rfl, ⟨rfl⟩, ⟨Nat.le_refl _⟩, ⟨rfl⟩, HSM, HO, BK, HB⟩
  case round =>
    clear HSM HO BK HB
    obtain ⟨x, i, ks, hi, rfl, HX, KL1, HKS, HSM, HO, BK, HB⟩ := hrel
    have HI := AM hi
    clear hi
    have KL : Aside0 (ks.length ≤ 100) := ⟨by have := KL1.out; have := HI.out; have := HM.out; have := HSL.out; have := HLL.out; omega⟩
    by_cases c1 : i < m
    · have x1 : decide (x < (m : Int)) = true := decide_eq_true (by have := HX.out; omega)
      have C1 := AM c1
      have p2 : (0 ≤ x) = True := eq_true (by rw [HX.out]; omega)
      have q2 : (x < (m : Int)) = True := eq_true (by rw [HX.out]; omega)
      have his : i < S.length := by have := HM.out; omega
      obtain ⟨ad, e1, hx0, hx1, hx2⟩ := at_T132 (Kd.R_reads' HO.out).2.2 x (by rw [HX.out]; omega) (by rw [HX.out]; omega)
      subst e1
      have NZ : Aside0 ((rd_T132 S x).f0.size ≤ 1000) := ⟨HZ.out _ (by rw [HX.out]; exact kc_rd_mem S i his)⟩
      have HT : Aside0 (S.take (i + 1) = S.take i ++ [rd_T132 S x]) := ⟨by rw [HX.out]; exact kc_take S i his⟩
      clear c1 his
      go_wp2_with (at_mapUpdate; refine wpList_mapUpdate_own _ rfl _ _ _ 212 rfl 9 4 (Maps.string_keyed Try.underlying9) Try.underlying212 _ B ks.length (sm_D ks) rfl (sm_below HSM.out ((Below.refl _ _).alloc (Nat.le_refl _) _)) (by have := KL.out; unfold maxLen; omega) _ _ _ rfl rfl (WideMaps.keyOf_string_mk Try.underlying9 (by have := NZ.out; unfold maxLen; omega)) _ [] (plainElem_bool (H := Unit) Try.underlying4 true) ?_; intro w7 hown hgrow; have HS2 : Aside0 (sm_set Try.prog w7 B ((rd_T132 S x).f0 :: ks)) := AM hown; have HG := AM hgrow; clear hown hgrow)
      have HB2 : Aside0 (Below w.heap.size w w7) := ⟨(HB.out.alloc HB.out.size _).grown HG.out (HB.out.alloc HB.out.size _).size (fun j hj => by cases hj; exact GB.out)⟩
      have BK2 := AM (blk_grown (blk_alloc BK.out _) HG.out (by intro e; injection e with e; exact NB.out e))
      have HO2 : Aside0 (Kd.R k132 132 w7 w.heap.size (fun k => k ≠ B) (.slice (some ad) S.length co) S) := ⟨Kd.R_grown (Kd.R_alloc HO.out _) HG.out (fun k hk e => by injection e with e; exact hk e)⟩
      clear HG HSM HO BK HB hx0 hx1 hx2
      try go_wp2
      go_roundg (m - (i + 1))
      case measure => have := HI.out; have := C1.out; omega
      case rel => exact ⟨_, i + 1, _ :: ks, (by have := HI.out; have := C1.out; omega), rfl, ⟨by first | exact kc_nxt x i HX.out (by have := C1.out; have := HM.out; have := HSL.out; have := HLL.out; omega)⟩, ⟨by rw [List.length_cons]; have := KL1.out; omega⟩, ⟨by rw [HT.out, kc_mark_snoc, ← HKS.out]⟩, HS2, HO2, BK2, HB2⟩
    · have x1 : decide (x < (m : Int)) = false := decide_eq_false (by rw [HX.out]; omega)
      obtain rfl : i = m := by have := HI.out; omega
      clear c1
      have b1 : wr.cell? ⟨g0, 1, none⟩ = some (.int .i64 p1) := (blk_cell BK.out 1).trans rfl
      have b2 : wr.cell? ⟨g0, 2, none⟩ = some (.int .i64 p2) := (blk_cell BK.out 2).trans rfl
      have b3 : wr.cell? ⟨g0, 3, none⟩ = some (.int .i64 p3) := (blk_cell BK.out 3).trans rfl
      have HKK : Aside0 (kc_by p1 p2 p3 S (3 - 0) ks = K) := ⟨by rw [HKS.out]; exact HK.out⟩
      go_wp2
      have BL : Aside0 ((wr.alloc (Obj.cells #[.int .i64 p1, .int .i64 1, .int .i64 p2, .int .i64 7, .int .i64 p3, .int .i64 30] 258)).heap[wr.heap.size]? = some (.cells #[.int .i64 p1, .int .i64 1, .int .i64 p2, .int .i64 7, .int .i64 p3, .int .i64 30] 258 (0, 0))) := ⟨blk_new _ _⟩
      have GL := AM (below_size HB.out)
      have BLT : Aside0 (B < wr.heap.size) := ⟨sm_lt HSM.out⟩
      replace HSM := AM (sm_below HSM.out ((Below.refl wr.heap.size wr).alloc (Nat.le_refl _) (Obj.cells #[.int .i64 p1, .int .i64 1, .int .i64 p2, .int .i64 7, .int .i64 p3, .int .i64 30] 258)))
      replace HO := AM (Kd.R_alloc HO.out (Obj.cells #[.int .i64 p1, .int .i64 1, .int .i64 p2, .int .i64 7, .int .i64 p3, .int .i64 30] 258))
      replace HB := AM (HB.out.alloc HB.out.size (Obj.cells #[.int .i64 p1, .int .i64 1, .int .i64 p2, .int .i64 7, .int .i64 p3, .int .i64 30] 258))
      clear b1 b2 b3 BK x1
      obtain ⟨gl, hgl⟩ : ∃ g, wr.heap.size = g := ⟨_, rfl⟩
      rw [hgl] at BL GL BLT ⊢
      clear hgl
      generalize wr.alloc (Obj.cells #[.int .i64 p1, .int .i64 1, .int .i64 p2, .int .i64 7, .int .i64 p3, .int .i64 30] 258) = w6 at BL HSM HO HB ⊢
      go_loopg [47] (3 : Nat) (fun (q : Nat) v47 w' => ∃ (x : Int) (j : Nat) (ks : List ByteArray), j + q = 3 ∧ v47 = .int .i64 x ∧ Aside0 (x = (j : Int)) ∧ Aside0 (ks.length ≤ 100 + 100 * j) ∧ Aside0 (kc_by p1 p2 p3 S (3 - j) ks = K) ∧ Aside0 (sm_set Try.prog w' B ks) ∧ Aside0 (Kd.R k132 132 w' w.heap.size (fun k => k ≠ B) (.slice Ao S.length co) S) ∧ Aside0 (w'.heap[gl]? = some (.cells #[.int .i64 p1, .int .i64 1, .int .i64 p2, .int .i64 7, .int .i64 p3, .int .i64 30] 258 (0, 0))) ∧ Aside0 (Below w.heap.size w w'))
      case atStart => exact ⟨0, 0, ks, by omega, rfl, ⟨rfl⟩, ⟨by have := KL.out; omega⟩, HKK, HSM, HO, BL, HB⟩
      case round =>
        clear HSM HO BL HB HKK KL KL1 HKS HX HI
        obtain ⟨x, j, ks, hj, rfl, HX, KL1, HKJ, HSM, HO, BL, HB⟩ := hrel
        have HJ := AM hj
        clear hj
        by_cases c1 : j < 3
        · have x1 : decide (x < 3) = true := decide_eq_true (by have := HX.out; omega)
          have p2_ : (0 ≤ x) = True := eq_true (by rw [HX.out]; omega)
          have q2_ : (x < 3) = True := eq_true (by rw [HX.out]; omega)
          obtain ⟨e0, e1⟩ := kc_row6 BL.out j c1 x HX.out
          have HJ3 := AM c1
          have HKQ := AM ((kc_by_step p1 p2 p3 S ks j c1).symm.trans HKJ.out)
          have HD := AM (kc_d_pos j)
          clear c1 HKJ
          generalize kc_q p1 p2 p3 j = Q at e0 HKQ
          generalize kc_d j = D at e1 HKQ HD
          go_wp2
          have BD : Aside0 ((wr.alloc (Obj.cells #[.int .i64 Q, .int .i64 D] 258)).heap[wr.heap.size]? = some (.cells #[.int .i64 Q, .int .i64 D] 258 (0, 0))) := ⟨blk_new _ _⟩
          have BLT2 : Aside0 (gl < wr.heap.size) := ⟨blk_lt BL.out⟩
          replace HSM := AM (sm_below HSM.out ((Below.refl wr.heap.size wr).alloc (Nat.le_refl _) (Obj.cells #[.int .i64 Q, .int .i64 D] 258)))
          replace HO := AM (Kd.R_alloc HO.out (Obj.cells #[.int .i64 Q, .int .i64 D] 258))
          replace BL := AM (blk_alloc BL.out (Obj.cells #[.int .i64 Q, .int .i64 D] 258))
          replace HB := AM (HB.out.alloc HB.out.size (Obj.cells #[.int .i64 Q, .int .i64 D] 258))
          clear e0 e1 x1 p2_ q2_
          obtain ⟨g10, hg10⟩ : ∃ g, wr.heap.size = g := ⟨_, rfl⟩
          rw [hg10] at BD BLT2 ⊢
          clear hg10
          generalize wr.alloc (Obj.cells #[.int .i64 Q, .int .i64 D] 258) = w8 at BD BL HSM HO HB ⊢
          have HN0 : Aside0 (Kd.R (Kd.int .i64) 2 w8 w.heap.size (fun k => k ≠ B) (.slice none 0 0) ([] : List Int)) := ⟨Kd.R_nil _ _ _ _ _⟩
          go_loopg [11, 53] (S.length : Nat) (fun (q : Nat) v11 v53 w' => ∃ (u : Value) (seen : List Int) (y : Int) (i : Nat) (ks : List ByteArray), i + q = S.length ∧ v11 = u ∧ v53 = .int .i64 y ∧ Aside0 (y = (i : Int)) ∧ Aside0 (seen.length ≤ i) ∧ Aside0 (ks.length ≤ 100 + 100 * j + i) ∧ Aside0 (kc_by p1 p2 p3 S (3 - (j + 1)) (kc_some Q D (S.drop i) seen ks) = K) ∧ Aside0 (Kd.R (Kd.int .i64) 2 w' w.heap.size (fun k => k ≠ B) u seen) ∧ Aside0 (sm_set Try.prog w' B ks) ∧ Aside0 (Kd.R k132 132 w' w.heap.size (fun k => k ≠ B) (.slice Ao S.length co) S) ∧ Aside0 (w'.heap[gl]? = some (.cells #[.int .i64 p1, .int .i64 1, .int .i64 p2, .int .i64 7, .int .i64 p3, .int .i64 30] 258 (0, 0))) ∧ Aside0 (w'.heap[g10]? = some (.cells #[.int .i64 Q, .int .i64 D] 258 (0, 0))) ∧ Aside0 (Below w.heap.size w w'))
          case atStart => exact ⟨_, [], 0, 0, ks, by omega, rfl, rfl, ⟨rfl⟩, ⟨Nat.le_refl _⟩, ⟨by have := KL1.out; omega⟩, ⟨by rw [List.drop_zero]; exact HKQ.out⟩, HN0, HSM, HO, BL, BD, HB⟩
          case round =>
            clear HSM HO BL HB HN0 BD HKQ KL1
            obtain ⟨u, seen, y, i, ks, hi, rfl, rfl, HY0, HSN, KL1, HKQ, HN, HSM, HO, BL, BD, HB⟩ := hrel
            have HI := AM hi
            clear hi
            by_cases c1 : i < S.length
            · skip
              have x1 : decide (y < (S.length : Int)) = true := decide_eq_true (by rw [HY0.out]; omega)
              have C1 := AM c1
              have p2_ : (0 ≤ y) = True := eq_true (by rw [HY0.out]; omega)
              have q2_ : (y < (S.length : Int)) = True := eq_true (by rw [HY0.out]; omega)
              obtain ⟨ad, e1, hx0, hx1, hx2⟩ := at_T132 (Kd.R_reads' HO.out).2.2 y (by rw [HY0.out]; omega) (by rw [HY0.out]; omega)
              subst e1
              have NZ : Aside0 ((rd_T132 S y).f0.size ≤ 1000) := ⟨HZ.out _ (by rw [HY0.out]; exact kc_rd_mem S i c1)⟩
              have HT : Aside0 (S.drop i = rd_T132 S y :: S.drop (i + 1)) := ⟨by rw [HY0.out]; exact kc_drop S i c1⟩
              have KL : Aside0 (ks.length ≤ 1000) := ⟨by have := KL1.out; have := HJ3.out; have := HSL.out; have := HLL.out; omega⟩
              clear c1
              obtain ⟨kk, hkk⟩ : ∃ kk, wrap64 (Int.tdiv (rd_T132 S y).f1 D) = kk := ⟨_, rfl⟩
              have hkk2 : IntKind.i64.wrap (Int.tdiv (rd_T132 S y).f1 D) = kk := (i64_w _).trans hkk
              have n1 : (D = 0) = False := eq_false (by have := HD.out; omega)
              have n2 : (D == 0) = false := by rw [beq_eq_false_iff_ne]; have := HD.out; omega
              have d1 : (wr.alloc (Obj.cells #[.string (rd_T132 S y).f0, .int .i64 (rd_T132 S y).f1, .string (rd_T132 S y).f2] 132)).cell? ⟨g10, 1, none⟩ = some (.int .i64 D) := (blk_cell (blk_alloc BD.out _) 1).trans rfl
              go_wp2
              have B13 : Aside0 ((wr.alloc (Obj.cells #[.string (rd_T132 S y).f0, .int .i64 (rd_T132 S y).f1, .string (rd_T132 S y).f2] 132)).heap[wr.heap.size]? = some (.cells #[.string (rd_T132 S y).f0, .int .i64 (rd_T132 S y).f1, .string (rd_T132 S y).f2] 132 (0, 0))) := ⟨blk_new _ _⟩
              replace HSM := AM (sm_below HSM.out ((Below.refl wr.heap.size wr).alloc (Nat.le_refl _) (Obj.cells #[.string (rd_T132 S y).f0, .int .i64 (rd_T132 S y).f1, .string (rd_T132 S y).f2] 132)))
              replace HO := AM (Kd.R_alloc HO.out (Obj.cells #[.string (rd_T132 S y).f0, .int .i64 (rd_T132 S y).f1, .string (rd_T132 S y).f2] 132))
              replace HN := AM (Kd.R_alloc HN.out (Obj.cells #[.string (rd_T132 S y).f0, .int .i64 (rd_T132 S y).f1, .string (rd_T132 S y).f2] 132))
              replace BL := AM (blk_alloc BL.out (Obj.cells #[.string (rd_T132 S y).f0, .int .i64 (rd_T132 S y).f1, .string (rd_T132 S y).f2] 132))
              replace BD := AM (blk_alloc BD.out (Obj.cells #[.string (rd_T132 S y).f0, .int .i64 (rd_T132 S y).f1, .string (rd_T132 S y).f2] 132))
              replace HB := AM (HB.out.alloc HB.out.size (Obj.cells #[.string (rd_T132 S y).f0, .int .i64 (rd_T132 S y).f1, .string (rd_T132 S y).f2] 132))
              have HKK2 := AM hkk
              clear hx0 hx1 hx2 d1 n1 n2 hkk hkk2 x1 p2_ q2_
              obtain ⟨g13, hg13⟩ : ∃ g, wr.heap.size = g := ⟨_, rfl⟩
              rw [hg13] at B13 ⊢
              clear hg13
              generalize wr.alloc (Obj.cells #[.string (rd_T132 S y).f0, .int .i64 (rd_T132 S y).f1, .string (rd_T132 S y).f2] 132) = w9 at B13 BD BL HSM HO HN HB ⊢
              obtain ⟨Au, cu, eu⟩ := Kd.R_slice HN.out
              subst eu
              obtain ⟨b, hb⟩ : ∃ b, seen.any (fun z => z == kk) = b := ⟨_, rfl⟩
              obtain ⟨b2, hb2⟩ : ∃ b2, decide ((seen.length : Int) < Q) = b2 := ⟨_, rfl⟩
              have HQS : Aside0 (kc_some Q D (S.drop i) seen ks = if (!b && b2) = true then kc_some Q D (S.drop (i + 1)) (seen ++ [kk]) ((rd_T132 S y).f0 :: ks) else kc_some Q D (S.drop (i + 1)) seen ks) := ⟨by rw [HT.out, kc_some, HKK2.out, hb, hb2]⟩
              have HBQ := AM hb
              have HB2Q := AM hb2
              have d0 : w9.cell? ⟨g10, 0, none⟩ = some (.int .i64 Q) := (blk_cell BD.out 0).trans rfl
              clear hb hb2
              cases b
              case true =>
                clear HB2Q
                go_quiet ((first | (go_at_call 220; exact Calls.quiet_of_same (kc_contains Au cu seen kk _ HBQ.out (by have := HSN.out; have := HI.out; have := HSL.out; have := HLL.out; omega) _ (by (repeat (first | exact (Kd.R_reads' HN.out).2.2 | (with_reducible refine Kd.C_alloc ?_ _) | (with_reducible refine Kd.C_drewN ?_ _) | (with_reducible refine Kd.C_drew ?_)))))) | (go_at_call 191; exact Calls.quiet_of_same (kc_sizei Au seen.length cu _))))
                generalize hq : World.drewN _ _ = w10
                replace HSM : Aside0 (sm_set Try.prog w10 B ks) := ⟨by rw [← hq]; exact sm_below HSM.out (pw_below_drewN (Below.refl _ _) _)⟩
                replace HO : Aside0 (Kd.R k132 132 w10 w.heap.size (fun k => k ≠ B) (.slice (some ad) S.length co) S) := ⟨by rw [← hq]; exact Kd.R_drewN HO.out _⟩
                replace HN : Aside0 (Kd.R (Kd.int .i64) 2 w10 w.heap.size (fun k => k ≠ B) (.slice Au seen.length cu) seen) := ⟨by rw [← hq]; exact Kd.R_drewN HN.out _⟩
                replace BL : Aside0 (w10.heap[gl]? = some (.cells #[.int .i64 p1, .int .i64 1, .int .i64 p2, .int .i64 7, .int .i64 p3, .int .i64 30] 258 (0, 0))) := ⟨by rw [← hq]; exact blk_drewN BL.out _⟩
                replace BD : Aside0 (w10.heap[g10]? = some (.cells #[.int .i64 Q, .int .i64 D] 258 (0, 0))) := ⟨by rw [← hq]; exact blk_drewN BD.out _⟩
                replace B13 : Aside0 (w10.heap[g13]? = some (.cells #[.string (rd_T132 S y).f0, .int .i64 (rd_T132 S y).f1, .string (rd_T132 S y).f2] 132 (0, 0))) := ⟨by rw [← hq]; exact blk_drewN B13.out _⟩
                replace HB : Aside0 (Below w.heap.size w w10) := ⟨by rw [← hq]; exact pw_below_drewN HB.out _⟩
                clear hq d0
                try go_wp2
                go_roundg (S.length - (i + 1))
                case measure => have := HI.out; have := C1.out; omega
                case rel => exact ⟨_, seen, _, i + 1, ks, (by have := HI.out; have := C1.out; omega), rfl, rfl, ⟨kc_nxt y i HY0.out (by have := C1.out; have := HSL.out; have := HLL.out; omega)⟩, ⟨by have := HSN.out; omega⟩, ⟨by have := KL1.out; omega⟩, ⟨by have h := HKQ.out; rw [HQS.out] at h; exact h⟩, HN, HSM, HO, BL, BD, HB⟩
              case false =>
                cases b2
                case false =>
                  have y2 := HB2Q.out
                  go_quiet ((first | (go_at_call 220; exact Calls.quiet_of_same (kc_contains Au cu seen kk _ HBQ.out (by have := HSN.out; have := HI.out; have := HSL.out; have := HLL.out; omega) _ (by (repeat (first | exact (Kd.R_reads' HN.out).2.2 | (with_reducible refine Kd.C_alloc ?_ _) | (with_reducible refine Kd.C_drewN ?_ _) | (with_reducible refine Kd.C_drew ?_)))))) | (go_at_call 191; exact Calls.quiet_of_same (kc_sizei Au seen.length cu _))))
                  generalize hq : World.drewN _ _ = w10
                  replace HSM : Aside0 (sm_set Try.prog w10 B ks) := ⟨by rw [← hq]; exact sm_below HSM.out (pw_below_drewN (Below.refl _ _) _)⟩
                  replace HO : Aside0 (Kd.R k132 132 w10 w.heap.size (fun k => k ≠ B) (.slice (some ad) S.length co) S) := ⟨by rw [← hq]; exact Kd.R_drewN HO.out _⟩
                  replace HN : Aside0 (Kd.R (Kd.int .i64) 2 w10 w.heap.size (fun k => k ≠ B) (.slice Au seen.length cu) seen) := ⟨by rw [← hq]; exact Kd.R_drewN HN.out _⟩
                  replace BL : Aside0 (w10.heap[gl]? = some (.cells #[.int .i64 p1, .int .i64 1, .int .i64 p2, .int .i64 7, .int .i64 p3, .int .i64 30] 258 (0, 0))) := ⟨by rw [← hq]; exact blk_drewN BL.out _⟩
                  replace BD : Aside0 (w10.heap[g10]? = some (.cells #[.int .i64 Q, .int .i64 D] 258 (0, 0))) := ⟨by rw [← hq]; exact blk_drewN BD.out _⟩
                  replace B13 : Aside0 (w10.heap[g13]? = some (.cells #[.string (rd_T132 S y).f0, .int .i64 (rd_T132 S y).f1, .string (rd_T132 S y).f2] 132 (0, 0))) := ⟨by rw [← hq]; exact blk_drewN B13.out _⟩
                  replace HB : Aside0 (Below w.heap.size w w10) := ⟨by rw [← hq]; exact pw_below_drewN HB.out _⟩
                  clear hq d0
                  try go_wp2
                  go_roundg (S.length - (i + 1))
                  case measure => have := HI.out; have := C1.out; omega
                  case rel => exact ⟨_, seen, _, i + 1, ks, (by have := HI.out; have := C1.out; omega), rfl, rfl, ⟨kc_nxt y i HY0.out (by have := C1.out; have := HSL.out; have := HLL.out; omega)⟩, ⟨by have := HSN.out; omega⟩, ⟨by have := KL1.out; omega⟩, ⟨by have h := HKQ.out; rw [HQS.out] at h; exact h⟩, HN, HSM, HO, BL, BD, HB⟩
                case true =>
                  have y2 := HB2Q.out
                  go_quiet ((first | (go_at_call 220; exact Calls.quiet_of_same (kc_contains Au cu seen kk _ HBQ.out (by have := HSN.out; have := HI.out; have := HSL.out; have := HLL.out; omega) _ (by (repeat (first | exact (Kd.R_reads' HN.out).2.2 | (with_reducible refine Kd.C_alloc ?_ _) | (with_reducible refine Kd.C_drewN ?_ _) | (with_reducible refine Kd.C_drew ?_)))))) | (go_at_call 191; exact Calls.quiet_of_same (kc_sizei Au seen.length cu _))))
                  generalize hq : World.drewN _ _ = w10
                  replace HSM : Aside0 (sm_set Try.prog w10 B ks) := ⟨by rw [← hq]; exact sm_below HSM.out (pw_below_drewN (Below.refl _ _) _)⟩
                  replace HO : Aside0 (Kd.R k132 132 w10 w.heap.size (fun k => k ≠ B) (.slice (some ad) S.length co) S) := ⟨by rw [← hq]; exact Kd.R_drewN HO.out _⟩
                  replace HN : Aside0 (Kd.R (Kd.int .i64) 2 w10 w.heap.size (fun k => k ≠ B) (.slice Au seen.length cu) seen) := ⟨by rw [← hq]; exact Kd.R_drewN HN.out _⟩
                  replace BL : Aside0 (w10.heap[gl]? = some (.cells #[.int .i64 p1, .int .i64 1, .int .i64 p2, .int .i64 7, .int .i64 p3, .int .i64 30] 258 (0, 0))) := ⟨by rw [← hq]; exact blk_drewN BL.out _⟩
                  replace BD : Aside0 (w10.heap[g10]? = some (.cells #[.int .i64 Q, .int .i64 D] 258 (0, 0))) := ⟨by rw [← hq]; exact blk_drewN BD.out _⟩
                  replace B13 : Aside0 (w10.heap[g13]? = some (.cells #[.string (rd_T132 S y).f0, .int .i64 (rd_T132 S y).f1, .string (rd_T132 S y).f2] 132 (0, 0))) := ⟨by rw [← hq]; exact blk_drewN B13.out _⟩
                  replace HB : Aside0 (Below w.heap.size w w10) := ⟨by rw [← hq]; exact pw_below_drewN HB.out _⟩
                  clear hq d0
                  clear y2
                  obtain ⟨Y, eY⟩ : ∃ Y : List Int, Y = [kk] := ⟨_, rfl⟩
                  have HY := AM eY
                  have HYl : Aside0 (Y.length = 1) := ⟨by rw [eY]; rfl⟩
                  clear eY
                  have s0 : w10.cell? ⟨g13, 0, none⟩ = some (.string (rd_T132 S y).f0) := (blk_cell B13.out 0).trans rfl
                  go_wp2_with (first | ((with_reducible refine gate_dst (N := 75) rfl ?_); refine Kd.R_lit (Kd.int .i64) _ 2 ?hgL2 (N := 75) ?hdL2 (xs := [kk]) (inner := [.int .i64 kk]) (ok := fun _ => True) (okp := fun _ => True) ?hrL2 ?hpL2 (fun _ hk => hk) trivial (Below.refl _ _) (Nat.le_refl _) (by simp) ?_; (case hdL2 => rfl); (case hgL2 => rfl); (case hrL2 => first | (go_simp; done) | (go_simp; rfl)); (case hpL2 => exact (Reps.one (show Kd.M (Kd.int .i64) _ _ _ kk [.int .i64 kk] from rfl) (Reps.none _ _))); intro u75 w11 ho hb hg_ hnew_; clear hg_ hnew_ s0; rw [← HY.out] at ho; have HN1 := AM (Kd.R_lower (Kd.R_new' ho (Kd.R_lt (ro_ HN.out))) (below_size HB.out)); replace HN := AM (Kd.R_elder' (ro_ HN.out) (Kd.R_base ho) hb); replace HSM := AM (sm_below HSM.out hb); replace HO := AM (Kd.R_below HO.out hb); replace BL := AM (blk_below BL.out hb); replace BD := AM (blk_below BD.out hb); replace B13 := AM (blk_below B13.out hb); replace HB := AM (below_step HB.out hb); obtain ⟨Al, col, eol⟩ := Kd.R_slice HN1.out; subst eol; clear hb ho) | ((with_reducible refine gate_builtin (b := .append) (xs := #[.tmp 73, .tmp 75]) rfl ?_); at_builtin; refine Kd.R_append_rows (Kd.int .i64) (w0 := w) w.heap.size rfl (.tmp 73) (.tmp 75) 82 2 (.int .i64 0) 8 rfl Try.underlying82 kc_info2 rfl (by decide) (by omega) (.slice Au seen.length cu) seen Y _ _ _ (fun k_ => k_ ≠ B ∧ some k_ ≠ (.slice Al Y.length col : Value).ownBlock) (fun _ => False) rfl rfl ?aO ?aR (fun _ _ h => h) (fun _ h => h.elim) ?aF ?aB ?aS ?aL ?_; (case aR => repeat (first | exact (Kd.R_reads' HN1.out).2.2 | (with_reducible refine Kd.C_alloc ?_ _) | (with_reducible refine Kd.C_drewN ?_ _) | (with_reducible refine Kd.C_drew ?_))); (case aB => exact HB.out); (case aF => exact (fun k_ hk => ⟨fun e => by have := sm_lt HSM.out; omega, Kd.fresh' (Kd.R_lt (ro_ HN1.out)) k_ hk⟩)); (case aO => exact (ro_ HN.out)); (case aS => exact (below_size HB.out)); (case aL => have := HYl.out; have := HSN.out; have := HI.out; have := HSL.out; have := HLL.out; omega); intro u76 w12 ho hb hg hat; have hno := HN.out.1; replace HSM := AM (sm_grown HSM.out hg (fun e => (hno B e.symm).1 rfl)); replace HO := AM (Kd.R_over' HO.out (Kd.R_typed HN.out) (by decide) hg); replace BL := AM (blk_grown BL.out hg (Kd.R_ne HN.out BL.out (by decide))); replace BD := AM (blk_grown BD.out hg (Kd.R_ne HN.out BD.out (by decide))); replace B13 := AM (blk_grown B13.out hg (Kd.R_ne HN.out B13.out (by decide))); replace HB := AM hb; replace HN := AM (Kd.R_mono ho (fun _ hk => hk.1)); clear HN1 ho hb hg hat hno; have s0 : w12.cell? ⟨g13, 0, none⟩ = some (.string (rd_T132 S y).f0) := (blk_cell B13.out 0).trans rfl) | (at_mapUpdate; refine wpList_mapUpdate_own _ rfl _ _ _ 212 rfl 9 4 (Maps.string_keyed Try.underlying9) Try.underlying212 _ B ks.length (sm_D ks) rfl HSM.out (by have := KL.out; unfold maxLen; omega) _ _ _ rfl rfl (WideMaps.keyOf_string_mk Try.underlying9 (by have := NZ.out; unfold maxLen; omega)) _ [] (plainElem_bool (H := Unit) Try.underlying4 true) ?_; intro w7 hown hgrow; have HS2 : Aside0 (sm_set Try.prog w7 B ((rd_T132 S y).f0 :: ks)) := AM hown; have HG := AM hgrow; clear hown hgrow))
                  have NG1 : gl ≠ B := by have := BLT.out; omega
                  have NG2 : g10 ≠ B := by have := BLT.out; have := BLT2.out; omega
                  replace BL := AM (blk_grown BL.out HG.out (by intro e; injection e with e; exact NG1 e))
                  replace BD := AM (blk_grown BD.out HG.out (by intro e; injection e with e; exact NG2 e))
                  replace HO := AM (Kd.R_grown HO.out HG.out (fun k hk e => by injection e with e; exact hk e))
                  replace HN := AM (Kd.R_grown HN.out HG.out (fun k hk e => by injection e with e; exact hk e))
                  replace HB := AM (HB.out.grown HG.out HB.out.size (fun j hj => by cases hj; exact GB.out))
                  clear HG HSM B13 s0 NG1 NG2
                  try go_wp2
                  go_roundg (S.length - (i + 1))
                  case measure => have := HI.out; have := C1.out; omega
                  case rel => exact ⟨_, seen ++ Y, _, i + 1, _ :: ks, (by have := HI.out; have := C1.out; omega), rfl, rfl, ⟨kc_nxt y i HY0.out (by have := C1.out; have := HSL.out; have := HLL.out; omega)⟩, ⟨by rw [List.length_append, HYl.out]; have := HSN.out; omega⟩, ⟨by rw [List.length_cons]; have := KL1.out; omega⟩, ⟨by have h := HKQ.out; rw [HQS.out] at h; rw [HY.out]; exact h⟩, HN, HS2, HO, BL, BD, HB⟩
            · have x1 : decide (y < (S.length : Int)) = false := decide_eq_false (by rw [HY0.out]; omega)
              have hI : i = S.length := by have := HI.out; omega
              have HKN : Aside0 (kc_by p1 p2 p3 S (3 - (j + 1)) ks = K) := ⟨by have h := HKQ.out; rw [hI, List.drop_length] at h; exact h⟩
              have KLN : Aside0 (ks.length ≤ 100 + 100 * (j + 1)) := ⟨by have := KL1.out; have := HSL.out; have := HLL.out; omega⟩
              clear c1 hI
              go_wp2
              go_roundg (2 - j)
              case measure => have := HJ.out; have := HJ3.out; omega
              case rel => exact ⟨_, j + 1, ks, (by have := HJ.out; have := HJ3.out; omega), rfl, ⟨kc_nxt x j HX.out (by have := HJ3.out; omega)⟩, KLN, HKN, HSM, HO, BL, HB⟩
        · have x1 : decide (x < 3) = false := decide_eq_false (by rw [HX.out]; omega)
          obtain rfl : j = 3 := by have := HJ.out; omega
          clear c1
          go_wp2
          go_ret
          exact ⟨B, rfl, (HKJ.out ▸ HSM.out : sm_set Try.prog _ B K), HB.out⟩
/-! chosen -/
theorem kc_zero4 (w : World) : (zeroValue 4).run Try.prog w = .ok (.bool false) w := by kernel_rfl
/-- those that are kept, or are not. -/
def kc_pick (ks : List ByteArray) (l : List (S132)) (is_ : Bool) : List ByteArray := (l.filter (fun s => (ks.any fun u => u.toList == s.f0.toList) == is_)).map (·.f0)
theorem kc_pick_snoc (ks : List ByteArray) (l : List (S132)) (s : S132) (is_ : Bool) : kc_pick ks (l ++ [s]) is_ = if ((ks.any fun u => u.toList == s.f0.toList) == is_) = true then kc_pick ks l is_ ++ [s.f0] else kc_pick ks l is_ := by
  unfold kc_pick
  rw [List.filter_append, List.map_append]
  by_cases h : ((ks.any fun u => u.toList == s.f0.toList) == is_) = true
  · rw [if_pos h]
    simp only [List.filter_cons, List.filter_nil, if_pos h, List.map_cons, List.map_nil]
  · rw [if_neg h]
    simp only [List.filter_cons, List.filter_nil, if_neg h, List.map_nil, List.append_nil]
def impl_chosen.f (k : Nat) (a0_0 : Int) (a0_1 : Int) (a0_2 : Int) (a0_3 : Int) (l1 : List (S132)) (a2 : Bool) : Option (List ByteArray) := (impl_PolicyRight.f a0_0 a0_1 a0_2 a0_3).bind fun a => if a = true then ((impl_SnapsRight.f k l1).bind fun b => if b = true then (if (decide (0 ≤ a0_0) && kc_ok l1) = true then some (kc_pick (kc_kept a0_0 a0_1 a0_2 a0_3 l1) l1 a2) else none) else some []) else some []
theorem impl_chosen.mono : ∀ a0 a1 a2 a3 a4 a5 k, LeO (impl_chosen.f k a0 a1 a2 a3 a4 a5) (impl_chosen.f (k + 1) a0 a1 a2 a3 a4 a5) := by
  intro a0 a1 a2 a3 a4 a5 k
  unfold impl_chosen.f
  repeat' first
  | (with_reducible exact impl_SnapsRight.mono _ _)
  | (with_reducible exact LeO.refl _)
  | (with_reducible refine LeO.ite ?_ ?_)
  | (with_reducible refine LeO.bind ?_ (fun _ => ?_))
set_option maxHeartbeats 4000000 in
set_option maxRecDepth 100000 in
theorem kc_no1 (p0 p1 p2 p3 : Int) (A : Option Addr) (c : Nat) (l : List (S132)) (is_ : Bool) (w : World) (hr : Kd.C k132 w A l.length l) (hc : l.length ≤ c) (hp : impl_PolicyRight.f p0 p1 p2 p3 = some false) :
    Calls Try.prog 101 #[.agg #[.int .i64 p0, .int .i64 p1, .int .i64 p2, .int .i64 p3], .slice A l.length c, .bool is_] w fun e w' => ∃ v0_ : Value, e = .returned (v0_) ∧ Kd.R Kd.string 9 w' w.heap.size (fun _ => True) v0_ ([] : List ByteArray) ∧ Below w.heap.size w w' := by
  have HPR := AM hp
  clear hp hr hc
  go_enter Try.func101, Try.ntmps101
  go_wp2_with (first | ((with_reducible refine gate_dst (N := 3) rfl ?_); refine be_ 3 #[.int .i64 p0, .int .i64 p1, .int .i64 p2, .int .i64 p3] 56 ?_; intro g3 hg w1 hbox hb; have BK := AM hbox; have HB := AM hb; clear hb hbox hg; have c0 : w1.cell? ⟨g3, 0, none⟩ = some (.int .i64 p0) := (blk_cell BK.out 0).trans rfl; have c1 : w1.cell? ⟨g3, 1, none⟩ = some (.int .i64 p1) := (blk_cell BK.out 1).trans rfl; have c2 : w1.cell? ⟨g3, 2, none⟩ = some (.int .i64 p2) := (blk_cell BK.out 2).trans rfl; have c3 : w1.cell? ⟨g3, 3, none⟩ = some (.int .i64 p3) := (blk_cell BK.out 3).trans rfl) | (go_at_call 170; refine (impl_PolicyRight.calls p0 p1 p2 p3 false _ HPR.out).mono ?_; rintro e w2 ⟨rfl, hb⟩; clear c0 c1 c2 c3; replace BK := AM (blk_below BK.out hb); replace HB := AM (below_step HB.out hb); clear hb; have c0 : w2.cell? ⟨g3, 0, none⟩ = some (.int .i64 p0) := (blk_cell BK.out 0).trans rfl; have c1 : w2.cell? ⟨g3, 1, none⟩ = some (.int .i64 p1) := (blk_cell BK.out 1).trans rfl; have c2 : w2.cell? ⟨g3, 2, none⟩ = some (.int .i64 p2) := (blk_cell BK.out 2).trans rfl; have c3 : w2.cell? ⟨g3, 3, none⟩ = some (.int .i64 p3) := (blk_cell BK.out 3).trans rfl))
  go_ret
  exact ⟨_, rfl, Kd.R_nil _ _ _ _ _, HB.out⟩
set_option maxHeartbeats 4000000 in
set_option maxRecDepth 100000 in
theorem kc_no2 (k : Nat) (p0 p1 p2 p3 : Int) (A : Option Addr) (c : Nat) (l : List (S132)) (is_ : Bool) (w : World) (hr : Kd.C k132 w A l.length l) (hc : l.length ≤ c) (hp : impl_PolicyRight.f p0 p1 p2 p3 = some true) (hs : impl_SnapsRight.f k l = some false) :
    Calls Try.prog 101 #[.agg #[.int .i64 p0, .int .i64 p1, .int .i64 p2, .int .i64 p3], .slice A l.length c, .bool is_] w fun e w' => ∃ v0_ : Value, e = .returned (v0_) ∧ Kd.R Kd.string 9 w' w.heap.size (fun _ => True) v0_ ([] : List ByteArray) ∧ Below w.heap.size w w' := by
  have HPR := AM hp
  have HSR := AM hs
  have HR := AM hr
  have HC := AM hc
  clear hp hs hr hc
  go_enter Try.func101, Try.ntmps101
  go_wp2_with (first | ((with_reducible refine gate_dst (N := 3) rfl ?_); refine be_ 3 #[.int .i64 p0, .int .i64 p1, .int .i64 p2, .int .i64 p3] 56 ?_; intro g3 hg w1 hbox hb; have BK := AM hbox; have HB := AM hb; clear hb hbox hg; have c0 : w1.cell? ⟨g3, 0, none⟩ = some (.int .i64 p0) := (blk_cell BK.out 0).trans rfl; have c1 : w1.cell? ⟨g3, 1, none⟩ = some (.int .i64 p1) := (blk_cell BK.out 1).trans rfl; have c2 : w1.cell? ⟨g3, 2, none⟩ = some (.int .i64 p2) := (blk_cell BK.out 2).trans rfl; have c3 : w1.cell? ⟨g3, 3, none⟩ = some (.int .i64 p3) := (blk_cell BK.out 3).trans rfl) | (go_at_call 170; refine (impl_PolicyRight.calls p0 p1 p2 p3 true _ HPR.out).mono ?_; rintro e w2 ⟨rfl, hb⟩; clear c0 c1 c2 c3; replace BK := AM (blk_below BK.out hb); replace HB := AM (below_step HB.out hb); clear hb; have c0 : w2.cell? ⟨g3, 0, none⟩ = some (.int .i64 p0) := (blk_cell BK.out 0).trans rfl; have c1 : w2.cell? ⟨g3, 1, none⟩ = some (.int .i64 p1) := (blk_cell BK.out 1).trans rfl; have c2 : w2.cell? ⟨g3, 2, none⟩ = some (.int .i64 p2) := (blk_cell BK.out 2).trans rfl; have c3 : w2.cell? ⟨g3, 3, none⟩ = some (.int .i64 p3) := (blk_cell BK.out 3).trans rfl) | (go_at_call 171; refine (impl_SnapsRight.calls k A c l false _ (Kd.C_below HR.out HB.out) HC.out HSR.out).mono ?_; rintro e w3 ⟨rfl, hb⟩; clear c0 c1 c2 c3; replace BK := AM (blk_below BK.out hb); replace HB := AM (below_step HB.out hb); clear hb; have c0 : w3.cell? ⟨g3, 0, none⟩ = some (.int .i64 p0) := (blk_cell BK.out 0).trans rfl; have c1 : w3.cell? ⟨g3, 1, none⟩ = some (.int .i64 p1) := (blk_cell BK.out 1).trans rfl; have c2 : w3.cell? ⟨g3, 2, none⟩ = some (.int .i64 p2) := (blk_cell BK.out 2).trans rfl; have c3 : w3.cell? ⟨g3, 3, none⟩ = some (.int .i64 p3) := (blk_cell BK.out 3).trans rfl))
  go_ret
  exact ⟨_, rfl, Kd.R_nil _ _ _ _ _, HB.out⟩
set_option maxHeartbeats 4000000 in
set_option maxRecDepth 100000 in
theorem kc_yes (k : Nat) (p0 p1 p2 p3 : Int) (A : Option Addr) (c : Nat) (l : List (S132)) (is_ : Bool) (w : World) (hr : Kd.C k132 w A l.length l) (hc : l.length ≤ c) (hp : impl_PolicyRight.f p0 p1 p2 p3 = some true) (hs : impl_SnapsRight.f k l = some true) (h0 : 0 ≤ p0) (hok : kc_ok l = true) :
    Calls Try.prog 101 #[.agg #[.int .i64 p0, .int .i64 p1, .int .i64 p2, .int .i64 p3], .slice A l.length c, .bool is_] w fun e w' => ∃ v0_ : Value, e = .returned (v0_) ∧ Kd.R Kd.string 9 w' w.heap.size (fun _ => True) v0_ (kc_pick (kc_kept p0 p1 p2 p3 l) l is_) ∧ Below w.heap.size w w' := by
  have HPR := AM hp
  have HSR := AM hs
  have HR := AM hr
  have HC := AM hc
  have HP0 := AM h0
  have HOK := AM hok
  have HLL := AM (kc_ok_of hok).2.1
  have HZ := AM (kc_ok_of hok).2.2
  obtain ⟨ks, hks⟩ : ∃ ks, kc_kept p0 p1 p2 p3 l = ks := ⟨_, rfl⟩
  rw [hks]
  have HKS := AM hks
  clear hp hs hr hc h0 hok hks
  go_enter Try.func101, Try.ntmps101
  go_wp2_with (first | ((with_reducible refine gate_dst (N := 3) rfl ?_); refine be_ 3 #[.int .i64 p0, .int .i64 p1, .int .i64 p2, .int .i64 p3] 56 ?_; intro g3 hg w1 hbox hb; have BK := AM hbox; have HB := AM hb; clear hb hbox hg; have c0 : w1.cell? ⟨g3, 0, none⟩ = some (.int .i64 p0) := (blk_cell BK.out 0).trans rfl; have c1 : w1.cell? ⟨g3, 1, none⟩ = some (.int .i64 p1) := (blk_cell BK.out 1).trans rfl; have c2 : w1.cell? ⟨g3, 2, none⟩ = some (.int .i64 p2) := (blk_cell BK.out 2).trans rfl; have c3 : w1.cell? ⟨g3, 3, none⟩ = some (.int .i64 p3) := (blk_cell BK.out 3).trans rfl) | (go_at_call 170; refine (impl_PolicyRight.calls p0 p1 p2 p3 true _ HPR.out).mono ?_; rintro e w2 ⟨rfl, hb⟩; clear c0 c1 c2 c3; replace BK := AM (blk_below BK.out hb); replace HB := AM (below_step HB.out hb); clear hb; have c0 : w2.cell? ⟨g3, 0, none⟩ = some (.int .i64 p0) := (blk_cell BK.out 0).trans rfl; have c1 : w2.cell? ⟨g3, 1, none⟩ = some (.int .i64 p1) := (blk_cell BK.out 1).trans rfl; have c2 : w2.cell? ⟨g3, 2, none⟩ = some (.int .i64 p2) := (blk_cell BK.out 2).trans rfl; have c3 : w2.cell? ⟨g3, 3, none⟩ = some (.int .i64 p3) := (blk_cell BK.out 3).trans rfl) | (go_at_call 171; refine (impl_SnapsRight.calls k A c l true _ (Kd.C_below HR.out HB.out) HC.out HSR.out).mono ?_; rintro e w3 ⟨rfl, hb⟩; clear c0 c1 c2 c3; replace BK := AM (blk_below BK.out hb); replace HB := AM (below_step HB.out hb); clear hb; have c0 : w3.cell? ⟨g3, 0, none⟩ = some (.int .i64 p0) := (blk_cell BK.out 0).trans rfl; have c1 : w3.cell? ⟨g3, 1, none⟩ = some (.int .i64 p1) := (blk_cell BK.out 1).trans rfl; have c2 : w3.cell? ⟨g3, 2, none⟩ = some (.int .i64 p2) := (blk_cell BK.out 2).trans rfl; have c3 : w3.cell? ⟨g3, 3, none⟩ = some (.int .i64 p3) := (blk_cell BK.out 3).trans rfl) | (go_at_call 172; refine (kc_kept_x p0 p1 p2 p3 HP0.out A c l HOK.out _ (Kd.C_below HR.out HB.out) HC.out).mono ?_; rintro e w4 ⟨B, rfl, hs, hb⟩; clear c0 c1 c2 c3; rw [HKS.out] at hs; have HSM := AM hs; replace HB := AM (below_step HB.out hb); clear hb hs BK))
  go_loopg [8, 24] (l.length : Nat) (fun (q : Nat) v8 v24 w' => ∃ (u : Value) (xs : List ByteArray) (x : Int) (i : Nat), i + q = l.length ∧ v8 = u ∧ v24 = .int .i64 x ∧ Aside0 (x = (i : Int)) ∧ Aside0 (xs.length ≤ i) ∧ Aside0 (xs = kc_pick ks (l.take i) is_) ∧ Aside0 (Kd.R Kd.string 9 w' w.heap.size (fun k => k ≠ B) u xs) ∧ Aside0 (sm_set Try.prog w' B ks) ∧ Aside0 (Below w.heap.size w w'))
  case atStart => exact ⟨_, [], 0, 0, by omega, rfl, rfl, ⟨rfl⟩, ⟨Nat.le_refl _⟩, ⟨rfl⟩, ⟨Kd.R_nil _ _ _ _ _⟩, HSM, HB⟩
  case round =>
    clear HSM HB
    obtain ⟨u, xs, x, i, hi, rfl, rfl, HX, HXL, HXS, HN, HSM, HB⟩ := hrel
    have HI := AM hi
    clear hi
    by_cases c1 : i < l.length
    · have x1 : decide (x < (l.length : Int)) = true := decide_eq_true (by have := HX.out; omega)
      have C1 := AM c1
      have p2_ : (0 ≤ x) = True := eq_true (by rw [HX.out]; omega)
      have q2_ : (x < (l.length : Int)) = True := eq_true (by rw [HX.out]; omega)
      obtain ⟨ad, e1, hx0, hx1, hx2⟩ := at_T132 (Kd.C_below HR.out HB.out) x (by rw [HX.out]; omega) (by rw [HX.out]; omega)
      subst e1
      have NZ : Aside0 ((rd_T132 l x).f0.size ≤ 1000) := ⟨HZ.out _ (by rw [HX.out]; exact kc_rd_mem l i c1)⟩
      have HT : Aside0 (l.take (i + 1) = l.take i ++ [rd_T132 l x]) := ⟨by rw [HX.out]; exact kc_take l i c1⟩
      clear c1
      have hlk := sm_look (sm_below HSM.out ((Below.refl wr.heap.size wr).alloc (Nat.le_refl _) (Obj.cells #[.string (rd_T132 l x).f0, .int .i64 (rd_T132 l x).f1, .string (rd_T132 l x).f2] 132))) Try.underlying9 Try.underlying4 Try.underlying212 (kc_zero4 _) (rd_T132 l x).f0 (by have := NZ.out; unfold maxLen; omega)
      obtain ⟨b, hb⟩ : ∃ b, (ks.any fun u => u.toList == (rd_T132 l x).f0.toList) = b := ⟨_, rfl⟩
      rw [hb] at hlk
      have HP : Aside0 (kc_pick ks (l.take (i + 1)) is_ = if (b == is_) = true then kc_pick ks (l.take i) is_ ++ [(rd_T132 l x).f0] else kc_pick ks (l.take i) is_) := ⟨by rw [HT.out, kc_pick_snoc, hb]⟩
      clear hb
      obtain ⟨e, he⟩ : ∃ e, (b == is_) = e := ⟨_, rfl⟩
      rw [he] at HP
      cases e
      case false =>
        go_wp2
        replace HSM := AM (sm_below HSM.out ((Below.refl wr.heap.size wr).alloc (Nat.le_refl _) (Obj.cells #[.string (rd_T132 l x).f0, .int .i64 (rd_T132 l x).f1, .string (rd_T132 l x).f2] 132)))
        replace HN := AM (Kd.R_alloc HN.out (Obj.cells #[.string (rd_T132 l x).f0, .int .i64 (rd_T132 l x).f1, .string (rd_T132 l x).f2] 132))
        replace HB := AM (HB.out.alloc HB.out.size (Obj.cells #[.string (rd_T132 l x).f0, .int .i64 (rd_T132 l x).f1, .string (rd_T132 l x).f2] 132))
        go_roundg (l.length - (i + 1))
        case measure => have := HI.out; have := C1.out; omega
        case rel => exact ⟨_, xs, _, i + 1, (by have := HI.out; have := C1.out; omega), rfl, rfl, ⟨kc_nxt x i HX.out (by have := C1.out; have := HLL.out; omega)⟩, ⟨by have := HXL.out; omega⟩, ⟨by rw [HP.out, if_neg (by decide)]; exact HXS.out⟩, HN, HSM, HB⟩
      case true =>
        obtain ⟨Y, eY⟩ : ∃ Y : List ByteArray, Y = [(rd_T132 l x).f0] := ⟨_, rfl⟩
        have HY := AM eY
        have HYl : Aside0 (Y.length = 1) := ⟨by rw [eY]; rfl⟩
        clear eY
        go_upto_region 9 with fail
        replace HSM := AM (sm_below HSM.out ((Below.refl wr.heap.size wr).alloc (Nat.le_refl _) (Obj.cells #[.string (rd_T132 l x).f0, .int .i64 (rd_T132 l x).f1, .string (rd_T132 l x).f2] 132)))
        replace HN := AM (Kd.R_alloc HN.out (Obj.cells #[.string (rd_T132 l x).f0, .int .i64 (rd_T132 l x).f1, .string (rd_T132 l x).f2] 132))
        replace HB := AM (HB.out.alloc HB.out.size (Obj.cells #[.string (rd_T132 l x).f0, .int .i64 (rd_T132 l x).f1, .string (rd_T132 l x).f2] 132))
        have B10 : (wr.alloc (Obj.cells #[.string (rd_T132 l x).f0, .int .i64 (rd_T132 l x).f1, .string (rd_T132 l x).f2] 132)).cell? ⟨wr.heap.size, 0, none⟩ = some (.string (rd_T132 l x).f0) := (blk_cell (blk_new wr (Obj.cells #[.string (rd_T132 l x).f0, .int .i64 (rd_T132 l x).f1, .string (rd_T132 l x).f2] 132)) 0).trans rfl
        clear hx0 hx1 hx2 hlk
        generalize wr.alloc (Obj.cells #[.string (rd_T132 l x).f0, .int .i64 (rd_T132 l x).f1, .string (rd_T132 l x).f2] 132) = w9 at B10 HSM HN HB ⊢
        generalize wr.heap.size = g10 at B10 ⊢
        obtain ⟨Au, cu, eu⟩ := Kd.R_slice HN.out
        subst eu
        go_wp2_with (first | ((with_reducible refine gate_dst (N := 37) rfl ?_); refine Kd.R_lit Kd.string _ 9 ?hgL3 (N := 37) ?hdL3 (xs := [(rd_T132 l x).f0]) (inner := [.string (rd_T132 l x).f0]) (ok := fun _ => True) (okp := fun _ => True) ?hrL3 ?hpL3 (fun _ hk => hk) trivial (Below.refl _ _) (Nat.le_refl _) (by simp) ?_; (case hdL3 => rfl); (case hgL3 => rfl); (case hrL3 => first | (go_simp; done) | (go_simp; rfl)); (case hpL3 => exact (Reps.one (show Kd.M Kd.string _ _ _ (rd_T132 l x).f0 [.string (rd_T132 l x).f0] from rfl) (Reps.none _ _))); intro u75 w11 ho hb hg_ hnew_; clear hg_ hnew_; rw [← HY.out] at ho; have HN1 := AM (Kd.R_lower (Kd.R_new' ho (Kd.R_lt (ro_ HN.out))) (below_size HB.out)); replace HN := AM (Kd.R_elder' (ro_ HN.out) (Kd.R_base ho) hb); replace HSM := AM (sm_below HSM.out hb); replace HB := AM (below_step HB.out hb); obtain ⟨Al, col, eol⟩ := Kd.R_slice HN1.out; subst eol; (try clear hb); (try clear ho)) | ((with_reducible refine gate_builtin (b := .append) (xs := #[.tmp 34, .tmp 37]) rfl ?_); at_builtin; refine Kd.R_append_rows Kd.string (w0 := w) w.heap.size rfl (.tmp 34) (.tmp 37) 54 9 (.string ⟨#[]⟩) 16 rfl Try.underlying54 info9 rfl (by decide) (by omega) (.slice Au xs.length cu) xs Y _ _ _ (fun k_ => k_ ≠ B ∧ some k_ ≠ (.slice Al Y.length col : Value).ownBlock) (fun _ => False) rfl rfl ?aO ?aR (fun _ _ h => h) (fun _ h => h.elim) ?aF ?aB ?aS ?aL ?_; (case aR => repeat (first | exact (Kd.R_reads' HN1.out).2.2 | (with_reducible refine Kd.C_alloc ?_ _) | (with_reducible refine Kd.C_drewN ?_ _) | (with_reducible refine Kd.C_drew ?_))); (case aB => exact HB.out); (case aF => exact (fun k_ hk => ⟨fun e => by have := sm_lt HSM.out; omega, Kd.fresh' (Kd.R_lt (ro_ HN1.out)) k_ hk⟩)); (case aO => exact (ro_ HN.out)); (case aS => exact (below_size HB.out)); (case aL => have := HYl.out; have := HXL.out; have := HI.out; have := HLL.out; omega); intro u76 w12 ho hb hg hat; have hno := HN.out.1; replace HSM := AM (sm_grown HSM.out hg (fun e => (hno B e.symm).1 rfl)); replace HB := AM hb; replace HN := AM (Kd.R_mono ho (fun _ hk => hk.1)); (try clear HN1); (try clear ho); (try clear hg); (try clear hat); (try clear hno)))
        go_roundg (l.length - (i + 1))
        case measure => have := HI.out; have := C1.out; omega
        case rel => exact ⟨_, xs ++ Y, _, i + 1, (by have := HI.out; have := C1.out; omega), rfl, rfl, ⟨kc_nxt x i HX.out (by have := C1.out; have := HLL.out; omega)⟩, ⟨by rw [List.length_append, HYl.out]; have := HXL.out; omega⟩, ⟨by rw [HP.out, if_pos trivial, ← HXS.out, HY.out]⟩, HN, HSM, HB⟩
    · have x1 : decide (x < (l.length : Int)) = false := decide_eq_false (by rw [HX.out]; omega)
      have hI : i = l.length := by have := HI.out; omega
      have HF : Aside0 (xs = kc_pick ks l is_) := ⟨by rw [HXS.out, hI, List.take_length]⟩
      clear c1 hI
      go_wp2
      go_ret
      exact ⟨_, rfl, (by have h := Kd.R_mono HN.out (fun (_ : Nat) _ => trivial); rw [HF.out] at h; exact h), HB.out⟩
theorem impl_chosen.calls (k : Nat) (a0_0 : Int) (a0_1 : Int) (a0_2 : Int) (a0_3 : Int) (A1 : Option Addr) (c1 : Nat) (l1 : List (S132)) (a2 : Bool) (r : List ByteArray) (w : World) (hr1 : Kd.C k132 w A1 l1.length l1) (hc1 : l1.length ≤ c1) (h : impl_chosen.f k a0_0 a0_1 a0_2 a0_3 l1 a2 = some r) :
    Calls Try.prog 101 #[.agg #[.int .i64 a0_0, .int .i64 a0_1, .int .i64 a0_2, .int .i64 a0_3], .slice A1 l1.length c1, .bool a2] w fun e w' => ∃ v0_ : Value, e = .returned (v0_) ∧ Kd.R Kd.string 9 w' w.heap.size (fun _ => True) v0_ r ∧ Below w.heap.size w w' := by
  unfold impl_chosen.f at h
  obtain ⟨a, ha, h⟩ := Option.bind_eq_some_iff.mp h
  cases a
  case false =>
    rw [if_neg (by decide)] at h
    obtain rfl := Option.some.inj h
    exact kc_no1 a0_0 a0_1 a0_2 a0_3 A1 c1 l1 a2 w hr1 hc1 ha
  case true =>
    rw [if_pos rfl] at h
    obtain ⟨b, hb, h⟩ := Option.bind_eq_some_iff.mp h
    cases b
    case false =>
      rw [if_neg (by decide)] at h
      obtain rfl := Option.some.inj h
      exact kc_no2 k a0_0 a0_1 a0_2 a0_3 A1 c1 l1 a2 w hr1 hc1 ha hb
    case true =>
      rw [if_pos rfl] at h
      by_cases hc : (decide (0 ≤ a0_0) && kc_ok l1) = true
      · rw [if_pos hc] at h
        obtain rfl := Option.some.inj h
        rw [Bool.and_eq_true, decide_eq_true_eq] at hc
        exact kc_yes k a0_0 a0_1 a0_2 a0_3 A1 c1 l1 a2 w hr1 hc1 ha hb hc.1 hc.2
      · rw [if_neg hc] at h
        cases h
end kc

end Go.Proofs.Ytfffdndeccipnaa.PFnExactKeep
