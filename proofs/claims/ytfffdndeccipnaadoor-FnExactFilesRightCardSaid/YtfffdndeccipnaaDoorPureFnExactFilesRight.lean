/- The plain law of FnExactFilesRight: at every list of files FilesRight answers as the reference. -/
import Derived.Test.YtfffdndeccipnaaDoorOkFnExactFilesRight
import Derived.Test.YtfffdndeccipnaaDoorVLibFnExactFilesRight
import Derived.Lib.SplitLaws
import Derived.Lib.CountLaws
import Derived.Lib.CutLaws
import Derived.Lib.IndexLaws
import Derived.Lib.IndexBytes
namespace Go.Proofs.YtfffdndeccipnaaDoor.Pure
open Go.RowKit Go.Proofs.YtfffdndeccipnaaDoor.PFnExactFilesRight Go.Proofs.YtfffdndeccipnaaDoor.Lib Go.Proofs.YtfffdndeccipnaaDoorW.PrintWords Go.Proofs.YtfffdndeccipnaaDoorW.PrintLast Go.Proofs.YtfffdndeccipnaaDoorW.PrintMore
set_option linter.unusedVariables false
set_option linter.unusedSimpArgs false
/-- a loop whose rounds each go on or end. -/
theorem loop_evx {σ ρ : Type} (F : Nat → σ → Int → Option ρ) (n : Nat) (inv : Nat → σ → Prop) (Q : ρ → Prop)
    (hstep : ∀ (i : Nat) (s : σ), i < n → inv i s → (∃ s', inv (i + 1) s' ∧ ∀ v, Ev (fun k => F k s' ((i + 1 : Nat) : Int)) v → Ev (fun k => F k s (i : Int)) v) ∨ Evs (fun k => F k s (i : Int)) Q)
    (hend : ∀ (s : σ), inv n s → Evs (fun k => F k s (n : Int)) Q) : ∀ (s : σ), inv 0 s → Evs (fun k => F k s 0) Q := by
  have main : ∀ (d i : Nat) (s : σ), i + d = n → inv i s → Evs (fun k => F k s (i : Int)) Q := by
    intro d
    induction d with
    | zero =>
      intro i s hi hv
      obtain rfl : i = n := by omega
      exact hend s hv
    | succ d ih =>
      intro i s hi hv
      rcases hstep i s (by omega) hv with ⟨s', hs', hv'⟩ | h
      · obtain ⟨v, h1, h2⟩ := ih (i + 1) s' (by omega) hs'
        exact ⟨v, hv' v h1, h2⟩
      · exact h
  intro s hs
  exact main n 0 s (by omega) hs
theorem wnat' (i n : Nat) (hi : i < n) (hn : n ≤ 9223372036854775807) : wrap64 ((i : Int) + 1) = ((i + 1 : Nat) : Int) := by rw [w64 (by omega) (by omega)]; omega
/-- a text as numbers. -/
def bl (t : ByteArray) : List Nat := t.data.toList.map UInt8.toNat
theorem bl_length (t : ByteArray) : (bl t).length = t.size := by unfold bl; rw [List.length_map]; exact data_length t
theorem bl_append (a b : ByteArray) : bl (a ++ b) = bl a ++ bl b := by simp [bl, ByteArray.data_append]
theorem bl_lt (t : ByteArray) : ∀ c ∈ bl t, c < 256 := by
  intro c hc
  obtain ⟨x, _, rfl⟩ := List.mem_map.1 hc
  exact x.toNat_lt
theorem bl_extract (t : ByteArray) (i j : Nat) : bl (t.extract i j) = ((bl t).take j).drop i := by
  simp only [bl, ByteArray.data_extract, Array.toList_extract, List.extract_eq_take_drop, List.map_take, List.map_drop]
  rw [List.drop_take]
theorem bl_inj {a b : ByteArray} (h : bl a = bl b) : a = b := by
  have h2 : a.data.toList = b.data.toList := by
    unfold bl at h
    exact (List.map_inj_right (fun x y q => UInt8.toNat_inj.1 q)).1 h
  cases a; cases b
  simp only at h2
  congr 1
  exact Array.toList_inj.1 h2
theorem bt_bl (t : ByteArray) (i : Nat) (h : i < t.size) : bt t (i : Int) = (((bl t)[i]'(by rw [bl_length]; exact h) : Nat) : Int) := by
  unfold bt
  simp only [Int.toNat_natCast]
  rw [dif_pos h]
  simp [bl]
  rfl
theorem bl_strOfNums (l : List Int) (h : ∀ x ∈ l, 0 ≤ x ∧ x < 256) : bl (strOfNums l) = l.map Int.toNat := by
  unfold bl strOfNums
  simp only [List.map_map]
  refine List.map_congr_left (fun x hx => ?_)
  have := h x hx
  simp only [Function.comp]
  rw [UInt8.toNat_ofNat']
  omega
theorem numL_range (m : Nat) : ∀ u, u < 128 ^ (m + 1) → ∀ x ∈ numL u, 0 ≤ x ∧ x < 256 := by
  induction m with
  | zero =>
    intro u hu x hx
    rw [numL_lt (by simpa using hu)] at hx
    simp at hx; subst hx
    simp at hu
    omega
  | succ m ih =>
    intro u hu x hx
    by_cases h : u < 128
    · rw [numL_lt h] at hx
      simp at hx; omega
    · rw [numL_ge h, List.mem_cons] at hx
      rcases hx with rfl | hx
      · omega
      · exact ih (u / 128) (by rw [Nat.div_lt_iff_lt_mul (by decide), ← Nat.pow_succ]; exact hu) x hx
theorem bl_putNum (n : Int) (h0 : -9223372036854775808 ≤ n) (h1 : n ≤ 9223372036854775807) : bl (putNum n) = (numL (fold n)).map Int.toNat :=
  bl_strOfNums _ (numL_range 9 _ (Nat.lt_of_lt_of_le (fold_lt n h0 h1) (by decide)))
theorem empty_list : ((⟨#[]⟩ : ByteArray).toList == ([] : List UInt8)) = true := by
  rw [ByteArray.toList_eq]; rfl
theorem not_empty (p : ByteArray) (h : 0 < p.size) : (p.toList == ([] : List UInt8)) = false := by
  refine beq_eq_false_iff_ne.2 (fun q => ?_)
  rw [ByteArray.toList_eq] at q
  have := congrArg List.length q
  rw [data_length] at this
  simp only [List.length_nil] at this
  omega
theorem extract_size (p : ByteArray) (n : Nat) (h : n ≤ p.size) : (p.extract 0 n).size = n := by
  rw [ByteArray.size_extract]; omega
/-! the reference's split of a text is the library's. -/
theorem ext_ext (s : ByteArray) (a i j : Nat) : (s.extract a s.size).extract i j = s.extract (a + i) (min (a + j) s.size) := by
  apply bl_inj
  rw [bl_extract, bl_extract, bl_extract, List.drop_take, List.drop_take, List.drop_take, List.drop_take, List.take_take, List.drop_drop]
  congr 1
  omega
theorem data_ext (s : ByteArray) (a : Nat) : (s.extract a s.size).data.toList = s.data.toList.drop a := by
  simp only [ByteArray.data_extract, Array.toList_extract, List.extract_eq_take_drop]
  rw [List.take_of_length_le]
  rw [List.length_drop, Array.length_toList]
  exact Nat.le_refl _
theorem bt47 (s : ByteArray) (i : Nat) (h : i < s.size) : bt s (i : Int) = 47 ↔ s.data.toList[i]? = some 47 := by
  have hl : i < s.data.toList.length := by rw [Array.length_toList]; exact h
  rw [bt_bl s i h, List.getElem?_eq_getElem hl]
  unfold bl
  rw [List.getElem_map, Option.some.injEq]
  constructor
  · intro e
    have : (s.data.toList[i]).toNat = (47 : UInt8).toNat := by
      have : ((s.data.toList[i]).toNat : Int) = 47 := e
      show (s.data.toList[i]).toNat = 47
      omega
    exact UInt8.toNat_inj.1 this
  · intro e
    rw [e]
    rfl
theorem idx47 (s : ByteArray) (a : Nat) : Lib.indexB (s.extract a s.size) ⟨#[47]⟩ = Lib.indexByte (s.data.toList.drop a) 47 := by
  show Lib.index (s.extract a s.size).data.toList [47] = _
  rw [Lib.index_one, data_ext]
theorem skip_s (s : ByteArray) (hs : s.size ≤ 1048576) (acc : List ByteArray) (a m : Nat) (hm : a + m ≤ s.size) (hno : ∀ j, j < m → ¬ bt s ((a + j : Nat) : Int) = 47) (v) (h : Ev (fun k => spec_l01Split.l0 k s 47 acc (a : Int) ((a + m : Nat) : Int)) v) : ∀ d j, j + d = m → Ev (fun k => spec_l01Split.l0 k s 47 acc (a : Int) ((a + j : Nat) : Int)) v := by
  intro d
  induction d with
  | zero =>
    intro j hj
    obtain rfl : j = m := by omega
    exact h
  | succ d ih =>
    intro j hj
    refine Ev.step (fun k => ?_) (ih (j + 1) (by omega))
    simp only [spec_l01Split.l0]
    rw [if_pos (by omega), if_pos (by omega), if_neg (hno j (by omega)), show wrap64 (((a + j : Nat) : Int) + 1) = ((a + (j + 1) : Nat) : Int) by rw [w64 (by omega) (by omega)]; omega]
theorem split_ev (s : ByteArray) (hs : s.size ≤ 1048576) : ∀ (n a : Nat) (acc : List ByteArray), a ≤ s.size → s.size - a ≤ n → acc.length + (s.size - a) ≤ 2000000 →
    Ev (fun k => spec_l01Split.l0 k s 47 acc (a : Int) (a : Int)) (acc ++ Lib.splitB ⟨#[47]⟩ 0 (Lib.countB (s.extract a s.size) ⟨#[47]⟩) (s.extract a s.size)) := by
  intro n
  induction n with
  | zero =>
    intro a acc ha hn hl
    obtain rfl : a = s.size := by omega
    have hm : Lib.indexB (s.extract s.size s.size) ⟨#[47]⟩ = -1 := by
      rw [idx47]
      rw [List.drop_eq_nil_of_le (by rw [Array.length_toList]; exact Nat.le_refl _)]
      rfl
    rw [Lib.splitB_miss _ _ _ _ hm]
    refine Ev.step (f := fun _ => some (acc ++ [s.extract s.size s.size])) (fun k => ?_) (Ev.now _)
    simp only [spec_l01Split.l0]
    rw [if_neg (by omega), if_pos (by omega), if_pos (by omega), if_pos (by omega), Int.toNat_natCast]
  | succ n ih =>
    intro a acc ha hn hl
    have hl2 : s.data.toList.length = s.size := Array.length_toList
    rcases Lib.indexB_cases (s.extract a s.size) ⟨#[47]⟩ with hm | ⟨i, hi, hsz⟩
    · have hno := Lib.indexByte_none ((idx47 s a).symm.trans hm)
      rw [Lib.splitB_miss _ _ _ _ hm]
      have hend : Ev (fun k => spec_l01Split.l0 k s 47 acc (a : Int) ((a + (s.size - a) : Nat) : Int)) (acc ++ [s.extract a s.size]) := by
        refine Ev.step (f := fun _ => some (acc ++ [s.extract a s.size])) (fun k => ?_) (Ev.now _)
        simp only [spec_l01Split.l0]
        rw [if_neg (by omega), if_pos (by omega), if_pos (by omega), if_pos (by omega), Int.toNat_natCast]
      exact skip_s s hs acc a (s.size - a) (by omega) (fun j hj e => hno j (by rw [List.getElem?_drop]; exact (bt47 s (a + j) (by omega)).1 e)) _ hend (s.size - a) 0 (by omega)
    · obtain ⟨hat, hno⟩ := Lib.indexByte_some ((idx47 s a).symm.trans hi)
      have hz : (s.extract a s.size).size = s.size - a := by rw [ByteArray.size_extract]; omega
      have h1 : (⟨#[47]⟩ : ByteArray).size = 1 := rfl
      rw [hz, h1] at hsz
      rw [Lib.countB_hit _ _ i (by decide) hi, Nat.add_comm 1, Lib.splitB_hit _ _ _ _ i hi, h1, hz, ext_ext, ext_ext, show min (a + (s.size - a)) s.size = s.size by omega, show min (a + (i + 0)) s.size = a + i by omega, Nat.add_zero]
      have hr := ih (a + (i + 1)) (acc ++ [s.extract a (a + i)]) (by omega) (by omega) (by simp only [List.length_append, List.length_singleton]; omega)
      rw [List.append_assoc] at hr
      have hend : Ev (fun k => spec_l01Split.l0 k s 47 acc (a : Int) ((a + i : Nat) : Int)) (acc ++ (s.extract a (a + i) :: Lib.splitB ⟨#[47]⟩ 0 (Lib.countB (s.extract (a + (i + 1)) s.size) ⟨#[47]⟩) (s.extract (a + (i + 1)) s.size))) := by
        refine Ev.step (fun k => ?_) hr
        have hb : bt s ((a + i : Nat) : Int) = 47 := (bt47 s (a + i) (by omega)).2 (by rw [← List.getElem?_drop]; exact hat)
        simp only [spec_l01Split.l0]
        rw [if_pos (by omega), if_pos (by omega), if_pos hb, if_pos (by omega), if_pos (by omega), if_pos (by omega), if_pos (by omega), Int.toNat_natCast, Int.toNat_natCast, show wrap64 (((a + i : Nat) : Int) + 1) = ((a + (i + 1) : Nat) : Int) by rw [w64 (by omega) (by omega)]; omega]
      exact skip_s s hs acc a i (by omega) (fun j hj e => hno j hj (by rw [List.getElem?_drop]; exact (bt47 s (a + j) (by omega)).1 e)) _ hend i 0 (by omega)
theorem nameRight_l0 (s : ByteArray) (hs : s.size ≤ 9223372036854775807) (d : Nat) : ∀ (i k : Nat), i + d = s.size → d < k → spec_NameRight.l0 k s (i : Int) = some (nameOk s d i) := by
  induction d with
  | zero =>
    intro i k hi hk
    obtain ⟨k, rfl⟩ : ∃ m, k = m + 1 := ⟨k - 1, by omega⟩
    simp only [spec_NameRight.l0]
    rw [if_neg (by omega)]
    rfl
  | succ d ih =>
    intro i k hi hk
    obtain ⟨k, rfl⟩ : ∃ m, k = m + 1 := ⟨k - 1, by omega⟩
    have e : wrap64 ((i : Int) + 1) = ((i + 1 : Nat) : Int) := by rw [w64 (by omega) (by omega)]; omega
    have h := ih (i + 1) k (by omega) (by omega)
    simp only [spec_NameRight.l0, e, h]
    rw [if_pos (by omega), if_pos (by omega)]
    exact nameStep _ _ _
theorem nameRight_ev (s : ByteArray) (hs : s.size ≤ 9223372036854775807) : Ev (fun k => spec_NameRight.f k s) (isName s 80) := by
  refine ev_from (s.size + 3) fun k hk => ?_
  obtain ⟨k, rfl⟩ : ∃ m, k = m + 1 := ⟨k - 1, by omega⟩
  have h := nameRight_l0 s hs s.size 0 k (by omega) (by omega)
  simp only [spec_NameRight.f, spec_NameRight.j0]
  have h' : spec_NameRight.l0 k s 0 = some (nameOk s s.size 0) := h
  rw [h']
  unfold isName
  generalize nameOk s s.size 0 = X
  grind
theorem isName_l0 (s : ByteArray) (most : Int) (hs : s.size ≤ 9223372036854775807) (d : Nat) : ∀ (i k : Nat), i + d = s.size → d < k → impl_isName.l0 k s most s.size (i : Int) = some (nameOk s d i && (decide ((s.size : Int) ≥ 1) && decide ((s.size : Int) ≤ most))) := by
  induction d with
  | zero =>
    intro i k hi hk
    obtain ⟨k, rfl⟩ : ∃ m, k = m + 1 := ⟨k - 1, by omega⟩
    simp only [impl_isName.l0, impl_long.f, impl_within.f, Option.bind_some, nameOk]
    rw [if_neg (by omega)]
    grind
  | succ d ih =>
    intro i k hi hk
    obtain ⟨k, rfl⟩ : ∃ m, k = m + 1 := ⟨k - 1, by omega⟩
    have e : wrap64 ((i : Int) + 1) = ((i + 1 : Nat) : Int) := by rw [w64 (by omega) (by omega)]; omega
    have h := ih (i + 1) k (by omega) (by omega)
    simp only [impl_isName.l0, e, h]
    rw [if_pos (by omega), if_pos (by omega), if_pos (by omega)]
    refine (nameStep _ _ _).trans ?_
    simp [nameOk, Bool.and_assoc]
theorem isName_ev (s : ByteArray) (most : Int) (hs : s.size ≤ 9223372036854775807) : Ev (fun k => impl_isName.f k s most) (isName s most) := by
  refine ev_from (s.size + 3) fun k hk => ?_
  have h := isName_l0 s most hs s.size 0 k (by omega) (by omega)
  simp only [impl_isName.f]
  exact h
abbrev IF := S92
abbrev zF := z92
theorem rdF (l : List IF) (i : Nat) (h : i < l.length) : rd_T92 l (i : Int) = l[i] := by
  unfold rd_T92
  rw [Int.toNat_natCast, List.getD_eq_getElem?_getD, List.getElem?_eq_getElem h]
  rfl
theorem rdS (l : List ByteArray) (i : Nat) (h : i < l.length) : rdOf ByteArray.empty l (i : Int) = l[i] := by
  simp [rdOf, h]
theorem wF (i : Nat) (hi : i ≤ 1000000000) : wrap64 ((i : Int) + 1) = ((i + 1 : Nat) : Int) := by rw [w64 (by omega) (by omega)]; omega
def pathParts (s : ByteArray) : List ByteArray := Lib.splitB ⟨#[47]⟩ 0 (Lib.countB s ⟨#[47]⟩) s
def pathOk (s : ByteArray) : Bool := decide ((pathParts s).length ≤ 5) && (pathParts s).all (fun t => isName t 80)
theorem ext_le (s : ByteArray) (i j : Nat) : (s.extract i j).size ≤ s.size := by rw [ByteArray.size_extract]; omega
theorem parts_size : ∀ (k : Nat) (s : ByteArray), ∀ t ∈ Lib.splitB ⟨#[47]⟩ 0 k s, t.size ≤ s.size
  | 0, s, t, h => by
    rw [Lib.splitB_zero] at h
    obtain rfl := List.mem_singleton.1 h
    exact Nat.le_refl _
  | k + 1, s, t, h => by
    rcases Lib.indexB_cases s ⟨#[47]⟩ with hm | ⟨i, hi, _⟩
    · rw [Lib.splitB_miss _ _ _ _ hm] at h
      obtain rfl := List.mem_singleton.1 h
      exact Nat.le_refl _
    · rw [Lib.splitB_hit _ _ _ _ i hi] at h
      rcases List.mem_cons.1 h with rfl | h
      · exact ext_le _ _ _
      · exact Nat.le_trans (parts_size k _ t h) (ext_le _ _ _)
theorem parts_s (s : ByteArray) (hs : s.size ≤ 1048576) : Ev (fun k => spec_l01Split.f k s 47) (pathParts s) := by
  have h := split_ev s hs s.size 0 [] (by omega) (by omega) (by simp; omega)
  rw [ByteArray.extract_zero_size, List.nil_append] at h
  exact h
theorem drop_all (l : List ByteArray) (i : Nat) (h : i < l.length) (p : ByteArray → Bool) : (l.drop i).all p = (p l[i] && (l.drop (i + 1)).all p) := by
  rw [List.drop_eq_getElem_cons h, List.all_cons]
theorem parts_l0 (l : List ByteArray) (hl : l.length ≤ 1000) (hs : ∀ t ∈ l, t.size ≤ 9223372036854775807) : ∀ d i, i + d = l.length → Ev (fun k => spec_l11Parts.l0 k l (i : Int)) (l, (l.drop i).all (fun t => isName t 80)) := by
  intro d
  induction d with
  | zero =>
    intro i hi
    rw [List.drop_eq_nil_of_le (by omega)]
    exact Ev.step (f := fun _ => some (l, true)) (fun k => by simp only [spec_l11Parts.l0]; rw [if_neg (by omega)]) (Ev.now _)
  | succ d ih =>
    intro i hi
    have hlt : i < l.length := by omega
    have hn := nameRight_ev l[i] (hs _ (List.getElem_mem hlt))
    rw [drop_all l i hlt]
    refine Ev.step (f := fun k => (spec_NameRight.f k l[i]).bind fun t => (if t = true then (spec_l11Parts.l0 k l ((i + 1 : Nat) : Int)) else (some (l, false)))) (fun k => by simp only [spec_l11Parts.l0, rdS l i hlt, wF i (by omega)]; rw [if_pos (by omega), if_pos (by omega)]) (Ev.bind hn ?_)
    cases isName l[i] 80 with
    | true => exact ev_if_pos rfl (by simpa using ih (i + 1) (by omega))
    | false => exact ev_if_neg Bool.false_ne_true (ev_eq (by simp))
theorem path_s (s : ByteArray) (hs : s.size ≤ 1048576) : ∃ l, Ev (fun k => spec_l11Parts.f k s) (l, pathOk s) := by
  have hsz : ∀ t ∈ pathParts s, t.size ≤ 9223372036854775807 := fun t ht => by have := parts_size _ _ t ht; omega
  refine ⟨pathParts s, ?_⟩
  unfold spec_l11Parts.f pathOk
  refine Ev.bind (parts_s s hs) ?_
  by_cases c : ((pathParts s).length : Int) > 5
  · exact ev_if_pos c (ev_eq (by rw [decide_eq_false (by omega)]; rfl))
  · refine ev_if_neg c ?_
    have h := parts_l0 (pathParts s) (by omega) hsz (pathParts s).length 0 (by omega)
    rw [decide_eq_true (show (pathParts s).length ≤ 5 by omega), Bool.true_and]
    exact h
theorem nameRight_i (s : ByteArray) (hs : s.size ≤ 9223372036854775807) : Ev (fun k => impl_NameRight.f k s) (isName s 80) := by
  unfold impl_NameRight.f
  exact Ev.bind (isName_ev s 80 hs) (Ev.now _)
theorem path_k0 (l : List ByteArray) (hl : l.length ≤ 1000) (hs : ∀ t ∈ l, t.size ≤ 9223372036854775807) : ∀ d i, i + d = l.length → ∃ v : Int, Ev (fun k => impl_isPath.k0 k l (i : Int)) v ∧ decide (0 ≤ v) = !(l.drop i).all (fun t => isName t 80) := by
  intro d
  induction d with
  | zero =>
    intro i hi
    rw [List.drop_eq_nil_of_le (by omega)]
    exact ⟨-1, Ev.step (f := fun _ => some (-1)) (fun k => by simp only [impl_isPath.k0]; rw [if_neg (by omega)]) (Ev.now _), rfl⟩
  | succ d ih =>
    intro i hi
    have hlt : i < l.length := by omega
    have hn := nameRight_i l[i] (hs _ (List.getElem_mem hlt))
    rw [drop_all l i hlt]
    have hst : ∀ v, Ev (fun k => if isName l[i] 80 = true then (impl_isPath.k0 k l ((i + 1 : Nat) : Int)) else (some (i : Int))) v → Ev (fun k => impl_isPath.k0 k l (i : Int)) v := fun v hv =>
      Ev.step (f := fun k => (impl_NameRight.f k l[i]).bind fun t => (if t = true then (impl_isPath.k0 k l ((i + 1 : Nat) : Int)) else (some (i : Int)))) (fun k => by simp only [impl_isPath.k0, rdS l i hlt, wF i (by omega)]; rw [if_pos (by omega), if_pos (by omega)]) (Ev.bind hn hv)
    cases hb : isName l[i] 80 with
    | true =>
      obtain ⟨v, h1, h2⟩ := ih (i + 1) (by omega)
      rw [hb] at hst
      exact ⟨v, hst v (ev_if_pos rfl h1), by simpa using h2⟩
    | false =>
      rw [hb] at hst
      exact ⟨(i : Int), hst _ (ev_if_neg Bool.false_ne_true (Ev.now _)), by simp⟩
theorem path_i (s : ByteArray) (hs : s.size ≤ 1048576) : Ev (fun k => impl_isPath.f k s) (pathOk s) := by
  have hsz : ∀ t ∈ pathParts s, t.size ≤ 9223372036854775807 := fun t ht => by have := parts_size _ _ t ht; omega
  have e : impl_isPath.parts s = pathParts s := rfl
  unfold impl_isPath.f pathOk
  rw [e]
  refine ev_if_pos (by omega) ?_
  by_cases c : ((pathParts s).length : Int) ≤ 5
  · refine ev_if_pos c ?_
    obtain ⟨v, h1, h2⟩ := path_k0 (pathParts s) (by omega) hsz (pathParts s).length 0 (by omega)
    have hh : Ev (fun k => impl_isPath.has k (pathParts s)) (!(pathParts s).all (fun t => isName t 80)) := by
      unfold impl_isPath.has
      exact Ev.bind h1 (ev_eq (by simpa using h2))
    exact Ev.bind hh (ev_eq (by rw [decide_eq_true (show (pathParts s).length ≤ 5 by omega), Bool.true_and, Bool.not_not]))
  · exact ev_if_neg c (ev_eq (by rw [decide_eq_false (by omega)]; rfl))
/-- x stands below the file p. -/
def under (p x : ByteArray) : Bool := decide (p.size + 1 ≤ x.size) && ((x.extract 0 (p.size + 1)).toList == (p ++ (⟨#[47]⟩ : ByteArray)).toList)
theorem under_i (p x : ByteArray) : strings_HasPrefix.f x (p ++ ⟨#[47]⟩) = some (under p x) := by
  have hz : (p ++ (⟨#[47]⟩ : ByteArray)).size = p.size + 1 := by rw [ByteArray.size_append]; rfl
  unfold strings_HasPrefix.f stringslite_HasPrefix.f under
  rw [hz, Int.toNat_natCast]
  by_cases c : p.size + 1 ≤ x.size
  · rw [if_pos (by omega), if_pos (by omega), if_pos (by omega), decide_eq_true c]
    rfl
  · rw [if_neg (by omega), decide_eq_false c]
    rfl
theorem drop_any (l : List IF) (i : Nat) (h : i < l.length) (p : IF → Bool) : (l.drop i).any p = (p l[i] || (l.drop (i + 1)).any p) := by
  rw [List.drop_eq_getElem_cons h, List.any_cons]
theorem m0_ev (l : List IF) (hl : l.length ≤ 1000) (p : ByteArray) : ∀ d i, i + d = l.length → ∃ v : Int, Ev (fun k => impl_FilesRight.m0 k l p (i : Int)) v ∧ decide (0 ≤ v) = (l.drop i).any (fun y => under p y.f0) := by
  intro d
  induction d with
  | zero =>
    intro i hi
    rw [List.drop_eq_nil_of_le (by omega)]
    exact ⟨-1, Ev.step (f := fun _ => some (-1)) (fun k => by simp only [impl_FilesRight.m0]; rw [if_neg (by omega)]) (Ev.now _), rfl⟩
  | succ d ih =>
    intro i hi
    have hlt : i < l.length := by omega
    rw [drop_any l i hlt]
    cases hb : under p (l[i]).f0 with
    | true =>
      refine ⟨(i : Int), Ev.step (f := fun _ => some (i : Int)) (fun k => ?_) (Ev.now _), by simp⟩
      simp only [impl_FilesRight.m0, rdF l i hlt, under_i, hb, Option.bind_some]
      rw [if_pos (by omega), if_pos (by omega), if_pos trivial]
    | false =>
      obtain ⟨v, h1, h2⟩ := ih (i + 1) (by omega)
      refine ⟨v, Ev.step (fun k => ?_) h1, by simpa using h2⟩
      simp only [impl_FilesRight.m0, rdF l i hlt, under_i, hb, Option.bind_some, wF i (by omega)]
      rw [if_pos (by omega), if_pos (by omega), if_neg Bool.false_ne_true]
theorem has_ev (l : List IF) (hl : l.length ≤ 1000) (p : ByteArray) : Ev (fun k => impl_FilesRight.has k l p) (l.any (fun y => under p y.f0)) := by
  obtain ⟨v, h1, h2⟩ := m0_ev l hl p l.length 0 (by omega)
  unfold impl_FilesRight.has
  exact Ev.bind h1 (ev_eq h2)
def fileOk (l : List IF) (i : Nat) : Bool := ((pathOk (l.getD i zF).f0 && !decide (1500 < ((l.getD i zF).f1.size : Int))) && (!decide (0 < (i : Int)) || Op.bytesLess (l.getD (i - 1) zF).f0.toList (l.getD i zF).f0.toList)) && !(l.any fun y => under (l.getD i zF).f0 y.f0)
def filesRight (l : List IF) : Bool := decide (l.length ≤ 20) && (List.range l.length).all (fileOk l)
theorem getF (l : List IF) (i : Nat) (h : i < l.length) : l.getD i zF = l[i] := by
  rw [List.getD_eq_getElem?_getD, List.getElem?_eq_getElem h]
  rfl
theorem rdF' (l : List IF) (i : Nat) : rd_T92 l (i : Int) = l.getD i zF := by
  unfold rd_T92
  rw [Int.toNat_natCast]
theorem prevF (l : List IF) (i : Nat) (h0 : 0 < i) (hi : i ≤ 1000) : rd_T92 l (wrap64 ((i : Int) - 1)) = l.getD (i - 1) zF := by
  have e : wrap64 ((i : Int) - 1) = ((i - 1 : Nat) : Int) := by rw [w64 (by omega) (by omega)]; omega
  rw [e, rdF']
theorem memF (l : List IF) (i : Nat) (h : i < l.length) : l.getD i zF ∈ l := by
  rw [getF l i h]
  exact List.getElem_mem h
theorem files_i (l : List IF) (hs : ∀ x ∈ l, x.f0.size ≤ 1048576) : Ev (fun k => impl_FilesRight.f k l) (filesRight l) := by
  unfold impl_FilesRight.f filesRight
  by_cases h : (l.length : Int) > 20
  · refine ev_if_pos h ?_
    rw [decide_eq_false (by omega)]
    exact Ev.now _
  refine ev_if_neg h ?_
  rw [decide_eq_true (by omega), Bool.true_and]
  obtain ⟨K, hK⟩ := ev_all (fun (x : IF) k => impl_isPath.f k x.f0) (fun x => pathOk x.f0) l (fun x hx => path_i _ (hs x hx))
  obtain ⟨K2, hK2⟩ := ev_all (fun (x : IF) k => impl_FilesRight.has k l x.f0) (fun x => l.any (fun y => under x.f0 y.f0)) l (fun x _ => has_ev l (by omega) x.f0)
  refine loop_all (fun k i => impl_FilesRight.l0 k l i) l.length (by omega) (K + K2) (fileOk l) (fun k i hi hk hw => ?_) (fun k => by simp only [impl_FilesRight.l0]; rw [if_neg (by omega)])
  have hr := hK _ (memF l i hi) k (by omega)
  have hr2 := hK2 _ (memF l i hi) k (by omega)
  simp only [impl_FilesRight.l0, rdF', hr, hr2, hw, Option.bind_some]
  rw [if_pos (by omega), if_pos (by omega)]
  have hP : ((pathOk (l.getD i zF).f0 && !decide (1500 < ((l.getD i zF).f1.size : Int))) && (!decide (0 < (i : Int)) || Op.bytesLess (rd_T92 l (wrap64 ((i : Int) - 1))).f0.toList (l.getD i zF).f0.toList)) = ((pathOk (l.getD i zF).f0 && !decide (1500 < ((l.getD i zF).f1.size : Int))) && (!decide (0 < (i : Int)) || Op.bytesLess (l.getD (i - 1) zF).f0.toList (l.getD i zF).f0.toList)) := by
    by_cases h0 : 0 < i
    · rw [prevF l i h0 (by omega)]
    · obtain rfl : i = 0 := by omega
      rw [decide_eq_false (show ¬ (0 : Int) < ((0 : Nat) : Int) by omega)]
      rfl
  rw [hP]
  unfold fileOk
  generalize ((pathOk (l.getD i zF).f0 && !decide (1500 < ((l.getD i zF).f1.size : Int))) && (!decide (0 < (i : Int)) || Op.bytesLess (l.getD (i - 1) zF).f0.toList (l.getD i zF).f0.toList)) = a
  generalize (l.any fun y => under (l.getD i zF).f0 y.f0) = b
  cases a <;> cases b <;> rfl
theorem toList_bl (a b : ByteArray) : a.toList = b.toList ↔ bl a = bl b := by
  constructor
  · intro h
    rw [ByteArray.toList_eq, ByteArray.toList_eq] at h
    unfold bl
    rw [h]
  · intro h
    rw [bl_inj h]
theorem under_s (p x : ByteArray) (hlt : p.size < x.size) : under p x = (decide ((x.extract 0 p.size).toList = p.toList) && decide (bt x (p.size : Int) = 47)) := by
  have hl : p.size < (bl x).length := by rw [bl_length]; exact hlt
  have hp : (bl p).length = p.size := bl_length p
  unfold under
  rw [decide_eq_true (by omega), Bool.true_and, Bool.eq_iff_iff, beq_iff_eq, toList_bl, bl_extract, List.drop_zero, bl_append, Bool.and_eq_true, decide_eq_true_eq, decide_eq_true_eq, toList_bl, bl_extract, List.drop_zero, List.take_add_one, List.getElem?_eq_getElem hl, bt_bl x p.size hlt]
  show (bl x).take p.size ++ [(bl x)[p.size]] = bl p ++ [47] ↔ _
  rw [List.append_eq_append_iff_of_size_eq_left (by rw [List.length_take, hp]; omega)]
  constructor
  · rintro ⟨h1, h2⟩
    exact ⟨h1, by have := (List.cons.inj h2).1; omega⟩
  · rintro ⟨h1, h2⟩
    exact ⟨h1, by congr 1; omega⟩
theorem l1_ev (l : List IF) (hl : l.length ≤ 1000) (i : Nat) (hi : i < l.length) (v : Bool) : ∀ d j, j + d = l.length →
    (((l.drop j).any (fun y => under (l.getD i zF).f0 y.f0) = true ∧ v = false) ∨ ((l.drop j).any (fun y => under (l.getD i zF).f0 y.f0) = false ∧ Ev (fun k => spec_FilesRight.l0 k l ((i + 1 : Nat) : Int)) v)) →
    Ev (fun k => spec_FilesRight.l1 k l (i : Int) (j : Int)) v := by
  intro d
  induction d with
  | zero =>
    intro j hj h
    rw [List.drop_eq_nil_of_le (by omega)] at h
    rcases h with ⟨h, _⟩ | ⟨_, h⟩
    · simp at h
    · exact Ev.step (fun k => by simp only [spec_FilesRight.l1, wF i (by omega)]; rw [if_neg (by omega)]) h
  | succ d ih =>
    intro j hj h
    have hlt : j < l.length := by omega
    have gj := getF l j hlt
    rw [drop_any l j hlt, ← gj] at h
    have nxt : under (l.getD i zF).f0 (l.getD j zF).f0 = false → Ev (fun k => spec_FilesRight.l1 k l (i : Int) ((j + 1 : Nat) : Int)) v := by
      intro hb
      rw [hb] at h
      exact ih (j + 1) (by omega) (by simpa using h)
    by_cases c1 : (l.getD i zF).f0.size < (l.getD j zF).f0.size
    · have hu := under_s (l.getD i zF).f0 (l.getD j zF).f0 c1
      by_cases c2 : ((l.getD j zF).f0.extract 0 (l.getD i zF).f0.size).toList = (l.getD i zF).f0.toList
      · by_cases c3 : bt (l.getD j zF).f0 ((l.getD i zF).f0.size : Int) = 47
        · rw [decide_eq_true c2, decide_eq_true c3] at hu
          rw [hu] at h
          obtain rfl : v = false := by
            rcases h with ⟨_, h⟩ | ⟨h, _⟩
            · exact h
            · simp at h
          refine Ev.step (f := fun _ => some false) (fun k => ?_) (Ev.now _)
          simp only [spec_FilesRight.l1, rdF', Int.toNat_natCast]
          rw [if_pos (by omega), if_pos (by omega), if_pos (by omega), if_pos (by omega), if_pos (by omega), if_pos (by omega), if_pos (by omega), if_pos c2, if_pos (by omega), if_pos c3]
        · rw [decide_eq_false c3, Bool.and_false] at hu
          refine Ev.step (fun k => ?_) (nxt hu)
          simp only [spec_FilesRight.l1, rdF', Int.toNat_natCast, wF j (by omega)]
          rw [if_pos (by omega), if_pos (by omega), if_pos (by omega), if_pos (by omega), if_pos (by omega), if_pos (by omega), if_pos (by omega), if_pos c2, if_pos (by omega), if_neg c3]
      · rw [decide_eq_false c2, Bool.false_and] at hu
        refine Ev.step (fun k => ?_) (nxt hu)
        simp only [spec_FilesRight.l1, rdF', Int.toNat_natCast, wF j (by omega)]
        rw [if_pos (by omega), if_pos (by omega), if_pos (by omega), if_pos (by omega), if_pos (by omega), if_pos (by omega), if_pos (by omega), if_neg c2]
    · have hu : under (l.getD i zF).f0 (l.getD j zF).f0 = false := by
        unfold under
        rw [decide_eq_false (by omega), Bool.false_and]
      refine Ev.step (fun k => ?_) (nxt hu)
      simp only [spec_FilesRight.l1, rdF', wF j (by omega)]
      rw [if_pos (by omega), if_pos (by omega), if_pos (by omega), if_pos (by omega), if_neg (by omega)]
theorem range_all (n i : Nat) (h : i < n) (p : Nat → Bool) : ((List.range n).drop i).all p = (p i && ((List.range n).drop (i + 1)).all p) := by
  rw [List.drop_eq_getElem_cons (by simpa using h), List.all_cons, List.getElem_range]
theorem files_l0 (l : List IF) (hl : l.length ≤ 20) (hs : ∀ x ∈ l, x.f0.size ≤ 1048576) : ∀ d i, i + d = l.length → Ev (fun k => spec_FilesRight.l0 k l (i : Int)) (((List.range l.length).drop i).all (fileOk l)) := by
  intro d
  induction d with
  | zero =>
    intro i hi
    rw [List.drop_eq_nil_of_le (by simp; omega)]
    exact Ev.step (f := fun _ => some true) (fun k => by simp only [spec_FilesRight.l0]; rw [if_neg (by omega)]) (Ev.now _)
  | succ d ih =>
    intro i hi
    have hlt : i < l.length := by omega
    have hr := ih (i + 1) (by omega)
    rw [range_all _ i hlt]
    obtain ⟨lp, hp⟩ := path_s (l.getD i zF).f0 (hs _ (memF l i hlt))
    have bad : Ev (fun k => spec_FilesRight.j1 k l (i : Int) true) false := Ev.step (f := fun _ => some false) (fun k => by simp only [spec_FilesRight.j1]; rw [if_pos trivial]) (Ev.now _)
    have good : ∀ v, Ev (fun k => spec_FilesRight.l1 k l (i : Int) 0) v → Ev (fun k => spec_FilesRight.j1 k l (i : Int) false) v := fun v hv => Ev.step (f := fun k => spec_FilesRight.l1 k l (i : Int) 0) (fun k => by simp only [spec_FilesRight.j1]; rw [if_neg Bool.false_ne_true]) hv
    have inner : Ev (fun k => spec_FilesRight.l1 k l (i : Int) 0) (!(l.any fun y => under (l.getD i zF).f0 y.f0) && ((List.range l.length).drop (i + 1)).all (fileOk l)) := by
      refine l1_ev l (by omega) i hlt _ l.length 0 (by omega) ?_
      rw [List.drop_zero]
      cases (l.any fun y => under (l.getD i zF).f0 y.f0) with
      | true => exact .inl ⟨rfl, rfl⟩
      | false => exact .inr ⟨rfl, by simpa using hr⟩
    refine Ev.step (f := fun k => (spec_l11Parts.f k (l.getD i zF).f0).bind fun bt119 => (if bt119.2 = true then (if (((l.getD i zF).f1).size : Int) > 1500 then (spec_FilesRight.j1 k l (i : Int) true) else (if (i : Int) > 0 then (if 0 ≤ (wrap64 ((i : Int) - 1)) then (if (wrap64 ((i : Int) - 1)) < (l.length : Int) then (spec_FilesRight.j1 k l (i : Int) (!(Op.bytesLess (((rd_T92 l (wrap64 ((i : Int) - 1))).f0).toList) (((l.getD i zF).f0).toList)))) else (none)) else (none)) else (spec_FilesRight.j1 k l (i : Int) false))) else (spec_FilesRight.j1 k l (i : Int) true))) (fun k => by simp only [spec_FilesRight.l0, rdF']; rw [if_pos (by omega), if_pos (by omega)]) (Ev.bind hp ?_)
    generalize ((List.range l.length).drop (i + 1)).all (fileOk l) = R at hr inner ⊢
    unfold fileOk
    by_cases c1 : pathOk (l.getD i zF).f0 = true
    rotate_left
    · rw [Bool.not_eq_true] at c1
      rw [c1]
      exact ev_if_neg Bool.false_ne_true (by simpa using bad)
    rw [c1]
    refine ev_if_pos rfl ?_
    by_cases c2 : ((l.getD i zF).f1.size : Int) > 1500
    · refine ev_if_pos c2 ?_
      rw [decide_eq_true (show 1500 < ((l.getD i zF).f1.size : Int) from c2)]
      simpa using bad
    refine ev_if_neg c2 ?_
    rw [decide_eq_false (show ¬ 1500 < ((l.getD i zF).f1.size : Int) from c2)]
    by_cases c3 : (i : Int) > 0
    rotate_left
    · refine ev_if_neg c3 (good _ ?_)
      rw [decide_eq_false (show ¬ 0 < (i : Int) from c3)]
      simpa using inner
    have ew : wrap64 ((i : Int) - 1) = ((i - 1 : Nat) : Int) := by rw [w64 (by omega) (by omega)]; omega
    refine ev_if_pos c3 (ev_if_pos (by omega) (ev_if_pos (by omega) ?_))
    rw [prevF l i (by omega) (by omega), decide_eq_true (show 0 < (i : Int) from c3)]
    cases Op.bytesLess (l.getD (i - 1) zF).f0.toList (l.getD i zF).f0.toList with
    | true => exact good _ (by simpa using inner)
    | false => simpa using bad
theorem files_s (l : List IF) (hs : ∀ x ∈ l, x.f0.size ≤ 1048576) : Ev (fun k => spec_FilesRight.f k l) (filesRight l) := by
  unfold spec_FilesRight.f filesRight
  by_cases h : (l.length : Int) > 20
  · refine ev_if_pos h ?_
    rw [decide_eq_false (by omega)]
    exact Ev.now _
  refine ev_if_neg h ?_
  rw [decide_eq_true (by omega), Bool.true_and]
  exact files_l0 l (by omega) hs l.length 0 (by omega)
def wFile (x : S88) : Int := (x.f0.size : Int) + (x.f1.size : Int)
theorem wFile_pos (x : S88) : 0 ≤ wFile x := by
  unfold wFile
  omega
theorem szFile_ev (x : S88) (left : Int) (h0 : 0 ≤ left) (h1 : left ≤ 1048576) (hx : ok88 x) : Evs (fun k => laws_szFile.f x.f0 x.f1 left) (fun r => 0 ≤ r → r + wFile x = left) := by
  obtain ⟨hf0, hf1⟩ := hx
  unfold wFile laws_szFile.f
  rw [sz_wrap (left := left) (s := (x.f0.size : Int)) (by omega) (by omega) (by omega) (by omega)]
  refine Evs.ite (fun _ => Evs.now _ (by omega)) (fun n0 => ?_)
  rw [sz_wrap (left := (left - (x.f0.size : Int))) (s := (x.f1.size : Int)) (by omega) (by omega) (by omega) (by omega)]
  refine Evs.ite (fun _ => Evs.now _ (by omega)) (fun n1 => ?_)
  exact Evs.now _ (by omega)
theorem szFileS_ev (l : List (S88)) (left : Int) (h0 : 0 ≤ left) (h1 : left ≤ 1048576) (hlo : (l.length ≤ 9223372036854775807 ∧ ∀ x ∈ l, ok88 x)) : Evs (fun k => laws_szFileS.f k l left) (fun r => 0 ≤ r → r + ((l.length : Int) + (l.map (fun x => wFile x)).sum) = left) := by
  obtain ⟨hl, hok⟩ := hlo
  unfold laws_szFileS.f
  rw [sz_wrap h0 h1 (by omega) (by omega)]
  refine Evs.ite (fun _ => Evs.now _ (by have := sum_pos (fun x => wFile x) l (fun x => wFile_pos x); omega)) (fun hneg => ?_)
  have hpos : ∀ x : S88, 0 ≤ wFile x := fun x => wFile_pos x
  refine Evs.mon (fun k => (laws_szFileS.mono_l k) _ _ _) ?_
  obtain ⟨r, h3, h4⟩ := loop_up (fun k (s : Int) i => laws_szFileS.l0 k l s i) l.length hl 0 (fun i s => 0 ≤ s ∧ s + ((l.take i).map (fun x => wFile x)).sum = left - l.length) (fun r => 0 ≤ r → r + (l.map (fun x => wFile x)).sum = left - l.length)
    (fun k i s hi hs hK hw => by
      obtain ⟨hs0, hs1⟩ := hs
      have hsum := sum_pos (fun x => wFile x) (l.take i) hpos
      have hp := hpos l[i]
      have e : rd_T88 l (i : Int) = l[i] := getD_nat l i _ hi
      have ht := sum_take_succ (fun x => wFile x) l i hi
      obtain ⟨r0, hr0, hq0⟩ := szFile_ev l[i] s hs0 (by omega) (hok l[i] (List.getElem_mem hi))
      obtain ⟨r1, hr1⟩ : ∃ r1, laws_szFile.f l[i].f0 l[i].f1 s = some r1 := ⟨r0, (hr0.choose_spec _ (Nat.le_refl _))⟩
      obtain rfl : r1 = r0 := Option.some.inj (hr1.symm.trans (hr0.choose_spec _ (Nat.le_refl _)))
      simp only [laws_szFileS.l0, e]
      rw [if_pos (by omega), if_pos (by omega), hr1, hw]
      simp only [Option.bind_some]
      by_cases hr : r1 < 0
      · exact Or.inr ⟨-1, by rw [if_pos hr], by omega⟩
      · exact Or.inl ⟨r1, ⟨by omega, by rw [ht]; have := hq0 (by omega); omega⟩, by rw [if_neg hr]⟩      )
    (fun k s hs => by
      obtain ⟨hs0, hs1⟩ := hs
      refine ⟨s, by simp only [laws_szFileS.l0]; rw [if_neg (by omega)], fun _ => ?_⟩
      rw [List.take_of_length_le (Nat.le_refl _)] at hs1
      exact hs1)
    l.length 0 (l.length + 0 + 1) (left - l.length) (by omega) ⟨by omega, by simp⟩ (by omega)
  exact ⟨_, r, h3, fun h => by have := h4 h; omega⟩
def toFile (x : S88) : S92 := ⟨x.f0, x.f1⟩
theorem toFileS_ev (l : List (S88)) (hl : l.length ≤ 1048576) : Ev (fun k => laws_toFileS.f k l) (l.map toFile) := by
  have hn : ((l.length : Int)).toNat = l.length := Int.toNat_natCast _
  refine Ev.congr (f := fun k => laws_toFileS.l0 k l (List.replicate l.length z92) 0) (fun k => ?_) ?_
  · unfold laws_toFileS.f
    rw [if_pos (by omega), if_pos (by omega), hn]
  · exact loop_ev (fun k (s : List (S92)) i => laws_toFileS.l0 k l s i) l.length (by omega) 0 (fun i s => s.length = l.length ∧ ∀ j, j < i → s[j]? = (l.map toFile)[j]?) _
      (fun k i s hi hv hK hw => by
      have e : rd_T88 l (i : Int) = l[i] := getD_nat l i _ hi
      have hlen := hv.1
      simp only [laws_toFileS.l0, e, laws_toFile.f]
      rw [if_pos (by omega), if_pos (by omega), hw]
      simp only [Option.bind_some]
      rw [if_pos (by omega)]
      exact Or.inl ⟨_, fill_step toFile l s i hi hv.1 hv.2 _ rfl, rfl⟩)
      (fun k s hv => by
      simp only [laws_toFileS.l0]
      rw [if_neg (by omega)]
      exact congrArg some (fill_done toFile l s hv.1 hv.2))
      _ ⟨by simp, fun j hj => absurd hj (by omega)⟩
theorem eqFile_refl (a0 : ByteArray) (a1 : ByteArray) : laws_eqFile.f a0 a1 a0 a1 = some true := by
  unfold laws_eqFile.f
  rw [if_pos rfl]
  rw [if_pos rfl]
theorem eqFileS_refl (l : List (S92)) (hl : l.length ≤ 9223372036854775807) : Ev (fun k => laws_eqFileS.f k l l) true := by
  unfold laws_eqFileS.f
  refine ev_if_pos rfl ?_
  exact loop_ev (fun k (s : Unit) i => laws_eqFileS.l0 k l l i) l.length hl 0 (fun _ _ => True) true
    (fun k i s hi _ hK hw => Or.inl ⟨(), trivial, by
      simp only [laws_eqFileS.l0, eqFile_refl, Option.bind_some]
      rw [if_pos (by omega), if_pos (by omega), if_pos (by omega), if_pos trivial, hw]⟩)
    (fun k s _ => by simp only [laws_eqFileS.l0]; rw [if_neg (by omega)]) () trivial
theorem le_sum (l : List S88) (y : S88) (h : y ∈ l) : wFile y ≤ (l.map (fun x => wFile x)).sum := by
  induction l with
  | nil => simp at h
  | cons a l ih =>
    have hp := sum_pos (fun x => wFile x) l (fun x => wFile_pos x)
    have ha := wFile_pos a
    rw [List.map_cons, List.sum_cons]
    rcases List.mem_cons.1 h with rfl | h
    · omega
    · have := ih h
      omega
theorem FnExactFilesRight : FnExactFilesRight_Pure := by
  intro l hl hok
  refine Ev.rounds (g := fun k => laws_FnExactFilesRight.f k l) (Evs.ev ?_)
  unfold laws_FnExactFilesRight.f
  refine Evs.bind (szFileS_ev l 1048576 (by omega) (by omega) ⟨hl, hok⟩) (fun r hr => Evs.ite (fun _ => Evs.now _ rfl) (fun hn => ?_))
  have hsum := hr (by omega)
  have hpos := sum_pos (fun x => wFile x) l (fun x => wFile_pos x)
  have hto := toFileS_ev l (by omega)
  have hs : ∀ x ∈ l.map toFile, x.f0.size ≤ 1048576 := by
    intro x hx
    obtain ⟨y, hy, rfl⟩ := List.mem_map.1 hx
    have h1 := le_sum l y hy
    have h2 : wFile y = (y.f0.size : Int) + (y.f1.size : Int) := rfl
    show y.f0.size ≤ 1048576
    omega
  exact ⟨_, Ev.bind hto (Ev.bind (files_s _ hs) (Ev.bind hto (Ev.bind (files_i _ hs) (ev_if_neg (by simp) (Ev.bind hto (Ev.bind (eqFileS_refl _ (by simp; omega)) (ev_if_pos rfl (Ev.now _)))))))), rfl⟩
end Go.Proofs.YtfffdndeccipnaaDoor.Pure
