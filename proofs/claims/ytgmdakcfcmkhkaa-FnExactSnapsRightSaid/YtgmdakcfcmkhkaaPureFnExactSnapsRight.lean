/- The plain law of FnExactSnapsRight: at every list of snapshots SnapsRight answers as the reference. -/
import Derived.Test.YtgmdakcfcmkhkaaOkFnExactSnapsRight
import Derived.Test.YtgmdakcfcmkhkaaLib
namespace Go.Proofs.Ytgmdakcfcmkhkaa.Pure
open Go.RowKit Go.Proofs.Ytgmdakcfcmkhkaa.PFnExactSnapsRight Go.Proofs.Ytgmdakcfcmkhkaa.Lib Go.Proofs.YtgmdakcfcmkhkaaW.PrintWords Go.Proofs.YtgmdakcfcmkhkaaW.PrintLast
set_option linter.unusedVariables false
set_option linter.unusedSimpArgs false
theorem nameRight_l0 (s : ByteArray) (hs : s.size ≤ 9223372036854775807) (d : Nat) : ∀ (i k : Nat), i + d = s.size → d < k → spec_NameRight.l0 k s (i : Int) = some (nameOk s d i) := by
  induction d with
  | zero =>
    intro i k hi hk
    obtain ⟨k, rfl⟩ : ∃ m, k = m + 1 := ⟨k - 1, by omega⟩
    simp only [spec_NameRight.l0]
    rw [if_neg (by omega)]
    rfl
  | succ d ih =>
    intro i k hi hk
    obtain ⟨k, rfl⟩ : ∃ m, k = m + 1 := ⟨k - 1, by omega⟩
    have e : wrap64 ((i : Int) + 1) = ((i + 1 : Nat) : Int) := by rw [w64 (by omega) (by omega)]; omega
    have h := ih (i + 1) k (by omega) (by omega)
    simp only [spec_NameRight.l0, e, h]
    rw [if_pos (by omega), if_pos (by omega)]
    exact nameStep _ _ _
theorem nameRight_ev (s : ByteArray) (hs : s.size ≤ 9223372036854775807) : Ev (fun k => spec_NameRight.f k s) (isName s 80) := by
  refine ev_from (s.size + 3) fun k hk => ?_
  obtain ⟨k, rfl⟩ : ∃ m, k = m + 1 := ⟨k - 1, by omega⟩
  have h := nameRight_l0 s hs s.size 0 k (by omega) (by omega)
  simp only [spec_NameRight.f, spec_NameRight.j0]
  have h' : spec_NameRight.l0 k s 0 = some (nameOk s s.size 0) := h
  rw [h']
  unfold isName
  generalize nameOk s s.size 0 = X
  grind
theorem isName_l0 (s : ByteArray) (most : Int) (hs : s.size ≤ 9223372036854775807) (d : Nat) : ∀ (i k : Nat), i + d = s.size → d < k → impl_isName.l0 k s most s.size (i : Int) = some (nameOk s d i && (decide ((s.size : Int) ≥ 1) && decide ((s.size : Int) ≤ most))) := by
  induction d with
  | zero =>
    intro i k hi hk
    obtain ⟨k, rfl⟩ : ∃ m, k = m + 1 := ⟨k - 1, by omega⟩
    simp only [impl_isName.l0, impl_long.f, impl_within.f, Option.bind_some, nameOk]
    rw [if_neg (by omega)]
    grind
  | succ d ih =>
    intro i k hi hk
    obtain ⟨k, rfl⟩ : ∃ m, k = m + 1 := ⟨k - 1, by omega⟩
    have e : wrap64 ((i : Int) + 1) = ((i + 1 : Nat) : Int) := by rw [w64 (by omega) (by omega)]; omega
    have h := ih (i + 1) k (by omega) (by omega)
    simp only [impl_isName.l0, e, h]
    rw [if_pos (by omega), if_pos (by omega), if_pos (by omega)]
    refine (nameStep _ _ _).trans ?_
    simp [nameOk, Bool.and_assoc]
theorem isName_ev (s : ByteArray) (most : Int) (hs : s.size ≤ 9223372036854775807) : Ev (fun k => impl_isName.f k s most) (isName s most) := by
  refine ev_from (s.size + 3) fun k hk => ?_
  have h := isName_l0 s most hs s.size 0 k (by omega) (by omega)
  simp only [impl_isName.f]
  exact h
theorem within_eq (a b c : Int) : impl_within.f a b c = some (decide (b ≤ a) && decide (a ≤ c)) := by
  unfold impl_within.f
  by_cases h : a ≥ b <;> simp [h]
def snapRight (n : ByteArray) (d : Int) (r : ByteArray) : Bool := isName n 20 && ((decide (0 ≤ d) && decide (d ≤ 1000000)) && ((r.size : Int) == 32))
theorem snapRight_s (n : ByteArray) (d : Int) (r : ByteArray) (hn : n.size ≤ 9223372036854775807) : Ev (fun k => spec_SnapRight.f k n d r) (snapRight n d r) := by
  unfold spec_SnapRight.f spec_l12Name.f
  have e1 := nameRight_ev n hn
  have e2 : Ev (fun k => (spec_NameRight.f k n).bind fun t102 => (if t102 = true then (some (decide ((n.size : Int) ≤ 20))) else (some false))) (isName n 20) := by
    refine Ev.bind e1 ?_
    refine ev_from 0 fun k _ => ?_
    unfold isName
    by_cases h : (nameOk n n.size 0 && (decide ((n.size : Int) ≥ 1) && decide ((n.size : Int) ≤ 80))) = true
    · rw [if_pos h]
      simp at h
      simp [h]
    · rw [if_neg h]
      simp at h
      congr 1
      symm
      simp
      intro h1 h2
      have := h h1 h2
      omega
  refine Ev.bind e2 ?_
  refine ev_from 0 fun k _ => ?_
  unfold snapRight spec_l12Day.f
  by_cases h1 : isName n 20 = true <;> by_cases h2 : d ≥ 0 <;> by_cases h3 : d ≤ 1000000 <;> simp [h1, h2, h3]
theorem snapRight_i (n : ByteArray) (d : Int) (r : ByteArray) (hn : n.size ≤ 9223372036854775807) : Ev (fun k => impl_SnapRight.f k n d r) (snapRight n d r) := by
  unfold impl_SnapRight.f impl_isSnapName.f impl_isDay.f
  have e1 := isName_ev n 20 hn
  refine Ev.bind (Ev.bind e1 (Ev.now _)) ?_
  refine ev_from 0 fun k _ => ?_
  simp only [within_eq, Option.bind_some, snapRight]
  by_cases h1 : isName n 20 = true <;> by_cases h2 : 0 ≤ d <;> by_cases h3 : d ≤ 1000000 <;> simp [h1, h2, h3]
abbrev LS := S37
abbrev IS := S40
def wSnap (x : S37) : Int := (x.f0.size : Int) + (x.f2.size : Int)
theorem wSnap_pos (x : S37) : 0 ≤ wSnap x := by
  unfold wSnap
  omega
theorem szSnap_ev (x : S37) (left : Int) (h0 : 0 ≤ left) (h1 : left ≤ 1048576) (hx : ok37 x) : Evs (fun k => laws_szSnap.f x.f0 x.f1 x.f2 left) (fun r => 0 ≤ r → r + wSnap x = left) := by
  obtain ⟨hf0, hf1, hf2⟩ := hx
  unfold wSnap laws_szSnap.f
  rw [sz_wrap (left := left) (s := (x.f0.size : Int)) (by omega) (by omega) (by omega) (by omega)]
  refine Evs.ite (fun _ => Evs.now _ (by omega)) (fun n0 => ?_)
  rw [sz_wrap (left := (left - (x.f0.size : Int))) (s := (x.f2.size : Int)) (by omega) (by omega) (by omega) (by omega)]
  refine Evs.ite (fun _ => Evs.now _ (by omega)) (fun n1 => ?_)
  exact Evs.now _ (by omega)
theorem szSnapS_ev (l : List (S37)) (left : Int) (h0 : 0 ≤ left) (h1 : left ≤ 1048576) (hlo : (l.length ≤ 9223372036854775807 ∧ ∀ x ∈ l, ok37 x)) : Evs (fun k => laws_szSnapS.f k l left) (fun r => 0 ≤ r → r + ((l.length : Int) + (l.map (fun x => wSnap x)).sum) = left) := by
  obtain ⟨hl, hok⟩ := hlo
  unfold laws_szSnapS.f
  rw [sz_wrap h0 h1 (by omega) (by omega)]
  refine Evs.ite (fun _ => Evs.now _ (by have := sum_pos (fun x => wSnap x) l (fun x => wSnap_pos x); omega)) (fun hneg => ?_)
  have hpos : ∀ x : S37, 0 ≤ wSnap x := fun x => wSnap_pos x
  refine Evs.mon (fun k => (laws_szSnapS.mono_l k) _ _ _) ?_
  obtain ⟨r, h3, h4⟩ := loop_up (fun k (s : Int) i => laws_szSnapS.l0 k l s i) l.length hl 0 (fun i s => 0 ≤ s ∧ s + ((l.take i).map (fun x => wSnap x)).sum = left - l.length) (fun r => 0 ≤ r → r + (l.map (fun x => wSnap x)).sum = left - l.length)
    (fun k i s hi hs hK hw => by
      obtain ⟨hs0, hs1⟩ := hs
      have hsum := sum_pos (fun x => wSnap x) (l.take i) hpos
      have hp := hpos l[i]
      have e : rd_T37 l (i : Int) = l[i] := getD_nat l i _ hi
      have ht := sum_take_succ (fun x => wSnap x) l i hi
      obtain ⟨r0, hr0, hq0⟩ := szSnap_ev l[i] s hs0 (by omega) (hok l[i] (List.getElem_mem hi))
      obtain ⟨r1, hr1⟩ : ∃ r1, laws_szSnap.f l[i].f0 l[i].f1 l[i].f2 s = some r1 := ⟨r0, (hr0.choose_spec _ (Nat.le_refl _))⟩
      obtain rfl : r1 = r0 := Option.some.inj (hr1.symm.trans (hr0.choose_spec _ (Nat.le_refl _)))
      simp only [laws_szSnapS.l0, e]
      rw [if_pos (by omega), if_pos (by omega), hr1, hw]
      simp only [Option.bind_some]
      by_cases hr : r1 < 0
      · exact Or.inr ⟨-1, by rw [if_pos hr], by omega⟩
      · exact Or.inl ⟨r1, ⟨by omega, by rw [ht]; have := hq0 (by omega); omega⟩, by rw [if_neg hr]⟩      )
    (fun k s hs => by
      obtain ⟨hs0, hs1⟩ := hs
      refine ⟨s, by simp only [laws_szSnapS.l0]; rw [if_neg (by omega)], fun _ => ?_⟩
      rw [List.take_of_length_le (Nat.le_refl _)] at hs1
      exact hs1)
    l.length 0 (l.length + 0 + 1) (left - l.length) (by omega) ⟨by omega, by simp⟩ (by omega)
  exact ⟨_, r, h3, fun h => by have := h4 h; omega⟩
def toSnap (x : S37) : S40 := ⟨x.f0, x.f1, x.f2⟩
theorem toSnapS_ev (l : List (S37)) (hl : l.length ≤ 1048576) : Ev (fun k => laws_toSnapS.f k l) (l.map toSnap) := by
  have hn : ((l.length : Int)).toNat = l.length := Int.toNat_natCast _
  refine Ev.congr (f := fun k => laws_toSnapS.l0 k l (List.replicate l.length z40) 0) (fun k => ?_) ?_
  · unfold laws_toSnapS.f
    rw [if_pos (by omega), if_pos (by omega), hn]
  · exact loop_ev (fun k (s : List (S40)) i => laws_toSnapS.l0 k l s i) l.length (by omega) 0 (fun i s => s.length = l.length ∧ ∀ j, j < i → s[j]? = (l.map toSnap)[j]?) _
      (fun k i s hi hv hK hw => by
      have e : rd_T37 l (i : Int) = l[i] := getD_nat l i _ hi
      have hlen := hv.1
      simp only [laws_toSnapS.l0, e, laws_toSnap.f]
      rw [if_pos (by omega), if_pos (by omega), hw]
      simp only [Option.bind_some]
      rw [if_pos (by omega)]
      exact Or.inl ⟨_, fill_step toSnap l s i hi hv.1 hv.2 _ rfl, rfl⟩)
      (fun k s hv => by
      simp only [laws_toSnapS.l0]
      rw [if_neg (by omega)]
      exact congrArg some (fill_done toSnap l s hv.1 hv.2))
      _ ⟨by simp, fun j hj => absurd hj (by omega)⟩
theorem eqSnap_refl (a0 : ByteArray) (a1 : Int) (a2 : ByteArray) : laws_eqSnap.f a0 a1 a2 a0 a1 a2 = some true := by
  unfold laws_eqSnap.f
  rw [if_pos rfl]
  rw [if_pos rfl]
  rw [if_pos rfl]
theorem eqSnapS_refl (l : List (S40)) (hl : l.length ≤ 9223372036854775807) : Ev (fun k => laws_eqSnapS.f k l l) true := by
  unfold laws_eqSnapS.f
  refine ev_if_pos rfl ?_
  exact loop_ev (fun k (s : Unit) i => laws_eqSnapS.l0 k l l i) l.length hl 0 (fun _ _ => True) true
    (fun k i s hi _ hK hw => Or.inl ⟨(), trivial, by
      simp only [laws_eqSnapS.l0, eqSnap_refl, Option.bind_some]
      rw [if_pos (by omega), if_pos (by omega), if_pos (by omega), if_pos trivial, hw]⟩)
    (fun k s _ => by simp only [laws_eqSnapS.l0]; rw [if_neg (by omega)]) () trivial
def snapAt (l : List IS) (i : Nat) : Bool := (fun x : IS => snapRight x.f0 x.f1 x.f2) (l.getD i z40) && (i == 0 || Op.bytesLess (l.getD (i - 1) z40).f0.toList (l.getD i z40).f0.toList)
def snapsRight (l : List IS) : Bool := decide (l.length ≤ 100) && (List.range l.length).all (snapAt l)
theorem rd_nat (l : List IS) (i : Nat) : rd_T40 l (i : Int) = l.getD i z40 := by
  unfold rd_T40
  rw [Int.toNat_natCast]
theorem rd_mem (l : List IS) (i : Nat) (h : i < l.length) : l.getD i z40 ∈ l := by
  rw [List.getD_eq_getElem?_getD, List.getElem?_eq_getElem h]
  exact List.getElem_mem h
theorem rd_prev (l : List IS) (i : Nat) (h0 : 0 < i) (h : i < l.length) (hl : l.length ≤ 100) : rd_T40 l (wrap64 ((i : Int) - 1)) = l.getD (i - 1) z40 ∧ 0 ≤ wrap64 ((i : Int) - 1) ∧ wrap64 ((i : Int) - 1) < (l.length : Int) := getD_prev l i _ h0 h (by omega)
theorem snapsRight_s (l : List IS) (hs : ∀ x ∈ l, x.f0.size ≤ 9223372036854775807) : Ev (fun k => spec_SnapsRight.f k l) (snapsRight l) := by
  unfold spec_SnapsRight.f snapsRight
  by_cases h : (l.length : Int) > 100
  · refine ev_if_pos h ?_
    rw [decide_eq_false (by omega)]
    exact Ev.now _
  refine ev_if_neg h ?_
  rw [decide_eq_true (by omega), Bool.true_and]
  obtain ⟨K, hK⟩ := ev_all (fun (x : IS) k => spec_SnapRight.f k x.f0 x.f1 x.f2) (fun x => snapRight x.f0 x.f1 x.f2) l (fun x hx => snapRight_s _ _ _ (hs x hx))
  refine loop_all (fun k i => spec_SnapsRight.l0 k l i) l.length (by omega) K (snapAt l) (fun k i hi hk hw => ?_) (fun k => by simp only [spec_SnapsRight.l0]; rw [if_neg (by omega)])
  have hr := hK _ (rd_mem l i hi) k hk

  simp only [spec_SnapsRight.l0, rd_nat, hr, hw, snapAt, Option.bind_some]
  rw [if_pos (by omega), if_pos (by omega)]
  by_cases hx : snapRight (l.getD i z40).f0 (l.getD i z40).f1 (l.getD i z40).f2 = true
  · rw [if_pos hx]
    by_cases h0 : 0 < i
    · obtain ⟨h1, h2, h3⟩ := rd_prev l i h0 hi (by omega)
      rw [if_pos (by omega), if_pos h2, if_pos h3, h1]
      have hi0 : (i == 0) = false := beq_eq_false_iff_ne.2 (by omega)
      simp only [hx, hi0, Bool.true_and, Bool.false_or]
    · obtain rfl : i = 0 := by omega
      rw [if_neg (by omega)]
      simp only [hx, Bool.true_and, beq_self_eq_true, Bool.true_or, if_true]
  · rw [if_neg hx]
    rw [Bool.not_eq_true] at hx
    simp only [hx, Bool.false_and]
    rfl
theorem snapsRight_i (l : List IS) (hs : ∀ x ∈ l, x.f0.size ≤ 9223372036854775807) : Ev (fun k => impl_SnapsRight.f k l) (snapsRight l) := by
  unfold impl_SnapsRight.f snapsRight
  by_cases h : (l.length : Int) > 100
  · refine ev_if_pos h ?_
    rw [decide_eq_false (by omega)]
    exact Ev.now _
  refine ev_if_neg h ?_
  rw [decide_eq_true (by omega), Bool.true_and]
  obtain ⟨K, hK⟩ := ev_all (fun (x : IS) k => impl_SnapRight.f k x.f0 x.f1 x.f2) (fun x => snapRight x.f0 x.f1 x.f2) l (fun x hx => snapRight_i _ _ _ (hs x hx))
  refine loop_all (fun k i => impl_SnapsRight.l0 k l l (l.length : Int) i) l.length (by omega) K (snapAt l) (fun k i hi hk hw => ?_) (fun k => by simp only [impl_SnapsRight.l0]; rw [if_neg (by omega)])
  have hr := hK _ (rd_mem l i hi) k hk

  simp only [impl_SnapsRight.l0, rd_nat, hr, hw, snapAt, Option.bind_some]
  rw [if_pos (by omega), if_pos (by omega), if_pos (by omega)]
  by_cases hx : snapRight (l.getD i z40).f0 (l.getD i z40).f1 (l.getD i z40).f2 = true
  · rw [if_pos hx]
    by_cases h0 : 0 < i
    · obtain ⟨h1, h2, h3⟩ := rd_prev l i h0 hi (by omega)
      rw [if_pos (by omega), if_pos h2, if_pos h3, h1]
      have hi0 : (i == 0) = false := beq_eq_false_iff_ne.2 (by omega)
      simp only [hx, hi0, Bool.true_and, Bool.false_or]
    · obtain rfl : i = 0 := by omega
      rw [if_neg (by omega)]
      simp only [hx, Bool.true_and, beq_self_eq_true, Bool.true_or, if_true]
  · rw [if_neg hx]
    rw [Bool.not_eq_true] at hx
    simp only [hx, Bool.false_and]
    rfl
theorem FnExactSnapsRight : FnExactSnapsRight_Pure := by
  intro l hl hok
  refine Ev.rounds (g := fun k => laws_FnExactSnapsRight.f k l) (Evs.ev ?_)
  unfold laws_FnExactSnapsRight.f
  refine Evs.bind (szSnapS_ev l 1048576 (by omega) (by omega) ⟨hl, hok⟩) (fun r hr => Evs.ite (fun _ => Evs.now _ rfl) (fun hn => ?_))
  have hsum := hr (by omega)
  have hpos := sum_pos (fun x => wSnap x) l (fun x => wSnap_pos x)
  have hto := toSnapS_ev l (by omega)
  have hs : ∀ x ∈ l.map toSnap, x.f0.size ≤ 9223372036854775807 := by
    intro x hx
    obtain ⟨y, hy, rfl⟩ := List.mem_map.1 hx
    exact (hok y hy).1
  refine ⟨_, Ev.bind hto (Ev.bind (snapsRight_s _ hs) (Ev.bind hto (Ev.bind (snapsRight_i _ hs) (ev_if_neg (by simp) (Ev.bind hto (Ev.bind (eqSnapS_refl _ (by simp; omega)) (ev_if_pos rfl (Ev.now _)))))))), rfl⟩
end Go.Proofs.Ytgmdakcfcmkhkaa.Pure
