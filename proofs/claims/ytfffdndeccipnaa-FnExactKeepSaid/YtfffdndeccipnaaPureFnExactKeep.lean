/- The plain law of FnExactKeep: at every policy and every list of snapshots Keep answers as the reference, and what it gives shares nothing. -/
import Derived.Test.YtfffdndeccipnaaOkFnExactKeep
import Derived.Test.YtfffdndeccipnaaVLibFnExactKeep
namespace Go.Proofs.Ytfffdndeccipnaa.Pure
open Go.RowKit Go.Proofs.Ytfffdndeccipnaa.PFnExactKeep Go.Proofs.Ytfffdndeccipnaa.Lib Go.Proofs.YtfffdndeccipnaaW.PrintWords Go.Proofs.YtfffdndeccipnaaW.PrintLast Go.Proofs.YtfffdndeccipnaaW.PrintMore
set_option linter.unusedVariables false
set_option linter.unusedSimpArgs false
theorem nameRight_l0 (s : ByteArray) (hs : s.size ≤ 9223372036854775807) (d : Nat) : ∀ (i k : Nat), i + d = s.size → d < k → spec_NameRight.l0 k s (i : Int) = some (nameOk s d i) := by
  induction d with
  | zero =>
    intro i k hi hk
    obtain ⟨k, rfl⟩ : ∃ m, k = m + 1 := ⟨k - 1, by omega⟩
    simp only [spec_NameRight.l0]
    rw [if_neg (by omega)]
    rfl
  | succ d ih =>
    intro i k hi hk
    obtain ⟨k, rfl⟩ : ∃ m, k = m + 1 := ⟨k - 1, by omega⟩
    have e : wrap64 ((i : Int) + 1) = ((i + 1 : Nat) : Int) := by rw [w64 (by omega) (by omega)]; omega
    have h := ih (i + 1) k (by omega) (by omega)
    simp only [spec_NameRight.l0, e, h]
    rw [if_pos (by omega), if_pos (by omega)]
    exact nameStep _ _ _
theorem nameRight_ev (s : ByteArray) (hs : s.size ≤ 9223372036854775807) : Ev (fun k => spec_NameRight.f k s) (isName s 80) := by
  refine ev_from (s.size + 3) fun k hk => ?_
  obtain ⟨k, rfl⟩ : ∃ m, k = m + 1 := ⟨k - 1, by omega⟩
  have h := nameRight_l0 s hs s.size 0 k (by omega) (by omega)
  simp only [spec_NameRight.f, spec_NameRight.j0]
  have h' : spec_NameRight.l0 k s 0 = some (nameOk s s.size 0) := h
  rw [h']
  unfold isName
  generalize nameOk s s.size 0 = X
  grind
theorem isName_l0 (s : ByteArray) (most : Int) (hs : s.size ≤ 9223372036854775807) (d : Nat) : ∀ (i k : Nat), i + d = s.size → d < k → impl_isName.l0 k s most s.size (i : Int) = some (nameOk s d i && (decide ((s.size : Int) ≥ 1) && decide ((s.size : Int) ≤ most))) := by
  induction d with
  | zero =>
    intro i k hi hk
    obtain ⟨k, rfl⟩ : ∃ m, k = m + 1 := ⟨k - 1, by omega⟩
    simp only [impl_isName.l0, impl_long.f, impl_within.f, Option.bind_some, nameOk]
    rw [if_neg (by omega)]
    grind
  | succ d ih =>
    intro i k hi hk
    obtain ⟨k, rfl⟩ : ∃ m, k = m + 1 := ⟨k - 1, by omega⟩
    have e : wrap64 ((i : Int) + 1) = ((i + 1 : Nat) : Int) := by rw [w64 (by omega) (by omega)]; omega
    have h := ih (i + 1) k (by omega) (by omega)
    simp only [impl_isName.l0, e, h]
    rw [if_pos (by omega), if_pos (by omega), if_pos (by omega)]
    refine (nameStep _ _ _).trans ?_
    simp [nameOk, Bool.and_assoc]
theorem isName_ev (s : ByteArray) (most : Int) (hs : s.size ≤ 9223372036854775807) : Ev (fun k => impl_isName.f k s most) (isName s most) := by
  refine ev_from (s.size + 3) fun k hk => ?_
  have h := isName_l0 s most hs s.size 0 k (by omega) (by omega)
  simp only [impl_isName.f]
  exact h
theorem within_eq (a b c : Int) : impl_within.f a b c = some (decide (b ≤ a) && decide (a ≤ c)) := by
  unfold impl_within.f
  by_cases h : a ≥ b <;> simp [h]
def snapRight (n : ByteArray) (d : Int) (r : ByteArray) : Bool := isName n 20 && ((decide (0 ≤ d) && decide (d ≤ 1000000)) && ((r.size : Int) == 32))
theorem snapRight_s (n : ByteArray) (d : Int) (r : ByteArray) (hn : n.size ≤ 9223372036854775807) : Ev (fun k => spec_SnapRight.f k n d r) (snapRight n d r) := by
  unfold spec_SnapRight.f spec_l12Name.f
  have e1 := nameRight_ev n hn
  have e2 : Ev (fun k => (spec_NameRight.f k n).bind fun t102 => (if t102 = true then (some (decide ((n.size : Int) ≤ 20))) else (some false))) (isName n 20) := by
    refine Ev.bind e1 ?_
    refine ev_from 0 fun k _ => ?_
    unfold isName
    by_cases h : (nameOk n n.size 0 && (decide ((n.size : Int) ≥ 1) && decide ((n.size : Int) ≤ 80))) = true
    · rw [if_pos h]
      simp at h
      simp [h]
    · rw [if_neg h]
      simp at h
      congr 1
      symm
      simp
      intro h1 h2
      have := h h1 h2
      omega
  refine Ev.bind e2 ?_
  refine ev_from 0 fun k _ => ?_
  unfold snapRight spec_l12Day.f
  by_cases h1 : isName n 20 = true <;> by_cases h2 : d ≥ 0 <;> by_cases h3 : d ≤ 1000000 <;> simp [h1, h2, h3]
theorem snapRight_i (n : ByteArray) (d : Int) (r : ByteArray) (hn : n.size ≤ 9223372036854775807) : Ev (fun k => impl_SnapRight.f k n d r) (snapRight n d r) := by
  unfold impl_SnapRight.f impl_isSnapName.f impl_isDay.f
  have e1 := isName_ev n 20 hn
  refine Ev.bind (Ev.bind e1 (Ev.now _)) ?_
  refine ev_from 0 fun k _ => ?_
  simp only [within_eq, Option.bind_some, snapRight]
  by_cases h1 : isName n 20 = true <;> by_cases h2 : 0 ≤ d <;> by_cases h3 : d ≤ 1000000 <;> simp [h1, h2, h3]
abbrev LS := S129
abbrev IS := S132
def wSnap (x : S129) : Int := (x.f0.size : Int) + (x.f2.size : Int)
theorem wSnap_pos (x : S129) : 0 ≤ wSnap x := by
  unfold wSnap
  omega
theorem szSnap_ev (x : S129) (left : Int) (h0 : 0 ≤ left) (h1 : left ≤ 1048576) (hx : ok129 x) : Evs (fun k => laws_szSnap.f x.f0 x.f1 x.f2 left) (fun r => 0 ≤ r → r + wSnap x = left) := by
  obtain ⟨hf0, hf1, hf2⟩ := hx
  unfold wSnap laws_szSnap.f
  rw [sz_wrap (left := left) (s := (x.f0.size : Int)) (by omega) (by omega) (by omega) (by omega)]
  refine Evs.ite (fun _ => Evs.now _ (by omega)) (fun n0 => ?_)
  rw [sz_wrap (left := (left - (x.f0.size : Int))) (s := (x.f2.size : Int)) (by omega) (by omega) (by omega) (by omega)]
  refine Evs.ite (fun _ => Evs.now _ (by omega)) (fun n1 => ?_)
  exact Evs.now _ (by omega)
theorem szSnapS_ev (l : List (S129)) (left : Int) (h0 : 0 ≤ left) (h1 : left ≤ 1048576) (hlo : (l.length ≤ 9223372036854775807 ∧ ∀ x ∈ l, ok129 x)) : Evs (fun k => laws_szSnapS.f k l left) (fun r => 0 ≤ r → r + ((l.length : Int) + (l.map (fun x => wSnap x)).sum) = left) := by
  obtain ⟨hl, hok⟩ := hlo
  unfold laws_szSnapS.f
  rw [sz_wrap h0 h1 (by omega) (by omega)]
  refine Evs.ite (fun _ => Evs.now _ (by have := sum_pos (fun x => wSnap x) l (fun x => wSnap_pos x); omega)) (fun hneg => ?_)
  have hpos : ∀ x : S129, 0 ≤ wSnap x := fun x => wSnap_pos x
  refine Evs.mon (fun k => (laws_szSnapS.mono_l k) _ _ _) ?_
  obtain ⟨r, h3, h4⟩ := loop_up (fun k (s : Int) i => laws_szSnapS.l0 k l s i) l.length hl 0 (fun i s => 0 ≤ s ∧ s + ((l.take i).map (fun x => wSnap x)).sum = left - l.length) (fun r => 0 ≤ r → r + (l.map (fun x => wSnap x)).sum = left - l.length)
    (fun k i s hi hs hK hw => by
      obtain ⟨hs0, hs1⟩ := hs
      have hsum := sum_pos (fun x => wSnap x) (l.take i) hpos
      have hp := hpos l[i]
      have e : rd_T129 l (i : Int) = l[i] := getD_nat l i _ hi
      have ht := sum_take_succ (fun x => wSnap x) l i hi
      obtain ⟨r0, hr0, hq0⟩ := szSnap_ev l[i] s hs0 (by omega) (hok l[i] (List.getElem_mem hi))
      obtain ⟨r1, hr1⟩ : ∃ r1, laws_szSnap.f l[i].f0 l[i].f1 l[i].f2 s = some r1 := ⟨r0, (hr0.choose_spec _ (Nat.le_refl _))⟩
      obtain rfl : r1 = r0 := Option.some.inj (hr1.symm.trans (hr0.choose_spec _ (Nat.le_refl _)))
      simp only [laws_szSnapS.l0, e]
      rw [if_pos (by omega), if_pos (by omega), hr1, hw]
      simp only [Option.bind_some]
      by_cases hr : r1 < 0
      · exact Or.inr ⟨-1, by rw [if_pos hr], by omega⟩
      · exact Or.inl ⟨r1, ⟨by omega, by rw [ht]; have := hq0 (by omega); omega⟩, by rw [if_neg hr]⟩      )
    (fun k s hs => by
      obtain ⟨hs0, hs1⟩ := hs
      refine ⟨s, by simp only [laws_szSnapS.l0]; rw [if_neg (by omega)], fun _ => ?_⟩
      rw [List.take_of_length_le (Nat.le_refl _)] at hs1
      exact hs1)
    l.length 0 (l.length + 0 + 1) (left - l.length) (by omega) ⟨by omega, by simp⟩ (by omega)
  exact ⟨_, r, h3, fun h => by have := h4 h; omega⟩
def toSnap (x : S129) : S132 := ⟨x.f0, x.f1, x.f2⟩
theorem toSnapS_ev (l : List (S129)) (hl : l.length ≤ 1048576) : Ev (fun k => laws_toSnapS.f k l) (l.map toSnap) := by
  have hn : ((l.length : Int)).toNat = l.length := Int.toNat_natCast _
  refine Ev.congr (f := fun k => laws_toSnapS.l0 k l (List.replicate l.length z132) 0) (fun k => ?_) ?_
  · unfold laws_toSnapS.f
    rw [if_pos (by omega), if_pos (by omega), hn]
  · exact loop_ev (fun k (s : List (S132)) i => laws_toSnapS.l0 k l s i) l.length (by omega) 0 (fun i s => s.length = l.length ∧ ∀ j, j < i → s[j]? = (l.map toSnap)[j]?) _
      (fun k i s hi hv hK hw => by
      have e : rd_T129 l (i : Int) = l[i] := getD_nat l i _ hi
      have hlen := hv.1
      simp only [laws_toSnapS.l0, e, laws_toSnap.f]
      rw [if_pos (by omega), if_pos (by omega), hw]
      simp only [Option.bind_some]
      rw [if_pos (by omega)]
      exact Or.inl ⟨_, fill_step toSnap l s i hi hv.1 hv.2 _ rfl, rfl⟩)
      (fun k s hv => by
      simp only [laws_toSnapS.l0]
      rw [if_neg (by omega)]
      exact congrArg some (fill_done toSnap l s hv.1 hv.2))
      _ ⟨by simp, fun j hj => absurd hj (by omega)⟩
theorem eqSnap_refl (a0 : ByteArray) (a1 : Int) (a2 : ByteArray) : laws_eqSnap.f a0 a1 a2 a0 a1 a2 = some true := by
  unfold laws_eqSnap.f
  rw [if_pos rfl]
  rw [if_pos rfl]
  rw [if_pos rfl]
theorem eqSnapS_refl (l : List (S132)) (hl : l.length ≤ 9223372036854775807) : Ev (fun k => laws_eqSnapS.f k l l) true := by
  unfold laws_eqSnapS.f
  refine ev_if_pos rfl ?_
  exact loop_ev (fun k (s : Unit) i => laws_eqSnapS.l0 k l l i) l.length hl 0 (fun _ _ => True) true
    (fun k i s hi _ hK hw => Or.inl ⟨(), trivial, by
      simp only [laws_eqSnapS.l0, eqSnap_refl, Option.bind_some]
      rw [if_pos (by omega), if_pos (by omega), if_pos (by omega), if_pos trivial, hw]⟩)
    (fun k s _ => by simp only [laws_eqSnapS.l0]; rw [if_neg (by omega)]) () trivial
def snapAt (l : List IS) (i : Nat) : Bool := (fun x : IS => snapRight x.f0 x.f1 x.f2) (l.getD i z132) && (i == 0 || Op.bytesLess (l.getD (i - 1) z132).f0.toList (l.getD i z132).f0.toList)
def snapsRight (l : List IS) : Bool := decide (l.length ≤ 100) && (List.range l.length).all (snapAt l)
theorem rd_nat (l : List IS) (i : Nat) : rd_T132 l (i : Int) = l.getD i z132 := by
  unfold rd_T132
  rw [Int.toNat_natCast]
theorem rd_mem (l : List IS) (i : Nat) (h : i < l.length) : l.getD i z132 ∈ l := by
  rw [List.getD_eq_getElem?_getD, List.getElem?_eq_getElem h]
  exact List.getElem_mem h
theorem rd_prev (l : List IS) (i : Nat) (h0 : 0 < i) (h : i < l.length) (hl : l.length ≤ 100) : rd_T132 l (wrap64 ((i : Int) - 1)) = l.getD (i - 1) z132 ∧ 0 ≤ wrap64 ((i : Int) - 1) ∧ wrap64 ((i : Int) - 1) < (l.length : Int) := getD_prev l i _ h0 h (by omega)
theorem snapsRight_s (l : List IS) (hs : ∀ x ∈ l, x.f0.size ≤ 9223372036854775807) : Ev (fun k => spec_SnapsRight.f k l) (snapsRight l) := by
  unfold spec_SnapsRight.f snapsRight
  by_cases h : (l.length : Int) > 100
  · refine ev_if_pos h ?_
    rw [decide_eq_false (by omega)]
    exact Ev.now _
  refine ev_if_neg h ?_
  rw [decide_eq_true (by omega), Bool.true_and]
  obtain ⟨K, hK⟩ := ev_all (fun (x : IS) k => spec_SnapRight.f k x.f0 x.f1 x.f2) (fun x => snapRight x.f0 x.f1 x.f2) l (fun x hx => snapRight_s _ _ _ (hs x hx))
  refine loop_all (fun k i => spec_SnapsRight.l0 k l i) l.length (by omega) K (snapAt l) (fun k i hi hk hw => ?_) (fun k => by simp only [spec_SnapsRight.l0]; rw [if_neg (by omega)])
  have hr := hK _ (rd_mem l i hi) k hk

  simp only [spec_SnapsRight.l0, rd_nat, hr, hw, snapAt, Option.bind_some]
  rw [if_pos (by omega), if_pos (by omega)]
  by_cases hx : snapRight (l.getD i z132).f0 (l.getD i z132).f1 (l.getD i z132).f2 = true
  · rw [if_pos hx]
    by_cases h0 : 0 < i
    · obtain ⟨h1, h2, h3⟩ := rd_prev l i h0 hi (by omega)
      rw [if_pos (by omega), if_pos h2, if_pos h3, h1]
      have hi0 : (i == 0) = false := beq_eq_false_iff_ne.2 (by omega)
      simp only [hx, hi0, Bool.true_and, Bool.false_or]
    · obtain rfl : i = 0 := by omega
      rw [if_neg (by omega)]
      simp only [hx, Bool.true_and, beq_self_eq_true, Bool.true_or, if_true]
  · rw [if_neg hx]
    rw [Bool.not_eq_true] at hx
    simp only [hx, Bool.false_and]
    rfl
theorem snapsRight_i (l : List IS) (hs : ∀ x ∈ l, x.f0.size ≤ 9223372036854775807) : Ev (fun k => impl_SnapsRight.f k l) (snapsRight l) := by
  unfold impl_SnapsRight.f snapsRight
  by_cases h : (l.length : Int) > 100
  · refine ev_if_pos h ?_
    rw [decide_eq_false (by omega)]
    exact Ev.now _
  refine ev_if_neg h ?_
  rw [decide_eq_true (by omega), Bool.true_and]
  obtain ⟨K, hK⟩ := ev_all (fun (x : IS) k => impl_SnapRight.f k x.f0 x.f1 x.f2) (fun x => snapRight x.f0 x.f1 x.f2) l (fun x hx => snapRight_i _ _ _ (hs x hx))
  refine loop_all (fun k i => impl_SnapsRight.l0 k l l (l.length : Int) i) l.length (by omega) K (snapAt l) (fun k i hi hk hw => ?_) (fun k => by simp only [impl_SnapsRight.l0]; rw [if_neg (by omega)])
  have hr := hK _ (rd_mem l i hi) k hk

  simp only [impl_SnapsRight.l0, rd_nat, hr, hw, snapAt, Option.bind_some]
  rw [if_pos (by omega), if_pos (by omega), if_pos (by omega)]
  by_cases hx : snapRight (l.getD i z132).f0 (l.getD i z132).f1 (l.getD i z132).f2 = true
  · rw [if_pos hx]
    by_cases h0 : 0 < i
    · obtain ⟨h1, h2, h3⟩ := rd_prev l i h0 hi (by omega)
      rw [if_pos (by omega), if_pos h2, if_pos h3, h1]
      have hi0 : (i == 0) = false := beq_eq_false_iff_ne.2 (by omega)
      simp only [hx, hi0, Bool.true_and, Bool.false_or]
    · obtain rfl : i = 0 := by omega
      rw [if_neg (by omega)]
      simp only [hx, Bool.true_and, beq_self_eq_true, Bool.true_or, if_true]
  · rw [if_neg hx]
    rw [Bool.not_eq_true] at hx
    simp only [hx, Bool.false_and]
    rfl
/-- one more letter. -/
theorem one_size (a : Int) : (strOfNums [a]).size = 1 := by
  simp [strOfNums, ByteArray.size]
theorem markText_l0 : ∀ (b : Nat) (n : Nat) (x : ByteArray), n ≤ b → b ≤ 4611686018427387904 → x.size + n ≤ 4611686018427387904 → ∃ v, Ev (fun k => laws_markText.l0 k (n : Int) x) v := by
  intro b
  induction b with
  | zero =>
    intro n x hn _ hx
    obtain rfl : n = 0 := by omega
    refine ⟨(⟨#[109]⟩ : ByteArray) ++ x, Ev.step (f := fun _ => some ((⟨#[109]⟩ : ByteArray) ++ x)) (fun k => ?_) (Ev.now _)⟩
    simp only [laws_markText.l0]
    rw [if_neg (by omega), if_pos (by omega)]
  | succ b ih =>
    intro n x hn hb hx
    by_cases h0 : n = 0
    · subst h0
      refine ⟨(⟨#[109]⟩ : ByteArray) ++ x, Ev.step (f := fun _ => some ((⟨#[109]⟩ : ByteArray) ++ x)) (fun k => ?_) (Ev.now _)⟩
      simp only [laws_markText.l0]
      rw [if_neg (by omega), if_pos (by omega)]
    · have e : wrap64 (Int.tdiv (n : Int) 10) = ((n / 10 : Nat) : Int) := by
        rw [show Int.tdiv (n : Int) 10 = ((n / 10 : Nat) : Int) from rfl]
        exact w64 (by omega) (by omega)
      have hs : ∀ y : ByteArray, (strOfNums [(wrap64 (48 + Int.tmod (n : Int) 10)) % 256] ++ y).size = 1 + y.size := by
        intro y
        rw [ByteArray.size_append, one_size]
      obtain ⟨v, hv⟩ := ih (n / 10) (strOfNums [(wrap64 (48 + Int.tmod (n : Int) 10)) % 256] ++ x) (by omega) (by omega) (by rw [hs]; omega)
      refine ⟨v, Ev.step (fun k => ?_) hv⟩
      simp only [laws_markText.l0, Option.bind_some, e]
      rw [if_pos (by omega), if_pos (by rw [one_size]; omega)]
theorem markText_ex (n : Nat) (hn : n ≤ 4611686018427387904) : ∃ v, Ev (fun k => laws_markText.f k (n : Int)) v := by
  by_cases h0 : n = 0
  · refine ⟨_, ev_if_pos (show (n : Int) ≤ 0 by omega) (Ev.now (⟨#[109, 48]⟩ : ByteArray))⟩
  · obtain ⟨v, hv⟩ := markText_l0 n n (⟨#[]⟩ : ByteArray) (by omega) hn (by show 0 + n ≤ _; omega)
    exact ⟨v, ev_if_neg (show ¬ (n : Int) ≤ 0 by omega) hv⟩
/-- the mark of number n: what text it is does not matter. -/
noncomputable def mText (n : Nat) : ByteArray := if h : n ≤ 4611686018427387904 then Classical.choose (markText_ex n h) else default
theorem mText_ev (n : Nat) (hn : n ≤ 4611686018427387904) : Ev (fun k => laws_markText.f k (n : Int)) (mText n) := by
  unfold mText
  rw [dif_pos hn]
  exact Classical.choose_spec (markText_ex n hn)
/-- a loop whose rounds each end, with what is known of where it stands. -/
theorem loop_evs {σ ρ : Type} (F : Nat → σ → Int → Option ρ) (n : Nat) (inv : Nat → σ → Prop) (Q : ρ → Prop)
    (hstep : ∀ (i : Nat) (s : σ), i < n → inv i s → (∃ s', inv (i + 1) s' ∧ ∀ v, Ev (fun k => F k s' ((i + 1 : Nat) : Int)) v → Ev (fun k => F k s (i : Int)) v))
    (hend : ∀ (s : σ), inv n s → Evs (fun k => F k s (n : Int)) Q) : ∀ (s : σ), inv 0 s → Evs (fun k => F k s 0) Q := by
  have main : ∀ (d i : Nat) (s : σ), i + d = n → inv i s → Evs (fun k => F k s (i : Int)) Q := by
    intro d
    induction d with
    | zero =>
      intro i s hi hv
      obtain rfl : i = n := by omega
      exact hend s hv
    | succ d ih =>
      intro i s hi hv
      obtain ⟨s', hs', hv'⟩ := hstep i s (by omega) hv
      obtain ⟨v, h1, h2⟩ := ih (i + 1) s' (by omega) hs'
      exact ⟨v, hv' v h1, h2⟩
  intro s hs
  exact main n 0 s (by omega) hs
theorem wnat (i : Nat) (hi : i ≤ 9223372036854775806) : wrap64 ((i : Int) + 1) = ((i + 1 : Nat) : Int) := by rw [w64 (by omega) (by omega)]; omega
noncomputable def markedS (n m : Nat) : List ByteArray := (List.range n).map (fun i => mText (m + i))
theorem markStringS_ev (l : List ByteArray) (m : Nat) (hl : l.length ≤ 4294967296) (hm : m ≤ 4294967296) : Ev (fun k => laws_markStringS.f k l (m : Int)) (((m + l.length : Nat) : Int), markedS l.length m) := by
  unfold laws_markStringS.f
  refine Evs.ev (loop_evs (fun k (s : List ByteArray × Int) i => laws_markStringS.l0 k s.1 s.2 i) l.length (fun i s => s.2 = ((m + i : Nat) : Int) ∧ s.1.length = l.length ∧ ∀ j, j < i → s.1[j]? = (markedS l.length m)[j]?) _ (fun i s hi hv => ?_) (fun s hv => ?_) (l, (m : Int)) ⟨rfl, rfl, fun j hj => absurd hj (by omega)⟩)
  · obtain ⟨x, k1⟩ := s
    obtain ⟨rfl, h2, h3⟩ := hv
    simp only at h2 h3 ⊢
    refine ⟨(x.set i (mText (m + i)), ((m + (i + 1) : Nat) : Int)), ⟨rfl, by simp [h2], fun j hj => ?_⟩, fun v hv => ?_⟩
    · show (x.set i (mText (m + i)))[j]? = _
      rw [List.getElem?_set]
      by_cases e : i = j
      · subst e
        rw [if_pos rfl, if_pos (by omega)]
        simp [markedS, hi]
      · rw [if_neg e]
        exact h3 j (by omega)
    · obtain ⟨K1, g1⟩ := mText_ev (m + i) (by omega)
      obtain ⟨K2, g2⟩ := hv
      refine ev_from (K1 + K2 + 1) fun k hk => ?_
      obtain ⟨k, rfl⟩ : ∃ q, k = q + 1 := ⟨k - 1, by omega⟩
      have g1' : laws_markText.f k ((m + i : Nat) : Int) = some (mText (m + i)) := g1 k (by omega)
      simp only [laws_markStringS.l0, Int.toNat_natCast, wnat i (by omega), wnat (m + i) (by omega), g1', Option.bind_some]
      rw [if_pos (by omega), if_pos (by omega)]
      exact g2 k (by omega)
  · obtain ⟨x, k1⟩ := s
    obtain ⟨rfl, h2, h3⟩ := hv
    simp only at h2 h3 ⊢
    refine ⟨_, Ev.step (f := fun _ => some (((m + l.length : Nat) : Int), x)) (fun k => ?_) (Ev.now _), ?_⟩
    · simp only [laws_markStringS.l0]
      rw [if_neg (by omega)]
    · congr 1
      refine List.ext_getElem? fun j => ?_
      by_cases hj : j < l.length
      · exact h3 j hj
      · rw [List.getElem?_eq_none (by omega), List.getElem?_eq_none (by simp [markedS]; omega)]
theorem heldStringS_ev (n m : Nat) (hl : n ≤ 4294967296) (hm : m ≤ 4294967296) : Ev (fun k => laws_heldStringS.f k (markedS n m) (m : Int)) ((m + n : Nat) : Int) := by
  unfold laws_heldStringS.f
  have hlen : (markedS n m).length = n := by simp [markedS]
  refine Evs.ev (loop_evs (fun k (s : Int) i => laws_heldStringS.l0 k (markedS n m) s i) n (fun i s => s = ((m + i : Nat) : Int)) _ (fun i s hi hv => ?_) (fun s hv => ?_) (m : Int) rfl)
  · subst hv
    refine ⟨((m + (i + 1) : Nat) : Int), rfl, fun v hv => ?_⟩
    have e : rdOf ByteArray.empty (markedS n m) (i : Int) = mText (m + i) := by
      simp [rdOf, markedS, hi]
    obtain ⟨K1, g1⟩ := mText_ev (m + i) (by omega)
    obtain ⟨K2, g2⟩ := hv
    refine ev_from (K1 + K2 + 1) fun k hk => ?_
    obtain ⟨k, rfl⟩ : ∃ q, k = q + 1 := ⟨k - 1, by omega⟩
    have g1' : laws_markText.f k ((m + i : Nat) : Int) = some (mText (m + i)) := g1 k (by omega)
    simp only [laws_heldStringS.l0, wnat i (by omega), wnat (m + i) (by omega), e, hlen, g1', Option.bind_some]
    rw [if_pos (by omega), if_pos (by omega), if_pos trivial]
    exact g2 k (by omega)
  · subst hv
    refine ⟨_, Ev.step (f := fun _ => some ((m + n : Nat) : Int)) (fun k => ?_) (Ev.now _), rfl⟩
    simp only [laws_heldStringS.l0, hlen]
    rw [if_neg (by omega)]
theorem eqStringS_refl (l : List ByteArray) (hl : l.length ≤ 9223372036854775807) : Ev (fun k => laws_eqStringS.f k l l) true := by
  unfold laws_eqStringS.f
  refine ev_if_pos rfl ?_
  have h := loop_all (fun k i => laws_eqStringS.l0 k l l i) l.length hl 0 (fun _ => true) (fun k i hi _ hw => by simp only [laws_eqStringS.l0, hw]; rw [if_pos (by omega), if_pos (by omega), if_pos (by omega), if_pos trivial]) (fun k => by simp only [laws_eqStringS.l0]; rw [if_neg (by omega)])
  have e : (List.range l.length).all (fun _ => true) = true := by simp
  rw [e] at h
  exact h
abbrev kpR (a b : ByteArray) : Prop := Op.bytesLess a.toList b.toList = true
theorem kp_inj {a b : ByteArray} (h : a.toList = b.toList) : a = b := by
  rw [ByteArray.toList_eq, ByteArray.toList_eq] at h
  exact ByteArray.ext (Array.toList_inj.1 h)
def keyOf (b : Int) (s : IS) : Int := wrap64 (Int.tdiv s.f1 b)
def putL (s : ByteArray) : List ByteArray → List ByteArray
  | [] => [s]
  | y :: r => if Op.bytesLess y.toList s.toList = true then y :: putL s r else if y.toList = s.toList then y :: r else s :: y :: r
theorem putL_len (s : ByteArray) : ∀ l, (putL s l).length ≤ l.length + 1
  | [] => by simp [putL]
  | y :: r => by
    rw [putL]
    have := putL_len s r
    split
    · simp only [List.length_cons]
      omega
    · split <;> simp
def putsL (ns out : List ByteArray) : List ByteArray := ns.foldl (fun o s => putL s o) out
theorem putsL_len : ∀ (ns out : List ByteArray), (putsL ns out).length ≤ out.length + ns.length
  | [], out => by simp [putsL]
  | s :: ns, out => by
    have h1 := putsL_len ns (putL s out)
    have h2 := putL_len s out
    show (putsL ns (putL s out)).length ≤ _
    simp only [List.length_cons]
    omega
theorem putL_mem (s x : ByteArray) : ∀ l, x ∈ putL s l ↔ x = s ∨ x ∈ l
  | [] => by simp [putL]
  | y :: r => by
    rw [putL]
    have ih := putL_mem s x r
    split
    · simp only [List.mem_cons, ih]
      exact ⟨fun h => by rcases h with h | h | h <;> simp [h], fun h => by rcases h with h | h | h <;> simp [h]⟩
    · split
      · rename_i _ h
        have e := kp_inj h
        subst e
        simp
      · simp
theorem putsL_mem (x : ByteArray) : ∀ (ns out : List ByteArray), x ∈ putsL ns out ↔ x ∈ ns ∨ x ∈ out
  | [], out => by simp [putsL]
  | s :: ns, out => by
    show x ∈ putsL ns (putL s out) ↔ _
    rw [putsL_mem x ns, putL_mem, List.mem_cons]
    exact ⟨fun h => by rcases h with h | h | h <;> simp [h], fun h => by rcases h with (h | h) | h <;> simp [h]⟩
theorem putL_sorted (s : ByteArray) : ∀ l, l.Pairwise kpR → (putL s l).Pairwise kpR
  | [], _ => List.pairwise_singleton _ _
  | y :: r, h => by
    have hp := h
    rw [List.pairwise_cons] at h
    rw [putL]
    split
    · rename_i q
      rw [List.pairwise_cons]
      refine ⟨fun z hz => ?_, putL_sorted s r h.2⟩
      rcases (putL_mem s z r).1 hz with rfl | hz
      · exact q
      · exact h.1 z hz
    · rename_i q
      split
      · exact hp
      · rename_i q2
        have hsy : kpR s y := by
          show Op.bytesLess s.toList y.toList = true
          rw [← Bool.not_eq_false]
          intro g
          rw [Bool.not_eq_true] at q
          exact q2 (kc_total _ _ q g)
        rw [List.pairwise_cons]
        refine ⟨fun z hz => ?_, hp⟩
        rcases List.mem_cons.1 hz with rfl | hz
        · exact hsy
        · exact kc_trans _ _ _ hsy (h.1 z hz)
theorem putsL_sorted : ∀ (ns out : List ByteArray), out.Pairwise kpR → (putsL ns out).Pairwise kpR
  | [], _, h => h
  | s :: ns, out, h => putsL_sorted ns (putL s out) (putL_sorted s out h)
theorem kp_irrefl (a : ByteArray) : ¬ kpR a a := by
  intro h
  have h : Op.bytesLess a.toList a.toList = true := h
  rw [kc_irrefl] at h
  cases h
theorem kp_ext : ∀ (a b : List ByteArray), a.Pairwise kpR → b.Pairwise kpR → (∀ x, x ∈ a ↔ x ∈ b) → a = b
  | [], [], _, _, _ => rfl
  | [], y :: b, _, _, h => by
    have := (h y).2 (by simp)
    cases this
  | x :: a, [], _, _, h => by
    have := (h x).1 (by simp)
    cases this
  | x :: a, y :: b, ha, hb, h => by
    rw [List.pairwise_cons] at ha hb
    have e : x = y := by
      rcases List.mem_cons.1 ((h x).1 (by simp)) with e | hx
      · exact e
      rcases List.mem_cons.1 ((h y).2 (by simp)) with e | hy
      · exact e.symm
      exact absurd (kc_trans _ _ _ (ha.1 y hy) (hb.1 x hx)) (kp_irrefl x)
    subst e
    congr 1
    refine kp_ext a b ha.2 hb.2 fun z => ⟨fun hz => ?_, fun hz => ?_⟩
    · rcases List.mem_cons.1 ((h z).1 (List.mem_cons_of_mem _ hz)) with rfl | g
      · exact absurd (ha.1 _ hz) (kp_irrefl _)
      · exact g
    · rcases List.mem_cons.1 ((h z).2 (List.mem_cons_of_mem _ hz)) with rfl | g
      · exact absurd (hb.1 _ hz) (kp_irrefl _)
      · exact g
theorem rdB (l : List ByteArray) (i : Nat) (h : i < l.length) : rdOf ByteArray.empty l (i : Int) = l[i] := by
  simp [rdOf, h]
theorem put_s (l : List ByteArray) (s : ByteArray) (hl : l.length ≤ 1000) : Ev (fun k => spec_l09Put.f k l s) (putL s l) := by
  unfold spec_l09Put.f
  have main : ∀ d i, i + d = l.length → Ev (fun k => spec_l09Put.l0 k l s (i : Int)) (l.take i ++ putL s (l.drop i)) := by
    intro d
    induction d with
    | zero =>
      intro i hi
      obtain rfl : i = l.length := by omega
      refine Ev.step (f := fun _ => some (l.take l.length ++ putL s (l.drop l.length))) (fun k => ?_) (Ev.now _)
      simp only [spec_l09Put.l0, Option.bind_some, Int.toNat_natCast, List.take_length, List.drop_length, putL, List.nil_append, List.length_append, List.length_nil, List.length_cons, List.append_nil]
      rw [if_neg (by omega), if_pos (by omega), if_pos (by omega), if_pos (by omega), if_pos (by omega), if_pos (by omega)]
    | succ d ih =>
      intro i hi
      have hlt : i < l.length := by omega
      have hd : l.drop i = l[i] :: l.drop (i + 1) := List.drop_eq_getElem_cons hlt
      have ht : l.take (i + 1) = l.take i ++ [l[i]] := List.take_succ_eq_append_getElem hlt
      rw [hd, putL]
      by_cases h1 : Op.bytesLess l[i].toList s.toList = true
      · rw [if_pos h1]
        have h := ih (i + 1) (by omega)
        rw [ht, List.append_assoc] at h
        refine Ev.step (fun k => ?_) h
        simp only [spec_l09Put.l0, rdB l i hlt, wnat i (by omega)]
        rw [if_pos (by omega), if_pos (by omega), if_pos h1]
      · rw [if_neg h1]
        by_cases h2 : l[i].toList = s.toList
        · rw [if_pos h2, ← hd, List.take_append_drop]
          refine Ev.step (f := fun _ => some l) (fun k => ?_) (Ev.now _)
          simp only [spec_l09Put.l0, rdB l i hlt]
          rw [if_pos (by omega), if_pos (by omega), if_neg h1, if_pos h2]
        · rw [if_neg h2, ← hd]
          refine Ev.step (f := fun _ => some (l.take i ++ s :: l.drop i)) (fun k => ?_) (Ev.now _)
          simp only [spec_l09Put.l0, rdB l i hlt, Option.bind_some, Int.toNat_natCast, List.nil_append, List.length_append, List.length_take, List.length_drop, List.length_cons, List.length_nil]
          rw [if_pos (by omega), if_pos (by omega), if_neg h1, if_neg h2, if_pos (by omega), if_pos (by omega), if_pos (by omega), if_pos (by omega), List.append_assoc]
          rfl
  have h := main l.length 0 (by omega)
  rwa [List.take_zero, List.drop_zero, List.nil_append] at h
theorem ins_s (l out : List IS) (j : Nat) (hj : j < l.length) (hl : l.length ≤ 1000) (ho : out.length ≤ 1000) {v : List IS} (h : Ev (fun k => spec_l13Newest.l0 k l (kc_ins (l.getD j z132) out) ((j + 1 : Nat) : Int)) v) : Ev (fun k => spec_l13Newest.l1 k l out (j : Int) 0) v := by
  have main : ∀ d i, i + d = out.length → Ev (fun k => spec_l13Newest.l0 k l (out.take i ++ kc_ins (l.getD j z132) (out.drop i)) ((j + 1 : Nat) : Int)) v → Ev (fun k => spec_l13Newest.l1 k l out (j : Int) (i : Int)) v := by
    intro d
    induction d with
    | zero =>
      intro i hi hv
      obtain rfl : i = out.length := by omega
      refine Ev.step (fun k => ?_) hv
      simp only [spec_l13Newest.l1, rd_nat, wnat j (by omega), Option.bind_some, Int.toNat_natCast, List.take_length, List.drop_length, kc_ins, List.nil_append, List.length_append, List.length_nil, List.length_cons, List.append_nil]
      rw [if_neg (by omega), if_pos (by omega), if_pos (by omega), if_pos (by omega), if_pos (by omega), if_pos (by omega), if_pos (by omega), if_pos (by omega)]
    | succ d ih =>
      intro i hi hv
      have hlt : i < out.length := by omega
      have hd : out.drop i = out[i] :: out.drop (i + 1) := List.drop_eq_getElem_cons hlt
      have ht : out.take (i + 1) = out.take i ++ [out[i]] := List.take_succ_eq_append_getElem hlt
      have eD : out.getD i z132 = out[i] := by rw [List.getD_eq_getElem?_getD, List.getElem?_eq_getElem hlt]; rfl
      have h := ih (i + 1) (by omega)
      by_cases h1 : out[i].f1 > (l.getD j z132).f1
      · rw [hd, kc_ins, if_pos ((kc_bef_iff _ _).2 (.inl h1))] at hv
        rw [ht, List.append_assoc] at h
        refine Ev.step (fun k => ?_) (h hv)
        simp only [spec_l13Newest.l1, rd_nat, eD, wnat i (by omega)]
        rw [if_pos (by omega), if_pos (by omega), if_pos (by omega), if_pos (by omega), if_pos h1]
      · by_cases h2 : out[i].f1 = (l.getD j z132).f1
        · by_cases h3 : Op.bytesLess (l.getD j z132).f0.toList out[i].f0.toList = true
          · rw [hd, kc_ins, if_pos ((kc_bef_iff _ _).2 (.inr ⟨h2, h3⟩))] at hv
            rw [ht, List.append_assoc] at h
            refine Ev.step (fun k => ?_) (h hv)
            simp only [spec_l13Newest.l1, rd_nat, eD, wnat i (by omega)]
            rw [if_pos (by omega), if_pos (by omega), if_pos (by omega), if_pos (by omega), if_neg h1, if_pos h2, if_pos h3]
          · rw [hd, kc_ins, if_neg (fun q => by rcases (kc_bef_iff _ _).1 q with q | q; exact h1 q; exact h3 q.2), ← hd] at hv
            refine Ev.step (fun k => ?_) hv
            simp only [spec_l13Newest.l1, rd_nat, eD, wnat j (by omega), Option.bind_some, Int.toNat_natCast, List.nil_append, List.length_append, List.length_take, List.length_drop, List.length_cons, List.length_nil]
            rw [if_pos (by omega), if_pos (by omega), if_pos (by omega), if_pos (by omega), if_neg h1, if_pos h2, if_neg h3, if_pos (by omega), if_pos (by omega), if_pos (by omega), if_pos (by omega), List.append_assoc]
            rfl
        · rw [hd, kc_ins, if_neg (fun q => by rcases (kc_bef_iff _ _).1 q with q | q; exact h1 q; exact h2 q.1), ← hd] at hv
          refine Ev.step (fun k => ?_) hv
          simp only [spec_l13Newest.l1, rd_nat, eD, wnat j (by omega), Option.bind_some, Int.toNat_natCast, List.nil_append, List.length_append, List.length_take, List.length_drop, List.length_cons, List.length_nil]
          rw [if_pos (by omega), if_pos (by omega), if_pos (by omega), if_pos (by omega), if_neg h1, if_neg h2, if_pos (by omega), if_pos (by omega), if_pos (by omega), if_pos (by omega), List.append_assoc]
          rfl
  have h2 := main out.length 0 (by omega)
  rw [List.take_zero, List.drop_zero, List.nil_append] at h2
  exact h2 h
theorem ins_len (s : IS) (l : List IS) : (kc_ins s l).length = l.length + 1 := (kc_ins_perm s l).length_eq
theorem newest_s (l : List IS) (hl : l.length ≤ 100) : Ev (fun k => spec_l13Newest.f k l) (kc_sorted l) := by
  unfold spec_l13Newest.f kc_sorted
  have main : ∀ d i out, i + d = l.length → out.length = i → Ev (fun k => spec_l13Newest.l0 k l out (i : Int)) ((l.drop i).foldl (fun out s => kc_ins s out) out) := by
    intro d
    induction d with
    | zero =>
      intro i out hi ho
      obtain rfl : i = l.length := by omega
      refine Ev.step (f := fun _ => some out) (fun k => ?_) (by rw [List.drop_length]; exact Ev.now _)
      simp only [spec_l13Newest.l0]
      rw [if_neg (by omega)]
    | succ d ih =>
      intro i out hi ho
      have hlt : i < l.length := by omega
      have hd : l.drop i = l[i] :: l.drop (i + 1) := List.drop_eq_getElem_cons hlt
      have eD : l.getD i z132 = l[i] := by rw [List.getD_eq_getElem?_getD, List.getElem?_eq_getElem hlt]; rfl
      rw [hd, List.foldl_cons, ← eD]
      refine Ev.step (f := fun k => spec_l13Newest.l1 k l out (i : Int) 0) (fun k => ?_) (ins_s l out i hlt (by omega) (by omega) (ih (i + 1) _ (by omega) (by rw [ins_len]; omega)))
      simp only [spec_l13Newest.l0]
      rw [if_pos (by omega)]
  exact main l.length 0 [] (by omega) rfl
def someS (many b : Int) : Option Int → List IS → List ByteArray → List ByteArray
  | _, [], out => out
  | p, s :: r, out => if (out.length : Int) < many then (if p = some (keyOf b s) then someS many b (some (keyOf b s)) r out else someS many b (some (keyOf b s)) r (out ++ [s.f0])) else out
def prevK (b : Int) (l : List IS) (i : Nat) : Option Int := if i = 0 then none else some (keyOf b (l.getD (i - 1) z132))
theorem some_s (l : List IS) (many b : Int) (hb : b ≠ 0) (hl : l.length ≤ 100) : Ev (fun k => spec_l13Some.f k l many b) (someS many b none l []) := by
  unfold spec_l13Some.f
  have main : ∀ d i out, i + d = l.length → out.length ≤ i → Ev (fun k => spec_l13Some.l0 k l many b out (i : Int)) (someS many b (prevK b l i) (l.drop i) out) := by
    intro d
    induction d with
    | zero =>
      intro i out hi ho
      obtain rfl : i = l.length := by omega
      rw [List.drop_length, someS]
      refine Ev.step (f := fun k => spec_l13Some.j1 k l many b out (l.length : Int) false) (fun k => ?_) (Ev.step (f := fun _ => some out) (fun k => ?_) (Ev.now _))
      · simp only [spec_l13Some.l0]
        rw [if_neg (by omega)]
      · simp only [spec_l13Some.j1]
        rw [if_neg (by decide)]
    | succ d ih =>
      intro i out hi ho
      have hlt : i < l.length := by omega
      have hd : l.drop i = l[i] :: l.drop (i + 1) := List.drop_eq_getElem_cons hlt
      have eD : l.getD i z132 = l[i] := by rw [List.getD_eq_getElem?_getD, List.getElem?_eq_getElem hlt]; rfl
      have hp : prevK b l (i + 1) = some (keyOf b l[i]) := by
        rw [prevK, if_neg (by omega), Nat.add_sub_cancel, eD]
      rw [hd, someS]
      refine Ev.step (f := fun k => spec_l13Some.j1 k l many b out (i : Int) (decide ((out.length : Int) < many))) (fun k => ?_) ?_
      · simp only [spec_l13Some.l0]
        rw [if_pos (by omega)]
      by_cases hm : (out.length : Int) < many
      · rw [if_pos hm, decide_eq_true hm]
        by_cases h0 : i = 0
        · rw [prevK, if_pos h0, if_neg (by simp)]
          have h := ih (i + 1) (out ++ [l[i].f0]) (by omega) (by simp; omega)
          rw [hp] at h
          refine Ev.step (fun k => ?_) h
          simp only [spec_l13Some.j1, rd_nat, eD, wnat i (by omega)]
          rw [if_pos trivial, if_pos (by omega), if_pos (by omega), if_pos (by omega), if_pos (by omega)]
        · obtain ⟨g1, g2, g3⟩ := rd_prev l i (by omega) hlt hl
          have hpi : prevK b l i = some (keyOf b (l.getD (i - 1) z132)) := by
            rw [prevK, if_neg h0]
          rw [hpi]
          by_cases hk : keyOf b (l.getD (i - 1) z132) = keyOf b l[i]
          · have hk2 : wrap64 (Int.tdiv (l.getD (i - 1) z132).f1 b) = wrap64 (Int.tdiv l[i].f1 b) := hk
            rw [if_pos (by rw [hk])]
            have h := ih (i + 1) out (by omega) (by omega)
            rw [hp] at h
            refine Ev.step (fun k => ?_) h
            simp only [spec_l13Some.j1, rd_nat, eD, g1, wnat i (by omega)]
            rw [if_pos trivial, if_neg (by omega), if_pos g2, if_pos g3, if_neg hb, if_pos (by omega), if_pos (by omega), if_pos hk2]
          · have hk2 : ¬ wrap64 (Int.tdiv (l.getD (i - 1) z132).f1 b) = wrap64 (Int.tdiv l[i].f1 b) := hk
            rw [if_neg (by intro q; exact hk (Option.some.inj q))]
            have h := ih (i + 1) (out ++ [l[i].f0]) (by omega) (by simp; omega)
            rw [hp] at h
            refine Ev.step (fun k => ?_) h
            simp only [spec_l13Some.j1, rd_nat, eD, g1, wnat i (by omega)]
            rw [if_pos trivial, if_neg (by omega), if_pos g2, if_pos g3, if_neg hb, if_pos (by omega), if_pos (by omega), if_neg hk2, if_pos (by omega)]
      · rw [if_neg hm, decide_eq_false hm]
        refine Ev.step (f := fun _ => some out) (fun k => ?_) (Ev.now _)
        simp only [spec_l13Some.j1]
        rw [if_neg (by decide)]
  have h := main l.length 0 [] (by omega) (by simp)
  rwa [List.drop_zero] at h
theorem some_len (many b : Int) : ∀ (r : List IS) (p : Option Int) (out : List ByteArray), (someS many b p r out).length ≤ out.length + r.length
  | [], p, out => by rw [someS]; simp
  | s :: r, p, out => by
    rw [someS]
    have h1 := some_len many b r (some (keyOf b s)) out
    have h2 := some_len many b r (some (keyOf b s)) (out ++ [s.f0])
    simp only [List.length_append, List.length_cons, List.length_nil] at h2 ⊢
    split
    · split
      · omega
      · omega
    · omega
theorem some_sub (many b : Int) (x : ByteArray) : ∀ (r : List IS) (p : Option Int) (out : List ByteArray), x ∈ someS many b p r out → x ∈ out ∨ x ∈ r.map (fun s => s.f0)
  | [], p, out => by rw [someS]; exact .inl
  | s :: r, p, out => by
    rw [someS]
    intro h
    have h1 := some_sub many b x r (some (keyOf b s)) out
    have h2 := some_sub many b x r (some (keyOf b s)) (out ++ [s.f0])
    rw [List.map_cons, List.mem_cons]
    split at h
    · split at h
      · rcases h1 h with q | q
        · exact .inl q
        · exact .inr (.inr q)
      · rcases h2 h with q | q
        · rw [List.mem_append, List.mem_singleton] at q
          rcases q with q | q
          · exact .inl q
          · exact .inr (.inl q)
        · exact .inr (.inr q)
    · exact .inl h
/-- the seen numbers of the one side are told by the last of the other. -/
theorem some_stop (many b : Int) : ∀ (r : List IS) (seen : List Int) (ks : List ByteArray), ¬ (seen.length : Int) < many → kc_some many b r seen ks = ks
  | [], _, _, _ => rfl
  | s :: r, seen, ks, h => by
    rw [kc_some, decide_eq_false h, Bool.and_false, if_neg (by decide)]
    exact some_stop many b r seen ks h
theorem some_keep (many b : Int) (x : ByteArray) : ∀ (r : List IS) (p : Option Int) (out : List ByteArray), x ∈ out → x ∈ someS many b p r out
  | [], p, out, h => by rw [someS]; exact h
  | s :: r, p, out, h => by
    rw [someS]
    split
    · split
      · exact some_keep many b x r _ _ h
      · exact some_keep many b x r _ _ (by simp [h])
    · exact h
theorem kc_some_keep (many b : Int) (x : ByteArray) : ∀ (r : List IS) (seen : List Int) (ks : List ByteArray), x ∈ ks → x ∈ kc_some many b r seen ks
  | [], _, _, h => h
  | s :: r, seen, ks, h => by
    rw [kc_some]
    split
    · exact kc_some_keep many b x r _ _ (by simp [h])
    · exact kc_some_keep many b x r _ _ h
theorem some_sync (many b : Int) (x : ByteArray) : ∀ (r : List IS) (p : Option Int) (seen : List Int) (out ks : List ByteArray), seen.length = out.length → ((p = none ∧ seen = []) ∨ ∃ q, p = some q ∧ q ∈ seen ∧ (∀ y ∈ seen, q ≤ y) ∧ ∀ s ∈ r, keyOf b s ≤ q) → r.Pairwise (fun s t => keyOf b t ≤ keyOf b s) → ((x ∈ kc_some many b r seen ks ∨ x ∈ out) ↔ (x ∈ ks ∨ x ∈ someS many b p r out))
  | [], p, seen, out, ks, _, _, _ => by rw [kc_some, someS]
  | s :: r, p, seen, out, ks, hl, hp, hr => by
    rw [List.pairwise_cons] at hr
    by_cases hm : (out.length : Int) < many
    · rw [kc_some, someS, if_pos hm, decide_eq_true (by rw [hl]; exact hm), Bool.and_true]
      by_cases hk : p = some (keyOf b s)
      · have hin : seen.any (fun y => y == wrap64 (Int.tdiv s.f1 b)) = true := by
          rcases hp with ⟨h1, _⟩ | ⟨q, h1, h2, _⟩
          · rw [h1] at hk
            cases hk
          · rw [h1] at hk
            have e := Option.some.inj hk
            rw [List.any_eq_true]
            exact ⟨q, h2, by rw [e]; exact beq_self_eq_true _⟩
        rw [hin, if_neg (by decide), if_pos hk]
        refine some_sync many b x r (some (keyOf b s)) seen out ks hl (.inr ?_) hr.2
        rcases hp with ⟨h1, _⟩ | ⟨q, h1, h2, h3, h4⟩
        · rw [h1] at hk
          cases hk
        · rw [h1] at hk
          have e := Option.some.inj hk
          subst e
          exact ⟨_, rfl, h2, h3, fun t ht => h4 t (List.mem_cons_of_mem _ ht)⟩
      · have hno : seen.any (fun y => y == wrap64 (Int.tdiv s.f1 b)) = false := by
          rw [← Bool.not_eq_true, List.any_eq_true]
          rintro ⟨y, hy, he⟩
          have he : y = keyOf b s := eq_of_beq he
          rcases hp with ⟨_, h2⟩ | ⟨q, h1, h2, h3, h4⟩
          · rw [h2] at hy
            cases hy
          · have g1 := h3 y hy
            have g2 := h4 s (by simp)
            exact hk (by rw [h1, show q = keyOf b s by omega])
        rw [hno, Bool.not_false, if_pos rfl, if_neg hk]
        have h := some_sync many b x r (some (keyOf b s)) (seen ++ [keyOf b s]) (out ++ [s.f0]) (s.f0 :: ks) (by simp [hl]) (.inr ⟨_, rfl, by simp, fun y hy => ?_, hr.1⟩) hr.2
        · rw [List.mem_append, List.mem_singleton, List.mem_cons] at h
          have hsub : x = s.f0 → x ∈ kc_some many b r (seen ++ [keyOf b s]) (s.f0 :: ks) ∨ x = s.f0 := .inr
          have hout : ∀ z ∈ out ++ [s.f0], z ∈ someS many b (some (keyOf b s)) r (out ++ [s.f0]) := fun z hz => some_keep many b z r _ _ hz
          have hks : ∀ z ∈ s.f0 :: ks, z ∈ kc_some many b r (seen ++ [keyOf b s]) (s.f0 :: ks) := fun z hz => kc_some_keep many b z r _ _ hz
          have e : wrap64 (Int.tdiv s.f1 b) = keyOf b s := rfl
          rw [e]
          constructor
          · rintro (g | g)
            · rcases h.1 (.inl g) with (q | q) | q
              · exact .inr (hout x (by simp [q]))
              · exact .inl q
              · exact .inr q
            · exact .inr (hout x (by simp [g]))
          · rintro (g | g)
            · exact .inl (hks x (by simp [g]))
            · rcases h.2 (.inr g) with q | q | q
              · exact .inl q
              · exact .inr q
              · exact .inl (hks x (by simp [q]))
        · rw [List.mem_append, List.mem_singleton] at hy
          rcases hy with hy | rfl
          · rcases hp with ⟨_, h2⟩ | ⟨q, h1, h2, h3, h4⟩
            · rw [h2] at hy
              cases hy
            · have g1 := h3 y hy
              have g2 := h4 s (by simp)
              omega
          · exact Int.le_refl _
    · rw [some_stop many b _ _ _ (by rw [hl]; exact hm), someS, if_neg hm]
theorem keyOf_le (b : Int) (hb : b = 1 ∨ b = 7 ∨ b = 30) (s t : IS) (h0 : 0 ≤ t.f1) (h : t.f1 ≤ s.f1) (h1 : s.f1 ≤ 1000000) : keyOf b t ≤ keyOf b s := by
  unfold keyOf
  rw [Int.tdiv_eq_ediv_of_nonneg h0, Int.tdiv_eq_ediv_of_nonneg (by omega)]
  rcases hb with rfl | rfl | rfl
  · rw [w64 (by omega) (by omega), w64 (by omega) (by omega)]
    omega
  · rw [w64 (by omega) (by omega), w64 (by omega) (by omega)]
    omega
  · rw [w64 (by omega) (by omega), w64 (by omega) (by omega)]
    omega
def keepN (a0 a1 a2 a3 : Int) (l : List IS) : List ByteArray := ((kc_sorted l).take (min a0 ((kc_sorted l).length : Int)).toNat).map (fun s => s.f0) ++ (someS a1 1 none (kc_sorted l) [] ++ someS a2 7 none (kc_sorted l) [] ++ someS a3 30 none (kc_sorted l) [])
def keepS (a0 a1 a2 a3 : Int) (l : List IS) : List ByteArray := putsL (keepN a0 a1 a2 a3 l) []
theorem mark_mem (x : ByteArray) : ∀ (l : List IS) (ks : List ByteArray), x ∈ kc_mark ks l ↔ x ∈ ks ∨ x ∈ l.map (fun s => s.f0)
  | [], ks => by simp [kc_mark]
  | s :: l, ks => by
    show x ∈ kc_mark (s.f0 :: ks) l ↔ _
    rw [mark_mem x l, List.map_cons, List.mem_cons, List.mem_cons]
    exact ⟨fun h => by rcases h with (h | h) | h <;> simp [h], fun h => by rcases h with h | h | h <;> simp [h]⟩
theorem keep_mem (a0 a1 a2 a3 : Int) (l : List IS) (hd : ∀ s ∈ l, 0 ≤ s.f1 ∧ s.f1 ≤ 1000000) (x : ByteArray) : x ∈ kc_kept a0 a1 a2 a3 l ↔ x ∈ keepN a0 a1 a2 a3 l := by
  have hperm := kc_sorted_perm l
  have hd2 : ∀ s ∈ kc_sorted l, 0 ≤ s.f1 ∧ s.f1 ≤ 1000000 := fun s hs => hd s (hperm.mem_iff.1 hs)
  have hpair : (kc_sorted l).Pairwise kc_le := kc_fold_pair l [] List.Pairwise.nil
  have hkey : ∀ b : Int, (b = 1 ∨ b = 7 ∨ b = 30) → (kc_sorted l).Pairwise (fun s t => keyOf b t ≤ keyOf b s) := by
    intro b hb
    refine hpair.imp_of_mem fun {s t} hs ht h => ?_
    have h : kc_bef t s = false := h
    rw [kc_bef_false] at h
    exact keyOf_le b hb s t (hd2 t ht).1 (by omega) (hd2 s hs).2
  have hsync : ∀ (many b : Int) (ks : List ByteArray), (b = 1 ∨ b = 7 ∨ b = 30) → (x ∈ kc_some many b (kc_sorted l) [] ks ↔ x ∈ ks ∨ x ∈ someS many b none (kc_sorted l) []) := by
    intro many b ks hb
    have h := some_sync many b x (kc_sorted l) none [] [] ks rfl (.inl ⟨rfl, rfl⟩) (hkey b hb)
    rwa [show (x ∈ ([] : List ByteArray)) = False by simp, or_false] at h
  unfold kc_kept keepN
  rw [show (l.length : Int) = ((kc_sorted l).length : Int) by rw [hperm.length_eq]]
  show x ∈ kc_some a3 30 (kc_sorted l) [] (kc_some a2 7 (kc_sorted l) [] (kc_some a1 1 (kc_sorted l) [] _)) ↔ _
  rw [hsync a3 30 _ (by omega), hsync a2 7 _ (by omega), hsync a1 1 _ (by omega), mark_mem]
  simp only [List.mem_append, List.not_mem_nil, false_or, or_assoc]
theorem keepN_sub (a0 a1 a2 a3 : Int) (l : List IS) (x : ByteArray) (h : x ∈ keepN a0 a1 a2 a3 l) : x ∈ l.map (fun s => s.f0) := by
  have hperm := (kc_sorted_perm l).map (fun s => s.f0)
  have hs : ∀ many b : Int, x ∈ someS many b none (kc_sorted l) [] → x ∈ (kc_sorted l).map (fun s => s.f0) := fun many b h => by
    rcases some_sub many b x _ _ _ h with q | q
    · cases q
    · exact q
  rw [← hperm.mem_iff]
  unfold keepN at h
  rw [List.mem_append, List.mem_append, List.mem_append] at h
  rcases h with h | (h | h) | h
  · obtain ⟨s, hs1, rfl⟩ := List.mem_map.1 h
    exact List.mem_map.2 ⟨s, List.mem_of_mem_take hs1, rfl⟩
  · exact hs _ _ h
  · exact hs _ _ h
  · exact hs _ _ h
theorem keep_eq (a0 a1 a2 a3 : Int) (l : List IS) (hr : l.Pairwise (fun s t => kpR s.f0 t.f0)) (hd : ∀ s ∈ l, 0 ≤ s.f1 ∧ s.f1 ≤ 1000000) : kc_pick (kc_kept a0 a1 a2 a3 l) l true = keepS a0 a1 a2 a3 l := by
  unfold kc_pick keepS
  refine kp_ext _ _ (List.pairwise_map.2 (hr.filter _)) (putsL_sorted _ _ List.Pairwise.nil) fun x => ?_
  rw [putsL_mem, List.mem_map]
  simp only [List.mem_filter, beq_true, List.any_eq_true, beq_iff_eq]
  constructor
  · rintro ⟨s, ⟨hs, u, hu, he⟩, rfl⟩
    have he := kp_inj he
    subst he
    exact .inl ((keep_mem a0 a1 a2 a3 l hd _).1 hu)
  · rintro (h | h)
    · obtain ⟨s, hs, rfl⟩ := List.mem_map.1 (keepN_sub a0 a1 a2 a3 l x h)
      exact ⟨s, ⟨hs, s.f0, (keep_mem a0 a1 a2 a3 l hd _).2 h, rfl⟩, rfl⟩
    · cases h
theorem putsL_snoc (ns : List ByteArray) (s : ByteArray) (out : List ByteArray) : putsL (ns ++ [s]) out = putL s (putsL ns out) := by
  unfold putsL
  rw [List.foldl_append]
  rfl
theorem keep1_s (x8 out : List ByteArray) (h8 : x8.length ≤ 400) (ho : out.length ≤ 400) : Ev (fun k => spec_l13Keep.l1 k out x8 0) (putsL x8 out) := by
  have main : ∀ d i o, i + d = x8.length → o.length ≤ 400 + i → Ev (fun k => spec_l13Keep.l1 k o x8 (i : Int)) (putsL (x8.drop i) o) := by
    intro d
    induction d with
    | zero =>
      intro i o hi ho
      obtain rfl : i = x8.length := by omega
      rw [List.drop_length]
      refine Ev.step (f := fun _ => some o) (fun k => ?_) (Ev.now _)
      simp only [spec_l13Keep.l1]
      rw [if_neg (by omega)]
    | succ d ih =>
      intro i o hi ho
      have hlt : i < x8.length := by omega
      rw [List.drop_eq_getElem_cons hlt]
      have hl := putL_len x8[i] o
      refine Ev.step (f := fun k => (spec_l09Put.f k o x8[i]).bind fun t => spec_l13Keep.l1 k t x8 ((i + 1 : Nat) : Int)) (fun k => ?_) (Ev.bind (put_s o x8[i] (by omega)) (ih (i + 1) _ (by omega) (by omega)))
      simp only [spec_l13Keep.l1, rdB x8 i hlt, wnat i (by omega)]
      rw [if_pos (by omega), if_pos (by omega)]
  have h := main x8.length 0 out (by omega) (by omega)
  rwa [List.drop_zero] at h
theorem keepJ_s (N : List IS) (hN : N.length ≤ 100) (out : List ByteArray) (ho : out.length ≤ 400) (a0 a1 a2 a3 : Int) : Ev (fun k => spec_l13Keep.j1 k N out a0 a1 a2 a3) (putsL (someS a1 1 none N [] ++ someS a2 7 none N [] ++ someS a3 30 none N []) out) := by
  have e1 := some_s N a1 1 (by decide) hN
  have e2 := some_s N a2 7 (by decide) hN
  have e3 := some_s N a3 30 (by decide) hN
  have n1 := some_len a1 1 N none []
  have n2 := some_len a2 7 N none []
  have n3 := some_len a3 30 N none []
  generalize someS a1 1 none N [] = S1 at *
  generalize someS a2 7 none N [] = S2 at *
  generalize someS a3 30 none N [] = S3 at *
  simp only [List.length_nil, Nat.zero_add] at n1 n2 n3
  refine Ev.step (f := fun k => (spec_l13Some.f k N a1 1).bind fun t251 => ((spec_l13Some.f k N a2 7).bind fun t254 => (if t251.length + t254.length < 8796093022208 then ((some (t251 ++ t254 : List ByteArray)).bind fun y257 => ((spec_l13Some.f k N a3 30).bind fun t260 => (if y257.length + t260.length < 8796093022208 then (spec_l13Keep.l1 k out (y257 ++ t260) 0) else (none)))) else (none)))) (fun k => by simp only [spec_l13Keep.j1]) ?_
  refine Ev.bind e1 (Ev.bind e2 (ev_if_pos (by omega) (ev_bind1 rfl (Ev.bind e3 (ev_if_pos (by rw [List.length_append]; omega) (keep1_s _ _ ?_ ho))))))
  simp only [List.length_append]
  omega
theorem keep0_s (N : List IS) (hN : N.length ≤ 100) (a0 a1 a2 a3 : Int) : Ev (fun k => spec_l13Keep.l0 k N [] 0 a0 a1 a2 a3) (putsL ((N.take (min a0 (N.length : Int)).toNat).map (fun s => s.f0) ++ (someS a1 1 none N [] ++ someS a2 7 none N [] ++ someS a3 30 none N [])) []) := by
  have eM : ∃ M, (min a0 (N.length : Int)).toNat = M := ⟨_, rfl⟩
  obtain ⟨M, hM⟩ := eM
  rw [hM]
  have main : ∀ d i, i + d = M → Ev (fun k => spec_l13Keep.l0 k N (putsL ((N.take i).map (fun s => s.f0)) []) (i : Int) a0 a1 a2 a3) (putsL ((N.take M).map (fun s => s.f0) ++ (someS a1 1 none N [] ++ someS a2 7 none N [] ++ someS a3 30 none N [])) []) := by
    intro d
    induction d with
    | zero =>
      intro i hi
      obtain rfl : i = M := by omega
      have hlen := putsL_len ((N.take i).map (fun s => s.f0)) []
      rw [List.length_map, List.length_take, List.length_nil] at hlen
      have h := keepJ_s N hN (putsL ((N.take i).map (fun s => s.f0)) []) (by omega) a0 a1 a2 a3
      rw [show putsL ((N.take i).map (fun s => s.f0) ++ (someS a1 1 none N [] ++ someS a2 7 none N [] ++ someS a3 30 none N [])) [] = putsL (someS a1 1 none N [] ++ someS a2 7 none N [] ++ someS a3 30 none N []) (putsL ((N.take i).map (fun s => s.f0)) []) from by unfold putsL; rw [List.foldl_append]]
      refine Ev.step (fun k => ?_) h
      simp only [spec_l13Keep.l0]
      by_cases h1 : (i : Int) < (N.length : Int)
      · rw [if_pos h1, if_neg (by omega)]
      · rw [if_neg h1]
    | succ d ih =>
      intro i hi
      have hlt : i < N.length := by omega
      have eD : N.getD i z132 = N[i] := by rw [List.getD_eq_getElem?_getD, List.getElem?_eq_getElem hlt]; rfl
      have hlen := putsL_len ((N.take i).map (fun s => s.f0)) []
      rw [List.length_map, List.length_take, List.length_nil] at hlen
      have h := ih (i + 1) (by omega)
      rw [List.take_succ_eq_append_getElem hlt, List.map_append, List.map_singleton, putsL_snoc] at h
      refine Ev.step (f := fun k => (spec_l09Put.f k (putsL ((N.take i).map (fun s => s.f0)) []) N[i].f0).bind fun t => spec_l13Keep.l0 k N t ((i + 1 : Nat) : Int) a0 a1 a2 a3) (fun k => ?_) (Ev.bind (put_s (putsL ((N.take i).map (fun s => s.f0)) []) N[i].f0 (by omega)) h)
      simp only [spec_l13Keep.l0, rd_nat, eD, wnat i (by omega)]
      rw [if_pos (by omega), if_pos (by omega), if_pos (by omega)]
  have h := main M 0 (by omega)
  exact h
def polOk (a0 a1 a2 a3 : Int) : Bool := (decide (0 ≤ a0) && decide (a0 ≤ 100)) && ((decide (0 ≤ a1) && decide (a1 ≤ 100)) && ((decide (0 ≤ a2) && decide (a2 ≤ 100)) && (decide (0 ≤ a3) && decide (a3 ≤ 100))))
theorem pol_s (a0 a1 a2 a3 : Int) : spec_PolicyRight.f a0 a1 a2 a3 = some (polOk a0 a1 a2 a3) := by
  unfold spec_PolicyRight.f polOk
  by_cases h1 : a0 ≥ 0 <;> by_cases h2 : a0 ≤ 100 <;> by_cases h3 : a1 ≥ 0 <;> by_cases h4 : a1 ≤ 100 <;> by_cases h5 : a2 ≥ 0 <;> by_cases h6 : a2 ≤ 100 <;> by_cases h7 : a3 ≥ 0 <;> simp [h1, h2, h3, h4, h5, h6, h7]
theorem pol_i (a0 a1 a2 a3 : Int) : impl_PolicyRight.f a0 a1 a2 a3 = some (polOk a0 a1 a2 a3) := by
  unfold impl_PolicyRight.f polOk
  simp only [within_eq, Option.bind_some]
  by_cases h1 : 0 ≤ a0 <;> by_cases h2 : a0 ≤ 100 <;> by_cases h3 : 0 ≤ a1 <;> by_cases h4 : a1 ≤ 100 <;> by_cases h5 : 0 ≤ a2 <;> by_cases h6 : a2 ≤ 100 <;> by_cases h7 : 0 ≤ a3 <;> simp [h1, h2, h3, h4, h5, h6, h7]
theorem snaps_all {l : List IS} (h : snapsRight l = true) : l.length ≤ 100 ∧ (∀ s ∈ l, snapRight s.f0 s.f1 s.f2 = true) ∧ l.Pairwise (fun s t => kpR s.f0 t.f0) := by
  unfold snapsRight at h
  rw [Bool.and_eq_true, decide_eq_true_eq, List.all_eq_true] at h
  obtain ⟨h1, h2⟩ := h
  have h2 : ∀ i, i < l.length → snapAt l i = true := fun i hi => h2 i (List.mem_range.2 hi)
  have gD : ∀ i (hi : i < l.length), l.getD i z132 = l[i] := fun i hi => by rw [List.getD_eq_getElem?_getD, List.getElem?_eq_getElem hi]; rfl
  refine ⟨h1, fun s hs => ?_, ?_⟩
  · obtain ⟨i, hi, rfl⟩ := List.getElem_of_mem hs
    have h := h2 i hi
    unfold snapAt at h
    rw [Bool.and_eq_true, gD i hi] at h
    exact h.1
  · rw [List.pairwise_iff_getElem]
    have step : ∀ d i j (hi : i < l.length) (hj : j < l.length), j = i + 1 + d → kpR (l[i]'hi).f0 (l[j]'hj).f0 := by
      intro d
      induction d with
      | zero =>
        intro i j hi hj e
        have h := h2 j hj
        unfold snapAt at h
        rw [Bool.and_eq_true, Bool.or_eq_true] at h
        rcases h.2 with g | g
        · have := eq_of_beq g
          omega
        · have e1 : j - 1 = i := by omega
          rw [e1, gD i hi, gD j hj] at g
          exact g
      | succ d ih =>
        intro i j hi hj e
        have hm : i + 1 < l.length := by omega
        have a1 : kpR (l[i]'hi).f0 (l[i + 1]'hm).f0 := by
          have h := h2 (i + 1) hm
          unfold snapAt at h
          rw [Bool.and_eq_true, Bool.or_eq_true] at h
          rcases h.2 with g | g
          · have := eq_of_beq g
            omega
          · rw [Nat.add_sub_cancel, gD i hi, gD (i + 1) hm] at g
            exact g
        exact kc_trans _ _ _ a1 (ih (i + 1) j hm hj (by omega))
    exact fun i j hi hj hij => step (j - i - 1) i j hi hj (by omega)
theorem dist_of : ∀ (l : List IS), l.Pairwise (fun s t => kpR s.f0 t.f0) → kc_dist l = true
  | [], _ => rfl
  | s :: r, h => by
    rw [List.pairwise_cons] at h
    rw [kc_dist, Bool.and_eq_true, List.all_eq_true]
    refine ⟨fun t ht => ?_, dist_of r h.2⟩
    rw [bne_iff_ne]
    intro e
    have g := h.1 t ht
    rw [kp_inj e] at g
    exact kp_irrefl _ g
def keepV (a0 a1 a2 a3 : Int) (l : List IS) : List ByteArray := if (polOk a0 a1 a2 a3 && snapsRight l) = true then keepS a0 a1 a2 a3 l else []
theorem keep_s (a0 a1 a2 a3 : Int) (l : List IS) (hs : ∀ x ∈ l, x.f0.size ≤ 9223372036854775807) : Ev (fun k => spec_Keep.f k a0 a1 a2 a3 l) (keepV a0 a1 a2 a3 l) := by
  unfold spec_Keep.f keepV
  by_cases h4 : (l.length : Int) > 400
  · refine ev_if_pos h4 ?_
    have : snapsRight l = false := by
      unfold snapsRight
      rw [decide_eq_false (by omega), Bool.false_and]
    rw [this, Bool.and_false, if_neg (by decide)]
    exact Ev.now _
  refine ev_if_neg h4 (ev_bind1 (pol_s a0 a1 a2 a3) ?_)
  cases hp : polOk a0 a1 a2 a3
  · rw [Bool.false_and, if_neg (by decide)]
    exact ev_if_neg (by decide) (Ev.now _)
  refine ev_if_pos rfl (Ev.bind (snapsRight_s l hs) ?_)
  cases hr : snapsRight l
  · rw [Bool.and_false, if_neg (by decide)]
    exact ev_if_neg (by decide) (Ev.now _)
  rw [Bool.and_true, if_pos rfl]
  refine ev_if_pos rfl (Ev.bind ?_ (Ev.now _))
  obtain ⟨h1, _, _⟩ := snaps_all hr
  unfold spec_l13Keep.f
  refine Ev.bind (newest_s l h1) ?_
  exact keep0_s (kc_sorted l) (by rw [(kc_sorted_perm l).length_eq]; exact h1) a0 a1 a2 a3
theorem keep_i (a0 a1 a2 a3 : Int) (l : List IS) (hs : ∀ x ∈ l, x.f0.size ≤ 9223372036854775807) : Ev (fun k => impl_Keep.f k a0 a1 a2 a3 l) (keepV a0 a1 a2 a3 l) := by
  unfold impl_Keep.f impl_chosen.f keepV
  refine Ev.bind ?_ (Ev.now _)
  refine ev_bind1 (pol_i a0 a1 a2 a3) ?_
  cases hp : polOk a0 a1 a2 a3
  · exact ev_if_neg Bool.false_ne_true (ev_eq rfl)
  refine ev_if_pos rfl (Ev.bind (snapsRight_i l hs) ?_)
  cases hr : snapsRight l
  · exact ev_if_neg Bool.false_ne_true (ev_eq rfl)
  obtain ⟨h1, h2, h3⟩ := snaps_all hr
  have h0 : 0 ≤ a0 := by
    unfold polOk at hp
    rw [Bool.and_eq_true, Bool.and_eq_true, decide_eq_true_eq] at hp
    exact hp.1.1
  have hb : ∀ s ∈ l, s.f0.size ≤ 1000 ∧ 0 ≤ s.f1 ∧ s.f1 ≤ 1000000 := fun s hs => by
    have h := h2 s hs
    simp [snapRight, isName] at h
    omega
  have hok : kc_ok l = true := by
    unfold kc_ok
    rw [dist_of l h3, decide_eq_true h1, Bool.true_and, Bool.true_and, List.all_eq_true]
    exact fun s hs => decide_eq_true (hb s hs).1
  have hc : (decide (0 ≤ a0) && kc_ok l) = true := by rw [hok, decide_eq_true h0, Bool.and_true]
  refine ev_if_pos rfl (ev_if_pos hc (ev_eq ?_))
  rw [keep_eq a0 a1 a2 a3 l h3 (fun s hs => (hb s hs).2)]
  rfl
theorem keep_len (a0 a1 a2 a3 : Int) (l : List IS) (hs : l.length ≤ 1048576) : (keepV a0 a1 a2 a3 l).length ≤ 1048576 := by
  unfold keepV
  split
  · rename_i h
    rw [Bool.and_eq_true] at h
    have h1 := (snaps_all h.2).1
    have h2 := putsL_len (keepN a0 a1 a2 a3 l) []
    have hN : (kc_sorted l).length ≤ 100 := by rw [(kc_sorted_perm l).length_eq]; exact h1
    have n1 := some_len a1 1 (kc_sorted l) none []
    have n2 := some_len a2 7 (kc_sorted l) none []
    have n3 := some_len a3 30 (kc_sorted l) none []
    have h3 : (keepN a0 a1 a2 a3 l).length ≤ 400 := by
      simp only [keepN, List.length_append, List.length_map, List.length_take, List.length_nil] at n1 n2 n3 ⊢
      omega
    show (putsL (keepN a0 a1 a2 a3 l) []).length ≤ _
    rw [List.length_nil] at h2
    omega
  · simp
theorem markSnapS_evs (l : List IS) (m : Nat) (hl : l.length ≤ 1048576) (hm : m ≤ 4294967296) : Evs (fun k => laws_markSnapS.f k l (m : Int)) (fun r => r.1 = ((m + 3 * l.length : Nat) : Int)) := by
  unfold laws_markSnapS.f
  refine loop_evs (fun k (s : List IS × Int) i => laws_markSnapS.l0 k s.1 s.2 i) l.length (fun i s => s.2 = ((m + 3 * i : Nat) : Int) ∧ s.1.length = l.length) _ (fun i s hi hv => ?_) (fun s hv => ?_) (l, (m : Int)) ⟨rfl, rfl⟩
  · obtain ⟨x, k1⟩ := s
    obtain ⟨rfl, h2⟩ := hv
    simp only at h2 ⊢
    have e1 : wrap64 (((m + 3 * i : Nat) : Int) + 1) = ((m + 3 * i + 1 : Nat) : Int) := wnat _ (by omega)
    have e2 : wrap64 (((m + 3 * i + 1 : Nat) : Int) + 1) = ((m + 3 * i + 2 : Nat) : Int) := wnat _ (by omega)
    have e3 : wrap64 (((m + 3 * i + 2 : Nat) : Int) + 1) = ((m + 3 * (i + 1) : Nat) : Int) := wnat _ (by omega)
    obtain ⟨K1, g1⟩ := mText_ev (m + 3 * i) (by omega)
    obtain ⟨K2, g2⟩ := mText_ev (m + 3 * i + 2) (by omega)
    let X1 : List IS := x.set i ⟨mText (m + 3 * i), (rd_T132 x (i : Int)).f1, (rd_T132 x (i : Int)).f2⟩
    let X2 : List IS := X1.set i ⟨(rd_T132 X1 (i : Int)).f0, ((m + 3 * i + 1 : Nat) : Int), (rd_T132 X1 (i : Int)).f2⟩
    let X3 : List IS := X2.set i ⟨(rd_T132 X2 (i : Int)).f0, (rd_T132 X2 (i : Int)).f1, mText (m + 3 * i + 2)⟩
    refine ⟨(X3, ((m + 3 * (i + 1) : Nat) : Int)), ⟨rfl, by simp [X3, X2, X1, h2]⟩, fun v hv => ?_⟩
    obtain ⟨K3, g3⟩ := hv
    refine ev_from (K1 + K2 + K3 + 1) fun k hk => ?_
    obtain ⟨k, rfl⟩ : ∃ q, k = q + 1 := ⟨k - 1, by omega⟩
    have g1' : laws_markText.f k ((m + 3 * i : Nat) : Int) = some (mText (m + 3 * i)) := g1 k (by omega)
    have g2' : laws_markText.f k ((m + 3 * i + 2 : Nat) : Int) = some (mText (m + 3 * i + 2)) := g2 k (by omega)
    have g3' := g3 k (by omega)
    simp only [laws_markSnapS.l0, Int.toNat_natCast, wnat i (by omega), e1, e2, e3, g1', g2', Option.bind_some]
    rw [if_pos (by omega), if_pos (by omega)]
    exact g3'
  · obtain ⟨x, k1⟩ := s
    obtain ⟨rfl, h2⟩ := hv
    simp only at h2 ⊢
    refine ⟨_, Ev.step (f := fun _ => some (((m + 3 * l.length : Nat) : Int), x)) (fun k => ?_) (Ev.now _), rfl⟩
    simp only [laws_markSnapS.l0]
    rw [if_neg (by omega)]
theorem FnExactKeep : FnExactKeep_Pure := by
  intro a0 a1 a2 a3 l _ _ _ _ hl hok
  refine Ev.rounds (g := fun k => laws_FnExactKeep.f k a0 a1 a2 a3 l) (Evs.ev ?_)
  unfold laws_FnExactKeep.f
  refine Evs.bind (szSnapS_ev l 1048576 (by omega) (by omega) ⟨hl, hok⟩) (fun r hr => Evs.ite (fun _ => Evs.now _ rfl) (fun hn => ?_))
  have hsum := hr (by omega)
  have hpos := sum_pos (fun x => wSnap x) l (fun x => wSnap_pos x)
  have hto := toSnapS_ev l (by omega)
  have hs : ∀ x ∈ l.map toSnap, x.f0.size ≤ 9223372036854775807 := by
    intro x hx
    obtain ⟨y, hy, rfl⟩ := List.mem_map.1 hx
    exact (hok y hy).1
  have hl2 : (l.map toSnap).length ≤ 1048576 := by simp; omega
  generalize l.map toSnap = L at *
  have hS := keep_s a0 a1 a2 a3 L hs
  have hI := keep_i a0 a1 a2 a3 L hs
  have hlen := keep_len a0 a1 a2 a3 L hl2
  obtain ⟨mr, hm1, hm2⟩ := markSnapS_evs L 1 hl2 (by omega)
  have hms := markStringS_ev (keepV a0 a1 a2 a3 L) 1 (by omega) (by omega)
  have hhs := heldStringS_ev (keepV a0 a1 a2 a3 L).length 1 (by omega) (by omega)
  have heq := eqStringS_refl (keepV a0 a1 a2 a3 L) (by omega)
  have hed := eqSnapS_refl L (by omega)
  generalize keepV a0 a1 a2 a3 L = G at *
  refine ⟨true, ev_bind1 rfl (Ev.bind hto (Ev.bind hS (Ev.bind hto (ev_bind1 rfl (Ev.bind hI (Ev.bind heq (ev_if_pos rfl (Ev.bind hto (Ev.bind hed (ev_if_pos rfl (Ev.bind hm1 (ev_if_neg (by omega) (Ev.bind heq ?_))))))))))))), rfl⟩
  refine Ev.step (f := fun k => ((laws_markStringS.f k G 1).bind fun bt372 => ((laws_heldStringS.f k bt372.2 1).bind fun t374 => (if t374 < 0 then (some false) else (if t374 = bt372.1 then ((laws_toPolicy.f a0 a1 a2 a3).bind fun bt375 => ((laws_toSnapS.f k l).bind fun t379 => ((impl_Keep.f k bt375.1 bt375.2.1 bt375.2.2.1 bt375.2.2.2 t379).bind fun t382 => ((laws_eqStringS.f k t382 G).bind fun t385 => (if t385 = true then ((laws_heldStringS.f k bt372.2 1).bind fun t386 => (if t386 < 0 then (some false) else (if t386 = bt372.1 then (some true) else (some false)))) else (some false)))))) else (some false)))))) (fun k => by simp only [laws_FnExactKeep.j0]; rfl) ?_
  exact Ev.bind hms (Ev.bind hhs (ev_if_neg (by omega) (ev_if_pos (by simp) (ev_bind1 rfl (Ev.bind hto (Ev.bind hI (Ev.bind heq (ev_if_pos rfl (Ev.bind hhs (ev_if_neg (by omega) (ev_if_pos (by simp) (Ev.now _))))))))))))
end Go.Proofs.Ytfffdndeccipnaa.Pure
