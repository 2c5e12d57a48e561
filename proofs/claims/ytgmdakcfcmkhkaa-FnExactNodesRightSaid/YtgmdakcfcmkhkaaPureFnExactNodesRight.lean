/- The plain law of FnExactNodesRight: at every list of nodes NodesRight answers as the reference. -/
import Derived.Test.YtgmdakcfcmkhkaaOkFnExactNodesRight
import Derived.Test.YtgmdakcfcmkhkaaLib
namespace Go.Proofs.Ytgmdakcfcmkhkaa.Pure
open Go.RowKit Go.Proofs.Ytgmdakcfcmkhkaa.PFnExactNodesRight Go.Proofs.Ytgmdakcfcmkhkaa.Lib Go.Proofs.YtgmdakcfcmkhkaaW.PrintWords Go.Proofs.YtgmdakcfcmkhkaaW.PrintLast
set_option linter.unusedVariables false
set_option linter.unusedSimpArgs false
theorem nameRight_l0 (s : ByteArray) (hs : s.size ≤ 9223372036854775807) (d : Nat) : ∀ (i k : Nat), i + d = s.size → d < k → spec_NameRight.l0 k s (i : Int) = some (nameOk s d i) := by
  induction d with
  | zero =>
    intro i k hi hk
    obtain ⟨k, rfl⟩ : ∃ m, k = m + 1 := ⟨k - 1, by omega⟩
    simp only [spec_NameRight.l0]
    rw [if_neg (by omega)]
    rfl
  | succ d ih =>
    intro i k hi hk
    obtain ⟨k, rfl⟩ : ∃ m, k = m + 1 := ⟨k - 1, by omega⟩
    have e : wrap64 ((i : Int) + 1) = ((i + 1 : Nat) : Int) := by rw [w64 (by omega) (by omega)]; omega
    have h := ih (i + 1) k (by omega) (by omega)
    simp only [spec_NameRight.l0, e, h]
    rw [if_pos (by omega), if_pos (by omega)]
    exact nameStep _ _ _
theorem nameRight_ev (s : ByteArray) (hs : s.size ≤ 9223372036854775807) : Ev (fun k => spec_NameRight.f k s) (isName s 80) := by
  refine ev_from (s.size + 3) fun k hk => ?_
  obtain ⟨k, rfl⟩ : ∃ m, k = m + 1 := ⟨k - 1, by omega⟩
  have h := nameRight_l0 s hs s.size 0 k (by omega) (by omega)
  simp only [spec_NameRight.f, spec_NameRight.j0]
  have h' : spec_NameRight.l0 k s 0 = some (nameOk s s.size 0) := h
  rw [h']
  unfold isName
  generalize nameOk s s.size 0 = X
  grind
theorem isName_l0 (s : ByteArray) (most : Int) (hs : s.size ≤ 9223372036854775807) (d : Nat) : ∀ (i k : Nat), i + d = s.size → d < k → impl_isName.l0 k s most s.size (i : Int) = some (nameOk s d i && (decide ((s.size : Int) ≥ 1) && decide ((s.size : Int) ≤ most))) := by
  induction d with
  | zero =>
    intro i k hi hk
    obtain ⟨k, rfl⟩ : ∃ m, k = m + 1 := ⟨k - 1, by omega⟩
    simp only [impl_isName.l0, impl_long.f, impl_within.f, Option.bind_some, nameOk]
    rw [if_neg (by omega)]
    grind
  | succ d ih =>
    intro i k hi hk
    obtain ⟨k, rfl⟩ : ∃ m, k = m + 1 := ⟨k - 1, by omega⟩
    have e : wrap64 ((i : Int) + 1) = ((i + 1 : Nat) : Int) := by rw [w64 (by omega) (by omega)]; omega
    have h := ih (i + 1) k (by omega) (by omega)
    simp only [impl_isName.l0, e, h]
    rw [if_pos (by omega), if_pos (by omega), if_pos (by omega)]
    refine (nameStep _ _ _).trans ?_
    simp [nameOk, Bool.and_assoc]
theorem isName_ev (s : ByteArray) (most : Int) (hs : s.size ≤ 9223372036854775807) : Ev (fun k => impl_isName.f k s most) (isName s most) := by
  refine ev_from (s.size + 3) fun k hk => ?_
  have h := isName_l0 s most hs s.size 0 k (by omega) (by omega)
  simp only [impl_isName.f]
  exact h
theorem within_eq (a b c : Int) : impl_within.f a b c = some (decide (b ≤ a) && decide (a ≤ c)) := by
  unfold impl_within.f
  by_cases h : a ≥ b <;> simp [h]
/-- a loop whose rounds each go on or end. -/
theorem loop_evx {σ ρ : Type} (F : Nat → σ → Int → Option ρ) (n : Nat) (inv : Nat → σ → Prop) (Q : ρ → Prop)
    (hstep : ∀ (i : Nat) (s : σ), i < n → inv i s → (∃ s', inv (i + 1) s' ∧ ∀ v, Ev (fun k => F k s' ((i + 1 : Nat) : Int)) v → Ev (fun k => F k s (i : Int)) v) ∨ Evs (fun k => F k s (i : Int)) Q)
    (hend : ∀ (s : σ), inv n s → Evs (fun k => F k s (n : Int)) Q) : ∀ (s : σ), inv 0 s → Evs (fun k => F k s 0) Q := by
  have main : ∀ (d i : Nat) (s : σ), i + d = n → inv i s → Evs (fun k => F k s (i : Int)) Q := by
    intro d
    induction d with
    | zero =>
      intro i s hi hv
      obtain rfl : i = n := by omega
      exact hend s hv
    | succ d ih =>
      intro i s hi hv
      rcases hstep i s (by omega) hv with ⟨s', hs', hv'⟩ | h
      · obtain ⟨v, h1, h2⟩ := ih (i + 1) s' (by omega) hs'
        exact ⟨v, hv' v h1, h2⟩
      · exact h
  intro s hs
  exact main n 0 s (by omega) hs
theorem wnat' (i n : Nat) (hi : i < n) (hn : n ≤ 9223372036854775807) : wrap64 ((i : Int) + 1) = ((i + 1 : Nat) : Int) := by rw [w64 (by omega) (by omega)]; omega
abbrev LN := S111
abbrev IN := S113
abbrev zN := z113
theorem rdOf_nat (l : List ByteArray) (i : Nat) (h : i < l.length) : rdOf ByteArray.empty l (i : Int) = l[i] := by
  simp [rdOf, h]
theorem szStringS_evs (l : List ByteArray) (left : Int) (h0 : 0 ≤ left) (h1 : left ≤ 1048576) (hl : l.length ≤ 9223372036854775807) (hok : ∀ x ∈ l, x.size ≤ 9223372036854775807) : Evs (fun k => laws_szStringS.f k l left) (fun r => 0 ≤ r → r + (l.length : Int) ≤ left) := by
  unfold laws_szStringS.f
  rw [sz_wrap h0 h1 (by omega) (by omega)]
  refine Evs.ite (fun _ => Evs.now _ (by omega)) (fun hneg => ?_)
  refine loop_evx (fun k (s : Int) i => laws_szStringS.l0 k l s i) l.length (fun i s => 0 ≤ s ∧ s ≤ left - l.length) _ (fun i s hi hs => ?_) (fun s hs => ?_) _ ⟨by omega, by omega⟩
  · obtain ⟨hs0, hs1⟩ := hs
    have hx := hok l[i] (List.getElem_mem hi)
    by_cases hr : s - (l[i].size : Int) < 0
    · refine .inr ⟨-1, Ev.step (f := fun _ => some (-1)) (fun k => ?_) (Ev.now _), by omega⟩
      simp only [laws_szStringS.l0, rdOf_nat l i hi]
      rw [if_pos (by omega), if_pos (by omega), sz_wrap hs0 (by omega) (by omega) (by omega), if_pos hr]
    · refine .inl ⟨s - (l[i].size : Int), ⟨by omega, by omega⟩, fun v hv => Ev.step (fun k => ?_) hv⟩
      simp only [laws_szStringS.l0, rdOf_nat l i hi, wnat' i _ hi hl]
      rw [if_pos (by omega), if_pos (by omega), sz_wrap hs0 (by omega) (by omega) (by omega), if_neg hr]
  · obtain ⟨hs0, hs1⟩ := hs
    refine ⟨s, Ev.step (f := fun _ => some s) (fun k => ?_) (Ev.now _), by omega⟩
    simp only [laws_szStringS.l0]
    rw [if_neg (by omega)]
theorem szNode_evs (x : LN) (left : Int) (h0 : 0 ≤ left) (h1 : left ≤ 1048576) (hx : ok111 x) : Evs (fun k => laws_szNode.f k x.f0 x.f1 x.f2 x.f3 left) (fun r => 0 ≤ r → r + (x.f3.length : Int) ≤ left) := by
  obtain ⟨q0, _, _, q3, q4⟩ := hx
  unfold laws_szNode.f
  rw [sz_wrap h0 h1 (by omega) (by omega)]
  refine Evs.ite (fun _ => Evs.now _ (by omega)) (fun hneg => ?_)
  refine Evs.bind (szStringS_evs x.f3 _ (by omega) (by omega) q3 q4) (fun r hr => ?_)
  refine Evs.ite (fun _ => Evs.now _ (by omega)) (fun hn => Evs.now _ (by intro _; have := hr (by omega); omega))
theorem rdL_nat (l : List LN) (i : Nat) (h : i < l.length) : rd_T111 l (i : Int) = l[i] := by
  unfold rd_T111
  rw [Int.toNat_natCast, List.getD_eq_getElem?_getD, List.getElem?_eq_getElem h]
  rfl
theorem szNodeS_evs (l : List LN) (left : Int) (h0 : 0 ≤ left) (h1 : left ≤ 1048576) (hl : l.length ≤ 9223372036854775807) (hok : ∀ x ∈ l, ok111 x) : Evs (fun k => laws_szNodeS.f k l left) (fun r => 0 ≤ r → r + (l.length : Int) ≤ left ∧ ∀ x ∈ l, (x.f3.length : Int) ≤ left) := by
  unfold laws_szNodeS.f
  rw [sz_wrap h0 h1 (by omega) (by omega)]
  refine Evs.ite (fun _ => Evs.now _ (by omega)) (fun hneg => ?_)
  refine loop_evx (fun k (s : Int) i => laws_szNodeS.l0 k l s i) l.length (fun i s => 0 ≤ s ∧ s ≤ left - l.length ∧ ∀ j (h : j < l.length), j < i → (l[j].f3.length : Int) ≤ left) _ (fun i s hi hs => ?_) (fun s hs => ?_) _ ⟨by omega, by omega, fun j _ h => absurd h (by omega)⟩
  · obtain ⟨hs0, hs1, hs2⟩ := hs
    obtain ⟨r0, hr0, hq0⟩ := szNode_evs l[i] s hs0 (by omega) (hok l[i] (List.getElem_mem hi))
    have hst : ∀ k, laws_szNodeS.l0 (k + 1) l s (i : Int) = (laws_szNode.f k l[i].f0 l[i].f1 l[i].f2 l[i].f3 s).bind fun t => (if t < 0 then (some (-1)) else (laws_szNodeS.l0 k l t ((i + 1 : Nat) : Int))) := by
      intro k
      simp only [laws_szNodeS.l0, rdL_nat l i hi, wnat' i _ hi hl]
      rw [if_pos (by omega), if_pos (by omega)]
    by_cases hr : r0 < 0
    · exact .inr ⟨-1, Ev.step hst (Ev.bind hr0 (ev_if_pos hr (Ev.now _))), by omega⟩
    · have hq := hq0 (by omega)
      refine .inl ⟨r0, ⟨by omega, by omega, fun j h hj => ?_⟩, fun v hv => Ev.step hst (Ev.bind hr0 (ev_if_neg hr hv))⟩
      by_cases e : j = i
      · subst e
        omega
      · exact hs2 j h (by omega)
  · obtain ⟨hs0, hs1, hs2⟩ := hs
    refine ⟨s, Ev.step (f := fun _ => some s) (fun k => ?_) (Ev.now _), fun _ => ⟨by omega, fun x hx => ?_⟩⟩
    · simp only [laws_szNodeS.l0]
      rw [if_neg (by omega)]
    · obtain ⟨j, hj, rfl⟩ := List.mem_iff_getElem.1 hx
      exact hs2 j hj hj
theorem toStringS_ev (l : List ByteArray) (hl : l.length ≤ 1048576) : Ev (fun k => laws_toStringS.f k l) l := by
  have hn : ((l.length : Int)).toNat = l.length := Int.toNat_natCast _
  refine Ev.congr (f := fun k => laws_toStringS.l0 k l (List.replicate l.length (⟨#[]⟩ : ByteArray)) 0) (fun k => ?_) ?_
  · unfold laws_toStringS.f
    rw [if_pos (by omega), if_pos (by omega), hn]
  · exact loop_ev (fun k (s : List ByteArray) i => laws_toStringS.l0 k l s i) l.length (by omega) 0 (fun i s => s.length = l.length ∧ ∀ j, j < i → s[j]? = (l.map (fun x => x))[j]?) _
      (fun k i s hi hv hK hw => by
      have hlen := hv.1
      simp only [laws_toStringS.l0, rdOf_nat l i hi]
      rw [if_pos (by omega), if_pos (by omega), hw]
      rw [if_pos (by omega)]
      exact Or.inl ⟨_, fill_step (fun x => x) l s i hi hv.1 hv.2 _ rfl, rfl⟩)
      (fun k s hv => by
      simp only [laws_toStringS.l0]
      rw [if_neg (by omega)]
      exact congrArg some ((fill_done (fun x => x) l s hv.1 hv.2).trans (List.map_id' l)))
      _ ⟨by simp, fun j hj => absurd hj (by omega)⟩
def toNode (x : LN) : IN := ⟨x.f0, x.f1, x.f2, x.f3⟩
theorem toNodeS_ev (l : List LN) (hl : l.length ≤ 1048576) (hk : ∀ x ∈ l, x.f3.length ≤ 1048576) : Ev (fun k => laws_toNodeS.f k l) (l.map toNode) := by
  have hn : ((l.length : Int)).toNat = l.length := Int.toNat_natCast _
  refine Ev.congr (f := fun k => laws_toNodeS.l0 k l (List.replicate l.length zN) 0) (fun k => ?_) ?_
  · unfold laws_toNodeS.f
    rw [if_pos (by omega), if_pos (by omega), hn]
  · refine Evs.ev (loop_evx (fun k (s : List IN) i => laws_toNodeS.l0 k l s i) l.length (fun i s => s.length = l.length ∧ ∀ j, j < i → s[j]? = (l.map toNode)[j]?) _ (fun i s hi hv => ?_) (fun s hv => ?_) _ ⟨by simp, fun j hj => absurd hj (by omega)⟩)
    · have hlen := hv.1
      refine .inl ⟨s.set i (toNode l[i]), fill_step toNode l s i hi hv.1 hv.2 _ rfl, fun v h => ?_⟩
      have ht := toStringS_ev l[i].f3 (hk _ (List.getElem_mem hi))
      refine Ev.step (f := fun k => (laws_toStringS.f k l[i].f3).bind fun t => laws_toNodeS.l0 k l (s.set i (⟨l[i].f0, l[i].f1, l[i].f2, t⟩ : IN)) ((i + 1 : Nat) : Int)) (fun k => ?_) (Ev.bind ht h)
      simp only [laws_toNodeS.l0, rdL_nat l i hi, wnat' i _ hi (by omega), laws_toNode.f]
      rw [if_pos (by omega), if_pos (by omega)]
      cases laws_toStringS.f k l[i].f3 with
      | none => rfl
      | some t =>
        simp only [Option.bind_some, Int.toNat_natCast]
        rw [if_pos (by omega)]
    · refine ⟨_, Ev.step (f := fun _ => some s) (fun k => ?_) (Ev.now _), fill_done toNode l s hv.1 hv.2⟩
      simp only [laws_toNodeS.l0]
      rw [if_neg (by omega)]
theorem eqStringS_same (l : List ByteArray) (hl : l.length ≤ 9223372036854775807) : Ev (fun k => laws_eqStringS.f k l l) true := by
  unfold laws_eqStringS.f
  refine ev_if_pos rfl ?_
  have h := loop_all (fun k i => laws_eqStringS.l0 k l l i) l.length hl 0 (fun _ => true) (fun k i hi _ hw => by simp only [laws_eqStringS.l0, hw]; rw [if_pos (by omega), if_pos (by omega), if_pos (by omega), if_pos trivial]) (fun k => by simp only [laws_eqStringS.l0]; rw [if_neg (by omega)])
  have e : (List.range l.length).all (fun _ => true) = true := by simp
  rw [e] at h
  exact h
theorem rdN_nat (l : List IN) (i : Nat) : rd_T113 l (i : Int) = l.getD i zN := by
  unfold rd_T113
  rw [Int.toNat_natCast]
theorem memN (l : List IN) (i : Nat) (h : i < l.length) : l.getD i zN ∈ l := by
  rw [List.getD_eq_getElem?_getD, List.getElem?_eq_getElem h]
  exact List.getElem_mem h
theorem eqNodeS_refl (l : List IN) (hl : l.length ≤ 9223372036854775807) (hk : ∀ x ∈ l, x.f3.length ≤ 9223372036854775807) : Ev (fun k => laws_eqNodeS.f k l l) true := by
  unfold laws_eqNodeS.f
  refine ev_if_pos rfl (Evs.ev (loop_evx (fun k (_ : Unit) i => laws_eqNodeS.l0 k l l i) l.length (fun _ _ => True) _ (fun i s hi _ => ?_) (fun s _ => ?_) () trivial))
  · refine .inl ⟨(), trivial, fun v h => ?_⟩
    have ht := eqStringS_same (l.getD i zN).f3 (hk _ (memN l i hi))
    refine Ev.step (f := fun k => (laws_eqStringS.f k (l.getD i zN).f3 (l.getD i zN).f3).bind fun t => if t = true then laws_eqNodeS.l0 k l l ((i + 1 : Nat) : Int) else some false) (fun k => ?_) (Ev.bind ht (ev_if_pos rfl h))
    simp only [laws_eqNodeS.l0, rdN_nat, wnat' i _ hi hl, laws_eqNode.f]
    rw [if_pos (by omega), if_pos (by omega), if_pos (by omega), if_pos trivial, if_neg (by simp), if_pos trivial]
    cases laws_eqStringS.f k (l.getD i zN).f3 (l.getD i zN).f3 with
    | none => rfl
    | some t => cases t <;> rfl
  · refine ⟨_, Ev.step (f := fun _ => some true) (fun k => ?_) (Ev.now _), rfl⟩
    simp only [laws_eqNodeS.l0]
    rw [if_neg (by omega)]
def keysOk (l : List ByteArray) : Bool := l.all (fun s => decide ((s.size : Int) = 32))
def restOk (x : IN) : Bool := !((x.f1 && (!decide (x.f2 = 0) || !decide ((x.f3.length : Int) = 1))) || !(decide (0 ≤ x.f2) && decide (x.f2 ≤ 1500)) || decide (100 < (x.f3.length : Int)))
def nodeOk (x : IN) : Bool := isName x.f0 80 && (keysOk x.f3 && restOk x)
def nodeAt (l : List IN) (i : Nat) : Bool := nodeOk (l.getD i zN) && (i == 0 || Op.bytesLess (l.getD (i - 1) zN).f0.toList (l.getD i zN).f0.toList)
def nodesRight (l : List IN) : Bool := decide (l.length ≤ 20) && (List.range l.length).all (nodeAt l)
theorem keys_range (l : List ByteArray) : (List.range l.length).all (fun i => decide (((l.getD i ByteArray.empty).size : Int) = 32)) = keysOk l := by
  unfold keysOk
  rw [Bool.eq_iff_iff, List.all_eq_true, List.all_eq_true]
  constructor
  · intro h x hx
    obtain ⟨j, hj, rfl⟩ := List.mem_iff_getElem.1 hx
    have := h j (List.mem_range.2 hj)
    rw [List.getD_eq_getElem?_getD, List.getElem?_eq_getElem hj] at this
    exact this
  · intro h i hi
    have hi := List.mem_range.1 hi
    rw [List.getD_eq_getElem?_getD, List.getElem?_eq_getElem hi]
    exact h _ (List.getElem_mem hi)
theorem rdOf_getD (l : List ByteArray) (i : Nat) : rdOf ByteArray.empty l (i : Int) = l.getD i ByteArray.empty := by
  simp [rdOf]
theorem l11_l0 (x : IN) (hl : x.f3.length ≤ 9223372036854775807) : Ev (fun k => spec_l11NodeRight.l0 k 0 x.f0 x.f1 x.f2 x.f3) (keysOk x.f3) := by
  rw [← keys_range]
  refine loop_all (fun k i => spec_l11NodeRight.l0 k i x.f0 x.f1 x.f2 x.f3) x.f3.length hl 0 _ (fun k i hi _ hw => ?_) (fun k => by simp only [spec_l11NodeRight.l0]; rw [if_neg (by omega)])
  simp only [spec_l11NodeRight.l0, rdOf_getD, hw]
  rw [if_pos (by omega), if_pos (by omega)]
  by_cases c : ((x.f3.getD i ByteArray.empty).size : Int) = 32
  · rw [if_pos c, if_pos (decide_eq_true c)]
  · rw [if_neg c, if_neg (by simpa using c)]
theorem l11Node_ev (x : IN) (hn : x.f0.size ≤ 9223372036854775807) (hl : x.f3.length ≤ 9223372036854775807) : Ev (fun k => spec_l11NodeRight.f k x.f0 x.f1 x.f2 x.f3) (nodeOk x) := by
  have bad : Ev (fun k => spec_l11NodeRight.j0 k true x.f0 x.f1 x.f2 x.f3) false := Ev.step (f := fun _ => some false) (fun k => by simp only [spec_l11NodeRight.j0]; rfl) (Ev.now _)
  have good : Ev (fun k => spec_l11NodeRight.j0 k false x.f0 x.f1 x.f2 x.f3) (keysOk x.f3) := Ev.step (fun k => by simp only [spec_l11NodeRight.j0]; rfl) (l11_l0 x hl)
  have last : ∀ v : Bool, (v = if x.f2 > 1500 then false else keysOk x.f3) → Ev (fun k => spec_l11NodeRight.j0 k (decide (x.f2 > 1500)) x.f0 x.f1 x.f2 x.f3) v := by
    intro v hv
    by_cases c : x.f2 > 1500
    · rw [if_pos c] at hv
      rw [decide_eq_true c, hv]
      exact bad
    · rw [if_neg c] at hv
      rw [decide_eq_false c, hv]
      exact good
  obtain ⟨v, hv⟩ : ∃ v, nodeOk x = v := ⟨_, rfl⟩
  rw [hv]
  unfold nodeOk restOk at hv
  have badv : v = false → Ev (fun k => spec_l11NodeRight.j0 k true x.f0 x.f1 x.f2 x.f3) v := fun h => h ▸ bad
  unfold spec_l11NodeRight.f
  refine Ev.bind (nameRight_ev x.f0 hn) ?_
  by_cases c0 : isName x.f0 80 = true
  case neg => exact ev_if_neg c0 (badv (by rw [← hv]; simp [c0]))
  refine ev_if_pos c0 ?_
  by_cases c1 : (x.f3.length : Int) > 100
  · exact ev_if_pos c1 (badv (by rw [← hv, decide_eq_true (show 100 < (x.f3.length : Int) from c1)]; simp))
  refine ev_if_neg c1 ?_
  rw [c0, decide_eq_false (show ¬ 100 < (x.f3.length : Int) from c1)] at hv
  by_cases c2 : x.f1 = true
  · refine ev_if_pos c2 ?_
    rw [c2] at hv
    by_cases c3 : x.f2 = 0
    · refine ev_if_pos c3 ?_
      by_cases c4 : (x.f3.length : Int) = 1
      · refine ev_if_pos c4 (ev_if_neg (by omega) (last _ ?_))
        rw [← hv, decide_eq_true c3, decide_eq_true c4, decide_eq_true (show 0 ≤ x.f2 by omega), decide_eq_true (show x.f2 ≤ 1500 by omega), if_neg (by omega)]
        simp
      · refine ev_if_neg c4 (badv ?_)
        rw [← hv, decide_eq_false c4]
        simp
    · refine ev_if_neg c3 (badv ?_)
      rw [← hv, decide_eq_false c3]
      simp
  · refine ev_if_neg c2 ?_
    rw [Bool.not_eq_true] at c2
    rw [c2] at hv
    by_cases c5 : x.f2 < 0
    · refine ev_if_pos c5 (badv ?_)
      rw [← hv, decide_eq_false (show ¬ 0 ≤ x.f2 by omega)]
      simp
    · refine ev_if_neg c5 (last _ ?_)
      rw [← hv, decide_eq_true (show 0 ≤ x.f2 by omega)]
      by_cases c6 : x.f2 > 1500
      · rw [if_pos c6, decide_eq_false (show ¬ x.f2 ≤ 1500 by omega)]
        simp
      · rw [if_neg c6, decide_eq_true (show x.f2 ≤ 1500 by omega)]
        simp
theorem prevN (l : List IN) (i : Nat) (h0 : 0 < i) (h : i < l.length) (hl : l.length ≤ 20) : rd_T113 l (wrap64 ((i : Int) - 1)) = l.getD (i - 1) zN ∧ 0 ≤ wrap64 ((i : Int) - 1) ∧ wrap64 ((i : Int) - 1) < (l.length : Int) := getD_prev l i _ h0 h (by omega)
theorem nodesRight_s (l : List IN) (hs : ∀ x ∈ l, x.f0.size ≤ 9223372036854775807 ∧ x.f3.length ≤ 9223372036854775807) : Ev (fun k => spec_NodesRight.f k l) (nodesRight l) := by
  unfold spec_NodesRight.f nodesRight
  by_cases h : (l.length : Int) > 20
  · refine ev_if_pos h ?_
    rw [decide_eq_false (by omega)]
    exact Ev.now _
  refine ev_if_neg h ?_
  rw [decide_eq_true (by omega), Bool.true_and]
  obtain ⟨K, hK⟩ := ev_all (fun (x : IN) k => spec_l11NodeRight.f k x.f0 x.f1 x.f2 x.f3) (fun x => nodeOk x) l (fun x hx => l11Node_ev _ (hs x hx).1 (hs x hx).2)
  refine loop_all (fun k i => spec_NodesRight.l0 k l i) l.length (by omega) K (nodeAt l) (fun k i hi hk hw => ?_) (fun k => by simp only [spec_NodesRight.l0]; rw [if_neg (by omega)])
  have hr := hK _ (memN l i hi) k hk
  simp only [spec_NodesRight.l0, rdN_nat, hr, hw, nodeAt, Option.bind_some]
  rw [if_pos (by omega), if_pos (by omega)]
  by_cases hx : nodeOk (l.getD i zN) = true
  · rw [if_pos hx]
    by_cases h0 : 0 < i
    · obtain ⟨h1, h2, h3⟩ := prevN l i h0 hi (by omega)
      rw [if_pos (by omega), if_pos h2, if_pos h3, h1]
      have hi0 : (i == 0) = false := beq_eq_false_iff_ne.2 (by omega)
      simp only [hx, hi0, Bool.true_and, Bool.false_or]
    · obtain rfl : i = 0 := by omega
      rw [if_neg (by omega)]
      simp only [hx, Bool.true_and, beq_self_eq_true, Bool.true_or, if_true]
  · rw [if_neg hx]
    rw [Bool.not_eq_true] at hx
    simp only [hx, Bool.false_and]
    rfl
theorem keys_k0 (l : List ByteArray) (hl : l.length ≤ 9223372036854775807) : Ev (fun k => impl_NodesRight.keys k l) (!keysOk l) := by
  unfold impl_NodesRight.keys
  have main : Evs (fun k => impl_NodesRight.k0 k l 0) (fun j => decide (0 ≤ j) = !keysOk l) := by
    refine loop_evx (fun k (_ : Unit) i => impl_NodesRight.k0 k l i) l.length (fun i _ => ∀ j, j < i → (((l.getD j ByteArray.empty).size : Int) = 32)) _ (fun i s hi hv => ?_) (fun s hv => ?_) () (fun j hj => absurd hj (by omega))
    · by_cases c : ((l.getD i ByteArray.empty).size : Int) = 32
      · refine .inl ⟨(), fun j hj => ?_, fun v h => Ev.step (fun k => ?_) h⟩
        · by_cases e : j = i
          · subst e
            exact c
          · exact hv j (by omega)
        · simp only [impl_NodesRight.k0, rdOf_getD, wnat' i _ hi hl]
          rw [if_pos (by omega), if_pos (by omega), if_pos c]
      · refine .inr ⟨(i : Int), Ev.step (f := fun _ => some (i : Int)) (fun k => ?_) (Ev.now _), ?_⟩
        · simp only [impl_NodesRight.k0, rdOf_getD]
          rw [if_pos (by omega), if_pos (by omega), if_neg c]
        · have hf : keysOk l = false := by
            rw [← keys_range, Bool.eq_false_iff]
            intro h
            rw [List.all_eq_true] at h
            exact c (of_decide_eq_true (h i (List.mem_range.2 hi)))
          show decide ((0 : Int) ≤ (i : Int)) = !keysOk l
          rw [hf, decide_eq_true (by omega)]
          rfl
    · refine ⟨-1, Ev.step (f := fun _ => some (-1)) (fun k => ?_) (Ev.now _), ?_⟩
      · simp only [impl_NodesRight.k0]
        rw [if_neg (by omega)]
      · have hf : keysOk l = true := by
          rw [← keys_range, List.all_eq_true]
          intro i hi
          exact decide_eq_true (hv i (List.mem_range.1 hi))
        rw [hf]
        rfl
  obtain ⟨j, h1, h2⟩ := main
  exact Ev.bind h1 (ev_eq h2)
theorem nodesRight_i (l : List IN) (hs : ∀ x ∈ l, x.f0.size ≤ 9223372036854775807 ∧ x.f3.length ≤ 9223372036854775807) : Ev (fun k => impl_NodesRight.f k l) (nodesRight l) := by
  unfold impl_NodesRight.f nodesRight
  by_cases h : (l.length : Int) > 20
  · refine ev_if_pos h ?_
    rw [decide_eq_false (by omega)]
    exact Ev.now _
  refine ev_if_neg h ?_
  rw [decide_eq_true (by omega), Bool.true_and]
  obtain ⟨K, hK⟩ := ev_all (fun (x : IN) k => impl_NameRight.f k x.f0) (fun x => isName x.f0 80) l (fun x hx => Ev.bind (isName_ev _ 80 (hs x hx).1) (Ev.now _))
  obtain ⟨K2, hK2⟩ := ev_all (fun (x : IN) k => impl_NodesRight.keys k x.f3) (fun x => !keysOk x.f3) l (fun x hx => keys_k0 _ (hs x hx).2)
  refine loop_all (fun k i => impl_NodesRight.l0 k l i) l.length (by omega) (K + K2) (nodeAt l) (fun k i hi hk hw => ?_) (fun k => by simp only [impl_NodesRight.l0]; rw [if_neg (by omega)])
  have hr := hK _ (memN l i hi) k (by omega)
  have hr2 := hK2 _ (memN l i hi) k (by omega)
  simp only [impl_NodesRight.l0, rdN_nat, hr, hr2, hw, Option.bind_some]
  rw [if_pos (by omega), if_pos (by omega)]
  have e : impl_NodesRight.rest (l.getD i zN) = restOk (l.getD i zN) := rfl
  have hP : (isName (l.getD i zN).f0 80 && ((!decide (0 < (i : Int)) || Op.bytesLess (rd_T113 l (wrap64 ((i : Int) - 1))).f0.toList (l.getD i zN).f0.toList) && (!(!keysOk (l.getD i zN).f3) && impl_NodesRight.rest (l.getD i zN)))) = nodeAt l i := by
    rw [e]
    unfold nodeAt nodeOk
    by_cases h0 : 0 < i
    · obtain ⟨h1, h2, h3⟩ := prevN l i h0 hi (by omega)
      have hi0 : (i == 0) = false := beq_eq_false_iff_ne.2 (by omega)
      rw [h1, hi0, decide_eq_true (show (0 : Int) < (i : Int) by omega)]
      generalize isName (l.getD i zN).f0 80 = a
      generalize keysOk (l.getD i zN).f3 = b
      generalize restOk (l.getD i zN) = c
      generalize Op.bytesLess _ _ = d
      cases a <;> cases b <;> cases c <;> cases d <;> rfl
    · obtain rfl : i = 0 := by omega
      rw [decide_eq_false (show ¬ (0 : Int) < ((0 : Nat) : Int) by omega)]
      generalize isName (l.getD 0 zN).f0 80 = a
      generalize keysOk (l.getD 0 zN).f3 = b
      generalize restOk (l.getD 0 zN) = c
      cases a <;> cases b <;> cases c <;> rfl
  rw [hP]
theorem FnExactNodesRight : FnExactNodesRight_Pure := by
  intro l hl hok
  refine Ev.rounds (g := fun k => laws_FnExactNodesRight.f k l) (Evs.ev ?_)
  unfold laws_FnExactNodesRight.f
  refine Evs.bind (szNodeS_evs l 1048576 (by omega) (by omega) hl hok) (fun r hr => Evs.ite (fun _ => Evs.now _ rfl) (fun hn => ?_))
  obtain ⟨hsum, hks⟩ := hr (by omega)
  have hto := toNodeS_ev l (by omega) (fun x hx => by have := hks x hx; omega)
  have hs : ∀ x ∈ l.map toNode, x.f0.size ≤ 9223372036854775807 ∧ x.f3.length ≤ 9223372036854775807 := by
    intro x hx
    obtain ⟨y, hy, rfl⟩ := List.mem_map.1 hx
    exact ⟨(hok y hy).1, by have := hks y hy; show y.f3.length ≤ _; omega⟩
  have hl2 : (l.map toNode).length ≤ 9223372036854775807 := by simp; omega
  refine ⟨_, Ev.bind hto (Ev.bind (nodesRight_s _ hs) (Ev.bind hto (Ev.bind (nodesRight_i _ hs) (ev_if_neg (by simp) (Ev.bind hto (Ev.bind (eqNodeS_refl _ hl2 (fun x hx => (hs x hx).2)) (ev_if_pos rfl (Ev.now _)))))))), rfl⟩
end Go.Proofs.Ytgmdakcfcmkhkaa.Pure
