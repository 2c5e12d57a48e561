/- The plain law of FnExactNodesBytes: at every list of nodes NodesBytes gives the reference's bytes. -/
import Derived.Test.YtddapeieolfolaaOkFnExactNodesBytes
import Derived.Test.YtddapeieolfolaaVLibFnExactNodesBytes
namespace Go.Proofs.Ytddapeieolfolaa.Pure
open Go.RowKit Go.Proofs.Ytddapeieolfolaa.PFnExactNodesBytes Go.Proofs.Ytddapeieolfolaa.Lib Go.Proofs.YtddapeieolfolaaW.PrintWords Go.Proofs.YtddapeieolfolaaW.PrintLast Go.Proofs.YtddapeieolfolaaW.PrintMore
set_option linter.unusedVariables false
set_option linter.unusedSimpArgs false
theorem nameRight_l0 (s : ByteArray) (hs : s.size ≤ 9223372036854775807) (d : Nat) : ∀ (i k : Nat), i + d = s.size → d < k → spec_NameRight.l0 k s (i : Int) = some (nameOk s d i) := by
  induction d with
  | zero =>
    intro i k hi hk
    obtain ⟨k, rfl⟩ : ∃ m, k = m + 1 := ⟨k - 1, by omega⟩
    simp only [spec_NameRight.l0]
    rw [if_neg (by omega)]
    rfl
  | succ d ih =>
    intro i k hi hk
    obtain ⟨k, rfl⟩ : ∃ m, k = m + 1 := ⟨k - 1, by omega⟩
    have e : wrap64 ((i : Int) + 1) = ((i + 1 : Nat) : Int) := by rw [w64 (by omega) (by omega)]; omega
    have h := ih (i + 1) k (by omega) (by omega)
    simp only [spec_NameRight.l0, e, h]
    rw [if_pos (by omega), if_pos (by omega)]
    exact nameStep _ _ _
theorem nameRight_ev (s : ByteArray) (hs : s.size ≤ 9223372036854775807) : Ev (fun k => spec_NameRight.f k s) (isName s 80) := by
  refine ev_from (s.size + 3) fun k hk => ?_
  obtain ⟨k, rfl⟩ : ∃ m, k = m + 1 := ⟨k - 1, by omega⟩
  have h := nameRight_l0 s hs s.size 0 k (by omega) (by omega)
  simp only [spec_NameRight.f, spec_NameRight.j0]
  have h' : spec_NameRight.l0 k s 0 = some (nameOk s s.size 0) := h
  rw [h']
  unfold isName
  generalize nameOk s s.size 0 = X
  grind
theorem isName_l0 (s : ByteArray) (most : Int) (hs : s.size ≤ 9223372036854775807) (d : Nat) : ∀ (i k : Nat), i + d = s.size → d < k → impl_isName.l0 k s most s.size (i : Int) = some (nameOk s d i && (decide ((s.size : Int) ≥ 1) && decide ((s.size : Int) ≤ most))) := by
  induction d with
  | zero =>
    intro i k hi hk
    obtain ⟨k, rfl⟩ : ∃ m, k = m + 1 := ⟨k - 1, by omega⟩
    simp only [impl_isName.l0, impl_long.f, impl_within.f, Option.bind_some, nameOk]
    rw [if_neg (by omega)]
    grind
  | succ d ih =>
    intro i k hi hk
    obtain ⟨k, rfl⟩ : ∃ m, k = m + 1 := ⟨k - 1, by omega⟩
    have e : wrap64 ((i : Int) + 1) = ((i + 1 : Nat) : Int) := by rw [w64 (by omega) (by omega)]; omega
    have h := ih (i + 1) k (by omega) (by omega)
    simp only [impl_isName.l0, e, h]
    rw [if_pos (by omega), if_pos (by omega), if_pos (by omega)]
    refine (nameStep _ _ _).trans ?_
    simp [nameOk, Bool.and_assoc]
theorem isName_ev (s : ByteArray) (most : Int) (hs : s.size ≤ 9223372036854775807) : Ev (fun k => impl_isName.f k s most) (isName s most) := by
  refine ev_from (s.size + 3) fun k hk => ?_
  have h := isName_l0 s most hs s.size 0 k (by omega) (by omega)
  simp only [impl_isName.f]
  exact h
theorem within_eq (a b c : Int) : impl_within.f a b c = some (decide (b ≤ a) && decide (a ≤ c)) := by
  unfold impl_within.f
  by_cases h : a ≥ b <;> simp [h]
/-- a loop whose rounds each go on or end. -/
theorem loop_evx {σ ρ : Type} (F : Nat → σ → Int → Option ρ) (n : Nat) (inv : Nat → σ → Prop) (Q : ρ → Prop)
    (hstep : ∀ (i : Nat) (s : σ), i < n → inv i s → (∃ s', inv (i + 1) s' ∧ ∀ v, Ev (fun k => F k s' ((i + 1 : Nat) : Int)) v → Ev (fun k => F k s (i : Int)) v) ∨ Evs (fun k => F k s (i : Int)) Q)
    (hend : ∀ (s : σ), inv n s → Evs (fun k => F k s (n : Int)) Q) : ∀ (s : σ), inv 0 s → Evs (fun k => F k s 0) Q := by
  have main : ∀ (d i : Nat) (s : σ), i + d = n → inv i s → Evs (fun k => F k s (i : Int)) Q := by
    intro d
    induction d with
    | zero =>
      intro i s hi hv
      obtain rfl : i = n := by omega
      exact hend s hv
    | succ d ih =>
      intro i s hi hv
      rcases hstep i s (by omega) hv with ⟨s', hs', hv'⟩ | h
      · obtain ⟨v, h1, h2⟩ := ih (i + 1) s' (by omega) hs'
        exact ⟨v, hv' v h1, h2⟩
      · exact h
  intro s hs
  exact main n 0 s (by omega) hs
theorem wnat' (i n : Nat) (hi : i < n) (hn : n ≤ 9223372036854775807) : wrap64 ((i : Int) + 1) = ((i + 1 : Nat) : Int) := by rw [w64 (by omega) (by omega)]; omega
abbrev LN := S78
abbrev IN := S80
abbrev zN := z80
theorem rdOf_nat (l : List ByteArray) (i : Nat) (h : i < l.length) : rdOf ByteArray.empty l (i : Int) = l[i] := by
  simp [rdOf, h]
theorem szStringS_evs (l : List ByteArray) (left : Int) (h0 : 0 ≤ left) (h1 : left ≤ 1048576) (hl : l.length ≤ 9223372036854775807) (hok : ∀ x ∈ l, x.size ≤ 9223372036854775807) : Evs (fun k => laws_szStringS.f k l left) (fun r => 0 ≤ r → r + (l.length : Int) ≤ left) := by
  unfold laws_szStringS.f
  rw [sz_wrap h0 h1 (by omega) (by omega)]
  refine Evs.ite (fun _ => Evs.now _ (by omega)) (fun hneg => ?_)
  refine loop_evx (fun k (s : Int) i => laws_szStringS.l0 k l s i) l.length (fun i s => 0 ≤ s ∧ s ≤ left - l.length) _ (fun i s hi hs => ?_) (fun s hs => ?_) _ ⟨by omega, by omega⟩
  · obtain ⟨hs0, hs1⟩ := hs
    have hx := hok l[i] (List.getElem_mem hi)
    by_cases hr : s - (l[i].size : Int) < 0
    · refine .inr ⟨-1, Ev.step (f := fun _ => some (-1)) (fun k => ?_) (Ev.now _), by omega⟩
      simp only [laws_szStringS.l0, rdOf_nat l i hi]
      rw [if_pos (by omega), if_pos (by omega), sz_wrap hs0 (by omega) (by omega) (by omega), if_pos hr]
    · refine .inl ⟨s - (l[i].size : Int), ⟨by omega, by omega⟩, fun v hv => Ev.step (fun k => ?_) hv⟩
      simp only [laws_szStringS.l0, rdOf_nat l i hi, wnat' i _ hi hl]
      rw [if_pos (by omega), if_pos (by omega), sz_wrap hs0 (by omega) (by omega) (by omega), if_neg hr]
  · obtain ⟨hs0, hs1⟩ := hs
    refine ⟨s, Ev.step (f := fun _ => some s) (fun k => ?_) (Ev.now _), by omega⟩
    simp only [laws_szStringS.l0]
    rw [if_neg (by omega)]
theorem szNode_evs (x : LN) (left : Int) (h0 : 0 ≤ left) (h1 : left ≤ 1048576) (hx : ok78 x) : Evs (fun k => laws_szNode.f k x.f0 x.f1 x.f2 x.f3 left) (fun r => 0 ≤ r → r + (x.f3.length : Int) ≤ left) := by
  obtain ⟨q0, _, _, q3, q4⟩ := hx
  unfold laws_szNode.f
  rw [sz_wrap h0 h1 (by omega) (by omega)]
  refine Evs.ite (fun _ => Evs.now _ (by omega)) (fun hneg => ?_)
  refine Evs.bind (szStringS_evs x.f3 _ (by omega) (by omega) q3 q4) (fun r hr => ?_)
  refine Evs.ite (fun _ => Evs.now _ (by omega)) (fun hn => Evs.now _ (by intro _; have := hr (by omega); omega))
theorem rdL_nat (l : List LN) (i : Nat) (h : i < l.length) : rd_T78 l (i : Int) = l[i] := by
  unfold rd_T78
  rw [Int.toNat_natCast, List.getD_eq_getElem?_getD, List.getElem?_eq_getElem h]
  rfl
theorem szNodeS_evs (l : List LN) (left : Int) (h0 : 0 ≤ left) (h1 : left ≤ 1048576) (hl : l.length ≤ 9223372036854775807) (hok : ∀ x ∈ l, ok78 x) : Evs (fun k => laws_szNodeS.f k l left) (fun r => 0 ≤ r → r + (l.length : Int) ≤ left ∧ ∀ x ∈ l, (x.f3.length : Int) ≤ left) := by
  unfold laws_szNodeS.f
  rw [sz_wrap h0 h1 (by omega) (by omega)]
  refine Evs.ite (fun _ => Evs.now _ (by omega)) (fun hneg => ?_)
  refine loop_evx (fun k (s : Int) i => laws_szNodeS.l0 k l s i) l.length (fun i s => 0 ≤ s ∧ s ≤ left - l.length ∧ ∀ j (h : j < l.length), j < i → (l[j].f3.length : Int) ≤ left) _ (fun i s hi hs => ?_) (fun s hs => ?_) _ ⟨by omega, by omega, fun j _ h => absurd h (by omega)⟩
  · obtain ⟨hs0, hs1, hs2⟩ := hs
    obtain ⟨r0, hr0, hq0⟩ := szNode_evs l[i] s hs0 (by omega) (hok l[i] (List.getElem_mem hi))
    have hst : ∀ k, laws_szNodeS.l0 (k + 1) l s (i : Int) = (laws_szNode.f k l[i].f0 l[i].f1 l[i].f2 l[i].f3 s).bind fun t => (if t < 0 then (some (-1)) else (laws_szNodeS.l0 k l t ((i + 1 : Nat) : Int))) := by
      intro k
      simp only [laws_szNodeS.l0, rdL_nat l i hi, wnat' i _ hi hl]
      rw [if_pos (by omega), if_pos (by omega)]
    by_cases hr : r0 < 0
    · exact .inr ⟨-1, Ev.step hst (Ev.bind hr0 (ev_if_pos hr (Ev.now _))), by omega⟩
    · have hq := hq0 (by omega)
      refine .inl ⟨r0, ⟨by omega, by omega, fun j h hj => ?_⟩, fun v hv => Ev.step hst (Ev.bind hr0 (ev_if_neg hr hv))⟩
      by_cases e : j = i
      · subst e
        omega
      · exact hs2 j h (by omega)
  · obtain ⟨hs0, hs1, hs2⟩ := hs
    refine ⟨s, Ev.step (f := fun _ => some s) (fun k => ?_) (Ev.now _), fun _ => ⟨by omega, fun x hx => ?_⟩⟩
    · simp only [laws_szNodeS.l0]
      rw [if_neg (by omega)]
    · obtain ⟨j, hj, rfl⟩ := List.mem_iff_getElem.1 hx
      exact hs2 j hj hj
theorem toStringS_ev (l : List ByteArray) (hl : l.length ≤ 1048576) : Ev (fun k => laws_toStringS.f k l) l := by
  have hn : ((l.length : Int)).toNat = l.length := Int.toNat_natCast _
  refine Ev.congr (f := fun k => laws_toStringS.l0 k l (List.replicate l.length (⟨#[]⟩ : ByteArray)) 0) (fun k => ?_) ?_
  · unfold laws_toStringS.f
    rw [if_pos (by omega), if_pos (by omega), hn]
  · exact loop_ev (fun k (s : List ByteArray) i => laws_toStringS.l0 k l s i) l.length (by omega) 0 (fun i s => s.length = l.length ∧ ∀ j, j < i → s[j]? = (l.map (fun x => x))[j]?) _
      (fun k i s hi hv hK hw => by
      have hlen := hv.1
      simp only [laws_toStringS.l0, rdOf_nat l i hi]
      rw [if_pos (by omega), if_pos (by omega), hw]
      rw [if_pos (by omega)]
      exact Or.inl ⟨_, fill_step (fun x => x) l s i hi hv.1 hv.2 _ rfl, rfl⟩)
      (fun k s hv => by
      simp only [laws_toStringS.l0]
      rw [if_neg (by omega)]
      exact congrArg some ((fill_done (fun x => x) l s hv.1 hv.2).trans (List.map_id' l)))
      _ ⟨by simp, fun j hj => absurd hj (by omega)⟩
def toNode (x : LN) : IN := ⟨x.f0, x.f1, x.f2, x.f3⟩
theorem toNodeS_ev (l : List LN) (hl : l.length ≤ 1048576) (hk : ∀ x ∈ l, x.f3.length ≤ 1048576) : Ev (fun k => laws_toNodeS.f k l) (l.map toNode) := by
  have hn : ((l.length : Int)).toNat = l.length := Int.toNat_natCast _
  refine Ev.congr (f := fun k => laws_toNodeS.l0 k l (List.replicate l.length zN) 0) (fun k => ?_) ?_
  · unfold laws_toNodeS.f
    rw [if_pos (by omega), if_pos (by omega), hn]
  · refine Evs.ev (loop_evx (fun k (s : List IN) i => laws_toNodeS.l0 k l s i) l.length (fun i s => s.length = l.length ∧ ∀ j, j < i → s[j]? = (l.map toNode)[j]?) _ (fun i s hi hv => ?_) (fun s hv => ?_) _ ⟨by simp, fun j hj => absurd hj (by omega)⟩)
    · have hlen := hv.1
      refine .inl ⟨s.set i (toNode l[i]), fill_step toNode l s i hi hv.1 hv.2 _ rfl, fun v h => ?_⟩
      have ht := toStringS_ev l[i].f3 (hk _ (List.getElem_mem hi))
      refine Ev.step (f := fun k => (laws_toStringS.f k l[i].f3).bind fun t => laws_toNodeS.l0 k l (s.set i (⟨l[i].f0, l[i].f1, l[i].f2, t⟩ : IN)) ((i + 1 : Nat) : Int)) (fun k => ?_) (Ev.bind ht h)
      simp only [laws_toNodeS.l0, rdL_nat l i hi, wnat' i _ hi (by omega), laws_toNode.f]
      rw [if_pos (by omega), if_pos (by omega)]
      cases laws_toStringS.f k l[i].f3 with
      | none => rfl
      | some t =>
        simp only [Option.bind_some, Int.toNat_natCast]
        rw [if_pos (by omega)]
    · refine ⟨_, Ev.step (f := fun _ => some s) (fun k => ?_) (Ev.now _), fill_done toNode l s hv.1 hv.2⟩
      simp only [laws_toNodeS.l0]
      rw [if_neg (by omega)]
theorem eqStringS_same (l : List ByteArray) (hl : l.length ≤ 9223372036854775807) : Ev (fun k => laws_eqStringS.f k l l) true := by
  unfold laws_eqStringS.f
  refine ev_if_pos rfl ?_
  have h := loop_all (fun k i => laws_eqStringS.l0 k l l i) l.length hl 0 (fun _ => true) (fun k i hi _ hw => by simp only [laws_eqStringS.l0, hw]; rw [if_pos (by omega), if_pos (by omega), if_pos (by omega), if_pos trivial]) (fun k => by simp only [laws_eqStringS.l0]; rw [if_neg (by omega)])
  have e : (List.range l.length).all (fun _ => true) = true := by simp
  rw [e] at h
  exact h
theorem rdN_nat (l : List IN) (i : Nat) : rd_T80 l (i : Int) = l.getD i zN := by
  unfold rd_T80
  rw [Int.toNat_natCast]
theorem memN (l : List IN) (i : Nat) (h : i < l.length) : l.getD i zN ∈ l := by
  rw [List.getD_eq_getElem?_getD, List.getElem?_eq_getElem h]
  exact List.getElem_mem h
theorem eqNodeS_refl (l : List IN) (hl : l.length ≤ 9223372036854775807) (hk : ∀ x ∈ l, x.f3.length ≤ 9223372036854775807) : Ev (fun k => laws_eqNodeS.f k l l) true := by
  unfold laws_eqNodeS.f
  refine ev_if_pos rfl (Evs.ev (loop_evx (fun k (_ : Unit) i => laws_eqNodeS.l0 k l l i) l.length (fun _ _ => True) _ (fun i s hi _ => ?_) (fun s _ => ?_) () trivial))
  · refine .inl ⟨(), trivial, fun v h => ?_⟩
    have ht := eqStringS_same (l.getD i zN).f3 (hk _ (memN l i hi))
    refine Ev.step (f := fun k => (laws_eqStringS.f k (l.getD i zN).f3 (l.getD i zN).f3).bind fun t => if t = true then laws_eqNodeS.l0 k l l ((i + 1 : Nat) : Int) else some false) (fun k => ?_) (Ev.bind ht (ev_if_pos rfl h))
    simp only [laws_eqNodeS.l0, rdN_nat, wnat' i _ hi hl, laws_eqNode.f]
    rw [if_pos (by omega), if_pos (by omega), if_pos (by omega), if_pos trivial, if_neg (by simp), if_pos trivial]
    cases laws_eqStringS.f k (l.getD i zN).f3 (l.getD i zN).f3 with
    | none => rfl
    | some t => cases t <;> rfl
  · refine ⟨_, Ev.step (f := fun _ => some true) (fun k => ?_) (Ev.now _), rfl⟩
    simp only [laws_eqNodeS.l0]
    rw [if_neg (by omega)]
def keysOk (l : List ByteArray) : Bool := l.all (fun s => decide ((s.size : Int) = 32))
def restOk (x : IN) : Bool := !((x.f1 && (!decide (x.f2 = 0) || !decide ((x.f3.length : Int) = 1))) || !(decide (0 ≤ x.f2) && decide (x.f2 ≤ 1500)) || decide (100 < (x.f3.length : Int)))
def nodeOk (x : IN) : Bool := isName x.f0 80 && (keysOk x.f3 && restOk x)
def nodeAt (l : List IN) (i : Nat) : Bool := nodeOk (l.getD i zN) && (i == 0 || Op.bytesLess (l.getD (i - 1) zN).f0.toList (l.getD i zN).f0.toList)
def nodesRight (l : List IN) : Bool := decide (l.length ≤ 20) && (List.range l.length).all (nodeAt l)
theorem keys_range (l : List ByteArray) : (List.range l.length).all (fun i => decide (((l.getD i ByteArray.empty).size : Int) = 32)) = keysOk l := by
  unfold keysOk
  rw [Bool.eq_iff_iff, List.all_eq_true, List.all_eq_true]
  constructor
  · intro h x hx
    obtain ⟨j, hj, rfl⟩ := List.mem_iff_getElem.1 hx
    have := h j (List.mem_range.2 hj)
    rw [List.getD_eq_getElem?_getD, List.getElem?_eq_getElem hj] at this
    exact this
  · intro h i hi
    have hi := List.mem_range.1 hi
    rw [List.getD_eq_getElem?_getD, List.getElem?_eq_getElem hi]
    exact h _ (List.getElem_mem hi)
theorem rdOf_getD (l : List ByteArray) (i : Nat) : rdOf ByteArray.empty l (i : Int) = l.getD i ByteArray.empty := by
  simp [rdOf]
theorem l11_l0 (x : IN) (hl : x.f3.length ≤ 9223372036854775807) : Ev (fun k => spec_l11NodeRight.l0 k 0 x.f0 x.f1 x.f2 x.f3) (keysOk x.f3) := by
  rw [← keys_range]
  refine loop_all (fun k i => spec_l11NodeRight.l0 k i x.f0 x.f1 x.f2 x.f3) x.f3.length hl 0 _ (fun k i hi _ hw => ?_) (fun k => by simp only [spec_l11NodeRight.l0]; rw [if_neg (by omega)])
  simp only [spec_l11NodeRight.l0, rdOf_getD, hw]
  rw [if_pos (by omega), if_pos (by omega)]
  by_cases c : ((x.f3.getD i ByteArray.empty).size : Int) = 32
  · rw [if_pos c, if_pos (decide_eq_true c)]
  · rw [if_neg c, if_neg (by simpa using c)]
theorem l11Node_ev (x : IN) (hn : x.f0.size ≤ 9223372036854775807) (hl : x.f3.length ≤ 9223372036854775807) : Ev (fun k => spec_l11NodeRight.f k x.f0 x.f1 x.f2 x.f3) (nodeOk x) := by
  have bad : Ev (fun k => spec_l11NodeRight.j0 k true x.f0 x.f1 x.f2 x.f3) false := Ev.step (f := fun _ => some false) (fun k => by simp only [spec_l11NodeRight.j0]; rfl) (Ev.now _)
  have good : Ev (fun k => spec_l11NodeRight.j0 k false x.f0 x.f1 x.f2 x.f3) (keysOk x.f3) := Ev.step (fun k => by simp only [spec_l11NodeRight.j0]; rfl) (l11_l0 x hl)
  have last : ∀ v : Bool, (v = if x.f2 > 1500 then false else keysOk x.f3) → Ev (fun k => spec_l11NodeRight.j0 k (decide (x.f2 > 1500)) x.f0 x.f1 x.f2 x.f3) v := by
    intro v hv
    by_cases c : x.f2 > 1500
    · rw [if_pos c] at hv
      rw [decide_eq_true c, hv]
      exact bad
    · rw [if_neg c] at hv
      rw [decide_eq_false c, hv]
      exact good
  obtain ⟨v, hv⟩ : ∃ v, nodeOk x = v := ⟨_, rfl⟩
  rw [hv]
  unfold nodeOk restOk at hv
  have badv : v = false → Ev (fun k => spec_l11NodeRight.j0 k true x.f0 x.f1 x.f2 x.f3) v := fun h => h ▸ bad
  unfold spec_l11NodeRight.f
  refine Ev.bind (nameRight_ev x.f0 hn) ?_
  by_cases c0 : isName x.f0 80 = true
  case neg => exact ev_if_neg c0 (badv (by rw [← hv]; simp [c0]))
  refine ev_if_pos c0 ?_
  by_cases c1 : (x.f3.length : Int) > 100
  · exact ev_if_pos c1 (badv (by rw [← hv, decide_eq_true (show 100 < (x.f3.length : Int) from c1)]; simp))
  refine ev_if_neg c1 ?_
  rw [c0, decide_eq_false (show ¬ 100 < (x.f3.length : Int) from c1)] at hv
  by_cases c2 : x.f1 = true
  · refine ev_if_pos c2 ?_
    rw [c2] at hv
    by_cases c3 : x.f2 = 0
    · refine ev_if_pos c3 ?_
      by_cases c4 : (x.f3.length : Int) = 1
      · refine ev_if_pos c4 (ev_if_neg (by omega) (last _ ?_))
        rw [← hv, decide_eq_true c3, decide_eq_true c4, decide_eq_true (show 0 ≤ x.f2 by omega), decide_eq_true (show x.f2 ≤ 1500 by omega), if_neg (by omega)]
        simp
      · refine ev_if_neg c4 (badv ?_)
        rw [← hv, decide_eq_false c4]
        simp
    · refine ev_if_neg c3 (badv ?_)
      rw [← hv, decide_eq_false c3]
      simp
  · refine ev_if_neg c2 ?_
    rw [Bool.not_eq_true] at c2
    rw [c2] at hv
    by_cases c5 : x.f2 < 0
    · refine ev_if_pos c5 (badv ?_)
      rw [← hv, decide_eq_false (show ¬ 0 ≤ x.f2 by omega)]
      simp
    · refine ev_if_neg c5 (last _ ?_)
      rw [← hv, decide_eq_true (show 0 ≤ x.f2 by omega)]
      by_cases c6 : x.f2 > 1500
      · rw [if_pos c6, decide_eq_false (show ¬ x.f2 ≤ 1500 by omega)]
        simp
      · rw [if_neg c6, decide_eq_true (show x.f2 ≤ 1500 by omega)]
        simp
theorem prevN (l : List IN) (i : Nat) (h0 : 0 < i) (h : i < l.length) (hl : l.length ≤ 20) : rd_T80 l (wrap64 ((i : Int) - 1)) = l.getD (i - 1) zN ∧ 0 ≤ wrap64 ((i : Int) - 1) ∧ wrap64 ((i : Int) - 1) < (l.length : Int) := getD_prev l i _ h0 h (by omega)
theorem nodesRight_s (l : List IN) (hs : ∀ x ∈ l, x.f0.size ≤ 9223372036854775807 ∧ x.f3.length ≤ 9223372036854775807) : Ev (fun k => spec_NodesRight.f k l) (nodesRight l) := by
  unfold spec_NodesRight.f nodesRight
  by_cases h : (l.length : Int) > 20
  · refine ev_if_pos h ?_
    rw [decide_eq_false (by omega)]
    exact Ev.now _
  refine ev_if_neg h ?_
  rw [decide_eq_true (by omega), Bool.true_and]
  obtain ⟨K, hK⟩ := ev_all (fun (x : IN) k => spec_l11NodeRight.f k x.f0 x.f1 x.f2 x.f3) (fun x => nodeOk x) l (fun x hx => l11Node_ev _ (hs x hx).1 (hs x hx).2)
  refine loop_all (fun k i => spec_NodesRight.l0 k l i) l.length (by omega) K (nodeAt l) (fun k i hi hk hw => ?_) (fun k => by simp only [spec_NodesRight.l0]; rw [if_neg (by omega)])
  have hr := hK _ (memN l i hi) k hk
  simp only [spec_NodesRight.l0, rdN_nat, hr, hw, nodeAt, Option.bind_some]
  rw [if_pos (by omega), if_pos (by omega)]
  by_cases hx : nodeOk (l.getD i zN) = true
  · rw [if_pos hx]
    by_cases h0 : 0 < i
    · obtain ⟨h1, h2, h3⟩ := prevN l i h0 hi (by omega)
      rw [if_pos (by omega), if_pos h2, if_pos h3, h1]
      have hi0 : (i == 0) = false := beq_eq_false_iff_ne.2 (by omega)
      simp only [hx, hi0, Bool.true_and, Bool.false_or]
    · obtain rfl : i = 0 := by omega
      rw [if_neg (by omega)]
      simp only [hx, Bool.true_and, beq_self_eq_true, Bool.true_or, if_true]
  · rw [if_neg hx]
    rw [Bool.not_eq_true] at hx
    simp only [hx, Bool.false_and]
    rfl
theorem keys_k0 (l : List ByteArray) (hl : l.length ≤ 9223372036854775807) : Ev (fun k => impl_NodesRight.keys k l) (!keysOk l) := by
  unfold impl_NodesRight.keys
  have main : Evs (fun k => impl_NodesRight.k0 k l 0) (fun j => decide (0 ≤ j) = !keysOk l) := by
    refine loop_evx (fun k (_ : Unit) i => impl_NodesRight.k0 k l i) l.length (fun i _ => ∀ j, j < i → (((l.getD j ByteArray.empty).size : Int) = 32)) _ (fun i s hi hv => ?_) (fun s hv => ?_) () (fun j hj => absurd hj (by omega))
    · by_cases c : ((l.getD i ByteArray.empty).size : Int) = 32
      · refine .inl ⟨(), fun j hj => ?_, fun v h => Ev.step (fun k => ?_) h⟩
        · by_cases e : j = i
          · subst e
            exact c
          · exact hv j (by omega)
        · simp only [impl_NodesRight.k0, rdOf_getD, wnat' i _ hi hl]
          rw [if_pos (by omega), if_pos (by omega), if_pos c]
      · refine .inr ⟨(i : Int), Ev.step (f := fun _ => some (i : Int)) (fun k => ?_) (Ev.now _), ?_⟩
        · simp only [impl_NodesRight.k0, rdOf_getD]
          rw [if_pos (by omega), if_pos (by omega), if_neg c]
        · have hf : keysOk l = false := by
            rw [← keys_range, Bool.eq_false_iff]
            intro h
            rw [List.all_eq_true] at h
            exact c (of_decide_eq_true (h i (List.mem_range.2 hi)))
          show decide ((0 : Int) ≤ (i : Int)) = !keysOk l
          rw [hf, decide_eq_true (by omega)]
          rfl
    · refine ⟨-1, Ev.step (f := fun _ => some (-1)) (fun k => ?_) (Ev.now _), ?_⟩
      · simp only [impl_NodesRight.k0]
        rw [if_neg (by omega)]
      · have hf : keysOk l = true := by
          rw [← keys_range, List.all_eq_true]
          intro i hi
          exact decide_eq_true (hv i (List.mem_range.1 hi))
        rw [hf]
        rfl
  obtain ⟨j, h1, h2⟩ := main
  exact Ev.bind h1 (ev_eq h2)
theorem nodesRight_i (l : List IN) (hs : ∀ x ∈ l, x.f0.size ≤ 9223372036854775807 ∧ x.f3.length ≤ 9223372036854775807) : Ev (fun k => impl_NodesRight.f k l) (nodesRight l) := by
  unfold impl_NodesRight.f nodesRight
  by_cases h : (l.length : Int) > 20
  · refine ev_if_pos h ?_
    rw [decide_eq_false (by omega)]
    exact Ev.now _
  refine ev_if_neg h ?_
  rw [decide_eq_true (by omega), Bool.true_and]
  obtain ⟨K, hK⟩ := ev_all (fun (x : IN) k => impl_NameRight.f k x.f0) (fun x => isName x.f0 80) l (fun x hx => Ev.bind (isName_ev _ 80 (hs x hx).1) (Ev.now _))
  obtain ⟨K2, hK2⟩ := ev_all (fun (x : IN) k => impl_NodesRight.keys k x.f3) (fun x => !keysOk x.f3) l (fun x hx => keys_k0 _ (hs x hx).2)
  refine loop_all (fun k i => impl_NodesRight.l0 k l i) l.length (by omega) (K + K2) (nodeAt l) (fun k i hi hk hw => ?_) (fun k => by simp only [impl_NodesRight.l0]; rw [if_neg (by omega)])
  have hr := hK _ (memN l i hi) k (by omega)
  have hr2 := hK2 _ (memN l i hi) k (by omega)
  simp only [impl_NodesRight.l0, rdN_nat, hr, hr2, hw, Option.bind_some]
  rw [if_pos (by omega), if_pos (by omega)]
  have e : impl_NodesRight.rest (l.getD i zN) = restOk (l.getD i zN) := rfl
  have hP : (isName (l.getD i zN).f0 80 && ((!decide (0 < (i : Int)) || Op.bytesLess (rd_T80 l (wrap64 ((i : Int) - 1))).f0.toList (l.getD i zN).f0.toList) && (!(!keysOk (l.getD i zN).f3) && impl_NodesRight.rest (l.getD i zN)))) = nodeAt l i := by
    rw [e]
    unfold nodeAt nodeOk
    by_cases h0 : 0 < i
    · obtain ⟨h1, h2, h3⟩ := prevN l i h0 hi (by omega)
      have hi0 : (i == 0) = false := beq_eq_false_iff_ne.2 (by omega)
      rw [h1, hi0, decide_eq_true (show (0 : Int) < (i : Int) by omega)]
      generalize isName (l.getD i zN).f0 80 = a
      generalize keysOk (l.getD i zN).f3 = b
      generalize restOk (l.getD i zN) = c
      generalize Op.bytesLess _ _ = d
      cases a <;> cases b <;> cases c <;> cases d <;> rfl
    · obtain rfl : i = 0 := by omega
      rw [decide_eq_false (show ¬ (0 : Int) < ((0 : Nat) : Int) by omega)]
      generalize isName (l.getD 0 zN).f0 80 = a
      generalize keysOk (l.getD 0 zN).f3 = b
      generalize restOk (l.getD 0 zN) = c
      cases a <;> cases b <;> cases c <;> rfl
  rw [hP]
theorem putNum_s_l0 (m : Nat) : ∀ (v k : Nat) (acc : List Int), v < 128 ^ (m + 1) → v < 18446744073709551616 → acc.length + m + 1 ≤ 140737488355328 → m < k → spec_PutNum.l0 k (v : Int) acc = some (strOfNums (acc ++ numL v)) := by
  induction m with
  | zero =>
    intro v k acc hv hv2 ha hk
    obtain ⟨k, rfl⟩ : ∃ m, k = m + 1 := ⟨k - 1, by omega⟩
    have hv' : v < 128 := by simpa using hv
    simp only [spec_PutNum.l0]
    rw [if_neg (by omega), if_pos (by omega), numL_lt hv']
    congr 4
    omega
  | succ m ih =>
    intro v k acc hv hv2 ha hk
    obtain ⟨k, rfl⟩ : ∃ m, k = m + 1 := ⟨k - 1, by omega⟩
    by_cases h : v < 128
    · simp only [spec_PutNum.l0]
      rw [if_neg (by omega), if_pos (by omega), numL_lt h]
      congr 4
      omega
    · have e1 : IntKind.u64.wrap (Int.tdiv (v : Int) 128) = ((v / 128 : Nat) : Int) := by
        rw [Int.tdiv_eq_ediv_of_nonneg (by omega), IntKind.wrap_u64]
        omega
      have e2 : (IntKind.u64.wrap ((Int.tmod (v : Int) 128) + 128)) % 256 = ((v % 128 + 128 : Nat) : Int) := by
        rw [Int.tmod_eq_emod_of_nonneg (by omega), IntKind.wrap_u64]
        omega
      simp only [spec_PutNum.l0, e1, e2]
      rw [if_pos (by omega), if_pos (by omega), ih (v / 128) k _ (by rw [Nat.div_lt_iff_lt_mul (by decide)]; rw [← Nat.pow_succ]; exact hv) (by omega) (by simp; omega) (by omega), numL_ge h]
      simp
theorem putNum_s (n : Int) (h0 : -9223372036854775808 ≤ n) (h1 : n ≤ 9223372036854775807) (k : Nat) (hk : 10 ≤ k) : spec_PutNum.f k n = some (putNum n) := by
  have e : spec_l01Fold.f n = some ((fold n : Nat) : Int) := by
    unfold spec_l01Fold.f fold
    by_cases h : n < 0
    · rw [if_pos h, if_pos h]
      simp only [IntKind.wrap_u64, wrap64]
      congr 1
      omega
    · rw [if_neg h, if_neg h]
      simp only [IntKind.wrap_u64]
      congr 1
      omega
  have hf := fold_lt n h0 h1
  unfold spec_PutNum.f
  rw [e, Option.bind_some, putNum_s_l0 9 _ k _ (Nat.lt_of_lt_of_le hf (by decide)) hf (by simp) (by omega)]
  simp [putNum]
theorem or128 (y : Nat) (h : y < 128) : Go.bits .or .u8 (((y : Nat) : Int) % 256) 128 = ((y + 128 : Nat) : Int) := by
  have e : ((y : Nat) : Int) % 256 = (y : Int) := by omega
  rw [e]
  refine (u8_or_nat y 128 (by omega) (by omega)).trans ?_
  have := nat_join 7 128 y (by decide) (by omega)
  rw [Nat.or_comm, this]
  congr 1
  omega
theorem putNum_i_l0 (m : Nat) : ∀ (v k : Nat) (acc : List Int), v < 128 ^ (m + 1) → v < 18446744073709551616 → acc.length + m + 1 ≤ 140737488355328 → m < k → impl_PutNum.l0 k (v : Int) acc = some (strOfNums (acc ++ numL v)) := by
  induction m with
  | zero =>
    intro v k acc hv hv2 ha hk
    obtain ⟨k, rfl⟩ : ∃ m, k = m + 1 := ⟨k - 1, by omega⟩
    have hv' : v < 128 := by simpa using hv
    simp only [impl_PutNum.l0]
    rw [if_neg (by omega), if_pos (by omega), numL_lt hv']
    congr 4
    omega
  | succ m ih =>
    intro v k acc hv hv2 ha hk
    obtain ⟨k, rfl⟩ : ∃ m, k = m + 1 := ⟨k - 1, by omega⟩
    by_cases h : v < 128
    · simp only [impl_PutNum.l0]
      rw [if_neg (by omega), if_pos (by omega), numL_lt h]
      congr 4
      omega
    · have e1 : (v : Int) / 128 = ((v / 128 : Nat) : Int) := by omega
      have e2 : Go.bits .or .u8 ((Go.bits .and .u64 (v : Int) 127) % 256) 128 = ((v % 128 + 128 : Nat) : Int) := by
        have e3 : Go.bits .and .u64 (v : Int) 127 = ((v % 128 : Nat) : Int) := by
          have := u64_and_nat v 127 hv2 (by decide)
          rw [nat_mask7] at this
          exact this
        rw [e3, or128 _ (by omega)]
      simp only [impl_PutNum.l0, e1, e2]
      rw [if_pos (by omega), if_pos (by omega), ih (v / 128) k _ (by rw [Nat.div_lt_iff_lt_mul (by decide)]; rw [← Nat.pow_succ]; exact hv) (by omega) (by simp; omega) (by omega), numL_ge h]
      simp
theorem fold_bits (n : Int) (h0 : -9223372036854775808 ≤ n) (h1 : n ≤ 9223372036854775807) : Go.bits .xor .u64 (IntKind.u64.wrap ((IntKind.u64.wrap n) * 2)) (IntKind.u64.wrap (n / 9223372036854775808)) = ((fold n : Nat) : Int) := by
  simp only [IntKind.wrap_u64]
  unfold fold
  by_cases h : n < 0
  · rw [if_pos h]
    have e1 : n / 9223372036854775808 % 18446744073709551616 = ((18446744073709551615 : Nat) : Int) := by omega
    have e2 : n % 18446744073709551616 * 2 % 18446744073709551616 = (((n % 18446744073709551616 * 2 % 18446744073709551616).toNat : Nat) : Int) := by omega
    rw [e1, e2, u64_xor_nat _ _ (by omega) (by omega), xor_ones _ (by omega)]
    omega
  · rw [if_neg h]
    have e1 : n / 9223372036854775808 % 18446744073709551616 = ((0 : Nat) : Int) := by omega
    have e2 : n % 18446744073709551616 * 2 % 18446744073709551616 = (((2 * n).toNat : Nat) : Int) := by omega
    rw [e1, e2, u64_xor_nat _ _ (by omega) (by omega)]
    simp
theorem putNum_i (n : Int) (h0 : -9223372036854775808 ≤ n) (h1 : n ≤ 9223372036854775807) (k : Nat) (hk : 10 ≤ k) : impl_PutNum.f k n = some (putNum n) := by
  have hf := fold_lt n h0 h1
  unfold impl_PutNum.f
  rw [fold_bits n h0 h1, putNum_i_l0 9 _ k _ (Nat.lt_of_lt_of_le hf (by decide)) hf (by simp) (by omega)]
  simp [putNum]
/-- a text as numbers. -/
def bl (t : ByteArray) : List Nat := t.data.toList.map UInt8.toNat
theorem bl_length (t : ByteArray) : (bl t).length = t.size := by unfold bl; rw [List.length_map]; exact data_length t
theorem bl_append (a b : ByteArray) : bl (a ++ b) = bl a ++ bl b := by simp [bl, ByteArray.data_append]
theorem bl_lt (t : ByteArray) : ∀ c ∈ bl t, c < 256 := by
  intro c hc
  obtain ⟨x, _, rfl⟩ := List.mem_map.1 hc
  exact x.toNat_lt
theorem bl_extract (t : ByteArray) (i j : Nat) : bl (t.extract i j) = ((bl t).take j).drop i := by
  simp only [bl, ByteArray.data_extract, Array.toList_extract, List.extract_eq_take_drop, List.map_take, List.map_drop]
  rw [List.drop_take]
theorem bl_inj {a b : ByteArray} (h : bl a = bl b) : a = b := by
  have h2 : a.data.toList = b.data.toList := by
    unfold bl at h
    exact (List.map_inj_right (fun x y q => UInt8.toNat_inj.1 q)).1 h
  cases a; cases b
  simp only at h2
  congr 1
  exact Array.toList_inj.1 h2
theorem bt_bl (t : ByteArray) (i : Nat) (h : i < t.size) : bt t (i : Int) = (((bl t)[i]'(by rw [bl_length]; exact h) : Nat) : Int) := by
  unfold bt
  simp only [Int.toNat_natCast]
  rw [dif_pos h]
  simp [bl]
  rfl
theorem bl_strOfNums (l : List Int) (h : ∀ x ∈ l, 0 ≤ x ∧ x < 256) : bl (strOfNums l) = l.map Int.toNat := by
  unfold bl strOfNums
  simp only [List.map_map]
  refine List.map_congr_left (fun x hx => ?_)
  have := h x hx
  simp only [Function.comp]
  rw [UInt8.toNat_ofNat']
  omega
theorem numL_range (m : Nat) : ∀ u, u < 128 ^ (m + 1) → ∀ x ∈ numL u, 0 ≤ x ∧ x < 256 := by
  induction m with
  | zero =>
    intro u hu x hx
    rw [numL_lt (by simpa using hu)] at hx
    simp at hx; subst hx
    simp at hu
    omega
  | succ m ih =>
    intro u hu x hx
    by_cases h : u < 128
    · rw [numL_lt h] at hx
      simp at hx; omega
    · rw [numL_ge h, List.mem_cons] at hx
      rcases hx with rfl | hx
      · omega
      · exact ih (u / 128) (by rw [Nat.div_lt_iff_lt_mul (by decide), ← Nat.pow_succ]; exact hu) x hx
theorem bl_putNum (n : Int) (h0 : -9223372036854775808 ≤ n) (h1 : n ≤ 9223372036854775807) : bl (putNum n) = (numL (fold n)).map Int.toNat :=
  bl_strOfNums _ (numL_range 9 _ (Nat.lt_of_lt_of_le (fold_lt n h0 h1) (by decide)))
theorem empty_list : ((⟨#[]⟩ : ByteArray).toList == ([] : List UInt8)) = true := by
  rw [ByteArray.toList_eq]; rfl
theorem not_empty (p : ByteArray) (h : 0 < p.size) : (p.toList == ([] : List UInt8)) = false := by
  refine beq_eq_false_iff_ne.2 (fun q => ?_)
  rw [ByteArray.toList_eq] at q
  have := congrArg List.length q
  rw [data_length] at this
  simp only [List.length_nil] at this
  omega
theorem extract_size (p : ByteArray) (n : Nat) (h : n ≤ p.size) : (p.extract 0 n).size = n := by
  rw [ByteArray.size_extract]; omega
theorem sn_append (a b : List Int) : strOfNums (a ++ b) = strOfNums a ++ strOfNums b := by
  apply ByteArray.ext
  simp [strOfNums, ByteArray.data_append]
theorem sn_bytesOf (t : ByteArray) : strOfNums (bytesOf t) = t := by
  apply bl_inj
  rw [bl_strOfNums]
  · unfold bytesOf bl
    rw [List.map_map]
    rfl
  · intro x hx
    unfold bytesOf at hx
    obtain ⟨c, _, rfl⟩ := List.mem_map.1 hx
    have := c.toNat_lt
    omega
theorem bytesOf_append (a b : ByteArray) : bytesOf (a ++ b) = bytesOf a ++ bytesOf b := by
  unfold bytesOf
  rw [ByteArray.data_append, Array.toList_append, List.map_append]
theorem bytesOf_len (t : ByteArray) : (bytesOf t).length = t.size := by
  unfold bytesOf
  rw [List.length_map]
  rfl
/-! ### the text of one node -/
theorem join_flat (xs : List (List UInt8)) : Lib.join xs [] = xs.flatten := by
  cases xs with
  | nil => rfl
  | cons x r =>
    rw [Lib.join_cons]
    simp [Lib.joinTail]
theorem cat_bytes (l : List ByteArray) : bytesOf (bw_cat l) = (l.map bytesOf).flatten := by
  unfold bw_cat bytesOf
  rw [join_flat]
  simp only [List.map_flatten, List.map_map]
  rfl
theorem flat_len (l : List ByteArray) (h : ∀ x ∈ l, x.size = 32) : ((l.map bytesOf).flatten).length = 32 * l.length := by
  induction l with
  | nil => rfl
  | cons x l ih =>
    rw [List.map_cons, List.flatten_cons, List.length_append, ih (fun y hy => h y (by simp [hy])), bytesOf_len, h x (by simp), List.length_cons]
    omega
theorem getD_get (l : List ByteArray) (j : Nat) (hj : j < l.length) : l.getD j ByteArray.empty = l[j] := by
  rw [List.getD_eq_getElem?_getD, List.getElem?_eq_getElem hj]
  rfl
theorem take_flat (ks : List ByteArray) (j : Nat) (hj : j < ks.length) : ((ks.take j).map bytesOf).flatten ++ bytesOf (ks.getD j ByteArray.empty) = ((ks.take (j + 1)).map bytesOf).flatten := by
  rw [List.take_add_one, List.getElem?_eq_getElem hj, List.map_append, List.flatten_append, getD_get _ _ hj]
  simp
def dirN (b : Bool) : Int := if b = true then 1 else 0
def nodeB (x : IN) : ByteArray := putNum (x.f0.size : Int) ++ x.f0 ++ putNum (dirN x.f1) ++ putNum x.f2 ++ putNum (x.f3.length : Int) ++ bw_cat x.f3
structure Fit (x : IN) : Prop where
  name : x.f0.size ≤ 80
  keys : ∀ s ∈ x.f3, s.size = 32
  many : x.f3.length ≤ 100
  s0 : 0 ≤ x.f2
  s1 : x.f2 ≤ 1500
theorem fit_of (x : IN) (h : nodeOk x = true) : Fit x := by
  unfold nodeOk isName keysOk restOk at h
  simp only [Bool.and_eq_true, decide_eq_true_eq, List.all_eq_true, Bool.not_eq_true', Bool.or_eq_false_iff, decide_eq_false_iff_not, Bool.not_eq_false'] at h
  obtain ⟨h1, h2, h3⟩ := h
  refine ⟨by omega, fun s hs => by have := h2 s hs; omega, by omega, ?_, ?_⟩
  · have := h3.1.2
    first | omega | (have q := this.1; omega)
  · have := h3.1.2
    first | omega | (have q := this.2; omega)
theorem dirN_rng (b : Bool) : -9223372036854775808 ≤ dirN b ∧ dirN b ≤ 9223372036854775807 := by cases b <;> decide
theorem cat_size (x : IN) (h : Fit x) : (bw_cat x.f3).size ≤ 3200 := by
  rw [← bytesOf_len, cat_bytes, flat_len _ h.keys]
  have := h.many
  omega
structure Sizes (x : IN) : Prop where
  a : (putNum (x.f0.size : Int)).size ≤ 10
  b : (putNum (dirN x.f1)).size ≤ 10
  c : (putNum x.f2).size ≤ 10
  d : (putNum (x.f3.length : Int)).size ≤ 10
theorem sizes_of (x : IN) (h : Fit x) : Sizes x :=
  ⟨(putNum_size _ (by omega) (by have := h.name; omega)).1, (putNum_size _ (dirN_rng _).1 (dirN_rng _).2).1, (putNum_size _ (by have := h.s0; omega) (by have := h.s1; omega)).1, (putNum_size _ (by omega) (by have := h.many; omega)).1⟩
theorem nodeB_size (x : IN) (h : Fit x) : (nodeB x).size ≤ 4000 := by
  have z := sizes_of x h
  have := z.a; have := z.b; have := z.c; have := z.d; have := cat_size x h; have := h.name
  unfold nodeB
  simp only [ByteArray.size_append]
  omega
/-! ### the implementation -/
theorem one_i (x : IN) (h : Fit x) : Ev (fun k => impl_nodesText.one k x) (nodeB x) := by
  have z := sizes_of x h
  have za := z.a; have zb := z.b; have zc := z.c; have zd := z.d; have ze := cat_size x h; have zf := h.name
  have zm := h.many
  unfold impl_nodesText.one
  have ht : Ev (fun k => impl_putText.f k x.f0) (putNum (x.f0.size : Int) ++ x.f0) := by
    unfold impl_putText.f impl_long.f
    exact ev_bind1 rfl (Ev.bind (ev_from 10 (fun k hk => putNum_i _ (by omega) (by omega) k hk)) (ev_if_pos (by omega) (Ev.now _)))
  refine Ev.bind ht (Ev.bind (ev_from 10 (fun k hk => putNum_i (dirN x.f1) (dirN_rng _).1 (dirN_rng _).2 k hk)) (Ev.bind (ev_from 10 (fun k hk => putNum_i _ (by have := h.s0; omega) (by have := h.s1; omega) k hk)) (Ev.bind (ev_from 10 (fun k hk => putNum_i _ (by omega) (by omega) k hk)) (ev_if_pos ⟨by omega, ?_⟩ (Ev.now _)))))
  simp only [ByteArray.size_append]
  omega
def upTo (l : List IN) : Nat → ByteArray
  | 0 => putNum (l.length : Int)
  | i + 1 => upTo l i ++ nodeB (l.getD i zN)
theorem upTo_size (l : List IN) (hl : l.length ≤ 20) (hf : ∀ x ∈ l, Fit x) : ∀ i, i ≤ l.length → (upTo l i).size ≤ 10 + 4000 * i
  | 0, _ => (putNum_size _ (by omega) (by omega)).1
  | i + 1, hi => by
    have h1 := upTo_size l hl hf i (by omega)
    have h2 := nodeB_size _ (hf _ (memN l i (by omega)))
    unfold upTo
    rw [ByteArray.size_append]
    omega
theorem text_i (l : List IN) (hl : l.length ≤ 20) (hf : ∀ x ∈ l, Fit x) : Ev (fun k => impl_nodesText.f k l) (upTo l l.length) := by
  have hn := putNum_size (l.length : Int) (by omega) (by omega)
  unfold impl_nodesText.f
  refine Ev.bind (ev_from 10 (fun k hk => putNum_i _ (by omega) (by omega) k hk)) (ev_if_pos (by omega) (Evs.ev ?_))
  refine loop_evx (fun k (s : ByteArray) i => impl_nodesText.l0 k l s i) l.length (fun i s => s = upTo l i) _ (fun i s hi hv => ?_) (fun s hv => ?_) _ rfl
  · subst hv
    have hs := upTo_size l hl hf i (by omega)
    have hx := hf _ (memN l i hi)
    have hz := nodeB_size _ hx
    refine .inl ⟨upTo l (i + 1), rfl, fun v h => ?_⟩
    refine Ev.step (fun k => by simp only [impl_nodesText.l0]; rfl) (ev_if_pos (by omega) (ev_if_pos (by omega) ?_))
    simp only [rdN_nat, wnat' i _ hi (show l.length ≤ 9223372036854775807 by omega)]
    exact Ev.bind (one_i _ hx) (ev_if_pos (by omega) h)
  · subst hv
    exact ⟨_, Ev.step (f := fun _ => some _) (fun k => by simp only [impl_nodesText.l0]; rw [if_neg (by omega)]) (Ev.now _), rfl⟩
/-! ### the reference -/
theorem putText_s (t : ByteArray) (h : t.size ≤ 80) : Ev (fun k => spec_PutText.f k t) (putNum (t.size : Int) ++ t) := by
  have hz := putNum_size (t.size : Int) (by omega) (by omega)
  exact ev_if_neg (by omega) (Ev.bind (ev_from 10 (fun k hk => putNum_s _ (by omega) (by omega) k hk)) (ev_if_pos (by omega) (Ev.now _)))
theorem keys_s (l : List IN) (i : Nat) (hi : i < l.length) (xs : List Int) (hx : Fit (l.getD i zN)) (hlen : xs.length ≤ 1000000) (v : ByteArray)
    (h : Ev (fun k => spec_l11Bytes.l0 k l (xs ++ ((l.getD i zN).f3.map bytesOf).flatten) (wrap64 ((i : Int) + 1))) v) : Ev (fun k => spec_l11Bytes.l1 k l xs (i : Int) 0) v := by
  have hm := hx.many
  refine Evs.ev ?_
  refine loop_evx (fun k (s : List Int) j => spec_l11Bytes.l1 k l s (i : Int) j) (l.getD i zN).f3.length (fun j s => s = xs ++ (((l.getD i zN).f3.take j).map bytesOf).flatten) _ (fun j s hj hv => ?_) (fun s hv => ?_) _ (by simp)
  · subst hv
    have hmem : (l.getD i zN).f3.getD j ByteArray.empty ∈ (l.getD i zN).f3 := by
      rw [getD_get _ _ hj]
      exact List.getElem_mem hj
    have hk := hx.keys _ hmem
    have hfl := flat_len ((l.getD i zN).f3.take j) (fun y hy => hx.keys y (List.mem_of_mem_take hy))
    have htl : ((l.getD i zN).f3.take j).length ≤ j := List.length_take_le _ _
    refine .inl ⟨_, rfl, fun v h => ?_⟩
    refine Ev.step (fun k => by simp only [spec_l11Bytes.l1]; rfl) (ev_if_pos (by omega) (ev_if_pos (by omega) ?_))
    simp only [rdN_nat, rdOf_getD, wnat' j _ hj (show (l.getD i zN).f3.length ≤ 9223372036854775807 by omega)]
    refine ev_if_pos (by omega) (ev_if_pos (by omega) (ev_if_pos ?_ ?_))
    · rw [List.length_append, hfl]
      omega
    · have e : xs ++ (((l.getD i zN).f3.take j).map bytesOf).flatten ++ bytesOf ((l.getD i zN).f3.getD j ByteArray.empty) = xs ++ (((l.getD i zN).f3.take (j + 1)).map bytesOf).flatten := by
        rw [List.append_assoc, take_flat _ _ hj]
      rw [e]
      exact h
  · subst hv
    rw [List.take_length]
    refine ⟨v, Ev.step (fun k => by simp only [spec_l11Bytes.l1]; rfl) (ev_if_pos (by omega) (ev_if_pos (by omega) ?_)), rfl⟩
    simp only [rdN_nat]
    exact ev_if_neg (by omega) h
theorem text_s (l : List IN) (hl : l.length ≤ 20) (hf : ∀ x ∈ l, Fit x) : Ev (fun k => spec_l11Bytes.f k l) (upTo l l.length) := by
  have hn := putNum_size (l.length : Int) (by omega) (by omega)
  unfold spec_l11Bytes.f
  refine Ev.bind (ev_from 10 (fun k hk => putNum_s _ (by omega) (by omega) k hk)) (ev_if_pos (by omega) (Evs.ev ?_))
  refine loop_evx (fun k (s : List Int) i => spec_l11Bytes.l0 k l s i) l.length (fun i s => s = bytesOf (upTo l i)) _ (fun i s hi hv => ?_) (fun s hv => ?_) _ rfl
  · subst hv
    have hs := upTo_size l hl hf i (by omega)
    have hx := hf _ (memN l i hi)
    have z := sizes_of _ hx
    have za := z.a; have zb := z.b; have zc := z.c; have zd := z.d; have ze := cat_size _ hx; have zf := hx.name; have zm := hx.many
    refine .inl ⟨_, rfl, fun v h => ?_⟩
    have key : Ev (fun k => spec_l11Bytes.j1 k l (bytesOf (upTo l i) ++ bytesOf (putNum ((l.getD i zN).f0.size : Int) ++ (l.getD i zN).f0)) (i : Int) (dirN (l.getD i zN).f1)) v := by
      refine Ev.step (fun k => by simp only [spec_l11Bytes.j1]; rfl) (Ev.bind (ev_from 10 (fun k hk => putNum_s _ (dirN_rng _).1 (dirN_rng _).2 k hk)) (ev_if_pos ?_ ?_))
      · simp only [List.length_append, bytesOf_len, ByteArray.size_append]
        omega
      refine ev_bind1 rfl ?_
      refine ev_if_pos (by omega) (ev_if_pos (by omega) ?_)
      simp only [rdN_nat]
      refine Ev.bind (ev_from 10 (fun k hk => putNum_s _ (by have := hx.s0; omega) (by have := hx.s1; omega) k hk)) (ev_if_pos ?_ ?_)
      · simp only [List.length_append, bytesOf_len, ByteArray.size_append]
        omega
      refine ev_bind1 rfl ?_
      refine Ev.bind (ev_from 10 (fun k hk => putNum_s _ (by omega) (by omega) k hk)) (ev_if_pos ?_ ?_)
      · simp only [List.length_append, bytesOf_len, ByteArray.size_append]
        omega
      · refine keys_s l i hi _ hx ?_ v ?_
        · simp only [List.length_append, bytesOf_len, ByteArray.size_append]
          omega
        · rw [wnat' i _ hi (show l.length ≤ 9223372036854775807 by omega), ← cat_bytes, ← bytesOf_append, ← bytesOf_append, ← bytesOf_append, ← bytesOf_append, ← bytesOf_append]
          have e : upTo l (i + 1) = upTo l i ++ (putNum ((l.getD i zN).f0.size : Int) ++ (l.getD i zN).f0) ++ putNum (dirN (l.getD i zN).f1) ++ putNum (l.getD i zN).f2 ++ putNum ((l.getD i zN).f3.length : Int) ++ bw_cat (l.getD i zN).f3 := by
            rw [upTo, nodeB]
            simp only [ByteArray.append_assoc]
          rw [← e]
          exact h
    refine Ev.step (fun k => by simp only [spec_l11Bytes.l0]; rfl) (ev_if_pos (by omega) (ev_if_pos (by omega) ?_))
    simp only [rdN_nat]
    refine Ev.bind (putText_s _ zf) (ev_if_pos ?_ (ev_bind1 rfl ?_))
    · rw [bytesOf_len, ByteArray.size_append]
      omega
    · by_cases c : (l.getD i zN).f1 = true
      · refine ev_if_pos c ?_
        rw [show (1 : Int) = dirN (l.getD i zN).f1 by rw [c]; rfl]
        exact key
      · refine ev_if_neg c ?_
        rw [show (0 : Int) = dirN (l.getD i zN).f1 by rw [Bool.eq_false_iff.2 c]; rfl]
        exact key
  · subst hv
    refine ⟨_, Ev.step (f := fun _ => some (strOfNums (bytesOf (upTo l l.length)))) (fun k => by simp only [spec_l11Bytes.l0]; rw [if_neg (by omega)]) (Ev.now _), ?_⟩
    exact sn_bytesOf _
def textOf (l : List IN) : ByteArray := if nodesRight l = true then upTo l l.length else ⟨#[]⟩
theorem fits (l : List IN) (h : nodesRight l = true) : l.length ≤ 20 ∧ ∀ x ∈ l, Fit x := by
  unfold nodesRight at h
  simp only [Bool.and_eq_true, decide_eq_true_eq, List.all_eq_true] at h
  refine ⟨h.1, fun x hx => ?_⟩
  obtain ⟨i, hi, rfl⟩ := List.mem_iff_getElem.1 hx
  have h2 := h.2 i (List.mem_range.2 hi)
  unfold nodeAt at h2
  rw [Bool.and_eq_true] at h2
  have h3 := h2.1
  rw [List.getD_eq_getElem?_getD, List.getElem?_eq_getElem hi] at h3
  exact fit_of _ h3
theorem bytes_s (l : List IN) (hs : ∀ x ∈ l, x.f0.size ≤ 9223372036854775807 ∧ x.f3.length ≤ 9223372036854775807) : Ev (fun k => spec_NodesBytes.f k l) (textOf l) := by
  unfold spec_NodesBytes.f textOf
  by_cases c : (l.length : Int) > 400
  · refine ev_if_pos c (ev_eq ?_)
    rw [if_neg]
    intro h
    have := (fits l h).1
    omega
  refine ev_if_neg c (Ev.bind (nodesRight_s l hs) ?_)
  by_cases h : nodesRight l = true
  · obtain ⟨h1, h2⟩ := fits l h
    rw [if_pos h]
    exact ev_if_pos h (Ev.bind (text_s l h1 h2) (Ev.now _))
  · rw [if_neg h]
    exact ev_if_neg h (Ev.now _)
theorem bytes_i (l : List IN) (hs : ∀ x ∈ l, x.f0.size ≤ 9223372036854775807 ∧ x.f3.length ≤ 9223372036854775807) : Ev (fun k => impl_NodesBytes.f k l) (textOf l) := by
  unfold impl_NodesBytes.f impl_Node_51.f textOf
  refine ev_bind1 rfl ?_
  by_cases c : (l.length : Int) > 400
  · refine ev_if_pos (decide_eq_true c) (ev_eq ?_)
    rw [if_neg]
    intro h
    have := (fits l h).1
    omega
  refine ev_if_neg (by simpa using c) (Ev.bind (nodesRight_i l hs) ?_)
  by_cases h : nodesRight l = true
  · obtain ⟨h1, h2⟩ := fits l h
    rw [if_pos h]
    exact ev_if_pos h (Ev.bind (text_i l h1 h2) (Ev.now _))
  · rw [if_neg h]
    exact ev_if_neg h (Ev.now _)
theorem FnExactNodesBytes : FnExactNodesBytes_Pure := by
  intro l hl hok
  refine Ev.rounds (g := fun k => laws_FnExactNodesBytes.f k l) (Evs.ev ?_)
  unfold laws_FnExactNodesBytes.f
  refine Evs.bind (szNodeS_evs l 1048576 (by omega) (by omega) hl hok) (fun r hr => Evs.ite (fun _ => Evs.now _ rfl) (fun hn => ?_))
  obtain ⟨hsum, hks⟩ := hr (by omega)
  have hto := toNodeS_ev l (by omega) (fun x hx => by have := hks x hx; omega)
  have hs : ∀ x ∈ l.map toNode, x.f0.size ≤ 9223372036854775807 ∧ x.f3.length ≤ 9223372036854775807 := by
    intro x hx
    obtain ⟨y, hy, rfl⟩ := List.mem_map.1 hx
    exact ⟨(hok y hy).1, by have := hks y hy; show y.f3.length ≤ _; omega⟩
  have hl2 : (l.map toNode).length ≤ 9223372036854775807 := by simp; omega
  refine ⟨_, Ev.bind hto (Ev.bind (bytes_s _ hs) (Ev.bind hto (Ev.bind (bytes_i _ hs) (ev_if_pos rfl (Ev.bind hto (Ev.bind (eqNodeS_refl _ hl2 (fun x hx => (hs x hx).2)) (ev_if_pos rfl (Ev.now _)))))))), rfl⟩
end Go.Proofs.Ytddapeieolfolaa.Pure
