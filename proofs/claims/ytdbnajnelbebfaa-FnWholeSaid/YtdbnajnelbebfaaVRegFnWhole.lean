/- A region that draws its order, by one relation an operation: for regions that read, and call what only makes memory. A library text: it proves no statement by itself. -/
import Derived.Test.YtdbnajnelbebfaaVFnWhole
import Derived.RegionTactic
import Derived.OrdersHeld
namespace Go.Proofs.Ytdbnajnelbebfaa.Reg
open Go.RowKit Go.Proofs.YtdbnajnelbebfaaW.PrintWords Go.Proofs.YtdbnajnelbebfaaW.PrintLast
set_option linter.unusedVariables false

/-- The world has grown: what was there is as it was. -/
abbrev Grow (w w' : World) : Prop := Below w.heap.size w w'
theorem grow_refl (w : World) : Grow w w := Below.refl _ _
theorem grow_trans {a b c : World} (h : Grow a b) (k : Grow b c) : Grow a c := h.trans (k.mono h.size)

/-- Each operation's slot gets its value. -/
def regPut (us : Nat → Value) : List Oper → Nat → Act → Act
  | [], _, a => a
  | o :: os, i, a => regPut us os (i + 1) (a.put o.dst (us i))
def upd (us : Nat → Value) (i : Nat) (v : Value) : Nat → Value := fun j => if j = i then v else us j
/-- No two operations have one slot. -/
def dstsOk : List Oper → Bool
  | [] => true
  | o :: os => (os.all fun p => o.dst.isNone || p.dst != o.dst) && dstsOk os

theorem regPut_congr {us vs : Nat → Value} : ∀ (os : List Oper) (i : Nat) (a : Act), (∀ k, i ≤ k → us k = vs k) → regPut us os i a = regPut vs os i a
  | [], _, _, _ => rfl
  | o :: os, i, a, h => by
    unfold regPut
    rw [h i (Nat.le_refl _)]
    exact regPut_congr os (i + 1) _ (fun k hk => h k (by omega))
theorem regPut_put {us : Nat → Value} : ∀ (os : List Oper) (i : Nat) (a : Act) (d : Option Tmp) (v : Value), (∀ o ∈ os, d = none ∨ o.dst ≠ d) → (regPut us os i a).put d v = regPut us os i (a.put d v)
  | [], _, _, _, _, _ => rfl
  | o :: os, i, a, d, v, h => by
    unfold regPut
    rw [regPut_put os (i + 1) _ d v (fun p hp => h p (by simp [hp]))]
    congr 1
    rcases h o (by simp) with rfl | hne
    · rfl
    · refine Act.put_comm a (x := o.dst) (y := d) (us i) v (fun e he hd => hne (he.trans hd.symm))
theorem put_twice (a : Act) (d : Option Tmp) (u v : Value) : (a.put d u).put d v = a.put d v := by
  cases d with
  | none => rfl
  | some d => simp [Act.put]
theorem regPut_upd {us : Nat → Value} {v : Value} : ∀ (os : List Oper) (i j : Nat) (a : Act) (o : Oper), dstsOk os = true → os[j]? = some o → (regPut us os i a).put o.dst v = regPut (upd us (i + j) v) os i a
  | [], _, _, _, _, _, h => by simp at h
  | p :: os, i, 0, a, o, hd, h => by
    have hp : p = o := by simpa using h
    subst hp
    simp only [dstsOk, Bool.and_eq_true, List.all_eq_true] at hd
    unfold regPut
    rw [regPut_put os (i + 1) _ _ _ (fun q hq => by
      have := hd.1 q hq
      simp only [Bool.or_eq_true, bne_iff_ne, Option.isNone_iff_eq_none] at this
      exact this), put_twice]
    have e : upd us (i + 0) v i = v := by simp [upd]
    rw [e]
    exact regPut_congr os (i + 1) _ (fun k hk => by unfold upd; rw [if_neg (by omega)])
  | p :: os, i, j + 1, a, o, hd, h => by
    simp only [dstsOk, Bool.and_eq_true] at hd
    have h' : os[j]? = some o := by simpa using h
    unfold regPut
    have e : upd us (i + (j + 1)) v i = us i := by unfold upd; rw [if_neg (by omega)]
    rw [e, regPut_upd os (i + 1) j _ o hd.2 h', show i + 1 + j = i + (j + 1) by omega]

/-- What the slots hold ahead of the region. -/
def orig (a : Act) (ops : Array Oper) (j : Nat) : Value := match (ops[j]?).bind (·.dst) with
  | some d => a.tmps.getD d undef
  | none => undef
theorem put_same (a : Act) (d : Tmp) : a.put (some d) (a.tmps.getD d undef) = a := by
  have h : a.tmps.setIfInBounds d (a.tmps.getD d undef) = a.tmps := by
    apply Array.ext_getElem?
    intro i
    by_cases e : d = i
    · subst e
      by_cases hl : d < a.tmps.size
      · simp [hl]
      · rw [Array.getElem?_eq_none (Nat.le_of_not_lt hl), Array.getElem?_eq_none (by simpa using Nat.le_of_not_lt hl)]
    · rw [Array.getElem?_setIfInBounds_ne e]
  unfold Act.put
  simp only [h]
theorem regPut_orig (a : Act) (ops : Array Oper) : ∀ (os : List Oper) (i : Nat), (∀ k, os[k]? = ops[i + k]?) → regPut (orig a ops) os i a = a
  | [], _, _ => rfl
  | o :: os, i, h => by
    unfold regPut
    have h0 : ops[i]? = some o := by simpa using (h 0).symm
    have e : a.put o.dst (orig a ops i) = a := by
      unfold orig
      rw [h0]
      simp only [Option.bind_some]
      cases hd : o.dst with
      | none => rfl
      | some d => exact put_same a d
    rw [e]
    exact regPut_orig a ops os (i + 1) (fun k => by have := h (k + 1); rw [show i + 1 + k = i + (k + 1) by omega]; simpa using this)

/-- The table T names, for each operation, some that stand ahead of it. -/
def depsOk (ops : Array Oper) (T : List (List Nat)) : Bool := (List.range ops.size).all fun i => match ops[i]? with
  | some o => (o.after.all fun e => !Region.binds .any e || decide (e.on < i)) && (T.getD i []).all fun j => o.after.any fun e => Region.binds .any e && (e.on == j || (T.getD e.on []).contains j)
  | none => true
theorem deps_listed {ops : Array Oper} {T : List (List Nat)} (hT : depsOk ops T = true) {listed : Array Bool} (hc : ListedClosed .any ops listed) : ∀ (i : Nat) (o : Oper), ops[i]? = some o →
    (∀ e ∈ o.after, Region.binds .any e = true → listed.getD e.on false = true) → ∀ j ∈ T.getD i [], listed.getD j false = true := by
  intro i
  induction i using Nat.strongRecOn with
  | ind i ih =>
    intro o ho hl j hj
    have hi : i < ops.size := (Array.getElem?_eq_some_iff.1 ho).1
    have h1 := List.all_eq_true.1 hT i (List.mem_range.2 hi)
    rw [ho] at h1
    simp only [Bool.and_eq_true] at h1
    obtain ⟨h2, h3⟩ := h1
    have h4 := List.all_eq_true.1 h3 j hj
    obtain ⟨e, he, h5⟩ := Array.any_eq_true'.1 h4
    simp only [Bool.and_eq_true, Bool.or_eq_true, beq_iff_eq] at h5
    obtain ⟨hb, h6⟩ := h5
    have hle := hl e he hb
    rcases h6 with rfl | h6
    · exact hle
    · have hlt : e.on < i := by
        have := Array.all_eq_true_iff_forall_mem.1 h2 e he
        simpa [hb] using this
      have hmem : j ∈ T.getD e.on [] := by simpa using h6
      cases hoe : ops[e.on]? with
      | none =>
        have : e.on < ops.size := by omega
        rw [Array.getElem?_eq_getElem this] at hoe
        cases hoe
      | some o' => exact ih e.on hlt o' hoe (hc e.on o' hoe hle) j hmem

section
variable {P : Program} {Q : Exit → Act → World → Prop}
/-- What is to be shown of operation i: whatever has come up, those of T among it. -/
def StepOk (P : Program) (ops : Array Oper) (Q : Exit → Act → World → Prop) (T : List (List Nat)) (R : Nat → Value → World → Prop) (a : Act) (w : World) (o : Oper) (i : Nat) : Prop :=
  ∀ (us : Nat → Value) (w' : World), Grow w w' → (∀ j ∈ T.getD i [], R j (us j) w') → ∀ K : Act → World → Prop, (∀ v w'', Grow w' w'' → R i v w'' → K ((regPut us ops.toList 0 a).put o.dst v) w'') →
    if Region.wanted o (yielded ops (regPut us ops.toList 0 a).tmps) = true then Oper.wp P o (regPut us ops.toList 0 a) w' K Q else K ((regPut us ops.toList 0 a).put o.dst undef) w'
def Steps (P : Program) (ops : Array Oper) (Q : Exit → Act → World → Prop) (T : List (List Nat)) (R : Nat → Value → World → Prop) (a : Act) (w : World) : List Oper → Nat → Prop
  | [], _ => True
  | o :: os, i => StepOk P ops Q T R a w o i ∧ Steps P ops Q T R a w os (i + 1)
theorem steps_get {ops : Array Oper} {T : List (List Nat)} {R : Nat → Value → World → Prop} {a : Act} {w : World} : ∀ (os : List Oper) (i j : Nat) (o : Oper), Steps P ops Q T R a w os i → os[j]? = some o → StepOk P ops Q T R a w o (i + j)
  | [], _, _, _, _, h => by simp at h
  | p :: os, i, 0, o, hs, h => by
    have hp : p = o := by simpa using h
    subst hp
    exact hs.1
  | p :: os, i, j + 1, o, hs, h => by
    have := steps_get os (i + 1) j o hs.2 (by simpa using h)
    rwa [show i + 1 + j = i + (j + 1) by omega] at this

theorem reg_any {ops : Array Oper} (T : List (List Nat)) (R : Nat → Value → World → Prop) {a : Act} {w : World} (hd : dstsOk ops.toList = true) (hT : depsOk ops T = true) (hR : ∀ i v w w', Grow w w' → R i v w → R i v w')
    (hS : Steps P ops Q T R a w ops.toList 0) (hend : ∀ us w', Grow w w' → (∀ j, j < ops.size → R j (us j) w') → Q .normal (regPut us ops.toList 0 a) w') :
    ∀ (fuel : Nat) (listed : Array Bool) (us : Nat → Value) (w' : World), ListedClosed .any ops listed → ((List.range ops.size).filter fun j => !listed.getD j false).length ≤ fuel → listed.size = ops.size → Grow w w' →
      (∀ j, listed.getD j false = true → R j (us j) w') → wpAny P .any ops Q fuel listed (regPut us ops.toList 0 a) w' := by
  have hdone : ∀ (listed : Array Bool) (us : Nat → Value) (w' : World), ListedClosed .any ops listed → listed.size = ops.size → Grow w w' → (∀ j, listed.getD j false = true → R j (us j) w') → Region.ready .any ops listed = [] → Q .normal (regPut us ops.toList 0 a) w' := by
    intro listed us w' hc hsz hg hr hnil
    refine hend us w' hg (fun j hj => hr j ?_)
    induction j using Nat.strongRecOn with
    | ind j ih =>
      cases hb : listed.getD j false with
      | true => rfl
      | false =>
        have hmem : j ∈ Region.ready .any ops listed := by
          rw [mem_ready]
          refine ⟨?_, ops[j], Array.getElem?_eq_getElem hj, fun e he hbe => ?_⟩
          · rw [Array.getD_eq_getD_getElem?, Array.getElem?_eq_getElem (by omega)] at hb ⊢
            exact hb
          · have h1 := List.all_eq_true.1 hT j (List.mem_range.2 hj)
            rw [Array.getElem?_eq_getElem hj] at h1
            simp only [Bool.and_eq_true] at h1
            have h2 := Array.all_eq_true_iff_forall_mem.1 h1.1 e he
            have hlt : e.on < j := by simpa [hbe] using h2
            exact ih e.on hlt (by omega)
        rw [hnil] at hmem
        cases hmem
  intro fuel
  induction fuel with
  | zero =>
    intro listed us w' hc hn hsz hg hr
    have hnil : Region.ready .any ops listed = [] := by
      cases hq : Region.ready .any ops listed with
      | nil => rfl
      | cons i is =>
        have hi : i ∈ Region.ready .any ops listed := by rw [hq]; simp
        obtain ⟨h1, o, ho, _⟩ := mem_ready.1 hi
        have hil : i < ops.size := (Array.getElem?_eq_some_iff.1 ho).1
        have : i ∈ ((List.range ops.size).filter fun j => !listed.getD j false) := by
          rw [List.mem_filter]
          refine ⟨List.mem_range.2 hil, ?_⟩
          rw [Array.getD_eq_getD_getElem?, Array.getElem?_eq_getElem (by omega)] at h1 ⊢
          simpa using h1
        have h0 : ((List.range ops.size).filter fun j => !listed.getD j false) = [] := List.eq_nil_of_length_eq_zero (by omega)
        rw [h0] at this
        cases this
    exact ⟨hnil, hdone listed us w' hc hsz hg hr hnil⟩
  | succ fuel ih =>
    intro listed us w' hc hn hsz hg hr
    refine ⟨hdone listed us w' hc hsz hg hr, fun i hi => ?_⟩
    obtain ⟨h1, o, ho, hall⟩ := mem_ready.1 hi
    have hil : i < ops.size := (Array.getElem?_eq_some_iff.1 ho).1
    have hst := steps_get ops.toList 0 i o hS (by simpa using ho)
    rw [Nat.zero_add] at hst
    refine wpOp_step ho (fun K' hK => ?_)
    refine hst us w' hg (fun j hj => hr j (deps_listed hT hc i o ho hall j hj)) K' (fun v w'' hg' hv => hK _ _ ?_)
    rw [regPut_upd ops.toList 0 i a o hd (by simpa using ho), Nat.zero_add]
    have hun : listed.getD i false = false := by
      rw [Array.getD_eq_getD_getElem?, Array.getElem?_eq_getElem (by omega)] at h1 ⊢
      exact h1
    have hnot : listed[i]'(by omega) = false := by
      rw [Array.getD_eq_getD_getElem?, Array.getElem?_eq_getElem (by omega)] at h1
      exact h1
    refine ih (listed.setIfInBounds i true) (upd us i v) w'' (hc.set hi) ?_ (by simpa using hsz) (grow_trans hg hg') (fun j hj => ?_)
    · have hlt : ((List.range ops.size).filter fun j => !(listed.setIfInBounds i true).getD j false).length < ((List.range ops.size).filter fun j => !listed.getD j false).length := by
        have hsub : ((List.range ops.size).filter fun j => !(listed.setIfInBounds i true).getD j false) = (((List.range ops.size).filter fun j => !listed.getD j false).filter fun j => j != i) := by
          rw [List.filter_filter]
          apply List.filter_congr
          intro j hj
          by_cases e : j = i
          · subst e
            simp [Array.getD_eq_getD_getElem?, show j < listed.size by omega]
          · rw [getD_set_ne false (fun h => e h.symm)]
            simp [e]
        rw [hsub]
        refine List.length_filter_lt_length_iff_exists.2 ⟨i, ?_, by simp⟩
        rw [List.mem_filter]
        exact ⟨List.mem_range.2 hil, by rw [hun]; rfl⟩
      omega
    · by_cases e : j = i
      · subst e
        unfold upd
        rw [if_pos rfl]
        exact hv
      · unfold upd
        rw [if_neg e]
        rw [getD_set_ne false (fun h => e h.symm)] at hj
        exact hR j _ _ _ hg' (hr j hj)
/-- THE REGION: a relation an operation, that stays as the world grows. -/
theorem wp_reg {id : Nat} {ops : Array Oper} {a : Act} {w : World} (T : List (List Nat)) (R : Nat → Value → World → Prop) (hm : P.follows .mixedOrders = true) (hd : dstsOk ops.toList = true) (hT : depsOk ops T = true) (hR : ∀ i v w w', Grow w w' → R i v w → R i v w')
    (hS : Steps P ops Q T R a w ops.toList 0) (hend : ∀ us w', Grow w w' → (∀ j, j < ops.size → R j (us j) w') → Q .normal (regPut us ops.toList 0 a) w') : (Code.region id ops true).wp P Q a w := by
  refine wp_region_any hm ?_
  have hg : Grow w { w with drawn := w.drawn + 1 } := below_drew1 (grow_refl w)
  have h := reg_any T R hd hT hR hS hend ops.size (Array.replicate ops.size false) (orig a ops) _ (fun j oj hj hl e he hb => by
      have : (Array.replicate ops.size false).getD j false = false := by
        rw [Array.getD_eq_getD_getElem?, Array.getElem?_replicate]
        split <;> rfl
      rw [this] at hl
      cases hl) (Nat.le_trans (List.length_filter_le _ _) (by simp)) (by simp) hg (fun j hj => by
      have : (Array.replicate ops.size false).getD j false = false := by
        rw [Array.getD_eq_getD_getElem?, Array.getElem?_replicate]
        split <;> rfl
      rw [this] at hj
      cases hj)
  rwa [regPut_orig a ops ops.toList 0 (fun k => by simp)] at h
/-! The same in plain words: A us is the frame in which each slot of the region has us. -/
def asB : Value → Option Bool
  | .bool b => some b
  | _ => none
def wantedG (o : Oper) (us : Nat → Value) : Bool := match o.guard with
  | none => true
  | some (j, want) => asB (us j) == some want
def AllR (R : Nat → Value → World → Prop) (us : Nat → Value) (w : World) : List Nat → Prop
  | [] => True
  | j :: js => R j (us j) w ∧ AllR R us w js
theorem allR_of {R : Nat → Value → World → Prop} {us : Nat → Value} {w : World} : ∀ (D : List Nat), (∀ j ∈ D, R j (us j) w) → AllR R us w D
  | [], _ => trivial
  | j :: js, h => ⟨h j (by simp), allR_of js (fun k hk => h k (by simp [hk]))⟩
theorem allR_get {R : Nat → Value → World → Prop} {us : Nat → Value} {w : World} : ∀ {D : List Nat} {j : Nat}, AllR R us w D → D.contains j = true → R j (us j) w
  | [], _, _, hj => by simp at hj
  | k :: D, j, h, hj => by
    by_cases e : j = k
    · subst e
      exact h.1
    · refine allR_get h.2 ?_
      simpa [e] using hj
def Step1 (P : Program) (Q : Exit → Act → World → Prop) (D : List Nat) (R : Nat → Value → World → Prop) (A : (Nat → Value) → Act) (w : World) (o : Oper) (i : Nat) : Prop :=
  ∀ (us : Nat → Value) (w' : World), Grow w w' → AllR R us w' D → ∀ K : Act → World → Prop, (∀ v w'', Grow w' w'' → R i v w'' → K ((A us).put o.dst v) w'') →
    if wantedG o us = true then Oper.wp P o (A us) w' K Q else K ((A us).put o.dst undef) w'
def Steps1 (P : Program) (Q : Exit → Act → World → Prop) (R : Nat → Value → World → Prop) (A : (Nat → Value) → Act) (w : World) : List Oper → List (List Nat) → Nat → Prop
  | [], [], _ => True
  | o :: os, D :: Ds, i => Step1 P Q D R A w o i ∧ Steps1 P Q R A w os Ds (i + 1)
  | _, _, _ => False
def slotsOk (ops : Array Oper) (n : Nat) : Bool := ops.all fun o => (match o.dst with | some d => decide (d < n) | none => true) && (match o.guard with | some (j, _) => ((ops[j]?).bind (·.dst)).isSome | none => true)
theorem regPut_size {us : Nat → Value} : ∀ (os : List Oper) (i : Nat) (a : Act), (regPut us os i a).tmps.size = a.tmps.size
  | [], _, _ => rfl
  | o :: os, i, a => by
    unfold regPut
    rw [regPut_size os]
    cases o.dst <;> simp [Act.put]
theorem regPut_get {us : Nat → Value} {os : List Oper} {i j : Nat} {a : Act} {o : Oper} {d : Tmp} (hd : dstsOk os = true) (ho : os[j]? = some o) (hdst : o.dst = some d) (hlt : d < a.tmps.size) : (regPut us os i a).tmps[d]? = some (us (i + j)) := by
  have h := regPut_upd (us := us) (v := us (i + j)) os i j a o hd ho
  have e : upd us (i + j) (us (i + j)) = us := by
    funext k
    unfold upd
    split
    · rename_i hk
      rw [hk]
    · rfl
  rw [e, hdst] at h
  have hsz : d < (regPut us os i a).tmps.size := by rw [regPut_size]; exact hlt
  have h2 : ((regPut us os i a).put (some d) (us (i + j))).tmps[d]? = some (us (i + j)) := by simp [Act.put, hsz]
  rw [h] at h2
  exact h2
theorem wantedG_eq {ops : Array Oper} {us : Nat → Value} {a : Act} (hd : dstsOk ops.toList = true) (hs : slotsOk ops a.tmps.size = true) {o : Oper} (ho : o ∈ ops) : Region.wanted o (yielded ops (regPut us ops.toList 0 a).tmps) = wantedG o us := by
  have h1 := Array.all_eq_true_iff_forall_mem.1 hs o ho
  unfold Region.wanted wantedG
  cases hg : o.guard with
  | none => rfl
  | some g =>
    obtain ⟨j, want⟩ := g
    rw [hg] at h1
    simp only [Bool.and_eq_true] at h1
    obtain ⟨_, h2⟩ := h1
    obtain ⟨d, hdj⟩ := Option.isSome_iff_exists.1 h2
    obtain ⟨oj, hoj, hdj'⟩ := Option.bind_eq_some_iff.1 hdj
    have hmem : oj ∈ ops := Array.mem_of_getElem? hoj
    have h3 := Array.all_eq_true_iff_forall_mem.1 hs oj hmem
    rw [hdj'] at h3
    simp only [Bool.and_eq_true, decide_eq_true_eq] at h3
    have h4 := regPut_get (us := us) (i := 0) (a := a) hd (by simpa using hoj : ops.toList[j]? = some oj) hdj' h3.1
    rw [Nat.zero_add] at h4
    show (yielded ops _ j == some want) = _
    unfold yielded
    rw [hdj]
    simp only [Option.bind_some, h4]
    cases us j <;> rfl
theorem steps_of {ops : Array Oper} {R : Nat → Value → World → Prop} {a : Act} {w : World} {A : (Nat → Value) → Act} {T : List (List Nat)} (hd : dstsOk ops.toList = true) (hs : slotsOk ops a.tmps.size = true) (hA : ∀ us, regPut us ops.toList 0 a = A us) :
    ∀ (os : List Oper) (Ds : List (List Nat)) (i : Nat), (∀ k, T.getD (i + k) [] = Ds.getD k []) → (∀ o ∈ os, o ∈ ops) → Steps1 P Q R A w os Ds i → Steps P ops Q T R a w os i
  | [], [], _, _, _, _ => trivial
  | [], _ :: _, _, _, _, h => h.elim
  | o :: os, [], _, _, _, h => h.elim
  | o :: os, D :: Ds, i, hT, hm, h => by
    refine ⟨fun us w' hg hD K hK => ?_, steps_of hd hs hA os Ds (i + 1) (fun k => by have := hT (k + 1); rw [show i + 1 + k = i + (k + 1) by omega]; simpa using this) (fun q hq => hm q (by simp [hq])) h.2⟩
    have hTi : T.getD i [] = D := by have := hT 0; simpa using this
    rw [hTi] at hD
    have h1 := h.1 us w' hg (allR_of D hD) K (fun v w'' hg' hv => by rw [← hA us]; exact hK v w'' hg' hv)
    rw [wantedG_eq hd hs (hm o (by simp)), hA us]
    exact h1
/-- THE REGION, in plain words: B us are the frame's slots. -/
theorem wp_reg1 {id : Nat} {ops : Array Oper} {a : Act} {w : World} (T : List (List Nat)) (R : Nat → Value → World → Prop) (B : (Nat → Value) → List Value) (d : List Deferred) (hm : P.follows .mixedOrders = true) (hd : dstsOk ops.toList = true) (hs : slotsOk ops a.tmps.size = true) (hT : depsOk ops T = true)
    (hA : ∀ us, regPut us ops.toList 0 a = ⟨(B us).toArray, d⟩) (hR : ∀ i v w w', Grow w w' → R i v w → R i v w')
    (hS : Steps1 P Q R (fun us => ⟨(B us).toArray, d⟩) w ops.toList T 0) (hend : ∀ us w', Grow w w' → AllR R us w' (List.range ops.size) → Q .normal ⟨(B us).toArray, d⟩ w') : (Code.region id ops true).wp P Q a w :=
  wp_reg T R hm hd hT hR (steps_of hd hs hA ops.toList T 0 (fun k => by rw [Nat.zero_add]) (fun o ho => by simpa using ho) hS)
    (fun us w' hg h => by rw [hA us]; exact hend us w' hg (allR_of _ (fun j hj => h j (List.mem_range.1 hj))))
/-- Each operation has its value. -/
def isVal (vs : List Value) (j : Nat) (v : Value) (w : World) : Prop := v = vs.getD j v
theorem isVal_grow (vs : List Value) (i : Nat) (v : Value) (w w' : World) (_ : Grow w w') (h : isVal vs i v w) : isVal vs i v w' := h
theorem cellG {w wr w' : World} {p : Addr} {v : Value} (hb : Below w.heap.size w wr) (hg : Grow wr w') (h : w.cell? p = some v) : w'.cell? p = some v :=
  ((hb.trans (hg.mono hb.size)).cell (World.block_lt_of_cell? w _ h)).trans h
theorem below_grow {w wr w' : World} (hb : Below w.heap.size w wr) (hg : Grow wr w') : Below w.heap.size w w' := hb.trans (hg.mono hb.size)
variable {R : Nat → Value → World → Prop} {a : Act} {w' : World} {o : Oper} {i : Nat} {us : Nat → Value} {K : Act → World → Prop}
/-- An operation that gives a value. -/
theorem reg_val (hK : ∀ v w'', Grow w' w'' → R i v w'' → K (a.put o.dst v) w'') {v : Value} {w'' : World} (hw : wantedG o us = true) (hrun : (execOp a.eval o).run P w' = .ok (.value v) w'') (hg : Grow w' w'') (hR : R i v w'') :
    if wantedG o us = true then Oper.wp P o a w' K Q else K (a.put o.dst undef) w' := by
  rw [if_pos hw]
  unfold Oper.wp
  rw [hrun]
  exact hK v w'' hg hR
/-- An operation that is not wanted. -/
theorem reg_skip (hK : ∀ v w'', Grow w' w'' → R i v w'' → K (a.put o.dst v) w'') (hw : ¬ wantedG o us = true) (hR : R i undef w') :
    if wantedG o us = true then Oper.wp P o a w' K Q else K (a.put o.dst undef) w' := by
  rw [if_neg hw]
  exact hK undef w' (grow_refl _) hR
/-- A call. -/
theorem reg_call (hK : ∀ v w'', Grow w' w'' → R i v w'' → K (a.put o.dst v) w'') (hw : wantedG o us = true) {f : FuncId} {fn : Func} {as : Array Operand} {ts : Array TypeId} (hop : o.op = .call { callee := .value (.func f), args := as, argTypes := ts }) (hf : P.funcs[f]? = some fn) (hname : (fn.name == "runtime.NumGoroutine") = false) (hb : fn.body.isSome = true)
    (args : Array Value) (hargs : as.map a.eval = args) (h : Calls P f args w' fun e w'' => ∃ v, e = .returned v ∧ Grow w' w'' ∧ R i v w'') :
    if wantedG o us = true then Oper.wp P o a w' K Q else K (a.put o.dst undef) w' := by
  rw [if_pos hw]
  have he := enters_ hf hname hb args w'
  have hrun : (execOp a.eval o).run P w' = .ok (.enter f args) w' := by
    unfold execOp
    simp [hop, resolve, Deferred.ofValue, invoke, Act.eval, hargs, he]
  unfold Oper.wp
  rw [hrun, Oper.upon_enter]
  refine h.mono ?_
  rintro e w'' ⟨v, rfl, hg, hR⟩
  exact hK v w'' hg hR
theorem wanted_t {o : Oper} {us : Nat → Value} {j : Nat} {v : Bool} (hg : o.guard = some (j, true)) (h : us j = .bool v) : wantedG o us = v := by
  unfold wantedG
  rw [hg]
  show (asB (us j) == some true) = v
  rw [h]
  cases v <;> rfl
theorem wanted_f {o : Oper} {us : Nat → Value} {j : Nat} {v : Bool} (hg : o.guard = some (j, false)) (h : us j = .bool v) : wantedG o us = !v := by
  unfold wantedG
  rw [hg]
  show (asB (us j) == some false) = !v
  rw [h]
  cases v <;> rfl
theorem wanted_it {o : Oper} {us : Nat → Value} {j : Nat} {W v : Bool} (hg : o.guard = some (j, true)) (h : us j = if W = true then .bool v else undef) : wantedG o us = (W && v) := by
  unfold wantedG
  rw [hg]
  show (asB (us j) == some true) = (W && v)
  rw [h]
  cases W <;> cases v <;> rfl
theorem wanted_if {o : Oper} {us : Nat → Value} {j : Nat} {W v : Bool} (hg : o.guard = some (j, false)) (h : us j = if W = true then .bool v else undef) : wantedG o us = (W && !v) := by
  unfold wantedG
  rw [hg]
  show (asB (us j) == some false) = (W && !v)
  rw [h]
  cases W <;> cases v <;> rfl
/-- A choice. -/
theorem reg_pick (hK : ∀ v w'', Grow w' w'' → R i v w'' → K (a.put o.dst v) w'') (hw : wantedG o us = true) {c x y : Operand} {b : Bool} (hop : o.op = .pick c x y) (hc : a.eval c = .bool b) (hR : R i (if b = true then a.eval x else a.eval y) w') :
    if wantedG o us = true then Oper.wp P o a w' K Q else K (a.put o.dst undef) w' := by
  rw [if_pos hw]
  have hrun : (execOp a.eval o).run P w' = .ok (.value (if b = true then a.eval x else a.eval y)) w' := by
    unfold execOp
    rw [hop]
    simp only [hc]
    cases b <;> rfl
  unfold Oper.wp
  rw [hrun]
  exact hK _ w' (grow_refl _) hR
theorem or_val {X Y G : Bool} {v : Value} (hG : G = !X) (hv : v = if G = true then .bool Y else undef) : (if X = true then Value.bool true else v) = .bool (X || Y) := by
  subst hG
  rw [hv]
  cases X <;> rfl
theorem and_val {X Y G : Bool} {v : Value} (hG : G = X) (hv : v = if G = true then .bool Y else undef) : (if X = true then v else Value.bool false) = .bool (X && Y) := by
  subst hG
  rw [hv]
  cases G <;> rfl
end
end Go.Proofs.Ytdbnajnelbebfaa.Reg
