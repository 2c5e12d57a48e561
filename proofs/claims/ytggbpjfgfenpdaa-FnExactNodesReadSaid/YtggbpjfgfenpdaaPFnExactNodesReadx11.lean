/- Functions of the law FnExactNodesRead: the print's, with walks of this session's own. No statement is proved here. -/
import Derived.WalkLawsBesides
import Derived.Test.YtggbpjfgfenpdaaVRegFnExactNodesRead
-- A program of this session wrote this text: a changed copy of the kit print, with given functions.
import Derived.Test.YtggbpjfgfenpdaaPFnExactNodesReadx0
import Derived.Test.YtggbpjfgfenpdaaPFnExactNodesReadx10
namespace Go.Proofs.Ytggbpjfgfenpdaa.PFnExactNodesRead
open Go.RowKit Go.Proofs.YtggbpjfgfenpdaaW.PrintWords Go.Proofs.YtggbpjfgfenpdaaW.PrintLast Go.Proofs.YtggbpjfgfenpdaaW.PrintMore Go.Proofs.Ytggbpjfgfenpdaa.Reg Go.Proofs.Ytggbpjfgfenpdaa.Aut
attribute [local go_sem] max2_int min2_int max_two min_two max_three min_three max_four min_four   -- for this text's walks alone
set_option linter.unusedVariables false
set_option linter.unusedSimpArgs false

/-! ### impl_NodesRight: function 52 -/
def impl_NodesRight.k0 : Nat → List ByteArray → Int → Option (Int)
  | 0, _, _ => none
  | k + 1, l, x => if x < (l.length : Int) then (if 0 ≤ x then (if ((rdOf ByteArray.empty l x).size : Int) = 32 then (impl_NodesRight.k0 k l (wrap64 (x + 1))) else (some x)) else (none)) else (some (-1))
def impl_NodesRight.keys (k : Nat) (l : List ByteArray) : Option (Bool) := (impl_NodesRight.k0 k l 0).bind fun i => some (decide (0 ≤ i))
def impl_NodesRight.rest (x : S74) : Bool := !((x.f1 && (!decide (x.f2 = 0) || !decide ((x.f3.length : Int) = 1))) || !(decide (0 ≤ x.f2) && decide (x.f2 ≤ 1500)) || decide (100 < (x.f3.length : Int)))
def impl_NodesRight.l0 : Nat → List (S74) → Int → Option (Bool)
  | 0, _, _ => none
  | k + 1, l, x => if x < (l.length : Int) then (if 0 ≤ x then ((impl_NameRight.f k (rd_T74 l x).f0).bind fun b => ((impl_NodesRight.keys k (rd_T74 l x).f3).bind fun c => (if (b && ((!decide (0 < x) || Op.bytesLess (rd_T74 l (wrap64 (x - 1))).f0.toList (rd_T74 l x).f0.toList) && (!c && impl_NodesRight.rest (rd_T74 l x)))) = true then (impl_NodesRight.l0 k l (wrap64 (x + 1))) else (some false)))) else (none)) else (some true)
def impl_NodesRight.f (k : Nat) (l0 : List (S74)) : Option (Bool) := if (l0.length : Int) > 20 then (some false) else (impl_NodesRight.l0 k l0 0)
theorem impl_NodesRight.mono_k : ∀ k, (∀ y0 y1, LeO (impl_NodesRight.k0 k y0 y1) (impl_NodesRight.k0 (k + 1) y0 y1))
  | 0 => fun _ _ r h => by simp [impl_NodesRight.k0] at h
  | k + 1 => by
    have ih0 := impl_NodesRight.mono_k k
    · intro y0 y1
      unfold impl_NodesRight.k0
      repeat' first
      | (with_reducible exact ih0 _ _)
      | (with_reducible exact LeO.refl _)
      | (with_reducible refine LeO.ite ?_ ?_)
theorem impl_NodesRight.mono_l : ∀ k, (∀ y0 y1, LeO (impl_NodesRight.l0 k y0 y1) (impl_NodesRight.l0 (k + 1) y0 y1))
  | 0 => fun _ _ r h => by simp [impl_NodesRight.l0] at h
  | k + 1 => by
    have ih0 := impl_NodesRight.mono_l k
    · intro y0 y1
      unfold impl_NodesRight.l0 impl_NodesRight.keys
      repeat' first
      | (with_reducible exact ih0 _ _)
      | (with_reducible exact impl_NodesRight.mono_k _ _ _)
      | (with_reducible exact impl_NameRight.mono _ _)
      | (with_reducible exact LeO.refl _)
      | (with_reducible refine LeO.ite ?_ ?_)
      | (with_reducible refine LeO.bind ?_ (fun _ => ?_))
theorem impl_NodesRight.mono : ∀ a0 k, LeO (impl_NodesRight.f k a0) (impl_NodesRight.f (k + 1) a0) := by
  intro a0 k
  unfold impl_NodesRight.f
  exact LeO.ite (LeO.refl _) (impl_NodesRight.mono_l k _ _)
set_option maxHeartbeats 4000000 in
set_option maxRecDepth 100000 in
theorem impl_NodesRight.pred (s : ByteArray) (v : Bool) (hv : ((s.size : Int) = 32) = (v = false)) (w : World) :
    Calls Try.prog 101 #[.string s] w fun e w' => e = .returned (.bool v) ∧ w' = w := by
  have hv1 : ((s.size : Int) == 32) = !v := by rw [Bool.eq_iff_iff]; simp only [beq_iff_eq, hv]; cases v <;> simp
  have hv2 : ((s.size : Int) != 32) = v := by simp only [bne, hv1, Bool.not_not]
  have hv3 : (s.size == 32) = !v := by rw [← hv1, Bool.eq_iff_iff]; simp only [beq_iff_eq]; omega
  have hv4 : (s.size != 32) = v := by simp only [bne, hv3, Bool.not_not]
  clear hv
  go_enter Try.func101, Try.ntmps101
  go_wp2
  go_ret
  exact ⟨rfl, rfl⟩
set_option maxHeartbeats 4000000 in
set_option maxRecDepth 100000 in
theorem impl_NodesRight.idx (k : Nat) (A0 : Option Addr) (c0 : Nat) (l0 : List ByteArray) (r : Int) (w : World) (hr0 : Kd.C Kd.string w A0 l0.length l0) (hc0 : l0.length ≤ c0) (h : impl_NodesRight.k0 k l0 0 = some r) :
    Calls Try.prog 127 #[.slice A0 l0.length c0, .func (.func 101) #[] #[]] w fun e w' => e = .returned (.int .i64 r) ∧ Below w.heap.size w w' := by
  have HR0 := AM hr0
  have HC0 := AM hc0
  clear hr0 hc0
  have HB := AM (Below.refl w.heap.size w)
  have H' := AM h
  clear h
  go_enter Try.func127, Try.ntmps127
  go_wp2
  go_loopg [8] k (fun kq v8 w' => ∃ (x : Int), v8 = .int .i64 x ∧ Aside0 (impl_NodesRight.k0 kq l0 x = some r) ∧ Aside0 (kq ≤ k) ∧ Aside0 (Below w.heap.size w w'))
  case atStart => exact ⟨0, rfl, H', ⟨Nat.le_refl _⟩, HB⟩
  case round =>
    clear H'
    obtain ⟨x, rfl, HA, HK1, HB⟩ := hrel
    cases gk with
    | zero => exact absurd HA.out (by simp [impl_NodesRight.k0])
    | succ k1 =>
      have H := HA.out
      clear HA
      simp only [impl_NodesRight.k0] at H
      by_cases c3 : x < (l0.length : Int)
      · rw [if_pos c3] at H
        by_cases c4 : 0 ≤ x
        · rw [if_pos c4] at H
          have H' := AM H
          clear H
          obtain ⟨ad, rfl, hx0⟩ := Kd.at_string HR0.out x c4 c3
          replace hx0 := Reg.cellG HB.out (Reg.grow_refl _) hx0
          have c3b0 : decide (x < (l0.length : Int)) = true := decide_eq_true c3
          have c3b1 := eq_true c3
          have c4b0 := eq_true c4
          clear c3 c4
          by_cases c5 : ((rdOf ByteArray.empty l0 x).size : Int) = 32
          · have H := H'.out
            rw [if_pos c5] at H
            have C5 := AM (show (((rdOf ByteArray.empty l0 x).size : Int) = 32) = (false = false) by simp [c5])
            have H1 := AM H
            clear H H' c5
            go_wp2_with (go_at_call 101; refine (impl_NodesRight.pred _ _ C5.out _).mono ?_; rintro e w2 ⟨rfl, rfl⟩)
            go_roundg k1
            case measure => have := HK1.out; omega
            case rel => exact ⟨(wrap64 (x + 1)), (by first | rfl | (simp; done) | (simp [*]; done)), H1, ⟨by have := HK1.out; omega⟩, HB⟩
          · have H := H'.out
            rw [if_neg c5] at H
            obtain rfl := Option.some.inj H
            have C5 := AM (show (((rdOf ByteArray.empty l0 x).size : Int) = 32) = (true = false) by simp [c5])
            clear H H' c5
            go_wp2_with (go_at_call 101; refine (impl_NodesRight.pred _ _ C5.out _).mono ?_; rintro e w2 ⟨rfl, rfl⟩)
            go_ret
            exact ⟨rfl, HB.out⟩
        · rw [if_neg c4] at H
          exact absurd H (by simp)
      · rw [if_neg c3] at H
        have c3b0 : decide (x < (l0.length : Int)) = false := decide_eq_false c3
        clear c3
        obtain rfl := Option.some.inj H
        go_wp2
        go_ret
        exact ⟨rfl, HB.out⟩
set_option maxHeartbeats 4000000 in
set_option maxRecDepth 100000 in
theorem impl_NodesRight.has (k : Nat) (A0 : Option Addr) (c0 : Nat) (l0 : List ByteArray) (r : Bool) (w : World) (hr0 : Kd.C Kd.string w A0 l0.length l0) (hc0 : l0.length ≤ c0) (h : impl_NodesRight.keys k l0 = some r) :
    Calls Try.prog 81 #[.slice A0 l0.length c0, .func (.func 101) #[] #[]] w fun e w' => e = .returned (.bool r) ∧ Below w.heap.size w w' := by
  obtain ⟨i, hi, h⟩ := Option.bind_eq_some_iff.mp h
  obtain rfl := Option.some.inj h
  have HI := AM hi
  have HR := AM hr0
  have HC := AM hc0
  clear h hi hr0 hc0
  go_enter Try.func81, Try.ntmps81
  go_wp2_with (go_at_call 127; refine (impl_NodesRight.idx k A0 c0 l0 i _ HR.out HC.out HI.out).mono ?_; rintro e w2 ⟨rfl, hb⟩; have HB := AM hb; clear hb)
  go_ret
  exact ⟨rfl, HB.out⟩
theorem impl_NodesRight.bools1 : ∀ b e21 e31 c R : Bool, ((!b || (e21 && !e31)) || c) = true → (b && ((!e21 || e31) && (!c && R))) = false := by decide
theorem impl_NodesRight.bools2 : ∀ b e21 e31 c R : Bool, ((!b || (e21 && !e31)) || c) = false → (b && ((!e21 || e31) && (!c && R))) = R := by decide
theorem impl_NodesRight.step (k : Nat) (l : List (S74)) (x : Int) (r : Bool) (h : impl_NodesRight.l0 (k + 1) l x = some r) (c3 : x < (l.length : Int)) (c4 : 0 ≤ x) :
    ∃ b c, impl_NameRight.f k (rd_T74 l x).f0 = some b ∧ impl_NodesRight.keys k (rd_T74 l x).f3 = some c ∧
      (((b && ((!decide (0 < x) || Op.bytesLess (rd_T74 l (wrap64 (x - 1))).f0.toList (rd_T74 l x).f0.toList) && (!c && impl_NodesRight.rest (rd_T74 l x)))) = true ∧ impl_NodesRight.l0 k l (wrap64 (x + 1)) = some r) ∨ ((b && ((!decide (0 < x) || Op.bytesLess (rd_T74 l (wrap64 (x - 1))).f0.toList (rd_T74 l x).f0.toList) && (!c && impl_NodesRight.rest (rd_T74 l x)))) = false ∧ r = false)) := by
  simp only [impl_NodesRight.l0] at h
  rw [if_pos c3, if_pos c4] at h
  obtain ⟨b, hb, h⟩ := Option.bind_eq_some_iff.mp h
  obtain ⟨c, hc, h⟩ := Option.bind_eq_some_iff.mp h
  refine ⟨b, c, hb, hc, ?_⟩
  split at h
  · rename_i q
    exact .inl ⟨q, h⟩
  · rename_i q
    rw [Bool.not_eq_true] at q
    exact .inr ⟨q, (Option.some.inj h).symm⟩
set_option maxHeartbeats 4000000 in
set_option maxRecDepth 100000 in
theorem impl_NodesRight.calls (k : Nat) (A0 : Option Addr) (c0 : Nat) (l0 : List (S74)) (r : Bool) (w : World) (hr0 : Kd.C k74 w A0 l0.length l0) (hc0 : l0.length ≤ c0) (h : impl_NodesRight.f k l0 = some r) :
    Calls Try.prog 52 #[.slice A0 l0.length c0] w fun e w' => e = .returned (.bool r) ∧ Below w.heap.size w w' := by
  have hu := Try.underlying74
  have HR0 := AM hr0
  have HC0 := AM hc0
  clear hr0 hc0
  have HB := AM (Below.refl w.heap.size w)
  have H : (if (l0.length : Int) > 20 then (some false) else (impl_NodesRight.l0 k l0 0)) = some r := h
  clear h
  by_cases c2 : (l0.length : Int) > 20
  · rw [if_pos c2] at H
    have c2b0 : decide (20 < (l0.length : Int)) = true := decide_eq_true c2
    have c2b1 : decide (20 < l0.length) = true := decide_eq_true (by omega)
    clear c2
    obtain rfl := Option.some.inj H
    go_enter Try.func52, Try.ntmps52
    go_wp2
    go_ret
    exact ⟨rfl, HB.out⟩
  · rw [if_neg c2] at H
    have c2b0 : decide (20 < (l0.length : Int)) = false := decide_eq_false c2
    have c2b1 : decide (20 < l0.length) = false := decide_eq_false (by omega)
    have HL := AM c2
    clear c2
    have H' := AM H
    clear H
    go_enter Try.func52, Try.ntmps52
    go_wp2
    go_loopg [10] k (fun kq v10 w' => ∃ (x : Int), v10 = .int .i64 x ∧ Aside0 (impl_NodesRight.l0 kq l0 x = some r) ∧ Aside0 (kq ≤ k) ∧ Aside0 (Below w.heap.size w w'))
    case atStart => exact ⟨(0), rfl, H', ⟨Nat.le_refl _⟩, HB⟩
    case round =>
      clear H' c2b0 c2b1
      obtain ⟨x, rfl, HA, HK1, HB⟩ := hrel
      cases gk with
      | zero => exact absurd HA.out (by simp [impl_NodesRight.l0])
      | succ k1 =>
        by_cases c3 : x < (l0.length : Int)
        · by_cases c4 : 0 ≤ x
          · obtain ⟨b, c, hb, hc, hfin⟩ := impl_NodesRight.step k1 l0 x r HA.out c3 c4
            obtain ⟨y, hy⟩ : ∃ y, wrap64 (x - 1) = y := ⟨_, rfl⟩
            obtain ⟨ad, A3, c33, rfl, hx0, hx1, hx2, hx3, hl3, hk3⟩ := at_T74 HR0.out x c4 c3
            have hyw : IntKind.i64.wrap (x - 1) = y := (i64_w _).trans hy
            obtain ⟨e21, he21⟩ : ∃ e_ : Bool, (0 < x) = (e_ = true) := ⟨decide (0 < x), by simp⟩
            have HYy : e21 = true → (0 ≤ y) = True ∧ (y < (l0.length : Int)) = True ∧ w.cell? (ad.add (y.toNat * 4)) = some (.string (rd_T74 l0 y).f0) := by
              intro q2
              have hx : 0 < x := by rw [he21]; exact q2
              have h20 := HL.out
              have hye : y = x - 1 := by rw [← hy]; unfold wrap64; omega
              obtain ⟨ad', _, _, e, h1, _⟩ := at_T74 HR0.out y (by omega) (by omega)
              cases e
              exact ⟨eq_true (by omega), eq_true (by omega), h1⟩
            rw [hy] at hfin
            have HY := AM HYy
            have Hb := AM hb
            have Hc := AM hc
            have HL3 := AM hl3
            have HK3 := AM hk3
            have c3b0 : decide (x < (l0.length : Int)) = true := decide_eq_true c3
            have c4b0 := eq_true c4
            have c3b1 := eq_true c3
            obtain ⟨d, hd1⟩ : ∃ d, (rd_T74 l0 x).f1 = d := ⟨_, rfl⟩
            obtain ⟨nk, hnk⟩ : ∃ nk, (rd_T74 l0 x).f3.length = nk := ⟨_, rfl⟩
            obtain ⟨wa, hwa⟩ : ∃ wa, impl_within.f (rd_T74 l0 x).f2 0 1500 = some wa := by unfold impl_within.f; split <;> exact ⟨_, rfl⟩
            have hwad : wa = (decide (0 ≤ (rd_T74 l0 x).f2) && decide ((rd_T74 l0 x).f2 ≤ 1500)) := by
              unfold impl_within.f at hwa
              by_cases q : (rd_T74 l0 x).f2 ≥ 0
              · rw [if_pos q] at hwa
                rw [← Option.some.inj hwa, decide_eq_true (show 0 ≤ (rd_T74 l0 x).f2 from q), Bool.true_and]
              · rw [if_neg q] at hwa
                rw [← Option.some.inj hwa, decide_eq_false (show ¬ 0 ≤ (rd_T74 l0 x).f2 from q), Bool.false_and]
            unfold impl_NodesRight.rest at hfin
            rw [← hwad] at hfin
            rw [hd1] at hx1 hfin
            rw [hnk] at hx3 hl3 hk3 hfin
            rw [hnk] at HL3 HK3
            have Hfin := AM hfin
            have Hwa := AM hwa
            have HNK := AM hnk
            clear HA hy hb hc hfin HYy c3 c4 hl3 hk3 hd1 hnk hwa hwad
            have HE21 := AM he21
            clear he21
            replace hx0 := cellG HB.out (grow_refl _) hx0
            replace hx1 := cellG HB.out (grow_refl _) hx1
            replace hx2 := cellG HB.out (grow_refl _) hx2
            replace hx3 := cellG HB.out (grow_refl _) hx3
            go_wp2
            have he21 := HE21.out
            have hs0 : (wr.alloc (Obj.cells #[.string (rd_T74 l0 x).f0, .bool d, .int .i64 (rd_T74 l0 x).f2, .slice A3 nk c33] 74)).cell? ⟨wr.heap.size, 0, none⟩ = some (.string (rd_T74 l0 x).f0) := by simp
            have hs1 : (wr.alloc (Obj.cells #[.string (rd_T74 l0 x).f0, .bool d, .int .i64 (rd_T74 l0 x).f2, .slice A3 nk c33] 74)).cell? ⟨wr.heap.size, 1, none⟩ = some (.bool d) := by simp
            have hs2 : (wr.alloc (Obj.cells #[.string (rd_T74 l0 x).f0, .bool d, .int .i64 (rd_T74 l0 x).f2, .slice A3 nk c33] 74)).cell? ⟨wr.heap.size, 2, none⟩ = some (.int .i64 (rd_T74 l0 x).f2) := by simp
            have hs3 : (wr.alloc (Obj.cells #[.string (rd_T74 l0 x).f0, .bool d, .int .i64 (rd_T74 l0 x).f2, .slice A3 nk c33] 74)).cell? ⟨wr.heap.size, 3, none⟩ = some (.slice A3 nk c33) := by simp
            replace HB := AM (HB.out.alloc HB.out.size (Obj.cells #[.string (rd_T74 l0 x).f0, .bool d, .int .i64 (rd_T74 l0 x).f2, .slice A3 nk c33] 74))
            clear hx0 hx1 hx2 hx3
            generalize wr.alloc _ = w2 at HB hs0 hs1 hs2 hs3 ⊢
            generalize wr.heap.size = g at hs0 hs1 hs2 hs3 ⊢
            obtain ⟨e31, he31⟩ : ∃ e_ : Bool, Op.bytesLess ((rd_T74 l0 y).f0).toList ((rd_T74 l0 x).f0).toList = e_ := ⟨_, rfl⟩
            refine wp_reg1 [[], [0], [1], [2], [3], [4], [4, 5], [4, 6], [7], [7], [7, 9], [7, 8, 10], [7, 11], [7, 12], [7], [7, 14], [7, 13, 15], [4, 7, 16], [4, 17], [18], [19], [19, 20], [19, 21], [19, 22]]
              (isVal [.pointer (some ⟨g, 0, none⟩),
                .string ((rd_T74 l0 x).f0),
                .bool b,
                .bool (!b),
                .bool (!b),
                if b then .int .i64 x else undef,
                if b then .bool e21 else undef,
                if b then .bool e21 else undef,
                if b && e21 then .slice (some ad) l0.length c0 else undef,
                if b && e21 then .int .i64 x else undef,
                if b && e21 then .int .i64 y else undef,
                if b && e21 then .pointer (some (ad.add (y.toNat * 4))) else undef,
                if b && e21 then .pointer (some (ad.add (y.toNat * 4))) else undef,
                if b && e21 then .string ((rd_T74 l0 y).f0) else undef,
                if b && e21 then .pointer (some ⟨g, 0, none⟩) else undef,
                if b && e21 then .string ((rd_T74 l0 x).f0) else undef,
                if b && e21 then .bool (!e31) else undef,
                if b then .bool (e21 && !e31) else undef,
                .bool (!b || (e21 && !e31)),
                .bool (!b || (e21 && !e31)),
                if !(!b || (e21 && !e31)) then .pointer (some ⟨g, 3, none⟩) else undef,
                if !(!b || (e21 && !e31)) then .slice A3 nk c33 else undef,
                if !(!b || (e21 && !e31)) then .bool c else undef,
                .bool ((!b || (e21 && !e31)) || c)]) ?B6 ?d6 (by kernel_rfl) (by kernel_rfl) (by kernel_rfl) (by kernel_rfl) (fun us => ?hA6) (isVal_grow _) ?hS6 ?hE6
            case hA6 =>
              simp only [regPut, Act.put, List.setIfInBounds_toArray, List.set_cons_zero, List.set_cons_succ, Nat.reduceAdd, Nat.zero_add]
              rfl
            case hS6 =>
              refine ⟨?_, ?_, ?_, ?_, ?_, ?_, ?_, ?_, ?_, ?_, ?_, ?_, ?_, ?_, ?_, ?_, ?_, ?_, ?_, ?_, ?_, ?_, ?_, ?_, trivial⟩
              all_goals (intro us w' hg hd K hK; simp only [AllR, isVal, List.getD_cons_zero, List.getD_cons_succ] at hd; clear HR0 HC0 Hfin HE21 HK1 Hwa HL)
              all_goals (have g1_ := True.intro; have g2_ := True.intro; have g3_ := True.intro; try (obtain ⟨g1_, hd⟩ := hd); try (obtain ⟨g2_, hd⟩ := hd); try (obtain ⟨g3_, hd⟩ := hd))
              all_goals (replace hs0 := cellG (grow_refl _) hg hs0; replace hs1 := cellG (grow_refl _) hg hs1; replace hs2 := cellG (grow_refl _) hg hs2; replace hs3 := cellG (grow_refl _) hg hs3)
              · all_goals (repeat' (first
                    | (refine reg_val hK ?_ ?_ (grow_refl _) rfl
                       · first | rfl | (simp [wantedG, asB, undef, g1_, g2_, g3_]; done)
                       · skip
                         (try (obtain ⟨y1, y2, y3⟩ := HY.out rfl; replace y3 := cellG HB.out hg y3))
                         go_simp
                         done)
                    | cases b | cases e21 | cases c | cases e31))
              · all_goals (repeat' (first
                    | (refine reg_val hK ?_ ?_ (grow_refl _) rfl
                       · first | rfl | (simp [wantedG, asB, undef, g1_, g2_, g3_]; done)
                       · skip
                         (try (obtain ⟨y1, y2, y3⟩ := HY.out rfl; replace y3 := cellG HB.out hg y3))
                         go_simp
                         done)
                    | cases b | cases e21 | cases c | cases e31))
              · all_goals (repeat' (first
                    | (refine reg_call hK ?_ rfl Try.func100 (by kernel_rfl) rfl #[.string (rd_T74 l0 x).f0] ?_ ((impl_NameRight.calls k1 _ _ _ Hb.out).mono ?_)
                       · first | rfl | (simp [wantedG, asB, undef, g1_, g2_, g3_]; done)
                       · simp [Act.eval, g1_, g2_, g3_]
                       · rintro e_ w'' ⟨rfl, hb_⟩
                         exact ⟨_, rfl, (by first | exact hb_ | exact hb_.below), rfl⟩)
                    | cases b | cases e21 | cases c | cases e31))
              · all_goals (repeat' (first
                    | (refine reg_val hK ?_ ?_ (grow_refl _) rfl
                       · first | rfl | (simp [wantedG, asB, undef, g1_, g2_, g3_]; done)
                       · skip
                         (try (obtain ⟨y1, y2, y3⟩ := HY.out rfl; replace y3 := cellG HB.out hg y3))
                         go_simp
                         done)
                    | cases b | cases e21 | cases c | cases e31))
              · all_goals (repeat' (first
                    | (refine reg_val hK ?_ ?_ (grow_refl _) rfl
                       · first | rfl | (simp [wantedG, asB, undef, g1_, g2_, g3_]; done)
                       · skip
                         (try (obtain ⟨y1, y2, y3⟩ := HY.out rfl; replace y3 := cellG HB.out hg y3))
                         go_simp
                         done)
                    | cases b | cases e21 | cases c | cases e31))
              · rcases Bool.eq_false_or_eq_true (b : Bool) with hG_ | hG_
                rotate_left
                · exact reg_skip hK (by rw [(wanted_f rfl g1_).trans (show _ = (b : Bool) by first | rfl | (simp; done)), hG_]; decide) (by show undef = ite _ _ _; rw [hG_]; rfl)
                all_goals (cases b <;> first | (exfalso; simp at hG_; done) | skip)
                all_goals (repeat' (first
                    | (refine reg_skip hK ?_ rfl; (simp [wantedG, asB, undef, g1_, g2_, g3_]; done))
                    | (refine reg_val hK ?_ ?_ (grow_refl _) rfl
                       · first | rfl | (simp [wantedG, asB, undef, g1_, g2_, g3_]; done)
                       · skip
                         (try (obtain ⟨y1, y2, y3⟩ := HY.out rfl; replace y3 := cellG HB.out hg y3))
                         go_simp
                         done)
                    | cases e21 | cases c | cases e31))
              · rcases Bool.eq_false_or_eq_true (b : Bool) with hG_ | hG_
                rotate_left
                · exact reg_skip hK (by rw [(wanted_f rfl g1_).trans (show _ = (b : Bool) by first | rfl | (simp; done)), hG_]; decide) (by show undef = ite _ _ _; rw [hG_]; rfl)
                all_goals (cases b <;> first | (exfalso; simp at hG_; done) | skip)
                all_goals (repeat' (first
                    | (refine reg_skip hK ?_ rfl; (simp [wantedG, asB, undef, g1_, g2_, g3_]; done))
                    | (refine reg_val hK ?_ ?_ (grow_refl _) rfl
                       · first | rfl | (simp [wantedG, asB, undef, g1_, g2_, g3_]; done)
                       · skip
                         (try (obtain ⟨y1, y2, y3⟩ := HY.out rfl; replace y3 := cellG HB.out hg y3))
                         go_simp
                         done)
                    | cases e21 | cases c | cases e31))
              · rcases Bool.eq_false_or_eq_true (b : Bool) with hG_ | hG_
                rotate_left
                · exact reg_skip hK (by rw [(wanted_f rfl g1_).trans (show _ = (b : Bool) by first | rfl | (simp; done)), hG_]; decide) (by show undef = ite _ _ _; rw [hG_]; rfl)
                all_goals (cases b <;> first | (exfalso; simp at hG_; done) | skip)
                all_goals (repeat' (first
                    | (refine reg_skip hK ?_ rfl; (simp [wantedG, asB, undef, g1_, g2_, g3_]; done))
                    | (refine reg_val hK ?_ ?_ (grow_refl _) rfl
                       · first | rfl | (simp [wantedG, asB, undef, g1_, g2_, g3_]; done)
                       · skip
                         (try (obtain ⟨y1, y2, y3⟩ := HY.out rfl; replace y3 := cellG HB.out hg y3))
                         go_simp
                         done)
                    | cases e21 | cases c | cases e31))
              · rcases Bool.eq_false_or_eq_true ((b && e21) : Bool) with hG_ | hG_
                rotate_left
                · exact reg_skip hK (by rw [(wanted_it rfl g1_).trans (show _ = ((b && e21) : Bool) by first | rfl | (simp; done)), hG_]; decide) (by show undef = ite _ _ _; rw [hG_]; rfl)
                all_goals (cases b <;> first | (exfalso; simp at hG_; done) | skip)
                all_goals (cases e21 <;> first | (exfalso; simp at hG_; done) | skip)
                all_goals (repeat' (first
                    | (refine reg_skip hK ?_ rfl; (simp [wantedG, asB, undef, g1_, g2_, g3_]; done))
                    | (refine reg_val hK ?_ ?_ (grow_refl _) rfl
                       · first | rfl | (simp [wantedG, asB, undef, g1_, g2_, g3_]; done)
                       · skip
                         (try (obtain ⟨y1, y2, y3⟩ := HY.out rfl; replace y3 := cellG HB.out hg y3))
                         go_simp
                         done)
                    | cases c | cases e31))
              · rcases Bool.eq_false_or_eq_true ((b && e21) : Bool) with hG_ | hG_
                rotate_left
                · exact reg_skip hK (by rw [(wanted_it rfl g1_).trans (show _ = ((b && e21) : Bool) by first | rfl | (simp; done)), hG_]; decide) (by show undef = ite _ _ _; rw [hG_]; rfl)
                all_goals (cases b <;> first | (exfalso; simp at hG_; done) | skip)
                all_goals (cases e21 <;> first | (exfalso; simp at hG_; done) | skip)
                all_goals (repeat' (first
                    | (refine reg_skip hK ?_ rfl; (simp [wantedG, asB, undef, g1_, g2_, g3_]; done))
                    | (refine reg_val hK ?_ ?_ (grow_refl _) rfl
                       · first | rfl | (simp [wantedG, asB, undef, g1_, g2_, g3_]; done)
                       · skip
                         (try (obtain ⟨y1, y2, y3⟩ := HY.out rfl; replace y3 := cellG HB.out hg y3))
                         go_simp
                         done)
                    | cases c | cases e31))
              · rcases Bool.eq_false_or_eq_true ((b && e21) : Bool) with hG_ | hG_
                rotate_left
                · exact reg_skip hK (by rw [(wanted_it rfl g1_).trans (show _ = ((b && e21) : Bool) by first | rfl | (simp; done)), hG_]; decide) (by show undef = ite _ _ _; rw [hG_]; rfl)
                all_goals (cases b <;> first | (exfalso; simp at hG_; done) | skip)
                all_goals (cases e21 <;> first | (exfalso; simp at hG_; done) | skip)
                all_goals (repeat' (first
                    | (refine reg_skip hK ?_ rfl; (simp [wantedG, asB, undef, g1_, g2_, g3_]; done))
                    | (refine reg_val hK ?_ ?_ (grow_refl _) rfl
                       · first | rfl | (simp [wantedG, asB, undef, g1_, g2_, g3_]; done)
                       · skip
                         (try (obtain ⟨y1, y2, y3⟩ := HY.out rfl; replace y3 := cellG HB.out hg y3))
                         go_simp
                         done)
                    | cases c | cases e31))
              · rcases Bool.eq_false_or_eq_true ((b && e21) : Bool) with hG_ | hG_
                rotate_left
                · exact reg_skip hK (by rw [(wanted_it rfl g1_).trans (show _ = ((b && e21) : Bool) by first | rfl | (simp; done)), hG_]; decide) (by show undef = ite _ _ _; rw [hG_]; rfl)
                all_goals (cases b <;> first | (exfalso; simp at hG_; done) | skip)
                all_goals (cases e21 <;> first | (exfalso; simp at hG_; done) | skip)
                all_goals (repeat' (first
                    | (refine reg_skip hK ?_ rfl; (simp [wantedG, asB, undef, g1_, g2_, g3_]; done))
                    | (refine reg_val hK ?_ ?_ (grow_refl _) rfl
                       · first | rfl | (simp [wantedG, asB, undef, g1_, g2_, g3_]; done)
                       · skip
                         (try (obtain ⟨y1, y2, y3⟩ := HY.out rfl; replace y3 := cellG HB.out hg y3))
                         go_simp
                         done)
                    | cases c | cases e31))
              · rcases Bool.eq_false_or_eq_true ((b && e21) : Bool) with hG_ | hG_
                rotate_left
                · exact reg_skip hK (by rw [(wanted_it rfl g1_).trans (show _ = ((b && e21) : Bool) by first | rfl | (simp; done)), hG_]; decide) (by show undef = ite _ _ _; rw [hG_]; rfl)
                all_goals (cases b <;> first | (exfalso; simp at hG_; done) | skip)
                all_goals (cases e21 <;> first | (exfalso; simp at hG_; done) | skip)
                all_goals (repeat' (first
                    | (refine reg_skip hK ?_ rfl; (simp [wantedG, asB, undef, g1_, g2_, g3_]; done))
                    | (refine reg_val hK ?_ ?_ (grow_refl _) rfl
                       · first | rfl | (simp [wantedG, asB, undef, g1_, g2_, g3_]; done)
                       · skip
                         (try (obtain ⟨y1, y2, y3⟩ := HY.out rfl; replace y3 := cellG HB.out hg y3))
                         go_simp
                         done)
                    | cases c | cases e31))
              · rcases Bool.eq_false_or_eq_true ((b && e21) : Bool) with hG_ | hG_
                rotate_left
                · exact reg_skip hK (by rw [(wanted_it rfl g1_).trans (show _ = ((b && e21) : Bool) by first | rfl | (simp; done)), hG_]; decide) (by show undef = ite _ _ _; rw [hG_]; rfl)
                all_goals (cases b <;> first | (exfalso; simp at hG_; done) | skip)
                all_goals (cases e21 <;> first | (exfalso; simp at hG_; done) | skip)
                all_goals (repeat' (first
                    | (refine reg_skip hK ?_ rfl; (simp [wantedG, asB, undef, g1_, g2_, g3_]; done))
                    | (refine reg_val hK ?_ ?_ (grow_refl _) rfl
                       · first | rfl | (simp [wantedG, asB, undef, g1_, g2_, g3_]; done)
                       · skip
                         (try (obtain ⟨y1, y2, y3⟩ := HY.out rfl; replace y3 := cellG HB.out hg y3))
                         go_simp
                         done)
                    | cases c | cases e31))
              · rcases Bool.eq_false_or_eq_true ((b && e21) : Bool) with hG_ | hG_
                rotate_left
                · exact reg_skip hK (by rw [(wanted_it rfl g1_).trans (show _ = ((b && e21) : Bool) by first | rfl | (simp; done)), hG_]; decide) (by show undef = ite _ _ _; rw [hG_]; rfl)
                all_goals (cases b <;> first | (exfalso; simp at hG_; done) | skip)
                all_goals (cases e21 <;> first | (exfalso; simp at hG_; done) | skip)
                all_goals (repeat' (first
                    | (refine reg_skip hK ?_ rfl; (simp [wantedG, asB, undef, g1_, g2_, g3_]; done))
                    | (refine reg_val hK ?_ ?_ (grow_refl _) rfl
                       · first | rfl | (simp [wantedG, asB, undef, g1_, g2_, g3_]; done)
                       · skip
                         (try (obtain ⟨y1, y2, y3⟩ := HY.out rfl; replace y3 := cellG HB.out hg y3))
                         go_simp
                         done)
                    | cases c | cases e31))
              · rcases Bool.eq_false_or_eq_true ((b && e21) : Bool) with hG_ | hG_
                rotate_left
                · exact reg_skip hK (by rw [(wanted_it rfl g1_).trans (show _ = ((b && e21) : Bool) by first | rfl | (simp; done)), hG_]; decide) (by show undef = ite _ _ _; rw [hG_]; rfl)
                all_goals (cases b <;> first | (exfalso; simp at hG_; done) | skip)
                all_goals (cases e21 <;> first | (exfalso; simp at hG_; done) | skip)
                all_goals (repeat' (first
                    | (refine reg_skip hK ?_ rfl; (simp [wantedG, asB, undef, g1_, g2_, g3_]; done))
                    | (refine reg_val hK ?_ ?_ (grow_refl _) rfl
                       · first | rfl | (simp [wantedG, asB, undef, g1_, g2_, g3_]; done)
                       · skip
                         (try (obtain ⟨y1, y2, y3⟩ := HY.out rfl; replace y3 := cellG HB.out hg y3))
                         go_simp
                         done)
                    | cases c | cases e31))
              · rcases Bool.eq_false_or_eq_true ((b && e21) : Bool) with hG_ | hG_
                rotate_left
                · exact reg_skip hK (by rw [(wanted_it rfl g1_).trans (show _ = ((b && e21) : Bool) by first | rfl | (simp; done)), hG_]; decide) (by show undef = ite _ _ _; rw [hG_]; rfl)
                all_goals (cases b <;> first | (exfalso; simp at hG_; done) | skip)
                all_goals (cases e21 <;> first | (exfalso; simp at hG_; done) | skip)
                all_goals (repeat' (first
                    | (refine reg_skip hK ?_ rfl; (simp [wantedG, asB, undef, g1_, g2_, g3_]; done))
                    | (refine reg_val hK ?_ ?_ (grow_refl _) rfl
                       · first | rfl | (simp [wantedG, asB, undef, g1_, g2_, g3_]; done)
                       · skip
                         (try (obtain ⟨y1, y2, y3⟩ := HY.out rfl; replace y3 := cellG HB.out hg y3))
                         go_simp
                         done)
                    | cases c | cases e31))
              · rcases Bool.eq_false_or_eq_true (b : Bool) with hG_ | hG_
                rotate_left
                · exact reg_skip hK (by rw [(wanted_f rfl g1_).trans (show _ = (b : Bool) by first | rfl | (simp; done)), hG_]; decide) (by show undef = ite _ _ _; rw [hG_]; rfl)
                all_goals (cases b <;> first | (exfalso; simp at hG_; done) | skip)
                all_goals (repeat' (first
                    | (refine reg_skip hK ?_ rfl; (simp [wantedG, asB, undef, g1_, g2_, g3_]; done))
                    | (refine reg_val hK ?_ ?_ (grow_refl _) rfl
                       · first | rfl | (simp [wantedG, asB, undef, g1_, g2_, g3_]; done)
                       · skip
                         (try (obtain ⟨y1, y2, y3⟩ := HY.out rfl; replace y3 := cellG HB.out hg y3))
                         go_simp
                         done)
                    | cases e21 | cases c | cases e31))
              · refine reg_pick hK rfl rfl g1_ (or_val ?_ g2_)
                first | rfl | (simp; done)
              · all_goals (repeat' (first
                    | (refine reg_val hK ?_ ?_ (grow_refl _) rfl
                       · first | rfl | (simp [wantedG, asB, undef, g1_, g2_, g3_]; done)
                       · skip
                         (try (obtain ⟨y1, y2, y3⟩ := HY.out rfl; replace y3 := cellG HB.out hg y3))
                         go_simp
                         done)
                    | cases b | cases e21 | cases c | cases e31))
              · rcases Bool.eq_false_or_eq_true (!(!b || (e21 && !e31)) : Bool) with hG_ | hG_
                rotate_left
                · exact reg_skip hK (by rw [(wanted_f rfl g1_).trans (show _ = (!(!b || (e21 && !e31)) : Bool) by first | rfl | (simp; done)), hG_]; decide) (by show undef = ite _ _ _; rw [hG_]; rfl)
                all_goals (cases b <;> first | (exfalso; simp at hG_; done) | skip)
                all_goals (cases e21 <;> first | (exfalso; simp at hG_; done) | skip)
                all_goals (cases e31 <;> first | (exfalso; simp at hG_; done) | skip)
                all_goals (repeat' (first
                    | (refine reg_skip hK ?_ rfl; (simp [wantedG, asB, undef, g1_, g2_, g3_]; done))
                    | (refine reg_val hK ?_ ?_ (grow_refl _) rfl
                       · first | rfl | (simp [wantedG, asB, undef, g1_, g2_, g3_]; done)
                       · skip
                         (try (obtain ⟨y1, y2, y3⟩ := HY.out rfl; replace y3 := cellG HB.out hg y3))
                         go_simp
                         done)
                    | cases c))
              · rcases Bool.eq_false_or_eq_true (!(!b || (e21 && !e31)) : Bool) with hG_ | hG_
                rotate_left
                · exact reg_skip hK (by rw [(wanted_f rfl g1_).trans (show _ = (!(!b || (e21 && !e31)) : Bool) by first | rfl | (simp; done)), hG_]; decide) (by show undef = ite _ _ _; rw [hG_]; rfl)
                all_goals (cases b <;> first | (exfalso; simp at hG_; done) | skip)
                all_goals (cases e21 <;> first | (exfalso; simp at hG_; done) | skip)
                all_goals (cases e31 <;> first | (exfalso; simp at hG_; done) | skip)
                all_goals (repeat' (first
                    | (refine reg_skip hK ?_ rfl; (simp [wantedG, asB, undef, g1_, g2_, g3_]; done))
                    | (refine reg_val hK ?_ ?_ (grow_refl _) rfl
                       · first | rfl | (simp [wantedG, asB, undef, g1_, g2_, g3_]; done)
                       · skip
                         (try (obtain ⟨y1, y2, y3⟩ := HY.out rfl; replace y3 := cellG HB.out hg y3))
                         go_simp
                         done)
                    | cases c))
              · rcases Bool.eq_false_or_eq_true (!(!b || (e21 && !e31)) : Bool) with hG_ | hG_
                rotate_left
                · exact reg_skip hK (by rw [(wanted_f rfl g1_).trans (show _ = (!(!b || (e21 && !e31)) : Bool) by first | rfl | (simp; done)), hG_]; decide) (by show undef = ite _ _ _; rw [hG_]; rfl)
                all_goals (cases b <;> first | (exfalso; simp at hG_; done) | skip)
                all_goals (cases e21 <;> first | (exfalso; simp at hG_; done) | skip)
                all_goals (cases e31 <;> first | (exfalso; simp at hG_; done) | skip)
                all_goals (repeat' (first
                    | (refine reg_skip hK ?_ rfl; (simp [wantedG, asB, undef, g1_, g2_, g3_]; done))
                    | (refine reg_call hK ?_ rfl Try.func81 (by kernel_rfl) rfl #[.slice A3 nk c33, .func (.func 101) #[] #[]] ?_ (((HNK.out ▸ impl_NodesRight.has k1 A3 c33 (rd_T74 l0 x).f3 c _ (by rw [HNK.out]; exact Kd.C_below HK3.out (below_grow HB.out hg)) (by rw [HNK.out]; exact HL3.out) Hc.out : Calls Try.prog 81 #[.slice A3 nk c33, .func (.func 101) #[] #[]] _ _)).mono ?_)
                       · first | rfl | (simp [wantedG, asB, undef, g1_, g2_, g3_]; done)
                       · simp [Act.eval, g1_, g2_, g3_]
                       · rintro e_ w'' ⟨rfl, hb_⟩
                         exact ⟨_, rfl, (by first | exact hb_ | exact hb_.below), rfl⟩)
                    | cases c))
              · refine reg_pick hK rfl rfl g1_ (or_val ?_ g2_)
                first | rfl | (simp; done)
            case hE6 =>
              intro us w' hg hd
              have hZ : us 23 = .bool ((!b || (e21 && !e31)) || c) := allR_get hd (by kernel_rfl)
              clear hd
              replace HB := AM (below_grow HB.out hg)
              replace hs0 := cellG (grow_refl _) hg hs0
              replace hs1 := cellG (grow_refl _) hg hs1
              replace hs2 := cellG (grow_refl _) hg hs2
              replace hs3 := cellG (grow_refl _) hg hs3
              clear hyw hg
              have H := Hfin.out
              rw [he31] at H
              rw [show decide (0 < x) = e21 by rw [Bool.eq_iff_iff, ← he21]; simp] at H
              by_cases hq : ((!b || (e21 && !e31)) || c) = true
              · have hr : r = false := by
                  rw [impl_NodesRight.bools1 _ _ _ _ _ hq] at H
                  rcases H with ⟨h, _⟩ | ⟨_, h⟩
                  · cases h
                  · exact h
                subst hr
                rw [hq] at hZ
                rw [hZ]
                clear hZ he21 he31 H hs0 hs1 hs2 hs3
                go_wp2
                go_ret
                exact ⟨rfl, HB.out⟩
              · rw [Bool.not_eq_true] at hq
                rw [hq] at hZ
                rw [hZ]
                obtain ⟨e44, he44⟩ : ∃ e_ : Bool, decide ((rd_T74 l0 x).f2 = 0) = e_ := ⟨_, rfl⟩
                obtain ⟨e49, he49⟩ : ∃ e_ : Bool, decide ((nk : Int) = 1) = e_ := ⟨_, rfl⟩
                obtain ⟨e62, he62⟩ : ∃ e_ : Bool, decide (100 < (nk : Int)) = e_ := ⟨_, rfl⟩
                rw [he44, he49, he62] at H
                have HH : (((d && (!e44 || !e49)) || !wa || e62) = true ∧ r = false) ∨ (((d && (!e44 || !e49)) || !wa || e62) = false ∧ impl_NodesRight.l0 k1 l0 (wrap64 (x + 1)) = some r) := by
                  rw [impl_NodesRight.bools2 _ _ _ _ _ hq] at H
                  rcases H with ⟨h, h2⟩ | ⟨h, h2⟩
                  · rw [Bool.not_eq_true'] at h
                    exact .inr ⟨h, h2⟩
                  · rw [Bool.not_eq_false'] at h
                    exact .inl ⟨h, h2⟩
                have f1 : ((rd_T74 l0 x).f2 == 0) = e44 := by rw [← he44]; rfl
                have f2 : ((rd_T74 l0 x).f2 != 0) = !e44 := by rw [bne, f1]
                have f3 : ((nk : Int) == 1) = e49 := by rw [← he49]; rfl
                have f4 : ((nk : Int) != 1) = !e49 := by rw [bne, f3]
                have f5 : (nk == 1) = e49 := by rw [← f3, Bool.eq_iff_iff]; simp only [beq_iff_eq]; omega
                have f6 : (nk != 1) = !e49 := by rw [bne, f5]
                have f7 : decide (100 < nk) = e62 := by rw [← he62]; exact decide_eq_decide.2 (by omega)
                clear hZ he21 he31 H Hfin hq he44 he49 HR0 HL3 HK3 HY Hb Hc
                have HHA := AM HH
                clear HH
                cases d
                case false =>
                  cases wa
                  case false =>
                    obtain ⟨_, rfl⟩ : _ ∧ r = false := HHA.out.resolve_right (fun q => by simp at q)
                    go_wp2_with (go_at_call 91; refine (impl_within.calls _ _ _ _ _ Hwa.out).mono ?_; rintro e w3 ⟨rfl, hd⟩; replace HB := AM (below_grow HB.out hd.below); replace hs0 := cellG (grow_refl _) hd.below hs0; replace hs1 := cellG (grow_refl _) hd.below hs1; replace hs2 := cellG (grow_refl _) hd.below hs2; replace hs3 := cellG (grow_refl _) hd.below hs3; clear hd)
                    go_ret
                    exact ⟨rfl, HB.out⟩
                  case true =>
                    cases e62
                    case true =>
                      obtain ⟨_, rfl⟩ : _ ∧ r = false := HHA.out.resolve_right (fun q => by simp at q)
                      go_wp2_with (go_at_call 91; refine (impl_within.calls _ _ _ _ _ Hwa.out).mono ?_; rintro e w3 ⟨rfl, hd⟩; replace HB := AM (below_grow HB.out hd.below); replace hs0 := cellG (grow_refl _) hd.below hs0; replace hs1 := cellG (grow_refl _) hd.below hs1; replace hs2 := cellG (grow_refl _) hd.below hs2; replace hs3 := cellG (grow_refl _) hd.below hs3; clear hd)
                      go_ret
                      exact ⟨rfl, HB.out⟩
                    case false =>
                      have H1 := AM (HHA.out.resolve_left (fun q => by simp at q)).2
                      go_wp2_with (go_at_call 91; refine (impl_within.calls _ _ _ _ _ Hwa.out).mono ?_; rintro e w3 ⟨rfl, hd⟩; replace HB := AM (below_grow HB.out hd.below); replace hs0 := cellG (grow_refl _) hd.below hs0; replace hs1 := cellG (grow_refl _) hd.below hs1; replace hs2 := cellG (grow_refl _) hd.below hs2; replace hs3 := cellG (grow_refl _) hd.below hs3; clear hd)
                      go_roundg k1
                      case measure => have := HK1.out; omega
                      case rel => exact ⟨(wrap64 (x + 1)), (by first | rfl | (simp; done) | (simp [*]; done)), H1, ⟨by have := HK1.out; omega⟩, HB⟩
                case true =>
                  cases e44
                  case false =>
                    obtain ⟨_, rfl⟩ : _ ∧ r = false := HHA.out.resolve_right (fun q => by simp at q)
                    go_wp2
                    go_ret
                    exact ⟨rfl, HB.out⟩
                  case true =>
                    cases e49
                    case false =>
                      obtain ⟨_, rfl⟩ : _ ∧ r = false := HHA.out.resolve_right (fun q => by simp at q)
                      go_wp2
                      go_ret
                      exact ⟨rfl, HB.out⟩
                    case true =>
                      cases wa
                      case false =>
                        obtain ⟨_, rfl⟩ : _ ∧ r = false := HHA.out.resolve_right (fun q => by simp at q)
                        go_wp2_with (go_at_call 91; refine (impl_within.calls _ _ _ _ _ Hwa.out).mono ?_; rintro e w3 ⟨rfl, hd⟩; replace HB := AM (below_grow HB.out hd.below); replace hs0 := cellG (grow_refl _) hd.below hs0; replace hs1 := cellG (grow_refl _) hd.below hs1; replace hs2 := cellG (grow_refl _) hd.below hs2; replace hs3 := cellG (grow_refl _) hd.below hs3; clear hd)
                        go_ret
                        exact ⟨rfl, HB.out⟩
                      case true =>
                        cases e62
                        case true =>
                          obtain ⟨_, rfl⟩ : _ ∧ r = false := HHA.out.resolve_right (fun q => by simp at q)
                          go_wp2_with (go_at_call 91; refine (impl_within.calls _ _ _ _ _ Hwa.out).mono ?_; rintro e w3 ⟨rfl, hd⟩; replace HB := AM (below_grow HB.out hd.below); replace hs0 := cellG (grow_refl _) hd.below hs0; replace hs1 := cellG (grow_refl _) hd.below hs1; replace hs2 := cellG (grow_refl _) hd.below hs2; replace hs3 := cellG (grow_refl _) hd.below hs3; clear hd)
                          go_ret
                          exact ⟨rfl, HB.out⟩
                        case false =>
                          have H1 := AM (HHA.out.resolve_left (fun q => by simp at q)).2
                          go_wp2_with (go_at_call 91; refine (impl_within.calls _ _ _ _ _ Hwa.out).mono ?_; rintro e w3 ⟨rfl, hd⟩; replace HB := AM (below_grow HB.out hd.below); replace hs0 := cellG (grow_refl _) hd.below hs0; replace hs1 := cellG (grow_refl _) hd.below hs1; replace hs2 := cellG (grow_refl _) hd.below hs2; replace hs3 := cellG (grow_refl _) hd.below hs3; clear hd)
                          go_roundg k1
                          case measure => have := HK1.out; omega
                          case rel => exact ⟨(wrap64 (x + 1)), (by first | rfl | (simp; done) | (simp [*]; done)), H1, ⟨by have := HK1.out; omega⟩, HB⟩
          · have H := HA.out
            simp only [impl_NodesRight.l0] at H
            rw [if_pos c3, if_neg c4] at H
            exact absurd H (by simp)
        · have H := HA.out
          simp only [impl_NodesRight.l0] at H
          rw [if_neg c3] at H
          have c3b0 : decide (x < (l0.length : Int)) = false := decide_eq_false c3
          clear c3 HA
          obtain rfl := Option.some.inj H
          go_wp2
          go_ret
          exact ⟨rfl, HB.out⟩

/-! ### impl_size_string: function 80 -/
def impl_size_string.f (l0 : List ByteArray) : Option (Int) := some (l0.length : Int)
set_option maxHeartbeats 8000000 in
set_option maxRecDepth 100000 in
theorem impl_size_string.calls (A0 : Option Addr) (c0 : Nat) (l0 : List ByteArray) (r : Int) (w : World) (hr0 : Kd.C Kd.string w A0 l0.length l0) (hc0 : l0.length ≤ c0) (h : impl_size_string.f l0 = some r) :
    Calls Try.prog 80 #[.slice A0 l0.length c0] w fun e w' => e = .returned (.int .i64 r) ∧ Drawn0 w w' := by
  have HR0 := AM hr0
  have HC0 := AM hc0
  clear hr0 hc0
  have H : (some (l0.length : Int)) = some r := h
  clear h
  obtain rfl := Option.some.inj H
  go_enter Try.func80, Try.ntmps80
  go_wp2
  go_ret
  exact ⟨by first | rfl | (simp; done) | (simp [*]; done), by repeat (first | exact Drawn0.refl _ | apply Drawn0.step)⟩

/-! ### impl_Node: function 102 -/
def impl_Node.f (l0 : List (S74)) : Option (Int) := some (l0.length : Int)
set_option maxHeartbeats 8000000 in
set_option maxRecDepth 100000 in
theorem impl_Node.calls (A0 : Option Addr) (c0 : Nat) (l0 : List (S74)) (r : Int) (w : World) (hr0 : Kd.C k74 w A0 l0.length l0) (hc0 : l0.length ≤ c0) (h : impl_Node.f l0 = some r) :
    Calls Try.prog 102 #[.slice A0 l0.length c0] w fun e w' => e = .returned (.int .i64 r) ∧ Drawn0 w w' := by
  have HR0 := AM hr0
  have HC0 := AM hc0
  clear hr0 hc0
  have H : (some (l0.length : Int)) = some r := h
  clear h
  obtain rfl := Option.some.inj H
  go_enter Try.func102, Try.ntmps102
  go_wp2
  go_ret
  exact ⟨by first | rfl | (simp; done) | (simp [*]; done), by repeat (first | exact Drawn0.refl _ | apply Drawn0.step)⟩

end Go.Proofs.Ytggbpjfgfenpdaa.PFnExactNodesRead
