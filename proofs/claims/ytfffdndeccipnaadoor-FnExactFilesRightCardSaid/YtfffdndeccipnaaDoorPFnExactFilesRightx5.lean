/- Functions of the law FnExactFilesRight: the print's, with walks of this session's own. No statement is proved here. -/
import Derived.WalkLawsBesides
import Derived.Test.YtfffdndeccipnaaDoorVRegFnExactFilesRight
-- A program of this session wrote this text: a changed copy of the kit print, with given functions.
import Derived.Test.YtfffdndeccipnaaDoorPFnExactFilesRightx0
import Derived.Test.YtfffdndeccipnaaDoorPFnExactFilesRightx4
namespace Go.Proofs.YtfffdndeccipnaaDoor.PFnExactFilesRight
open Go.RowKit Go.Proofs.YtfffdndeccipnaaDoorW.PrintWords Go.Proofs.YtfffdndeccipnaaDoorW.PrintLast Go.Proofs.YtfffdndeccipnaaDoorW.PrintMore Go.Proofs.YtfffdndeccipnaaDoor.Reg Go.Proofs.YtfffdndeccipnaaDoor.Aut
attribute [local go_sem] max2_int min2_int max_two min_two max_three min_three max_four min_four   -- for this text's walks alone
set_option linter.unusedVariables false
set_option linter.unusedSimpArgs false

/-! ### impl_FilesRight: function 32 -/
def impl_FilesRight.m0 : Nat → List (S92) → ByteArray → Int → Option (Int)
  | 0, _, _, _ => none
  | k + 1, l, p, x => if x < (l.length : Int) then (if 0 ≤ x then ((strings_HasPrefix.f (rd_T92 l x).f0 (p ++ ⟨#[47]⟩)).bind fun b => (if b = true then (some x) else (impl_FilesRight.m0 k l p (wrap64 (x + 1))))) else (none)) else (some (-1))
def impl_FilesRight.has (k : Nat) (l : List (S92)) (p : ByteArray) : Option (Bool) := (impl_FilesRight.m0 k l p 0).bind fun i => some (decide (0 ≤ i))
theorem impl_FilesRight.mono_m : ∀ k, (∀ y0 y1 y2, LeO (impl_FilesRight.m0 k y0 y1 y2) (impl_FilesRight.m0 (k + 1) y0 y1 y2))
  | 0 => fun _ _ _ r h => by simp [impl_FilesRight.m0] at h
  | k + 1 => by
    have ih0 := impl_FilesRight.mono_m k
    · intro y0 y1 y2
      unfold impl_FilesRight.m0
      repeat' first
      | (with_reducible exact ih0 _ _ _)
      | (with_reducible exact LeO.refl _)
      | (with_reducible refine LeO.ite ?_ ?_)
      | (with_reducible refine LeO.bind ?_ (fun _ => ?_))
set_option maxHeartbeats 4000000 in
set_option maxRecDepth 100000 in
theorem impl_FilesRight.pred (q : S92) (p : ByteArray) (B : Nat) (v : Bool) (hp : p.size + 1 ≤ 9223372036854775807) (hv : strings_HasPrefix.f q.f0 (p ++ ⟨#[47]⟩) = some v) (w : World) (hc : w.cell? ⟨B, 0, none⟩ = some (.string p)) :
    Calls Tryd.prog 73 #[.agg #[.string q.f0, .string q.f1], .pointer (some ⟨B, 0, none⟩)] w fun e w' => e = .returned (.bool v) ∧ Below w.heap.size w w' := by
  have hu := Tryd.underlying92
  have hg := ((Below.refl w.heap.size w).alloc (Nat.le_refl _) (Obj.cells #[.string q.f0, .string q.f1] 92))
  have hc' := Reg.cellG (Reg.grow_refl _) hg hc
  have HG := AM hg
  have HV := AM hv
  have hp0 := eq_true hp
  have hp1 : decide (p.size + 1 ≤ 9223372036854775807) = true := decide_eq_true hp
  have hp2 : (9223372036854775807 < p.size + 1) = False := eq_false (Nat.not_lt.2 hp)
  clear hg hc hv hp
  go_enter Tryd.func73, Tryd.ntmps73
  go_wp2_with (go_at_call 74; refine (strings_HasPrefix.calls _ _ v _ HV.out).mono ?_; rintro e w2 ⟨rfl, ⟨nd, rfl⟩⟩)
  go_ret
  exact ⟨rfl, by repeat (first | exact HG.out | apply pw_below_drewN | apply below_drew1)⟩
set_option maxHeartbeats 4000000 in
set_option maxRecDepth 100000 in
theorem impl_FilesRight.idx (k : Nat) (A0 : Option Addr) (c0 : Nat) (l0 : List (S92)) (p : ByteArray) (B : Nat) (r : Int) (w : World) (hr0 : Kd.C k92 w A0 l0.length l0) (hc0 : l0.length ≤ c0) (hp : p.size + 1 ≤ 9223372036854775807) (hcell : w.cell? ⟨B, 0, none⟩ = some (.string p)) (h : impl_FilesRight.m0 k l0 p 0 = some r) :
    Calls Tryd.prog 111 #[.slice A0 l0.length c0, .func (.func 73) #[] #[.pointer (some ⟨B, 0, none⟩)]] w fun e w' => e = .returned (.int .i64 r) ∧ Below w.heap.size w w' := by
  have hu := Tryd.underlying92
  have HR0 := AM hr0
  have HC0 := AM hc0
  have HCL := AM hcell
  have HPS := AM hp
  clear hr0 hc0 hcell hp
  have HB := AM (Below.refl w.heap.size w)
  have H' := AM h
  clear h
  go_enter Tryd.func111, Tryd.ntmps111
  go_wp2
  go_loopg [8] k (fun kq v8 w' => ∃ (x : Int), v8 = .int .i64 x ∧ Aside0 (impl_FilesRight.m0 kq l0 p x = some r) ∧ Aside0 (kq ≤ k) ∧ Aside0 (Below w.heap.size w w'))
  case atStart => exact ⟨0, rfl, H', ⟨Nat.le_refl _⟩, HB⟩
  case round =>
    clear H'
    obtain ⟨x, rfl, HA, HK1, HB⟩ := hrel
    cases gk with
    | zero => exact absurd HA.out (by simp [impl_FilesRight.m0])
    | succ k1 =>
      have H := HA.out
      clear HA
      simp only [impl_FilesRight.m0] at H
      by_cases c3 : x < (l0.length : Int)
      · rw [if_pos c3] at H
        by_cases c4 : 0 ≤ x
        · rw [if_pos c4] at H
          obtain ⟨v, hv, H⟩ := Option.bind_eq_some_iff.mp H
          have HV := AM hv
          have H' := AM H
          clear H hv
          obtain ⟨ad, rfl, hx0, hx1⟩ := at_T92 HR0.out x c4 c3
          replace hx0 := Reg.cellG HB.out (Reg.grow_refl _) hx0
          replace hx1 := Reg.cellG HB.out (Reg.grow_refl _) hx1
          have hkc := AM (Reg.cellG HB.out (Reg.grow_refl _) HCL.out)
          have c3b0 : decide (x < (l0.length : Int)) = true := decide_eq_true c3
          have c3b1 := eq_true c3
          have c4b0 := eq_true c4
          clear c3 c4
          cases v with
          | true =>
            have H := H'.out
            rw [if_pos rfl] at H
            obtain rfl := Option.some.inj H
            clear H H'
            go_wp2_with (go_at_call 73; refine (impl_FilesRight.pred (rd_T92 l0 x) p B _ HPS.out HV.out _ hkc.out).mono ?_; rintro e w2 ⟨rfl, hb⟩; replace HB := AM (Reg.below_grow (by repeat (first | exact HB.out | apply pw_below_drewN | apply below_drew1)) hb); clear hb hx0 hx1 hkc)
            go_ret
            exact ⟨rfl, by repeat (first | exact HB.out | apply pw_below_drewN | apply below_drew1)⟩
          | false =>
            have H := H'.out
            rw [if_neg Bool.false_ne_true] at H
            have H1 := AM H
            clear H H'
            go_wp2_with (go_at_call 73; refine (impl_FilesRight.pred (rd_T92 l0 x) p B _ HPS.out HV.out _ hkc.out).mono ?_; rintro e w2 ⟨rfl, hb⟩; replace HB := AM (Reg.below_grow (by repeat (first | exact HB.out | apply pw_below_drewN | apply below_drew1)) hb); clear hb hx0 hx1 hkc)
            go_roundg k1
            case measure => have := HK1.out; omega
            case rel => exact ⟨(wrap64 (x + 1)), (by first | rfl | (simp; done) | (simp [*]; done)), H1, ⟨by have := HK1.out; omega⟩, ⟨by repeat (first | exact HB.out | apply pw_below_drewN | apply below_drew1)⟩⟩
        · rw [if_neg c4] at H
          exact absurd H (by simp)
      · rw [if_neg c3] at H
        have c3b0 : decide (x < (l0.length : Int)) = false := decide_eq_false c3
        clear c3
        obtain rfl := Option.some.inj H
        go_wp2
        go_ret
        exact ⟨rfl, by repeat (first | exact HB.out | apply pw_below_drewN | apply below_drew1)⟩
set_option maxHeartbeats 4000000 in
set_option maxRecDepth 100000 in
theorem impl_FilesRight.any (k : Nat) (A0 : Option Addr) (c0 : Nat) (l0 : List (S92)) (p : ByteArray) (B : Nat) (r : Bool) (w : World) (hr0 : Kd.C k92 w A0 l0.length l0) (hc0 : l0.length ≤ c0) (hp : p.size + 1 ≤ 9223372036854775807) (hcell : w.cell? ⟨B, 0, none⟩ = some (.string p)) (h : impl_FilesRight.has k l0 p = some r) :
    Calls Tryd.prog 72 #[.slice A0 l0.length c0, .func (.func 73) #[] #[.pointer (some ⟨B, 0, none⟩)]] w fun e w' => e = .returned (.bool r) ∧ Below w.heap.size w w' := by
  obtain ⟨i, hi, h⟩ := Option.bind_eq_some_iff.mp h
  obtain rfl := Option.some.inj h
  have HR0 := AM hr0
  have HC0 := AM hc0
  have HI := AM hi
  have HPS := AM hp
  have HCL := AM hcell
  clear hr0 hc0 hi h hp hcell
  go_enter Tryd.func72, Tryd.ntmps72
  go_wp2_with (go_at_call 111; refine (impl_FilesRight.idx k A0 c0 l0 p B i _ (by repeat (first | exact HR0.out | (with_reducible refine Kd.C_drewN ?_ _) | (with_reducible refine Kd.C_drew ?_))) HC0.out HPS.out HCL.out HI.out).mono ?_; rintro e w2 ⟨rfl, hb⟩; have HB := AM hb; clear hb)
  go_ret
  exact ⟨(by first | rfl | (simp; done)), HB.out⟩
def impl_FilesRight.l0 : Nat → List (S92) → Int → Option (Bool)
  | 0, _, _ => none
  | k + 1, l, x => if x < (l.length : Int) then (if 0 ≤ x then ((impl_isPath.f k (rd_T92 l x).f0).bind fun b => (if ((b && !decide (1500 < ((rd_T92 l x).f1.size : Int))) && (!decide (0 < x) || Op.bytesLess (rd_T92 l (wrap64 (x - 1))).f0.toList (rd_T92 l x).f0.toList)) = true then ((impl_FilesRight.has k l (rd_T92 l x).f0).bind fun c => (if c = true then (some false) else (impl_FilesRight.l0 k l (wrap64 (x + 1))))) else (some false))) else (none)) else (some true)
def impl_FilesRight.f (k : Nat) (l0 : List (S92)) : Option (Bool) := if (l0.length : Int) > 20 then (some false) else (impl_FilesRight.l0 k l0 0)
theorem impl_FilesRight.mono_l : ∀ k, (∀ y0 y1, LeO (impl_FilesRight.l0 k y0 y1) (impl_FilesRight.l0 (k + 1) y0 y1))
  | 0 => fun _ _ r h => by simp [impl_FilesRight.l0] at h
  | k + 1 => by
    have ih0 := impl_FilesRight.mono_l k
    · intro y0 y1
      unfold impl_FilesRight.l0 impl_FilesRight.has
      repeat' first
      | (with_reducible exact ih0 _ _)
      | (with_reducible exact impl_FilesRight.mono_m _ _ _ _)
      | (with_reducible exact impl_isPath.mono _ _)
      | (with_reducible exact LeO.refl _)
      | (with_reducible refine LeO.ite ?_ ?_)
      | (with_reducible refine LeO.bind ?_ (fun _ => ?_))
theorem impl_FilesRight.mono : ∀ a0 k, LeO (impl_FilesRight.f k a0) (impl_FilesRight.f (k + 1) a0) := by
  intro a0 k
  unfold impl_FilesRight.f
  exact LeO.ite (LeO.refl _) (impl_FilesRight.mono_l k _ _)
theorem impl_FilesRight.bools : ∀ b e23 e27 e37 : Bool, ((b && !e23) && (!e27 || e37)) = !((!b || e23) || (e27 && !e37)) := by decide
theorem impl_FilesRight.short (k : Nat) (s : ByteArray) (b : Bool) (h : impl_isPath.f k s = some b) : s.size + 1 ≤ 9223372036854775807 := by
  unfold impl_isPath.f at h
  by_cases c : s.size < 4294967281
  · omega
  · rw [if_neg c] at h
    cases h
theorem impl_FilesRight.step (k : Nat) (l : List (S92)) (x : Int) (r : Bool) (h : impl_FilesRight.l0 (k + 1) l x = some r) (c3 : x < (l.length : Int)) (c4 : 0 ≤ x) :
    ∃ b, impl_isPath.f k (rd_T92 l x).f0 = some b ∧
      ((((b && !decide (1500 < ((rd_T92 l x).f1.size : Int))) && (!decide (0 < x) || Op.bytesLess (rd_T92 l (wrap64 (x - 1))).f0.toList (rd_T92 l x).f0.toList)) = true ∧ ∃ c, impl_FilesRight.has k l (rd_T92 l x).f0 = some c ∧ ((c = true ∧ r = false) ∨ (c = false ∧ impl_FilesRight.l0 k l (wrap64 (x + 1)) = some r))) ∨ (((b && !decide (1500 < ((rd_T92 l x).f1.size : Int))) && (!decide (0 < x) || Op.bytesLess (rd_T92 l (wrap64 (x - 1))).f0.toList (rd_T92 l x).f0.toList)) = false ∧ r = false)) := by
  simp only [impl_FilesRight.l0] at h
  rw [if_pos c3, if_pos c4] at h
  obtain ⟨b, hb, h⟩ := Option.bind_eq_some_iff.mp h
  refine ⟨b, hb, ?_⟩
  split at h
  · rename_i q
    obtain ⟨c, hc, h⟩ := Option.bind_eq_some_iff.mp h
    refine .inl ⟨q, c, hc, ?_⟩
    split at h
    · rename_i q2
      exact .inl ⟨q2, (Option.some.inj h).symm⟩
    · rename_i q2
      exact .inr ⟨by simpa using q2, h⟩
  · rename_i q
    rw [Bool.not_eq_true] at q
    exact .inr ⟨q, (Option.some.inj h).symm⟩
set_option maxHeartbeats 4000000 in
set_option maxRecDepth 100000 in
theorem impl_FilesRight.calls (k : Nat) (A0 : Option Addr) (c0 : Nat) (l0 : List (S92)) (r : Bool) (w : World) (hr0 : Kd.C k92 w A0 l0.length l0) (hc0 : l0.length ≤ c0) (h : impl_FilesRight.f k l0 = some r) (hL : Hand.LaidG w := by first | exact hL | exact Hand.LaidG.below hL bel_) :
    Calls Tryd.prog 32 #[.slice A0 l0.length c0] w fun e w' => e = .returned (.bool r) ∧ Below w.heap.size w w' := by
  have hu := Tryd.underlying92
  have HR0 := AM hr0
  have HC0 := AM hc0
  have HLG := AM hL
  clear hr0 hc0 hL
  have HB := AM (Below.refl w.heap.size w)
  have H : (if (l0.length : Int) > 20 then (some false) else (impl_FilesRight.l0 k l0 0)) = some r := h
  clear h
  by_cases c2 : (l0.length : Int) > 20
  · rw [if_pos c2] at H
    have c2b0 : decide (20 < (l0.length : Int)) = true := decide_eq_true c2
    have c2b1 : decide (20 < l0.length) = true := decide_eq_true (by omega)
    clear c2
    obtain rfl := Option.some.inj H
    go_enter Tryd.func32, Tryd.ntmps32
    go_wp2
    go_ret
    exact ⟨rfl, HB.out⟩
  · rw [if_neg c2] at H
    have c2b0 : decide (20 < (l0.length : Int)) = false := decide_eq_false c2
    have c2b1 : decide (20 < l0.length) = false := decide_eq_false (by omega)
    have HL := AM c2
    clear c2
    have H' := AM H
    clear H
    go_enter Tryd.func32, Tryd.ntmps32
    go_wp2
    go_loopg [10] k (fun kq v10 w' => ∃ (x : Int), v10 = .int .i64 x ∧ Aside0 (impl_FilesRight.l0 kq l0 x = some r) ∧ Aside0 (kq ≤ k) ∧ Aside0 (Below w.heap.size w w'))
    case atStart => exact ⟨(0), rfl, H', ⟨Nat.le_refl _⟩, HB⟩
    case round =>
      clear H' c2b0 c2b1
      obtain ⟨x, rfl, HA, HK1, HB⟩ := hrel
      cases gk with
      | zero => exact absurd HA.out (by simp [impl_FilesRight.l0])
      | succ k1 =>
        by_cases c3 : x < (l0.length : Int)
        · by_cases c4 : 0 ≤ x
          · obtain ⟨b, hb, hfin⟩ := impl_FilesRight.step k1 l0 x r HA.out c3 c4
            obtain ⟨y, hy⟩ : ∃ y, wrap64 (x - 1) = y := ⟨_, rfl⟩
            obtain ⟨ad, rfl, hx0, hx1⟩ := at_T92 HR0.out x c4 c3
            have hyw : IntKind.i64.wrap (x - 1) = y := (i64_w _).trans hy
            obtain ⟨e27, he27⟩ : ∃ e_ : Bool, (0 < x) = (e_ = true) := ⟨decide (0 < x), by simp⟩
            have HYy : e27 = true → (0 ≤ y) = True ∧ (y < (l0.length : Int)) = True ∧ w.cell? (ad.add (y.toNat * 2)) = some (.string (rd_T92 l0 y).f0) := by
              intro q2
              have hx : 0 < x := by rw [he27]; exact q2
              have h20 := HL.out
              have hye : y = x - 1 := by rw [← hy]; unfold wrap64; omega
              obtain ⟨ad', e, h1, _⟩ := at_T92 HR0.out y (by omega) (by omega)
              cases e
              exact ⟨eq_true (by omega), eq_true (by omega), h1⟩
            rw [hy] at hfin
            have HY := AM HYy
            have Hb := AM hb
            have c3b0 : decide (x < (l0.length : Int)) = true := decide_eq_true c3
            have c4b0 := eq_true c4
            have c3b1 := eq_true c3
            have Hfin := AM hfin
            clear HA hy hb hfin HYy c3 c4
            have HE27 := AM he27
            clear he27
            replace hx0 := cellG HB.out (grow_refl _) hx0
            replace hx1 := cellG HB.out (grow_refl _) hx1
            go_wp2
            have he27 := HE27.out
            have hs0 : (wr.alloc (Obj.cells #[.string (rd_T92 l0 x).f0, .string (rd_T92 l0 x).f1] 92)).cell? ⟨wr.heap.size, 0, none⟩ = some (.string (rd_T92 l0 x).f0) := by simp
            have hs1 : (wr.alloc (Obj.cells #[.string (rd_T92 l0 x).f0, .string (rd_T92 l0 x).f1] 92)).cell? ⟨wr.heap.size, 1, none⟩ = some (.string (rd_T92 l0 x).f1) := by simp
            replace HB := AM (HB.out.alloc HB.out.size (Obj.cells #[.string (rd_T92 l0 x).f0, .string (rd_T92 l0 x).f1] 92))
            clear hx0 hx1
            generalize wr.alloc _ = w2 at HB hs0 hs1 ⊢
            generalize wr.heap.size = g at hs0 hs1 ⊢
            obtain ⟨e23, he23⟩ : ∃ e_ : Bool, (1500 < (((rd_T92 l0 x).f1).size : Int)) = (e_ = true) := ⟨decide (1500 < (((rd_T92 l0 x).f1).size : Int)), by simp⟩
            have he23n : (1500 < ((rd_T92 l0 x).f1).size) = (e23 = true) := by rw [← he23]; simp; try omega
            obtain ⟨e37, he37⟩ : ∃ e_ : Bool, Op.bytesLess ((rd_T92 l0 y).f0).toList ((rd_T92 l0 x).f0).toList = e_ := ⟨_, rfl⟩
            refine wp_reg1 [[], [0], [1], [2], [3], [4], [4, 5], [4, 6], [4, 7], [4, 8], [9], [10], [10, 11], [10, 12], [13], [13], [13, 15], [13, 14, 16], [13, 17], [13, 18], [13], [13, 20], [13, 19, 21], [10, 13, 22], [10, 23]]
              (isVal [.pointer (some ⟨g, 0, none⟩),
                .string ((rd_T92 l0 x).f0),
                .bool b,
                .bool (!b),
                .bool (!b),
                if b then .pointer (some ⟨g, 1, none⟩) else undef,
                if b then .string ((rd_T92 l0 x).f1) else undef,
                if b then .int .i64 (((rd_T92 l0 x).f1).size : Int) else undef,
                if b then .bool e23 else undef,
                .bool (!b || e23),
                .bool (!b || e23),
                if !(!b || e23) then .int .i64 x else undef,
                if !(!b || e23) then .bool e27 else undef,
                if !(!b || e23) then .bool e27 else undef,
                if !(!b || e23) && e27 then .slice (some ad) l0.length c0 else undef,
                if !(!b || e23) && e27 then .int .i64 x else undef,
                if !(!b || e23) && e27 then .int .i64 y else undef,
                if !(!b || e23) && e27 then .pointer (some (ad.add (y.toNat * 2))) else undef,
                if !(!b || e23) && e27 then .pointer (some (ad.add (y.toNat * 2))) else undef,
                if !(!b || e23) && e27 then .string ((rd_T92 l0 y).f0) else undef,
                if !(!b || e23) && e27 then .pointer (some ⟨g, 0, none⟩) else undef,
                if !(!b || e23) && e27 then .string ((rd_T92 l0 x).f0) else undef,
                if !(!b || e23) && e27 then .bool (!e37) else undef,
                if !(!b || e23) then .bool (e27 && !e37) else undef,
                .bool ((!b || e23) || (e27 && !e37))]) ?B6 ?d6 (by kernel_rfl) (by kernel_rfl) (by kernel_rfl) (by kernel_rfl) (fun us => ?hA6) (isVal_grow _) ?hS6 ?hE6
            case hA6 =>
              simp only [regPut, Act.put, List.setIfInBounds_toArray, List.set_cons_zero, List.set_cons_succ, Nat.reduceAdd, Nat.zero_add]
              rfl
            case hS6 =>
              refine ⟨?_, ?_, ?_, ?_, ?_, ?_, ?_, ?_, ?_, ?_, ?_, ?_, ?_, ?_, ?_, ?_, ?_, ?_, ?_, ?_, ?_, ?_, ?_, ?_, ?_, trivial⟩
              all_goals (intro us w' hg hd K hK; simp only [AllR, isVal, List.getD_cons_zero, List.getD_cons_succ] at hd; clear HR0 HC0 Hfin HE27 HK1 HL)
              all_goals (have g1_ := True.intro; have g2_ := True.intro; have g3_ := True.intro; try (obtain ⟨g1_, hd⟩ := hd); try (obtain ⟨g2_, hd⟩ := hd); try (obtain ⟨g3_, hd⟩ := hd))
              all_goals (replace hs0 := cellG (grow_refl _) hg hs0; replace hs1 := cellG (grow_refl _) hg hs1)
              · all_goals (repeat' (first
                    | (refine reg_val hK ?_ ?_ (grow_refl _) rfl
                       · first | rfl | (simp [wantedG, asB, undef, g1_, g2_, g3_]; done)
                       · skip
                         (try (obtain ⟨y1, y2, y3⟩ := HY.out rfl; replace y3 := cellG HB.out hg y3))
                         go_simp
                         done)
                    | cases b | cases e27 | cases e23 | cases e37))
              · all_goals (repeat' (first
                    | (refine reg_val hK ?_ ?_ (grow_refl _) rfl
                       · first | rfl | (simp [wantedG, asB, undef, g1_, g2_, g3_]; done)
                       · skip
                         (try (obtain ⟨y1, y2, y3⟩ := HY.out rfl; replace y3 := cellG HB.out hg y3))
                         go_simp
                         done)
                    | cases b | cases e27 | cases e23 | cases e37))
              · all_goals (repeat' (first
                    | (refine reg_call hK ?_ rfl Tryd.func71 (by kernel_rfl) rfl #[.string (rd_T92 l0 x).f0] ?_ ((impl_isPath.calls k1 _ _ _ Hb.out (Hand.LaidG.below HLG.out (below_grow HB.out hg))).mono ?_)
                       · first | rfl | (simp [wantedG, asB, undef, g1_, g2_, g3_]; done)
                       · simp [Act.eval, g1_, g2_, g3_]
                       · rintro e_ w'' ⟨rfl, hb_⟩
                         exact ⟨_, rfl, (by first | exact hb_ | exact hb_.below), rfl⟩)
                    | cases b | cases e27 | cases e23 | cases e37))
              · all_goals (repeat' (first
                    | (refine reg_val hK ?_ ?_ (grow_refl _) rfl
                       · first | rfl | (simp [wantedG, asB, undef, g1_, g2_, g3_]; done)
                       · skip
                         (try (obtain ⟨y1, y2, y3⟩ := HY.out rfl; replace y3 := cellG HB.out hg y3))
                         go_simp
                         done)
                    | cases b | cases e27 | cases e23 | cases e37))
              · all_goals (repeat' (first
                    | (refine reg_val hK ?_ ?_ (grow_refl _) rfl
                       · first | rfl | (simp [wantedG, asB, undef, g1_, g2_, g3_]; done)
                       · skip
                         (try (obtain ⟨y1, y2, y3⟩ := HY.out rfl; replace y3 := cellG HB.out hg y3))
                         go_simp
                         done)
                    | cases b | cases e27 | cases e23 | cases e37))
              · rcases Bool.eq_false_or_eq_true (b : Bool) with hG_ | hG_
                rotate_left
                · exact reg_skip hK (by rw [(wanted_f rfl g1_).trans (show _ = (b : Bool) by first | rfl | (simp; done)), hG_]; decide) (by show undef = ite _ _ _; rw [hG_]; rfl)
                all_goals (cases b <;> first | (exfalso; simp at hG_; done) | skip)
                all_goals (repeat' (first
                    | (refine reg_skip hK ?_ rfl; (simp [wantedG, asB, undef, g1_, g2_, g3_]; done))
                    | (refine reg_val hK ?_ ?_ (grow_refl _) rfl
                       · first | rfl | (simp [wantedG, asB, undef, g1_, g2_, g3_]; done)
                       · skip
                         (try (obtain ⟨y1, y2, y3⟩ := HY.out rfl; replace y3 := cellG HB.out hg y3))
                         go_simp
                         done)
                    | cases e27 | cases e23 | cases e37))
              · rcases Bool.eq_false_or_eq_true (b : Bool) with hG_ | hG_
                rotate_left
                · exact reg_skip hK (by rw [(wanted_f rfl g1_).trans (show _ = (b : Bool) by first | rfl | (simp; done)), hG_]; decide) (by show undef = ite _ _ _; rw [hG_]; rfl)
                all_goals (cases b <;> first | (exfalso; simp at hG_; done) | skip)
                all_goals (repeat' (first
                    | (refine reg_skip hK ?_ rfl; (simp [wantedG, asB, undef, g1_, g2_, g3_]; done))
                    | (refine reg_val hK ?_ ?_ (grow_refl _) rfl
                       · first | rfl | (simp [wantedG, asB, undef, g1_, g2_, g3_]; done)
                       · skip
                         (try (obtain ⟨y1, y2, y3⟩ := HY.out rfl; replace y3 := cellG HB.out hg y3))
                         go_simp
                         done)
                    | cases e27 | cases e23 | cases e37))
              · rcases Bool.eq_false_or_eq_true (b : Bool) with hG_ | hG_
                rotate_left
                · exact reg_skip hK (by rw [(wanted_f rfl g1_).trans (show _ = (b : Bool) by first | rfl | (simp; done)), hG_]; decide) (by show undef = ite _ _ _; rw [hG_]; rfl)
                all_goals (cases b <;> first | (exfalso; simp at hG_; done) | skip)
                all_goals (repeat' (first
                    | (refine reg_skip hK ?_ rfl; (simp [wantedG, asB, undef, g1_, g2_, g3_]; done))
                    | (refine reg_val hK ?_ ?_ (grow_refl _) rfl
                       · first | rfl | (simp [wantedG, asB, undef, g1_, g2_, g3_]; done)
                       · skip
                         (try (obtain ⟨y1, y2, y3⟩ := HY.out rfl; replace y3 := cellG HB.out hg y3))
                         go_simp
                         done)
                    | cases e27 | cases e23 | cases e37))
              · rcases Bool.eq_false_or_eq_true (b : Bool) with hG_ | hG_
                rotate_left
                · exact reg_skip hK (by rw [(wanted_f rfl g1_).trans (show _ = (b : Bool) by first | rfl | (simp; done)), hG_]; decide) (by show undef = ite _ _ _; rw [hG_]; rfl)
                all_goals (cases b <;> first | (exfalso; simp at hG_; done) | skip)
                all_goals (repeat' (first
                    | (refine reg_skip hK ?_ rfl; (simp [wantedG, asB, undef, g1_, g2_, g3_]; done))
                    | (refine reg_val hK ?_ ?_ (grow_refl _) rfl
                       · first | rfl | (simp [wantedG, asB, undef, g1_, g2_, g3_]; done)
                       · skip
                         (try (obtain ⟨y1, y2, y3⟩ := HY.out rfl; replace y3 := cellG HB.out hg y3))
                         go_simp
                         done)
                    | cases e27 | cases e23 | cases e37))
              · refine reg_pick hK rfl rfl g1_ (or_val ?_ g2_)
                first | rfl | (simp; done)
              · all_goals (repeat' (first
                    | (refine reg_val hK ?_ ?_ (grow_refl _) rfl
                       · first | rfl | (simp [wantedG, asB, undef, g1_, g2_, g3_]; done)
                       · skip
                         (try (obtain ⟨y1, y2, y3⟩ := HY.out rfl; replace y3 := cellG HB.out hg y3))
                         go_simp
                         done)
                    | cases b | cases e27 | cases e23 | cases e37))
              · rcases Bool.eq_false_or_eq_true (!(!b || e23) : Bool) with hG_ | hG_
                rotate_left
                · exact reg_skip hK (by rw [(wanted_f rfl g1_).trans (show _ = (!(!b || e23) : Bool) by first | rfl | (simp; done)), hG_]; decide) (by show undef = ite _ _ _; rw [hG_]; rfl)
                all_goals (cases b <;> first | (exfalso; simp at hG_; done) | skip)
                all_goals (cases e23 <;> first | (exfalso; simp at hG_; done) | skip)
                all_goals (repeat' (first
                    | (refine reg_skip hK ?_ rfl; (simp [wantedG, asB, undef, g1_, g2_, g3_]; done))
                    | (refine reg_val hK ?_ ?_ (grow_refl _) rfl
                       · first | rfl | (simp [wantedG, asB, undef, g1_, g2_, g3_]; done)
                       · skip
                         (try (obtain ⟨y1, y2, y3⟩ := HY.out rfl; replace y3 := cellG HB.out hg y3))
                         go_simp
                         done)
                    | cases e27 | cases e37))
              · rcases Bool.eq_false_or_eq_true (!(!b || e23) : Bool) with hG_ | hG_
                rotate_left
                · exact reg_skip hK (by rw [(wanted_f rfl g1_).trans (show _ = (!(!b || e23) : Bool) by first | rfl | (simp; done)), hG_]; decide) (by show undef = ite _ _ _; rw [hG_]; rfl)
                all_goals (cases b <;> first | (exfalso; simp at hG_; done) | skip)
                all_goals (cases e23 <;> first | (exfalso; simp at hG_; done) | skip)
                all_goals (repeat' (first
                    | (refine reg_skip hK ?_ rfl; (simp [wantedG, asB, undef, g1_, g2_, g3_]; done))
                    | (refine reg_val hK ?_ ?_ (grow_refl _) rfl
                       · first | rfl | (simp [wantedG, asB, undef, g1_, g2_, g3_]; done)
                       · skip
                         (try (obtain ⟨y1, y2, y3⟩ := HY.out rfl; replace y3 := cellG HB.out hg y3))
                         go_simp
                         done)
                    | cases e27 | cases e37))
              · rcases Bool.eq_false_or_eq_true (!(!b || e23) : Bool) with hG_ | hG_
                rotate_left
                · exact reg_skip hK (by rw [(wanted_f rfl g1_).trans (show _ = (!(!b || e23) : Bool) by first | rfl | (simp; done)), hG_]; decide) (by show undef = ite _ _ _; rw [hG_]; rfl)
                all_goals (cases b <;> first | (exfalso; simp at hG_; done) | skip)
                all_goals (cases e23 <;> first | (exfalso; simp at hG_; done) | skip)
                all_goals (repeat' (first
                    | (refine reg_skip hK ?_ rfl; (simp [wantedG, asB, undef, g1_, g2_, g3_]; done))
                    | (refine reg_val hK ?_ ?_ (grow_refl _) rfl
                       · first | rfl | (simp [wantedG, asB, undef, g1_, g2_, g3_]; done)
                       · skip
                         (try (obtain ⟨y1, y2, y3⟩ := HY.out rfl; replace y3 := cellG HB.out hg y3))
                         go_simp
                         done)
                    | cases e27 | cases e37))
              · rcases Bool.eq_false_or_eq_true ((!(!b || e23) && e27) : Bool) with hG_ | hG_
                rotate_left
                · exact reg_skip hK (by rw [(wanted_it rfl g1_).trans (show _ = ((!(!b || e23) && e27) : Bool) by first | rfl | (simp; done)), hG_]; decide) (by show undef = ite _ _ _; rw [hG_]; rfl)
                all_goals (cases b <;> first | (exfalso; simp at hG_; done) | skip)
                all_goals (cases e27 <;> first | (exfalso; simp at hG_; done) | skip)
                all_goals (cases e23 <;> first | (exfalso; simp at hG_; done) | skip)
                all_goals (repeat' (first
                    | (refine reg_skip hK ?_ rfl; (simp [wantedG, asB, undef, g1_, g2_, g3_]; done))
                    | (refine reg_val hK ?_ ?_ (grow_refl _) rfl
                       · first | rfl | (simp [wantedG, asB, undef, g1_, g2_, g3_]; done)
                       · skip
                         (try (obtain ⟨y1, y2, y3⟩ := HY.out rfl; replace y3 := cellG HB.out hg y3))
                         go_simp
                         done)
                    | cases e37))
              · rcases Bool.eq_false_or_eq_true ((!(!b || e23) && e27) : Bool) with hG_ | hG_
                rotate_left
                · exact reg_skip hK (by rw [(wanted_it rfl g1_).trans (show _ = ((!(!b || e23) && e27) : Bool) by first | rfl | (simp; done)), hG_]; decide) (by show undef = ite _ _ _; rw [hG_]; rfl)
                all_goals (cases b <;> first | (exfalso; simp at hG_; done) | skip)
                all_goals (cases e27 <;> first | (exfalso; simp at hG_; done) | skip)
                all_goals (cases e23 <;> first | (exfalso; simp at hG_; done) | skip)
                all_goals (repeat' (first
                    | (refine reg_skip hK ?_ rfl; (simp [wantedG, asB, undef, g1_, g2_, g3_]; done))
                    | (refine reg_val hK ?_ ?_ (grow_refl _) rfl
                       · first | rfl | (simp [wantedG, asB, undef, g1_, g2_, g3_]; done)
                       · skip
                         (try (obtain ⟨y1, y2, y3⟩ := HY.out rfl; replace y3 := cellG HB.out hg y3))
                         go_simp
                         done)
                    | cases e37))
              · rcases Bool.eq_false_or_eq_true ((!(!b || e23) && e27) : Bool) with hG_ | hG_
                rotate_left
                · exact reg_skip hK (by rw [(wanted_it rfl g1_).trans (show _ = ((!(!b || e23) && e27) : Bool) by first | rfl | (simp; done)), hG_]; decide) (by show undef = ite _ _ _; rw [hG_]; rfl)
                all_goals (cases b <;> first | (exfalso; simp at hG_; done) | skip)
                all_goals (cases e27 <;> first | (exfalso; simp at hG_; done) | skip)
                all_goals (cases e23 <;> first | (exfalso; simp at hG_; done) | skip)
                all_goals (repeat' (first
                    | (refine reg_skip hK ?_ rfl; (simp [wantedG, asB, undef, g1_, g2_, g3_]; done))
                    | (refine reg_val hK ?_ ?_ (grow_refl _) rfl
                       · first | rfl | (simp [wantedG, asB, undef, g1_, g2_, g3_]; done)
                       · skip
                         (try (obtain ⟨y1, y2, y3⟩ := HY.out rfl; replace y3 := cellG HB.out hg y3))
                         go_simp
                         done)
                    | cases e37))
              · rcases Bool.eq_false_or_eq_true ((!(!b || e23) && e27) : Bool) with hG_ | hG_
                rotate_left
                · exact reg_skip hK (by rw [(wanted_it rfl g1_).trans (show _ = ((!(!b || e23) && e27) : Bool) by first | rfl | (simp; done)), hG_]; decide) (by show undef = ite _ _ _; rw [hG_]; rfl)
                all_goals (cases b <;> first | (exfalso; simp at hG_; done) | skip)
                all_goals (cases e27 <;> first | (exfalso; simp at hG_; done) | skip)
                all_goals (cases e23 <;> first | (exfalso; simp at hG_; done) | skip)
                all_goals (repeat' (first
                    | (refine reg_skip hK ?_ rfl; (simp [wantedG, asB, undef, g1_, g2_, g3_]; done))
                    | (refine reg_val hK ?_ ?_ (grow_refl _) rfl
                       · first | rfl | (simp [wantedG, asB, undef, g1_, g2_, g3_]; done)
                       · skip
                         (try (obtain ⟨y1, y2, y3⟩ := HY.out rfl; replace y3 := cellG HB.out hg y3))
                         go_simp
                         done)
                    | cases e37))
              · rcases Bool.eq_false_or_eq_true ((!(!b || e23) && e27) : Bool) with hG_ | hG_
                rotate_left
                · exact reg_skip hK (by rw [(wanted_it rfl g1_).trans (show _ = ((!(!b || e23) && e27) : Bool) by first | rfl | (simp; done)), hG_]; decide) (by show undef = ite _ _ _; rw [hG_]; rfl)
                all_goals (cases b <;> first | (exfalso; simp at hG_; done) | skip)
                all_goals (cases e27 <;> first | (exfalso; simp at hG_; done) | skip)
                all_goals (cases e23 <;> first | (exfalso; simp at hG_; done) | skip)
                all_goals (repeat' (first
                    | (refine reg_skip hK ?_ rfl; (simp [wantedG, asB, undef, g1_, g2_, g3_]; done))
                    | (refine reg_val hK ?_ ?_ (grow_refl _) rfl
                       · first | rfl | (simp [wantedG, asB, undef, g1_, g2_, g3_]; done)
                       · skip
                         (try (obtain ⟨y1, y2, y3⟩ := HY.out rfl; replace y3 := cellG HB.out hg y3))
                         go_simp
                         done)
                    | cases e37))
              · rcases Bool.eq_false_or_eq_true ((!(!b || e23) && e27) : Bool) with hG_ | hG_
                rotate_left
                · exact reg_skip hK (by rw [(wanted_it rfl g1_).trans (show _ = ((!(!b || e23) && e27) : Bool) by first | rfl | (simp; done)), hG_]; decide) (by show undef = ite _ _ _; rw [hG_]; rfl)
                all_goals (cases b <;> first | (exfalso; simp at hG_; done) | skip)
                all_goals (cases e27 <;> first | (exfalso; simp at hG_; done) | skip)
                all_goals (cases e23 <;> first | (exfalso; simp at hG_; done) | skip)
                all_goals (repeat' (first
                    | (refine reg_skip hK ?_ rfl; (simp [wantedG, asB, undef, g1_, g2_, g3_]; done))
                    | (refine reg_val hK ?_ ?_ (grow_refl _) rfl
                       · first | rfl | (simp [wantedG, asB, undef, g1_, g2_, g3_]; done)
                       · skip
                         (try (obtain ⟨y1, y2, y3⟩ := HY.out rfl; replace y3 := cellG HB.out hg y3))
                         go_simp
                         done)
                    | cases e37))
              · rcases Bool.eq_false_or_eq_true ((!(!b || e23) && e27) : Bool) with hG_ | hG_
                rotate_left
                · exact reg_skip hK (by rw [(wanted_it rfl g1_).trans (show _ = ((!(!b || e23) && e27) : Bool) by first | rfl | (simp; done)), hG_]; decide) (by show undef = ite _ _ _; rw [hG_]; rfl)
                all_goals (cases b <;> first | (exfalso; simp at hG_; done) | skip)
                all_goals (cases e27 <;> first | (exfalso; simp at hG_; done) | skip)
                all_goals (cases e23 <;> first | (exfalso; simp at hG_; done) | skip)
                all_goals (repeat' (first
                    | (refine reg_skip hK ?_ rfl; (simp [wantedG, asB, undef, g1_, g2_, g3_]; done))
                    | (refine reg_val hK ?_ ?_ (grow_refl _) rfl
                       · first | rfl | (simp [wantedG, asB, undef, g1_, g2_, g3_]; done)
                       · skip
                         (try (obtain ⟨y1, y2, y3⟩ := HY.out rfl; replace y3 := cellG HB.out hg y3))
                         go_simp
                         done)
                    | cases e37))
              · rcases Bool.eq_false_or_eq_true ((!(!b || e23) && e27) : Bool) with hG_ | hG_
                rotate_left
                · exact reg_skip hK (by rw [(wanted_it rfl g1_).trans (show _ = ((!(!b || e23) && e27) : Bool) by first | rfl | (simp; done)), hG_]; decide) (by show undef = ite _ _ _; rw [hG_]; rfl)
                all_goals (cases b <;> first | (exfalso; simp at hG_; done) | skip)
                all_goals (cases e27 <;> first | (exfalso; simp at hG_; done) | skip)
                all_goals (cases e23 <;> first | (exfalso; simp at hG_; done) | skip)
                all_goals (repeat' (first
                    | (refine reg_skip hK ?_ rfl; (simp [wantedG, asB, undef, g1_, g2_, g3_]; done))
                    | (refine reg_val hK ?_ ?_ (grow_refl _) rfl
                       · first | rfl | (simp [wantedG, asB, undef, g1_, g2_, g3_]; done)
                       · skip
                         (try (obtain ⟨y1, y2, y3⟩ := HY.out rfl; replace y3 := cellG HB.out hg y3))
                         go_simp
                         done)
                    | cases e37))
              · rcases Bool.eq_false_or_eq_true ((!(!b || e23) && e27) : Bool) with hG_ | hG_
                rotate_left
                · exact reg_skip hK (by rw [(wanted_it rfl g1_).trans (show _ = ((!(!b || e23) && e27) : Bool) by first | rfl | (simp; done)), hG_]; decide) (by show undef = ite _ _ _; rw [hG_]; rfl)
                all_goals (cases b <;> first | (exfalso; simp at hG_; done) | skip)
                all_goals (cases e27 <;> first | (exfalso; simp at hG_; done) | skip)
                all_goals (cases e23 <;> first | (exfalso; simp at hG_; done) | skip)
                all_goals (repeat' (first
                    | (refine reg_skip hK ?_ rfl; (simp [wantedG, asB, undef, g1_, g2_, g3_]; done))
                    | (refine reg_val hK ?_ ?_ (grow_refl _) rfl
                       · first | rfl | (simp [wantedG, asB, undef, g1_, g2_, g3_]; done)
                       · skip
                         (try (obtain ⟨y1, y2, y3⟩ := HY.out rfl; replace y3 := cellG HB.out hg y3))
                         go_simp
                         done)
                    | cases e37))
              · rcases Bool.eq_false_or_eq_true (!(!b || e23) : Bool) with hG_ | hG_
                rotate_left
                · exact reg_skip hK (by rw [(wanted_f rfl g1_).trans (show _ = (!(!b || e23) : Bool) by first | rfl | (simp; done)), hG_]; decide) (by show undef = ite _ _ _; rw [hG_]; rfl)
                all_goals (cases b <;> first | (exfalso; simp at hG_; done) | skip)
                all_goals (cases e23 <;> first | (exfalso; simp at hG_; done) | skip)
                all_goals (repeat' (first
                    | (refine reg_skip hK ?_ rfl; (simp [wantedG, asB, undef, g1_, g2_, g3_]; done))
                    | (refine reg_val hK ?_ ?_ (grow_refl _) rfl
                       · first | rfl | (simp [wantedG, asB, undef, g1_, g2_, g3_]; done)
                       · skip
                         (try (obtain ⟨y1, y2, y3⟩ := HY.out rfl; replace y3 := cellG HB.out hg y3))
                         go_simp
                         done)
                    | cases e27 | cases e37))
              · refine reg_pick hK rfl rfl g1_ (or_val ?_ g2_)
                first | rfl | (simp; done)
            case hE6 =>
              intro us w' hg hd
              have hZ : us 24 = .bool ((!b || e23) || (e27 && !e37)) := allR_get hd (by kernel_rfl)
              clear hd
              replace HB := AM (below_grow HB.out hg)
              replace hs0 := cellG (grow_refl _) hg hs0
              clear hyw hg hs1
              have H := Hfin.out
              rw [he37] at H
              rw [show decide (0 < x) = e27 by rw [Bool.eq_iff_iff, ← he27]; simp, show decide (1500 < ((rd_T92 l0 x).f1.size : Int)) = e23 by rw [Bool.eq_iff_iff, ← he23]; simp] at H
              rw [impl_FilesRight.bools] at H
              generalize ((!b || e23) || (e27 && !e37)) = Z at H hZ
              cases Z with
              | true =>
                have hr : r = false := by
                  rcases H with ⟨h, _⟩ | ⟨_, h⟩
                  · cases h
                  · exact h
                subst hr
                rw [hZ]
                clear hZ H hs0
                go_wp2
                go_ret
                exact ⟨rfl, HB.out⟩
              | false =>
                have H2 : ∃ c, impl_FilesRight.has k1 l0 (rd_T92 l0 x).f0 = some c ∧ ((c = true ∧ r = false) ∨ (c = false ∧ impl_FilesRight.l0 k1 l0 (wrap64 (x + 1)) = some r)) := by
                  rcases H with ⟨_, h⟩ | ⟨h, _⟩
                  · exact h
                  · cases h
                obtain ⟨c, hc, hr⟩ := H2
                have HCC := AM hc
                rw [hZ]
                clear hZ H hc
                rcases hr with ⟨rfl, rfl⟩ | ⟨rfl, hr⟩
                · go_wp2_with (go_at_call 72; refine (impl_FilesRight.any k1 (some ad) c0 l0 (rd_T92 l0 x).f0 g true _ (by repeat (first | exact Kd.C_below HR0.out HB.out | (with_reducible refine Kd.C_drewN ?_ _) | (with_reducible refine Kd.C_drew ?_))) HC0.out (impl_FilesRight.short k1 _ _ Hb.out) hs0 HCC.out).mono ?_; rintro e w4 ⟨rfl, hb⟩; replace HB := AM (below_step (by repeat (first | exact HB.out | apply pw_below_drewN | apply below_drew1)) hb); clear hb hs0)
                  go_ret
                  exact ⟨rfl, by repeat (first | exact HB.out | apply pw_below_drewN | apply below_drew1)⟩
                · have H1 := AM hr
                  clear hr
                  go_wp2_with (go_at_call 72; refine (impl_FilesRight.any k1 (some ad) c0 l0 (rd_T92 l0 x).f0 g false _ (by repeat (first | exact Kd.C_below HR0.out HB.out | (with_reducible refine Kd.C_drewN ?_ _) | (with_reducible refine Kd.C_drew ?_))) HC0.out (impl_FilesRight.short k1 _ _ Hb.out) hs0 HCC.out).mono ?_; rintro e w4 ⟨rfl, hb⟩; replace HB := AM (below_step (by repeat (first | exact HB.out | apply pw_below_drewN | apply below_drew1)) hb); clear hb hs0)
                  go_roundg k1
                  case measure => have := HK1.out; omega
                  case rel => exact ⟨(wrap64 (x + 1)), (by first | rfl | (simp; done) | (simp [*]; done)), H1, ⟨by have := HK1.out; omega⟩, ⟨by repeat (first | exact HB.out | apply pw_below_drewN | apply below_drew1)⟩⟩
          · have H := HA.out
            simp only [impl_FilesRight.l0] at H
            rw [if_pos c3, if_neg c4] at H
            exact absurd H (by simp)
        · have H := HA.out
          simp only [impl_FilesRight.l0] at H
          rw [if_neg c3] at H
          have c3b0 : decide (x < (l0.length : Int)) = false := decide_eq_false c3
          clear c3 HA
          obtain rfl := Option.some.inj H
          clear H
          go_wp2
          go_ret
          exact ⟨rfl, HB.out⟩

/-! ### laws_eqFile: function 75 -/
def laws_eqFile.f (a0_0 : ByteArray) (a0_1 : ByteArray) (a1_0 : ByteArray) (a1_1 : ByteArray) : Option (Bool) := if a0_0.toList = a1_0.toList then (if a0_1.toList = a1_1.toList then (some true) else (some false)) else (some false)
set_option maxHeartbeats 8000000 in
set_option maxRecDepth 100000 in
theorem laws_eqFile.calls (a0_0 : ByteArray) (a0_1 : ByteArray) (a1_0 : ByteArray) (a1_1 : ByteArray) (r : Bool) (w : World) (h : laws_eqFile.f a0_0 a0_1 a1_0 a1_1 = some r) :
    Calls Tryd.prog 75 #[.agg #[.string a0_0, .string a0_1], .agg #[.string a1_0, .string a1_1]] w fun e w' => e = .returned (.bool r) ∧ Below w.heap.size w w' := by
  have hu92 := Tryd.underlying92
  have HB := AM (Below.refl w.heap.size w)
  have H : (if a0_0.toList = a1_0.toList then (if a0_1.toList = a1_1.toList then (some true) else (some false)) else (some false)) = some r := h
  clear h
  by_cases c3 : a0_0.toList = a1_0.toList
  · rw [if_pos c3] at H
    have c3b0 : (a0_0.toList == a1_0.toList) = true := beq_iff_eq.mpr c3
    have c3b1 : (a0_0.toList != a1_0.toList) = false := bne_eq_false_iff_eq.mpr c3
    clear c3
    by_cases c4 : a0_1.toList = a1_1.toList
    · rw [if_pos c4] at H
      have c4b0 : (a0_1.toList == a1_1.toList) = true := beq_iff_eq.mpr c4
      have c4b1 : (a0_1.toList != a1_1.toList) = false := bne_eq_false_iff_eq.mpr c4
      clear c4
      obtain rfl := Option.some.inj H
      go_enter Tryd.func75, Tryd.ntmps75
      go_wp2_with (first | ((with_reducible refine gate_dst (N := 2) rfl ?_); refine be_ 2 #[.string a0_0, .string a0_1] 92 ?_; intro gb148 hg w5 hbox hb; have BK148 := AM hbox; have GW148 := AM ((by rw [hg]; exact (below_size bel_) : w.heap.size ≤ gb148)); have GE148 := AM ((by rw [hg]; exact (below_size bel_) : w.heap.size ≤ gb148)); replace HB := AM (below_step bel_ hb); clear hb hbox hg) | ((with_reducible refine gate_dst (N := 3) rfl ?_); refine be_ 3 #[.string a1_0, .string a1_1] 92 ?_; intro gb149 hg w6 hbox hb; have BK149 := AM hbox; have GW149 := AM ((by rw [hg]; exact (below_size bel_) : w.heap.size ≤ gb149)); have GE149 := AM ((by rw [hg]; exact (below_size bel_) : w.heap.size ≤ gb149)); replace HB := AM (below_step bel_ hb); have NB148_149 := AM ((by rw [hg]; exact Nat.ne_of_lt (blk_lt (g := gb148) (o := .cells #[.string a0_0, .string a0_1] 92 (0, 0)) (bk_ BK148.out)) : gb148 ≠ gb149)); have NB149_148 := AM ((by rw [hg]; exact Nat.ne_of_gt (blk_lt (g := gb148) (o := .cells #[.string a0_0, .string a0_1] 92 (0, 0)) (bk_ BK148.out)) : gb149 ≠ gb148)); replace BK148 := AM (blk_below (g := gb148) (o := .cells #[.string a0_0, .string a0_1] 92 (0, 0)) (bk_ BK148.out) hb); clear hb hbox hg; have hnb7 := NB148_149.out; have hnc7 := NB149_148.out; have hcz8_0 : w6.cell? ⟨gb148, 0, none⟩ = some (.string a0_0) := (blk_cell BK148.out 0).trans rfl; have hcz8_1 : w6.cell? ⟨gb148, 1, none⟩ = some (.string a0_1) := (blk_cell BK148.out 1).trans rfl; have hfz8_0 := blk_frozen BK148.out 0; have hfz8_1 := blk_frozen BK148.out 1; have hcz9_0 : w6.cell? ⟨gb149, 0, none⟩ = some (.string a1_0) := (blk_cell BK149.out 0).trans rfl; have hcz9_1 : w6.cell? ⟨gb149, 1, none⟩ = some (.string a1_1) := (blk_cell BK149.out 1).trans rfl; have hfz9_0 := blk_frozen BK149.out 0; have hfz9_1 := blk_frozen BK149.out 1))
      go_ret
      exact ⟨ri_, bel_⟩
    · rw [if_neg c4] at H
      have c4b0 : (a0_1.toList == a1_1.toList) = false := beq_eq_false_iff_ne.mpr c4
      have c4b1 : (a0_1.toList != a1_1.toList) = true := bne_iff_ne.mpr c4
      obtain rfl := Option.some.inj H
      go_enter Tryd.func75, Tryd.ntmps75
      go_wp2_with (first | ((with_reducible refine gate_dst (N := 2) rfl ?_); refine be_ 2 #[.string a0_0, .string a0_1] 92 ?_; intro gb148 hg w10 hbox hb; have BK148 := AM hbox; have GW148 := AM ((by rw [hg]; exact (below_size bel_) : w.heap.size ≤ gb148)); have GE148 := AM ((by rw [hg]; exact (below_size bel_) : w.heap.size ≤ gb148)); replace HB := AM (below_step bel_ hb); clear hb hbox hg) | ((with_reducible refine gate_dst (N := 3) rfl ?_); refine be_ 3 #[.string a1_0, .string a1_1] 92 ?_; intro gb149 hg w11 hbox hb; have BK149 := AM hbox; have GW149 := AM ((by rw [hg]; exact (below_size bel_) : w.heap.size ≤ gb149)); have GE149 := AM ((by rw [hg]; exact (below_size bel_) : w.heap.size ≤ gb149)); replace HB := AM (below_step bel_ hb); have NB148_149 := AM ((by rw [hg]; exact Nat.ne_of_lt (blk_lt (g := gb148) (o := .cells #[.string a0_0, .string a0_1] 92 (0, 0)) (bk_ BK148.out)) : gb148 ≠ gb149)); have NB149_148 := AM ((by rw [hg]; exact Nat.ne_of_gt (blk_lt (g := gb148) (o := .cells #[.string a0_0, .string a0_1] 92 (0, 0)) (bk_ BK148.out)) : gb149 ≠ gb148)); replace BK148 := AM (blk_below (g := gb148) (o := .cells #[.string a0_0, .string a0_1] 92 (0, 0)) (bk_ BK148.out) hb); clear hb hbox hg; have hnb12 := NB148_149.out; have hnc12 := NB149_148.out; have hcz13_0 : w11.cell? ⟨gb148, 0, none⟩ = some (.string a0_0) := (blk_cell BK148.out 0).trans rfl; have hcz13_1 : w11.cell? ⟨gb148, 1, none⟩ = some (.string a0_1) := (blk_cell BK148.out 1).trans rfl; have hfz13_0 := blk_frozen BK148.out 0; have hfz13_1 := blk_frozen BK148.out 1; have hcz14_0 : w11.cell? ⟨gb149, 0, none⟩ = some (.string a1_0) := (blk_cell BK149.out 0).trans rfl; have hcz14_1 : w11.cell? ⟨gb149, 1, none⟩ = some (.string a1_1) := (blk_cell BK149.out 1).trans rfl; have hfz14_0 := blk_frozen BK149.out 0; have hfz14_1 := blk_frozen BK149.out 1))
      go_ret
      exact ⟨ri_, bel_⟩
  · rw [if_neg c3] at H
    have c3b0 : (a0_0.toList == a1_0.toList) = false := beq_eq_false_iff_ne.mpr c3
    have c3b1 : (a0_0.toList != a1_0.toList) = true := bne_iff_ne.mpr c3
    obtain rfl := Option.some.inj H
    go_enter Tryd.func75, Tryd.ntmps75
    go_wp2_with (first | ((with_reducible refine gate_dst (N := 2) rfl ?_); refine be_ 2 #[.string a0_0, .string a0_1] 92 ?_; intro gb148 hg w15 hbox hb; have BK148 := AM hbox; have GW148 := AM ((by rw [hg]; exact (below_size bel_) : w.heap.size ≤ gb148)); have GE148 := AM ((by rw [hg]; exact (below_size bel_) : w.heap.size ≤ gb148)); replace HB := AM (below_step bel_ hb); clear hb hbox hg) | ((with_reducible refine gate_dst (N := 3) rfl ?_); refine be_ 3 #[.string a1_0, .string a1_1] 92 ?_; intro gb149 hg w16 hbox hb; have BK149 := AM hbox; have GW149 := AM ((by rw [hg]; exact (below_size bel_) : w.heap.size ≤ gb149)); have GE149 := AM ((by rw [hg]; exact (below_size bel_) : w.heap.size ≤ gb149)); replace HB := AM (below_step bel_ hb); have NB148_149 := AM ((by rw [hg]; exact Nat.ne_of_lt (blk_lt (g := gb148) (o := .cells #[.string a0_0, .string a0_1] 92 (0, 0)) (bk_ BK148.out)) : gb148 ≠ gb149)); have NB149_148 := AM ((by rw [hg]; exact Nat.ne_of_gt (blk_lt (g := gb148) (o := .cells #[.string a0_0, .string a0_1] 92 (0, 0)) (bk_ BK148.out)) : gb149 ≠ gb148)); replace BK148 := AM (blk_below (g := gb148) (o := .cells #[.string a0_0, .string a0_1] 92 (0, 0)) (bk_ BK148.out) hb); clear hb hbox hg; have hnb17 := NB148_149.out; have hnc17 := NB149_148.out; have hcz18_0 : w16.cell? ⟨gb148, 0, none⟩ = some (.string a0_0) := (blk_cell BK148.out 0).trans rfl; have hcz18_1 : w16.cell? ⟨gb148, 1, none⟩ = some (.string a0_1) := (blk_cell BK148.out 1).trans rfl; have hfz18_0 := blk_frozen BK148.out 0; have hfz18_1 := blk_frozen BK148.out 1; have hcz19_0 : w16.cell? ⟨gb149, 0, none⟩ = some (.string a1_0) := (blk_cell BK149.out 0).trans rfl; have hcz19_1 : w16.cell? ⟨gb149, 1, none⟩ = some (.string a1_1) := (blk_cell BK149.out 1).trans rfl; have hfz19_0 := blk_frozen BK149.out 0; have hfz19_1 := blk_frozen BK149.out 1))
    go_ret
    exact ⟨ri_, bel_⟩

end Go.Proofs.YtfffdndeccipnaaDoor.PFnExactFilesRight
