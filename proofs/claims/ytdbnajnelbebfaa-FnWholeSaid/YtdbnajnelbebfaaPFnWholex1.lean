/- Functions of the law FnWhole: the print's, with walks of this session's own. No statement is proved here. -/
import Derived.BigRegion
import Derived.ChangeAlike
import Derived.RegionTactic
import Derived.WalkLawsBesides
import Derived.Test.YtdbnajnelbebfaaVRegFnWhole
-- A program of this session wrote this text: a changed copy of the kit print, with given functions.
import Derived.Test.YtdbnajnelbebfaaPFnWholex0
namespace Go.Proofs.Ytdbnajnelbebfaa.PFnWhole
open Go.RowKit Go.Proofs.YtdbnajnelbebfaaW.PrintWords Go.Proofs.YtdbnajnelbebfaaW.PrintLast Go.Proofs.YtdbnajnelbebfaaW.PrintMore Go.Proofs.Ytdbnajnelbebfaa.Reg Go.Proofs.Ytdbnajnelbebfaa.Aut
attribute [local go_sem] max2_int min2_int max_two min_two max_three min_three max_four min_four   -- for this text's walks alone
set_option linter.unusedVariables false
set_option linter.unusedSimpArgs false

/-- A state of type 144 at block g of W; what its slices lead to came in by w0. -/
def IsS144 (w0 W : World) (g : Nat) (f0 : List Int) (f1 : Int) (f2 : Int) (f3 : Int) : Prop := ∃ A0 c0, W.heap[g]? = some (.cells #[.slice A0 f0.length c0, .int .i64 f1, .int .u64 f2, .int .i64 f3] 144 (0, 0)) ∧ w0.heap.size ≤ g ∧ Kd.C (Kd.int .u8) w0 A0 f0.length f0
theorem IsS144.grown {w0 W : World} {g : Nat} {f0 : List Int} {f1 : Int} {f2 : Int} {f3 : Int} {W1 : World} {row : Option Nat} (h : IsS144 w0 W g f0 f1 f2 f3) (hw : W.grownBy W1 row) (hne : some g ≠ row) : IsS144 w0 W1 g f0 f1 f2 f3 := by
  obtain ⟨A0, c0, hb, hg, hr0⟩ := h
  exact ⟨A0, c0, blk_grown hb hw hne, hg, hr0⟩
theorem IsS144.own_neN {w0 W : World} {g : Nat} {f0 : List Int} {f1 : Int} {f2 : Int} {f3 : Int} {α : Type} {d : Kd α} {e : Nat} {base : Nat} {ok : Nat → Prop} {v : Value} {xs : List α} (h : IsS144 w0 W g f0 f1 f2 f3) (ho : Kd.N d e W base ok v xs) (ht : e ≠ 144) : some g ≠ v.ownBlock := by
  obtain ⟨A0, c0, hb, hg, hr0⟩ := h
  exact Kd.N_ne ho hb ht
theorem IsS144.fresh {w0 W : World} {g : Nat} {f0 : List Int} {f1 : Int} {f2 : Int} {f3 : Int} (h : IsS144 w0 W g f0 f1 f2 f3) : ∀ k, W.heap.size ≤ k → k ≠ g := by
  obtain ⟨A0, c0, hb, hg, hr0⟩ := h
  exact Kd.freshB hb
theorem IsS144.kept {w0 W : World} {g : Nat} {f0 : List Int} {f1 : Int} {f2 : Int} {f3 : Int} {W1 : World} {S : Nat → Prop} (h : IsS144 w0 W g f0 f1 f2 f3) (hk : Kept W W1 S) (hne : ¬ S g) : IsS144 w0 W1 g f0 f1 f2 f3 := by
  obtain ⟨A0, c0, hb, hg, hr0⟩ := h
  exact ⟨A0, c0, blk_kept hb hk hne, hg, hr0⟩
theorem IsS144.below {w0 W : World} {g : Nat} {f0 : List Int} {f1 : Int} {f2 : Int} {f3 : Int} {W1 : World} (h : IsS144 w0 W g f0 f1 f2 f3) (hw : Below W.heap.size W W1) : IsS144 w0 W1 g f0 f1 f2 f3 := h.grown (grown_of_below hw none) (by simp)
theorem IsS144.alloc {w0 W : World} {g : Nat} {f0 : List Int} {f1 : Int} {f2 : Int} {f3 : Int} (h : IsS144 w0 W g f0 f1 f2 f3) (o : Obj) : IsS144 w0 (W.alloc o) g f0 f1 f2 f3 := h.below (below_alloc (Below.refl _ _) o)
theorem IsS144.drewN {w0 W : World} {g : Nat} {f0 : List Int} {f1 : Int} {f2 : Int} {f3 : Int} (h : IsS144 w0 W g f0 f1 f2 f3) (m : Nat) : IsS144 w0 (W.drewN m) g f0 f1 f2 f3 := h
theorem IsS144.drew {w0 W : World} {g : Nat} {f0 : List Int} {f1 : Int} {f2 : Int} {f3 : Int} (h : IsS144 w0 W g f0 f1 f2 f3) : IsS144 w0 W.drew g f0 f1 f2 f3 := h
theorem IsS144.at_ {w0 W : World} {g : Nat} {f0 : List Int} {f1 : Int} {f2 : Int} {f3 : Int} {w' : World} {m : Nat} (hq : W.drewN m = w') (h : IsS144 w0 W g f0 f1 f2 f3) : IsS144 w0 w' g f0 f1 f2 f3 := by subst hq; exact IsS144.drewN h m
theorem IsS144.apart {w0 W : World} {g : Nat} {f0 : List Int} {f1 : Int} {f2 : Int} {f3 : Int} {α : Type} {d : Kd α} {e : Nat} {base : Nat} {ok : Nat → Prop} {v : Value} {xs : List α} (h : IsS144 w0 W g f0 f1 f2 f3) (ho : d.R e W base ok v xs) (ht : ∀ q, q ∈ e :: d.E → q ≠ 144) : d.R e W base (fun k => ok k ∧ k ≠ g) v xs := by
  obtain ⟨A0, c0, hb, hg, hr0⟩ := h
  exact Kd.R_types ho hb ht
theorem IsS144.own_ne {w0 W : World} {g : Nat} {f0 : List Int} {f1 : Int} {f2 : Int} {f3 : Int} {α : Type} {d : Kd α} {e : Nat} {base : Nat} {ok : Nat → Prop} {v : Value} {xs : List α} (h : IsS144 w0 W g f0 f1 f2 f3) (ho : d.R e W base ok v xs) (ht : e ≠ 144) : some g ≠ v.ownBlock := by
  obtain ⟨A0, c0, hb, hg, hr0⟩ := h
  exact Kd.R_ne ho hb ht
theorem IsS144.apartQ {w0 W : World} {g : Nat} {f0 : List Int} {f1 : Int} {f2 : Int} {f3 : Int} {α : Type} {d : Kd α} {e : Nat} {base : Nat} {ok : Nat → Prop} {v : Value} {xs : List α} (h : IsS144 w0 W g f0 f1 f2 f3) (ho : d.Q e W base ok v xs) (ht : ∀ q, q ∈ e :: d.E → q ≠ 144) : d.Q e W base (fun k => ok k ∧ k ≠ g) v xs := by
  obtain ⟨A0, c0, hb, hg, hr0⟩ := h
  exact Kd.Q_types ho hb ht
theorem IsS144.own_neQ {w0 W : World} {g : Nat} {f0 : List Int} {f1 : Int} {f2 : Int} {f3 : Int} {α : Type} {d : Kd α} {e : Nat} {base : Nat} {ok : Nat → Prop} {v : Value} {xs : List α} (h : IsS144 w0 W g f0 f1 f2 f3) (ho : d.Q e W base ok v xs) (ht : e ≠ 144) : some g ≠ v.ownBlock := by
  obtain ⟨A0, c0, hb, hg, hr0⟩ := h
  exact Kd.Q_ne ho hb ht
theorem IsS144.apartS {w0 W : World} {g : Nat} {f0 : List Int} {f1 : Int} {f2 : Int} {f3 : Int} {α : Type} {d : Kd α} {e : Nat} {base : Nat} {ok : Nat → Prop} {v : Value} {xs : List α} (h : IsS144 w0 W g f0 f1 f2 f3) (ho : d.S e W base ok v xs) (ht : ∀ q, q ∈ e :: d.E → q ≠ 144) : d.S e W base (fun k => ok k ∧ k ≠ g) v xs := by
  obtain ⟨A0, c0, hb, hg, hr0⟩ := h
  exact Kd.S_types ho hb ht
theorem IsS144.own_neS {w0 W : World} {g : Nat} {f0 : List Int} {f1 : Int} {f2 : Int} {f3 : Int} {α : Type} {d : Kd α} {e : Nat} {base : Nat} {ok : Nat → Prop} {v : Value} {xs : List α} (h : IsS144 w0 W g f0 f1 f2 f3) (ho : d.S e W base ok v xs) (ht : e ≠ 144) : some g ≠ v.ownBlock := by
  obtain ⟨A0, c0, hb, hg, hr0⟩ := h
  exact Kd.S_ne ho hb ht
theorem IsS144.lt {w0 W : World} {g : Nat} {f0 : List Int} {f1 : Int} {f2 : Int} {f3 : Int} (h : IsS144 w0 W g f0 f1 f2 f3) : g < W.heap.size := by
  obtain ⟨A0, c0, hb, hg, hr0⟩ := h
  exact blk_lt hb
theorem IsS144.ge {w0 W : World} {g : Nat} {f0 : List Int} {f1 : Int} {f2 : Int} {f3 : Int} (h : IsS144 w0 W g f0 f1 f2 f3) : w0.heap.size ≤ g := by
  obtain ⟨A0, c0, hb, hg, hr0⟩ := h
  exact hg
theorem IsS144.ne_blk {w0 W : World} {g : Nat} {f0 : List Int} {f1 : Int} {f2 : Int} {f3 : Int} {a : Nat} {cs : Array Value} {t : TypeId} {fr : Nat × Nat} (h : IsS144 w0 W g f0 f1 f2 f3) (hb2 : W.heap[a]? = some (.cells cs t fr)) (ht : t ≠ 144) : g ≠ a := by
  obtain ⟨A0, c0, hb, hg, hr0⟩ := h
  rintro rfl
  rw [hb] at hb2
  injection hb2 with hb2
  injection hb2 with _ ht2
  exact ht ht2.symm
theorem IsS144.far {w0 W : World} {g : Nat} {f0 : List Int} {f1 : Int} {f2 : Int} {f3 : Int} {p : Addr} (h : IsS144 w0 W g f0 f1 f2 f3) (hne : g ≠ p.block) (u : Value) : IsS144 w0 (W.setCell p u) g f0 f1 f2 f3 := by
  obtain ⟨A0, c0, hb, hg, hr0⟩ := h
  exact ⟨A0, c0, blk_far hb hne u, hg, hr0⟩
theorem cellS144_0 {W : World} {g : Nat} {A0 : Option Addr} {c0 : Nat} {f0 : List Int} {f1 : Int} {f2 : Int} {f3 : Int} (h : W.heap[g]? = some (.cells #[.slice A0 f0.length c0, .int .i64 f1, .int .u64 f2, .int .i64 f3] 144 (0, 0))) : W.cell? ⟨g, 0, none⟩ = some (.slice A0 f0.length c0) := (blk_cell h 0).trans rfl
theorem cellS144_1 {W : World} {g : Nat} {A0 : Option Addr} {c0 : Nat} {f0 : List Int} {f1 : Int} {f2 : Int} {f3 : Int} (h : W.heap[g]? = some (.cells #[.slice A0 f0.length c0, .int .i64 f1, .int .u64 f2, .int .i64 f3] 144 (0, 0))) : W.cell? ⟨g, 1, none⟩ = some (.int .i64 f1) := (blk_cell h 1).trans rfl
theorem IsS144.set_1 {w0 W : World} {g : Nat} {f0 : List Int} {f1 : Int} {f2 : Int} {f3 : Int} (h : IsS144 w0 W g f0 f1 f2 f3) (x : Int) : IsS144 w0 (W.setCell ⟨g, 1, none⟩ (.int .i64 x)) g f0 x f2 f3 := by
  obtain ⟨A0, c0, hb, hg, hr0⟩ := h
  exact ⟨A0, c0, by simpa using blk_set hb 1 (.int .i64 x), hg, hr0⟩
theorem cellS144_2 {W : World} {g : Nat} {A0 : Option Addr} {c0 : Nat} {f0 : List Int} {f1 : Int} {f2 : Int} {f3 : Int} (h : W.heap[g]? = some (.cells #[.slice A0 f0.length c0, .int .i64 f1, .int .u64 f2, .int .i64 f3] 144 (0, 0))) : W.cell? ⟨g, 2, none⟩ = some (.int .u64 f2) := (blk_cell h 2).trans rfl
theorem IsS144.set_2 {w0 W : World} {g : Nat} {f0 : List Int} {f1 : Int} {f2 : Int} {f3 : Int} (h : IsS144 w0 W g f0 f1 f2 f3) (x : Int) : IsS144 w0 (W.setCell ⟨g, 2, none⟩ (.int .u64 x)) g f0 f1 x f3 := by
  obtain ⟨A0, c0, hb, hg, hr0⟩ := h
  exact ⟨A0, c0, by simpa using blk_set hb 2 (.int .u64 x), hg, hr0⟩
theorem cellS144_3 {W : World} {g : Nat} {A0 : Option Addr} {c0 : Nat} {f0 : List Int} {f1 : Int} {f2 : Int} {f3 : Int} (h : W.heap[g]? = some (.cells #[.slice A0 f0.length c0, .int .i64 f1, .int .u64 f2, .int .i64 f3] 144 (0, 0))) : W.cell? ⟨g, 3, none⟩ = some (.int .i64 f3) := (blk_cell h 3).trans rfl
theorem IsS144.set_3 {w0 W : World} {g : Nat} {f0 : List Int} {f1 : Int} {f2 : Int} {f3 : Int} (h : IsS144 w0 W g f0 f1 f2 f3) (x : Int) : IsS144 w0 (W.setCell ⟨g, 3, none⟩ (.int .i64 x)) g f0 f1 f2 x := by
  obtain ⟨A0, c0, hb, hg, hr0⟩ := h
  exact ⟨A0, c0, by simpa using blk_set hb 3 (.int .i64 x), hg, hr0⟩
theorem IsS144.new (w0 W : World) (A0 : Option Addr) (c0 : Nat) (f0 : List Int) (f1 : Int) (f2 : Int) (f3 : Int) (hB : Below w0.heap.size w0 W) (hr0 : Kd.C (Kd.int .u8) w0 A0 f0.length f0) : IsS144 w0 (W.alloc (.cells #[.slice A0 f0.length c0, .int .i64 f1, .int .u64 f2, .int .i64 f3] 144)) W.heap.size f0 f1 f2 f3 := ⟨A0, c0, by simpa using heap_alloc_new W _, hB.size, hr0⟩

/-! ### spec_l01Source: function 48 -/
theorem IsS144.farA {w0 W : World} {g : Nat} {f0 : List Int} {f1 : Int} {f2 : Int} {f3 : Int} {p : Addr} {u : Value} (hne : Aside0 (g ≠ p.block)) (h : IsS144 w0 W g f0 f1 f2 f3) : IsS144 w0 (W.setCell p u) g f0 f1 f2 f3 := IsS144.far h hne.out u
theorem is144_ {w0 W : World} {g : Nat} {f0 : List Int} {f1 : Int} {f2 : Int} {f3 : Int} (h : IsS144 w0 W g f0 f1 f2 f3 := by repeat (first | (with_reducible first | (refine Aside0.out ?_; assumption) | apply IsS144.alloc | apply IsS144.drewN | apply IsS144.drew | (apply IsS144.farA; assumption) | apply IsS144.set_1 | apply IsS144.set_2 | apply IsS144.set_3) | (refine Aside0.out ?_; assumption))) : IsS144 w0 W g f0 f1 f2 f3 := h
def spec_l01Source.l0 : Nat → List Int → Int → List Int → Int → Int → Int → Option (List Int × Int × Int × Int)
  | 0, _, _, _, _, _, _ => none
  | k + 1, x0, x4, x102000, x102001, x102002, x102003 => if x4 < (x0.length : Int) then (if x4 < 64 then (if 0 ≤ x4 then (spec_l01Source.l0 k x0 (wrap64 (x4 + 1)) x102000 x102001 (IntKind.u64.wrap ((Go.bits .xor .u64 x102002 (IntKind.u64.wrap (rd x0 x4))) * 1099511628211)) x102003) else (none)) else (if (wrap64 ((x0.length : Int) / 20)) > 12 then (some (x102000, x102001, x102002, 12)) else (some (x102000, x102001, x102002, wrap64 ((x0.length : Int) / 20))))) else (if (wrap64 ((x0.length : Int) / 20)) > 12 then (some (x102000, x102001, x102002, 12)) else (some (x102000, x102001, x102002, wrap64 ((x0.length : Int) / 20))))
def spec_l01Source.f (k : Nat) (l0 : List Int) : Option (List Int × Int × Int × Int) := spec_l01Source.l0 k l0 0 l0 0 88172645463325252 0
theorem spec_l01Source.mono_l : ∀ k, (∀ y0 y1 y2 y3 y4 y5, LeO (spec_l01Source.l0 k y0 y1 y2 y3 y4 y5) (spec_l01Source.l0 (k + 1) y0 y1 y2 y3 y4 y5))
  | 0 => fun _ _ _ _ _ _ r h => by simp [spec_l01Source.l0] at h
  | k + 1 => by
    have ih0 := spec_l01Source.mono_l k
    · intro y0 y1 y2 y3 y4 y5
      unfold spec_l01Source.l0
      repeat' first
      | (with_reducible exact ih0 _ _ _ _ _ _)
      | (with_reducible exact LeO.refl _)
      | (with_reducible exact LeO.none _)
      | (with_reducible refine LeO.ite ?_ ?_)
      | (with_reducible refine LeO.bind ?_ (fun _ => ?_))
      | exact ih0 _ _ _ _ _ _
      | exact LeO.none _
      | refine LeO.ite ?_ ?_
      | refine LeO.bind ?_ (fun _ => ?_)
theorem spec_l01Source.mono : ∀ a0 k, LeO (spec_l01Source.f k a0) (spec_l01Source.f (k + 1) a0) := by
  intro a0 k
  have ih0 := spec_l01Source.mono_l k
  unfold spec_l01Source.f
  repeat' first
      | (with_reducible exact ih0 _ _ _ _ _ _)
      | (with_reducible exact LeO.refl _)
      | (with_reducible exact LeO.none _)
      | (with_reducible refine LeO.ite ?_ ?_)
      | (with_reducible refine LeO.bind ?_ (fun _ => ?_))
      | exact ih0 _ _ _ _ _ _
      | exact LeO.none _
      | refine LeO.ite ?_ ?_
      | refine LeO.bind ?_ (fun _ => ?_)
set_option maxHeartbeats 8000000 in
set_option maxRecDepth 100000 in
theorem spec_l01Source.calls (k : Nat) (A0 : Option Addr) (c0 : Nat) (l0 : List Int) (r1 : List Int) (r2 : Int) (r3 : Int) (r4 : Int) (w0 w : World) (hB : Below w0.heap.size w0 w) (hr0 : Kd.C (Kd.int .u8) w0 A0 l0.length l0) (hc0 : l0.length ≤ c0) (h : spec_l01Source.f k l0 = some (r1, r2, r3, r4)) :
    Calls Try.prog 48 #[.slice A0 l0.length c0] w fun e w' => ∃ g_ : Nat, e = .returned (.pointer (some ⟨g_, 0, none⟩)) ∧ IsS144 w0 w' g_ r1 r2 r3 r4 ∧ Below w0.heap.size w0 w' ∧ Below w.heap.size w w' := by
  have hu := Try.underlying144
  have HR0 := AM hr0
  have HC0 := AM hc0
  have HW0 := AM hB.size
  have hI := IsS144.new w0 w A0 c0 l0 0 88172645463325252 0 hB hr0
  have HI0 := AM hI
  have HB0 := AM (hB.alloc hB.size (Obj.cells #[.slice A0 l0.length c0, .int .i64 0, .int .u64 88172645463325252, .int .i64 0] 144))
  have HV0 := AM ((Below.refl w.heap.size w).alloc (Nat.le_refl _) (Obj.cells #[.slice A0 l0.length c0, .int .i64 0, .int .u64 88172645463325252, .int .i64 0] 144))
  have H' := AM (show spec_l01Source.l0 k l0 0 l0 0 88172645463325252 0 = some (r1, r2, r3, r4) from h)
  clear hB hr0 hc0 hI h
  go_enter Try.func48, Try.ntmps48
  go_wp2
  generalize hq : World.alloc w _ = w1 at HI0 HB0 HV0 ⊢
  revert HI0
  generalize hgg : w.heap.size = g
  intro HI0
  have HE := AM (show w.heap.size ≤ g by omega)
  clear hq hgg
  go_loopg [4] k (fun kq v4 w' => ∃ (x m : Int), v4 = .int .i64 x ∧ Aside0 (spec_l01Source.l0 kq l0 x l0 0 m 0 = some (r1, r2, r3, r4)) ∧ Aside0 (kq ≤ k) ∧ Aside0 (IsS144 w0 w' g l0 0 m 0) ∧ Aside0 (Below w0.heap.size w0 w') ∧ Aside0 (Below w.heap.size w w'))
  case atStart => exact ⟨0, 88172645463325252, rfl, H', ⟨Nat.le_refl _⟩, HI0, HB0, HV0⟩
  case round =>
    clear H' HI0 HB0 HV0
    obtain ⟨x, m, rfl, HA, HK1, HI, HB, HV⟩ := hrel
    cases gk with
    | zero => exact absurd HA.out (by simp [spec_l01Source.l0])
    | succ k1 =>
      have H := HA.out
      clear HA
      simp only [spec_l01Source.l0] at H
      obtain ⟨A1, cc, hb, hge, hr⟩ := HI.out
      have hx0 := cellS144_0 hb
      have hx2 := cellS144_2 hb
      have hx3 := cellS144_3 hb
      have hf2 := blk_frozen hb 2
      have hf3 := blk_frozen hb 3
      clear hb hge hr
      have stop : (if (wrap64 ((l0.length : Int) / 20)) > 12 then (some (l0, (0 : Int), m, (12 : Int))) else (some (l0, 0, m, wrap64 ((l0.length : Int) / 20)))) = some (r1, r2, r3, r4) → (12 < wrap64 ((l0.length : Int) / 20) ∧ l0 = r1 ∧ 0 = r2 ∧ m = r3 ∧ 12 = r4) ∨ (¬ 12 < wrap64 ((l0.length : Int) / 20) ∧ l0 = r1 ∧ 0 = r2 ∧ m = r3 ∧ wrap64 ((l0.length : Int) / 20) = r4) := by
        intro q
        by_cases c : 12 < wrap64 ((l0.length : Int) / 20)
        · rw [if_pos c] at q
          simp only [Option.some.injEq, Prod.mk.injEq] at q
          exact .inl ⟨c, q⟩
        · rw [if_neg c] at q
          simp only [Option.some.injEq, Prod.mk.injEq] at q
          exact .inr ⟨c, q⟩
      by_cases c3 : x < (l0.length : Int)
      · rw [if_pos c3] at H
        by_cases c4 : x < 64
        · rw [if_pos c4] at H
          by_cases c5 : 0 ≤ x
          · rw [if_pos c5] at H
            obtain ⟨ad, rfl, hxe⟩ := Kd.at_int HR0.out x c5 c3
            replace hxe := cellG HB.out (grow_refl _) hxe
            have H' := AM H
            have c3b0 : decide (x < (l0.length : Int)) = true := decide_eq_true c3
            have c3b1 := eq_true c3
            have c4b0 : decide (x < 64) = true := decide_eq_true c4
            have c5b0 := eq_true c5
            clear H c3 c4 c5 stop hx0 hx3 hf3
            go_wp2
            go_region
            generalize hq : World.drew _ = wn
            have HIn := AM (show IsS144 w0 wn g l0 0 (IntKind.u64.wrap ((Go.bits .xor .u64 m (IntKind.u64.wrap (rd l0 x))) * 1099511628211)) 0 by rw [← hq]; exact IsS144.set_2 HI.out _)
            have HBn := AM (show Below w0.heap.size w0 wn by rw [← hq]; (repeat refine below_drew1 ?_); exact below_set HB.out HI.out.ge)
            have HVn := AM (show Below w.heap.size w wn by rw [← hq]; (repeat refine below_drew1 ?_); exact below_set HV.out HE.out)
            clear hq hx2 hf2 hxe HI HB HV
            go_wp2
            go_roundg k1
            case measure => have := HK1.out; omega
            case rel => exact ⟨wrap64 (x + 1), _, (by first | rfl | (simp; done) | (simp [*]; done)), H', ⟨by have := HK1.out; omega⟩, HIn, HBn, HVn⟩
          · rw [if_neg c5] at H
            cases H
        · rw [if_neg c4] at H
          have c3b0 : decide (x < (l0.length : Int)) = true := decide_eq_true c3
          have c4b0 : decide (x < 64) = false := decide_eq_false c4
          clear c3 c4
          rcases stop H with ⟨c6, rfl, rfl, rfl, rfl⟩ | ⟨c6, rfl, rfl, rfl, rfl⟩
          · have c6b : decide (12 < wrap64 ((l0.length : Int) / 20)) = true := decide_eq_true c6
            clear H stop c6 hx0 hx2 hf2
            go_wp2
            go_ret
            exact ⟨g, rfl, IsS144.set_3 (IsS144.set_3 HI.out _) _, below_set (below_set HB.out HI.out.ge) HI.out.ge, below_set (below_set HV.out HE.out) HE.out⟩
          · have c6b : decide (12 < wrap64 ((l0.length : Int) / 20)) = false := decide_eq_false c6
            clear H stop c6 hx0 hx2 hf2
            go_wp2
            go_ret
            exact ⟨g, rfl, IsS144.set_3 HI.out _, below_set HB.out HI.out.ge, below_set HV.out HE.out⟩
      · rw [if_neg c3] at H
        have c3b0 : decide (x < (l0.length : Int)) = false := decide_eq_false c3
        clear c3
        rcases stop H with ⟨c6, rfl, rfl, rfl, rfl⟩ | ⟨c6, rfl, rfl, rfl, rfl⟩
        · have c6b : decide (12 < wrap64 ((l0.length : Int) / 20)) = true := decide_eq_true c6
          clear H stop c6 hx0 hx2 hf2
          go_wp2
          go_ret
          exact ⟨g, rfl, IsS144.set_3 (IsS144.set_3 HI.out _) _, below_set (below_set HB.out HI.out.ge) HI.out.ge, below_set (below_set HV.out HE.out) HE.out⟩
        · have c6b : decide (12 < wrap64 ((l0.length : Int) / 20)) = false := decide_eq_false c6
          clear H stop c6 hx0 hx2 hf2
          go_wp2
          go_ret
          exact ⟨g, rfl, IsS144.set_3 HI.out _, below_set HB.out HI.out.ge, below_set HV.out HE.out⟩

end Go.Proofs.Ytdbnajnelbebfaa.PFnWhole
