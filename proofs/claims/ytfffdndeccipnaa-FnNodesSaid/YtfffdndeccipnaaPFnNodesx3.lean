/- Functions of the law FnNodes: the print's, with walks of this session's own. No statement is proved here. -/
import Derived.BigRegion
import Derived.ChangeAlike
import Derived.RegionTactic
import Derived.WalkLawsBesides
import Derived.Test.YtfffdndeccipnaaPFnNodesx0
import Derived.Test.YtfffdndeccipnaaHEFnNodes
namespace Go.Proofs.Ytfffdndeccipnaa.PFnNodes
open Go.RowKit Go.Proofs.YtfffdndeccipnaaW.PrintWords Go.Proofs.YtfffdndeccipnaaW.PrintLast Go.Proofs.YtfffdndeccipnaaW.PrintMore Go.Proofs.Ytfffdndeccipnaa.Reg Go.Proofs.Ytfffdndeccipnaa.Aut
attribute [local go_sem] xE_ xC_ max_two min_two xn_ xm_ xD_ xB_
set_option linter.unusedVariables false
set_option linter.unusedSimpArgs false
set_option maxHeartbeats 8000000
set_option maxRecDepth 100000
/-- A state of type 168 at block g of W; what its slices lead to came in by w0. -/
def zh_ (w0 W : World) (g : Nat) (f0 : List Int) (f1 : Int) (f2 : Int) (f3 : Int) : Prop := ∃ A0 c0, W.heap[g]? = some (.cells #[.slice A0 f0.length c0, .int .i64 f1, .int .u64 f2, .int .i64 f3] 168 (0, 0)) ∧ w0.heap.size ≤ g ∧ Kd.C (Kd.int .u8) w0 A0 f0.length f0
theorem zh_.grown {w0 W : World} {g : Nat} {f0 : List Int} {f1 : Int} {f2 : Int} {f3 : Int} {W1 : World} {row : Option Nat} (h : zh_ w0 W g f0 f1 f2 f3) (hw : W.grownBy W1 row) (hne : some g ≠ row) : zh_ w0 W1 g f0 f1 f2 f3 := by
 obtain ⟨A0, c0, hb, hg, hr0⟩ := h
 exact ⟨A0, c0, yp_ hb hw hne, hg, hr0⟩
theorem zh_.own_neN {w0 W : World} {g : Nat} {f0 : List Int} {f1 : Int} {f2 : Int} {f3 : Int} {α : Type} {d : Kd α} {e : Nat} {base : Nat} {ok : Nat → Prop} {v : Value} {xs : List α} (h : zh_ w0 W g f0 f1 f2 f3) (ho : Kd.N d e W base ok v xs) (ht : e ≠ 168) : some g ≠ v.ownBlock := by
 obtain ⟨A0, c0, hb, hg, hr0⟩ := h
 exact Kd.N_ne ho hb ht
theorem zh_.fresh {w0 W : World} {g : Nat} {f0 : List Int} {f1 : Int} {f2 : Int} {f3 : Int} (h : zh_ w0 W g f0 f1 f2 f3) : ∀ k, W.heap.size ≤ k → k ≠ g := by
 obtain ⟨A0, c0, hb, hg, hr0⟩ := h
 exact Kd.freshB hb
theorem zh_.kept {w0 W : World} {g : Nat} {f0 : List Int} {f1 : Int} {f2 : Int} {f3 : Int} {W1 : World} {S : Nat → Prop} (h : zh_ w0 W g f0 f1 f2 f3) (hk : Kept W W1 S) (hne : ¬ S g) : zh_ w0 W1 g f0 f1 f2 f3 := by
 obtain ⟨A0, c0, hb, hg, hr0⟩ := h
 exact ⟨A0, c0, blk_kept hb hk hne, hg, hr0⟩
theorem zh_.below {w0 W : World} {g : Nat} {f0 : List Int} {f1 : Int} {f2 : Int} {f3 : Int} {W1 : World} (h : zh_ w0 W g f0 f1 f2 f3) (hw : Below W.heap.size W W1) : zh_ w0 W1 g f0 f1 f2 f3 := h.grown (grown_of_below hw none) (by simp)
theorem zh_.alloc {w0 W : World} {g : Nat} {f0 : List Int} {f1 : Int} {f2 : Int} {f3 : Int} (h : zh_ w0 W g f0 f1 f2 f3) (o : Obj) : zh_ w0 (W.alloc o) g f0 f1 f2 f3 := h.below (yD_ (Below.refl _ _) o)
theorem zh_.drewN {w0 W : World} {g : Nat} {f0 : List Int} {f1 : Int} {f2 : Int} {f3 : Int} (h : zh_ w0 W g f0 f1 f2 f3) (m : Nat) : zh_ w0 (W.drewN m) g f0 f1 f2 f3 := h
theorem zh_.drew {w0 W : World} {g : Nat} {f0 : List Int} {f1 : Int} {f2 : Int} {f3 : Int} (h : zh_ w0 W g f0 f1 f2 f3) : zh_ w0 W.drew g f0 f1 f2 f3 := h
theorem zh_.at_ {w0 W : World} {g : Nat} {f0 : List Int} {f1 : Int} {f2 : Int} {f3 : Int} {w' : World} {m : Nat} (hq : W.drewN m = w') (h : zh_ w0 W g f0 f1 f2 f3) : zh_ w0 w' g f0 f1 f2 f3 := by subst hq; exact zh_.drewN h m
theorem zh_.apart {w0 W : World} {g : Nat} {f0 : List Int} {f1 : Int} {f2 : Int} {f3 : Int} {α : Type} {d : Kd α} {e : Nat} {base : Nat} {ok : Nat → Prop} {v : Value} {xs : List α} (h : zh_ w0 W g f0 f1 f2 f3) (ho : d.R e W base ok v xs) (ht : ∀ q, q ∈ e :: d.E → q ≠ 168) : d.R e W base (fun k => ok k ∧ k ≠ g) v xs := by
 obtain ⟨A0, c0, hb, hg, hr0⟩ := h
 exact Kd.yo_ ho hb ht
theorem zh_.own_ne {w0 W : World} {g : Nat} {f0 : List Int} {f1 : Int} {f2 : Int} {f3 : Int} {α : Type} {d : Kd α} {e : Nat} {base : Nat} {ok : Nat → Prop} {v : Value} {xs : List α} (h : zh_ w0 W g f0 f1 f2 f3) (ho : d.R e W base ok v xs) (ht : e ≠ 168) : some g ≠ v.ownBlock := by
 obtain ⟨A0, c0, hb, hg, hr0⟩ := h
 exact Kd.R_ne ho hb ht
theorem zh_.apartQ {w0 W : World} {g : Nat} {f0 : List Int} {f1 : Int} {f2 : Int} {f3 : Int} {α : Type} {d : Kd α} {e : Nat} {base : Nat} {ok : Nat → Prop} {v : Value} {xs : List α} (h : zh_ w0 W g f0 f1 f2 f3) (ho : d.Q e W base ok v xs) (ht : ∀ q, q ∈ e :: d.E → q ≠ 168) : d.Q e W base (fun k => ok k ∧ k ≠ g) v xs := by
 obtain ⟨A0, c0, hb, hg, hr0⟩ := h
 exact Kd.Q_types ho hb ht
theorem zh_.own_neQ {w0 W : World} {g : Nat} {f0 : List Int} {f1 : Int} {f2 : Int} {f3 : Int} {α : Type} {d : Kd α} {e : Nat} {base : Nat} {ok : Nat → Prop} {v : Value} {xs : List α} (h : zh_ w0 W g f0 f1 f2 f3) (ho : d.Q e W base ok v xs) (ht : e ≠ 168) : some g ≠ v.ownBlock := by
 obtain ⟨A0, c0, hb, hg, hr0⟩ := h
 exact Kd.Q_ne ho hb ht
theorem zh_.apartS {w0 W : World} {g : Nat} {f0 : List Int} {f1 : Int} {f2 : Int} {f3 : Int} {α : Type} {d : Kd α} {e : Nat} {base : Nat} {ok : Nat → Prop} {v : Value} {xs : List α} (h : zh_ w0 W g f0 f1 f2 f3) (ho : d.S e W base ok v xs) (ht : ∀ q, q ∈ e :: d.E → q ≠ 168) : d.S e W base (fun k => ok k ∧ k ≠ g) v xs := by
 obtain ⟨A0, c0, hb, hg, hr0⟩ := h
 exact Kd.S_types ho hb ht
theorem zh_.own_neS {w0 W : World} {g : Nat} {f0 : List Int} {f1 : Int} {f2 : Int} {f3 : Int} {α : Type} {d : Kd α} {e : Nat} {base : Nat} {ok : Nat → Prop} {v : Value} {xs : List α} (h : zh_ w0 W g f0 f1 f2 f3) (ho : d.S e W base ok v xs) (ht : e ≠ 168) : some g ≠ v.ownBlock := by
 obtain ⟨A0, c0, hb, hg, hr0⟩ := h
 exact Kd.S_ne ho hb ht
theorem zh_.lt {w0 W : World} {g : Nat} {f0 : List Int} {f1 : Int} {f2 : Int} {f3 : Int} (h : zh_ w0 W g f0 f1 f2 f3) : g < W.heap.size := by
 obtain ⟨A0, c0, hb, hg, hr0⟩ := h
 exact yS_ hb
theorem zh_.ge {w0 W : World} {g : Nat} {f0 : List Int} {f1 : Int} {f2 : Int} {f3 : Int} (h : zh_ w0 W g f0 f1 f2 f3) : w0.heap.size ≤ g := by
 obtain ⟨A0, c0, hb, hg, hr0⟩ := h
 exact hg
theorem zh_.ne_blk {w0 W : World} {g : Nat} {f0 : List Int} {f1 : Int} {f2 : Int} {f3 : Int} {a : Nat} {cs : Array Value} {t : TypeId} {fr : Nat × Nat} (h : zh_ w0 W g f0 f1 f2 f3) (hb2 : W.heap[a]? = some (.cells cs t fr)) (ht : t ≠ 168) : g ≠ a := by
 obtain ⟨A0, c0, hb, hg, hr0⟩ := h
 rintro rfl
 rw [hb] at hb2
 injection hb2 with hb2
 injection hb2 with _ ht2
 exact ht ht2.symm
theorem zh_.far {w0 W : World} {g : Nat} {f0 : List Int} {f1 : Int} {f2 : Int} {f3 : Int} {p : Addr} (h : zh_ w0 W g f0 f1 f2 f3) (hne : g ≠ p.block) (u : Value) : zh_ w0 (W.setCell p u) g f0 f1 f2 f3 := by
 obtain ⟨A0, c0, hb, hg, hr0⟩ := h
 exact ⟨A0, c0, blk_far hb hne u, hg, hr0⟩
theorem cellS168_0 {W : World} {g : Nat} {A0 : Option Addr} {c0 : Nat} {f0 : List Int} {f1 : Int} {f2 : Int} {f3 : Int} (h : W.heap[g]? = some (.cells #[.slice A0 f0.length c0, .int .i64 f1, .int .u64 f2, .int .i64 f3] 168 (0, 0))) : W.cell? ⟨g, 0, none⟩ = some (.slice A0 f0.length c0) := (zb_ h 0).trans rfl
theorem cellS168_1 {W : World} {g : Nat} {A0 : Option Addr} {c0 : Nat} {f0 : List Int} {f1 : Int} {f2 : Int} {f3 : Int} (h : W.heap[g]? = some (.cells #[.slice A0 f0.length c0, .int .i64 f1, .int .u64 f2, .int .i64 f3] 168 (0, 0))) : W.cell? ⟨g, 1, none⟩ = some (.int .i64 f1) := (zb_ h 1).trans rfl
theorem zh_.set_1 {w0 W : World} {g : Nat} {f0 : List Int} {f1 : Int} {f2 : Int} {f3 : Int} (h : zh_ w0 W g f0 f1 f2 f3) (x : Int) : zh_ w0 (W.setCell ⟨g, 1, none⟩ (.int .i64 x)) g f0 x f2 f3 := by
 obtain ⟨A0, c0, hb, hg, hr0⟩ := h
 exact ⟨A0, c0, by simpa using blk_set hb 1 (.int .i64 x), hg, hr0⟩
theorem xz_ {W : World} {g : Nat} {A0 : Option Addr} {c0 : Nat} {f0 : List Int} {f1 : Int} {f2 : Int} {f3 : Int} (h : W.heap[g]? = some (.cells #[.slice A0 f0.length c0, .int .i64 f1, .int .u64 f2, .int .i64 f3] 168 (0, 0))) : W.cell? ⟨g, 2, none⟩ = some (.int .u64 f2) := (zb_ h 2).trans rfl
theorem zh_.set_2 {w0 W : World} {g : Nat} {f0 : List Int} {f1 : Int} {f2 : Int} {f3 : Int} (h : zh_ w0 W g f0 f1 f2 f3) (x : Int) : zh_ w0 (W.setCell ⟨g, 2, none⟩ (.int .u64 x)) g f0 f1 x f3 := by
 obtain ⟨A0, c0, hb, hg, hr0⟩ := h
 exact ⟨A0, c0, by simpa using blk_set hb 2 (.int .u64 x), hg, hr0⟩
theorem cellS168_3 {W : World} {g : Nat} {A0 : Option Addr} {c0 : Nat} {f0 : List Int} {f1 : Int} {f2 : Int} {f3 : Int} (h : W.heap[g]? = some (.cells #[.slice A0 f0.length c0, .int .i64 f1, .int .u64 f2, .int .i64 f3] 168 (0, 0))) : W.cell? ⟨g, 3, none⟩ = some (.int .i64 f3) := (zb_ h 3).trans rfl
theorem zh_.set_3 {w0 W : World} {g : Nat} {f0 : List Int} {f1 : Int} {f2 : Int} {f3 : Int} (h : zh_ w0 W g f0 f1 f2 f3) (x : Int) : zh_ w0 (W.setCell ⟨g, 3, none⟩ (.int .i64 x)) g f0 f1 f2 x := by
 obtain ⟨A0, c0, hb, hg, hr0⟩ := h
 exact ⟨A0, c0, by simpa using blk_set hb 3 (.int .i64 x), hg, hr0⟩
theorem zh_.new (w0 W : World) (A0 : Option Addr) (c0 : Nat) (f0 : List Int) (f1 : Int) (f2 : Int) (f3 : Int) (hB : Below w0.heap.size w0 W) (hr0 : Kd.C (Kd.int .u8) w0 A0 f0.length f0) : zh_ w0 (W.alloc (.cells #[.slice A0 f0.length c0, .int .i64 f1, .int .u64 f2, .int .i64 f3] 168)) W.heap.size f0 f1 f2 f3 := ⟨A0, c0, by simpa using heap_alloc_new W _, hB.size, hr0⟩
/-! ### zL_: function 52 -/
theorem zh_.farA {w0 W : World} {g : Nat} {f0 : List Int} {f1 : Int} {f2 : Int} {f3 : Int} {p : Addr} {u : Value} (hne : zd_ (g ≠ p.block)) (h : zh_ w0 W g f0 f1 f2 f3) : zh_ w0 (W.setCell p u) g f0 f1 f2 f3 := zh_.far h hne.out u
theorem zA_ {w0 W : World} {g : Nat} {f0 : List Int} {f1 : Int} {f2 : Int} {f3 : Int} (h : zh_ w0 W g f0 f1 f2 f3 := by repeat (first | (with_reducible first | (refine zd_.out ?_; assumption) | apply zh_.alloc | apply zh_.drewN | apply zh_.drew | (apply zh_.farA; assumption) | apply zh_.set_1 | apply zh_.set_2 | apply zh_.set_3) | (refine zd_.out ?_; assumption))) : zh_ w0 W g f0 f1 f2 f3 := h
def zL_.l0 : Nat → List Int → Int → List Int → Int → Int → Int → Option (List Int × Int × Int × Int)
 | 0, _, _, _, _, _, _ => none
 | k + 1, x0, x4, x102000, x102001, x102002, x102003 => if x4 < (x0.length : Int) then (if x4 < 64 then (if 0 ≤ x4 then (zL_.l0 k x0 (wrap64 (x4 + 1)) x102000 x102001 (IntKind.u64.wrap ((Go.bits .xor .u64 x102002 (IntKind.u64.wrap (rd x0 x4))) * 1099511628211)) x102003) else (none)) else (if (wrap64 ((x0.length : Int) / 20)) > 12 then (some (x102000, x102001, x102002, 12)) else (some (x102000, x102001, x102002, wrap64 ((x0.length : Int) / 20))))) else (if (wrap64 ((x0.length : Int) / 20)) > 12 then (some (x102000, x102001, x102002, 12)) else (some (x102000, x102001, x102002, wrap64 ((x0.length : Int) / 20))))
def zL_.f (k : Nat) (l0 : List Int) : Option (List Int × Int × Int × Int) := zL_.l0 k l0 0 l0 0 88172645463325252 0
theorem zL_.mono_l : ∀ k, (∀ y0 y1 y2 y3 y4 y5, LeO (zL_.l0 k y0 y1 y2 y3 y4 y5) (zL_.l0 (k + 1) y0 y1 y2 y3 y4 y5))
 | 0 => fun _ _ _ _ _ _ r h => by simp [zL_.l0] at h
 | k + 1 => by
  have ih0 := zL_.mono_l k
  ·
   intro y0 y1 y2 y3 y4 y5
   unfold zL_.l0
   repeat' with_reducible first | exact ih0 _ _ _ _ _ _ | exact LeO.refl _ | exact LeO.none _ | refine LeO.ite ?_ ?_ | refine LeO.bind ?_ (fun _ => ?_)
theorem zL_.mono : ∀ a0 k, LeO (zL_.f k a0) (zL_.f (k + 1) a0) := by
 intro a0 k
 have ih0 := zL_.mono_l k
 unfold zL_.f
 repeat' with_reducible first | exact ih0 _ _ _ _ _ _ | exact LeO.refl _ | exact LeO.none _ | refine LeO.ite ?_ ?_ | refine LeO.bind ?_ (fun _ => ?_)
theorem zL_.calls (k : Nat) (A0 : Option Addr) (c0 : Nat) (l0 : List Int) (r1 : List Int) (r2 : Int) (r3 : Int) (r4 : Int) (w0 w : World) (hB : Below w0.heap.size w0 w) (hr0 : Kd.C (Kd.int .u8) w0 A0 l0.length l0) (hc0 : l0.length ≤ c0) (h : zL_.f k l0 = some (r1, r2, r3, r4)) :
 Calls Try.prog 52 #[.slice A0 l0.length c0] w fun e w' => ∃ g_ : Nat, e = .returned (.pointer (some ⟨g_, 0, none⟩)) ∧ zh_ w0 w' g_ r1 r2 r3 r4 ∧ Below w0.heap.size w0 w' ∧ Below w.heap.size w w' := by
 have hu := Try.underlying168
 have HR0 := AM hr0
 have HC0 := AM hc0
 have HW0 := AM hB.size
 have hI := zh_.new w0 w A0 c0 l0 0 88172645463325252 0 hB hr0
 have HI0 := AM hI
 have HB0 := AM (hB.alloc hB.size (Obj.cells #[.slice A0 l0.length c0, .int .i64 0, .int .u64 88172645463325252, .int .i64 0] 168))
 have HV0 := AM ((Below.refl w.heap.size w).alloc (Nat.le_refl _) (Obj.cells #[.slice A0 l0.length c0, .int .i64 0, .int .u64 88172645463325252, .int .i64 0] 168))
 have H' := AM (show zL_.l0 k l0 0 l0 0 88172645463325252 0 = some (r1, r2, r3, r4) from h)
 clear hB hr0 hc0 hI h
 go_enter Try.func52, Try.ntmps52
 go_wp2
 generalize hq : World.alloc w _ = w1 at HI0 HB0 HV0 ⊢
 revert HI0
 generalize hgg : w.heap.size = g
 intro HI0
 have HE := AM (show w.heap.size ≤ g by omega)
 clear hq hgg
 go_loopg [4] k (fun kq v4 w' => ∃ (x m : Int), v4 = .int .i64 x ∧ zd_ (zL_.l0 kq l0 x l0 0 m 0 = some (r1, r2, r3, r4)) ∧ zd_ (kq ≤ k) ∧ zd_ (zh_ w0 w' g l0 0 m 0) ∧ zd_ (Below w0.heap.size w0 w') ∧ zd_ (Below w.heap.size w w'))
 case atStart => exact ⟨0, 88172645463325252, rfl, H', ⟨Nat.le_refl _⟩, HI0, HB0, HV0⟩
 case round =>
  clear H' HI0 HB0 HV0
  obtain ⟨x, m, rfl, HA, HK1, HI, HB, HV⟩ := hrel
  cases gk with
  | zero => exact absurd HA.out (by simp [zL_.l0])
  | succ k1 =>
   have H := HA.out
   clear HA
   simp only [zL_.l0] at H
   obtain ⟨A1, cc, hb, hge, hr⟩ := HI.out
   have hx0 := cellS168_0 hb
   have hx2 := xz_ hb
   have hx3 := cellS168_3 hb
   have hf2 := za_ hb 2
   have hf3 := za_ hb 3
   clear hb hge hr
   have stop : (if (wrap64 ((l0.length : Int) / 20)) > 12 then (some (l0, (0 : Int), m, (12 : Int))) else (some (l0, 0, m, wrap64 ((l0.length : Int) / 20)))) = some (r1, r2, r3, r4) → (12 < wrap64 ((l0.length : Int) / 20) ∧ l0 = r1 ∧ 0 = r2 ∧ m = r3 ∧ 12 = r4) ∨ (¬ 12 < wrap64 ((l0.length : Int) / 20) ∧ l0 = r1 ∧ 0 = r2 ∧ m = r3 ∧ wrap64 ((l0.length : Int) / 20) = r4) := by
    intro q
    by_cases c : 12 < wrap64 ((l0.length : Int) / 20)
    ·
     rw [if_pos c] at q
     simp only [Option.some.injEq, Prod.mk.injEq] at q
     exact .inl ⟨c, q⟩
    ·
     rw [if_neg c] at q
     simp only [Option.some.injEq, Prod.mk.injEq] at q
     exact .inr ⟨c, q⟩
   by_cases c3 : x < (l0.length : Int)
   ·
    rw [if_pos c3] at H
    by_cases c4 : x < 64
    ·
     rw [if_pos c4] at H
     by_cases c5 : 0 ≤ x
     ·
      rw [if_pos c5] at H
      obtain ⟨ad, rfl, hxe⟩ := Kd.at_int HR0.out x c5 c3
      replace hxe := cellG HB.out (zp_ _) hxe
      have H' := AM H
      have c3b0 : decide (x < (l0.length : Int)) = true := decide_eq_true c3
      have c3b1 := eq_true c3
      have c4b0 : decide (x < 64) = true := decide_eq_true c4
      have c5b0 := eq_true c5
      clear H c3 c4 c5 stop hx0 hx3 hf3
      go_wp2
      go_region
      generalize hq : World.drew _ = wn
      have HIn := AM (show zh_ w0 wn g l0 0 (IntKind.u64.wrap ((Go.bits .xor .u64 m (IntKind.u64.wrap (rd l0 x))) * 1099511628211)) 0 by rw [← hq]; exact zh_.set_2 HI.out _)
      have HBn := AM (show Below w0.heap.size w0 wn by rw [← hq]; (repeat refine z1_ ?_); exact yv_ HB.out HI.out.ge)
      have HVn := AM (show Below w.heap.size w wn by rw [← hq]; (repeat refine z1_ ?_); exact yv_ HV.out HE.out)
      clear hq hx2 hf2 hxe HI HB HV
      go_wp2
      go_roundg k1
      case measure => have := HK1.out; omega
      case rel => exact ⟨wrap64 (x + 1), _, re_, H', ⟨by have := HK1.out; omega⟩, HIn, HBn, HVn⟩
     ·
      rw [if_neg c5] at H
      cases H
    ·
     rw [if_neg c4] at H
     have c3b0 : decide (x < (l0.length : Int)) = true := decide_eq_true c3
     have c4b0 : decide (x < 64) = false := decide_eq_false c4
     clear c3 c4
     rcases stop H with ⟨c6, rfl, rfl, rfl, rfl⟩ | ⟨c6, rfl, rfl, rfl, rfl⟩
     ·
      have c6b : decide (12 < wrap64 ((l0.length : Int) / 20)) = true := decide_eq_true c6
      clear H stop c6 hx0 hx2 hf2
      go_wp2
      go_ret
      exact ⟨g, rfl, zh_.set_3 (zh_.set_3 HI.out _) _, yv_ (yv_ HB.out HI.out.ge) HI.out.ge, yv_ (yv_ HV.out HE.out) HE.out⟩
     ·
      have c6b : decide (12 < wrap64 ((l0.length : Int) / 20)) = false := decide_eq_false c6
      clear H stop c6 hx0 hx2 hf2
      go_wp2
      go_ret
      exact ⟨g, rfl, zh_.set_3 HI.out _, yv_ HB.out HI.out.ge, yv_ HV.out HE.out⟩
   ·
    rw [if_neg c3] at H
    have c3b0 : decide (x < (l0.length : Int)) = false := decide_eq_false c3
    clear c3
    rcases stop H with ⟨c6, rfl, rfl, rfl, rfl⟩ | ⟨c6, rfl, rfl, rfl, rfl⟩
    ·
     have c6b : decide (12 < wrap64 ((l0.length : Int) / 20)) = true := decide_eq_true c6
     clear H stop c6 hx0 hx2 hf2
     go_wp2
     go_ret
     exact ⟨g, rfl, zh_.set_3 (zh_.set_3 HI.out _) _, yv_ (yv_ HB.out HI.out.ge) HI.out.ge, yv_ (yv_ HV.out HE.out) HE.out⟩
    ·
     have c6b : decide (12 < wrap64 ((l0.length : Int) / 20)) = false := decide_eq_false c6
     clear H stop c6 hx0 hx2 hf2
     go_wp2
     go_ret
     exact ⟨g, rfl, zh_.set_3 HI.out _, yv_ HB.out HI.out.ge, yv_ HV.out HE.out⟩
/-! ### zI_: function 64 -/
def zI_.f (s0_0 : List Int) (s0_1 : Int) (s0_2 : Int) (s0_3 : Int) (a1 : Int) : Option (Int × Int × Int × Int) := if a1 ≤ 1 then (some (0, s0_1, s0_2, s0_3)) else (if s0_1 < (s0_0.length : Int) then (if 0 ≤ s0_1 then (if (IntKind.u64.wrap (a1)) = 0 then (none) else (some (wrap64 (Int.tmod (IntKind.u64.wrap ((IntKind.u64.wrap (rd s0_0 s0_1)) + ((Go.bits .xor .u64 (Go.bits .xor .u64 (Go.bits .xor .u64 s0_2 (IntKind.u64.wrap (s0_2 * 8192))) ((Go.bits .xor .u64 s0_2 (IntKind.u64.wrap (s0_2 * 8192))) / 128)) (IntKind.u64.wrap ((Go.bits .xor .u64 (Go.bits .xor .u64 s0_2 (IntKind.u64.wrap (s0_2 * 8192))) ((Go.bits .xor .u64 s0_2 (IntKind.u64.wrap (s0_2 * 8192))) / 128)) * 131072))) / 1048576))) (IntKind.u64.wrap (a1))), wrap64 (s0_1 + 1), Go.bits .xor .u64 (Go.bits .xor .u64 (Go.bits .xor .u64 s0_2 (IntKind.u64.wrap (s0_2 * 8192))) ((Go.bits .xor .u64 s0_2 (IntKind.u64.wrap (s0_2 * 8192))) / 128)) (IntKind.u64.wrap ((Go.bits .xor .u64 (Go.bits .xor .u64 s0_2 (IntKind.u64.wrap (s0_2 * 8192))) ((Go.bits .xor .u64 s0_2 (IntKind.u64.wrap (s0_2 * 8192))) / 128)) * 131072)), s0_3))) else (none)) else (if (IntKind.u64.wrap (a1)) = 0 then (none) else (some (wrap64 (Int.tmod (IntKind.u64.wrap (0 + ((Go.bits .xor .u64 (Go.bits .xor .u64 (Go.bits .xor .u64 s0_2 (IntKind.u64.wrap (s0_2 * 8192))) ((Go.bits .xor .u64 s0_2 (IntKind.u64.wrap (s0_2 * 8192))) / 128)) (IntKind.u64.wrap ((Go.bits .xor .u64 (Go.bits .xor .u64 s0_2 (IntKind.u64.wrap (s0_2 * 8192))) ((Go.bits .xor .u64 s0_2 (IntKind.u64.wrap (s0_2 * 8192))) / 128)) * 131072))) / 1048576))) (IntKind.u64.wrap (a1))), s0_1, Go.bits .xor .u64 (Go.bits .xor .u64 (Go.bits .xor .u64 s0_2 (IntKind.u64.wrap (s0_2 * 8192))) ((Go.bits .xor .u64 s0_2 (IntKind.u64.wrap (s0_2 * 8192))) / 128)) (IntKind.u64.wrap ((Go.bits .xor .u64 (Go.bits .xor .u64 s0_2 (IntKind.u64.wrap (s0_2 * 8192))) ((Go.bits .xor .u64 s0_2 (IntKind.u64.wrap (s0_2 * 8192))) / 128)) * 131072)), s0_3))))
theorem zI_.calls (g : Nat) (s0_0 : List Int) (s0_1 : Int) (s0_2 : Int) (s0_3 : Int) (a1 : Int) (r1 : Int) (r2 : Int) (r3 : Int) (r4 : Int) (w0 w : World) (hI : zh_ w0 w g s0_0 s0_1 s0_2 s0_3) (hB : Below w0.heap.size w0 w) (h : zI_.f s0_0 s0_1 s0_2 s0_3 a1 = some (r1, r2, r3, r4)) :
 Calls Try.prog 64 #[.pointer (some ⟨g, 0, none⟩), .int .i64 a1] w fun e w' => e = .returned (.int .i64 r1) ∧ zh_ w0 w' g s0_0 r2 r3 r4 ∧ Below w0.heap.size w0 w' ∧ zs_ w w' g none := by
 have hu := Try.underlying168
 unfold zI_.f at h
 by_cases c3 : a1 ≤ 1
 ·
  rw [if_pos c3] at h
  simp only [Option.some.injEq, Prod.mk.injEq] at h
  obtain ⟨rfl, rfl, rfl, rfl⟩ := h
  have c3b0 : decide (a1 ≤ 1) = true := decide_eq_true c3
  have HI := AM hI
  have HB := AM hB
  clear hI hB c3
  go_enter Try.func64, Try.ntmps64
  go_wp2
  go_ret
  exact ⟨rfl, HI.out, HB.out, zs_.refl w g none⟩
 rw [if_neg c3] at h
 have c3b0 : decide (a1 ≤ 1) = false := decide_eq_false c3
 obtain ⟨m1, hm1⟩ : ∃ m, Go.bits .xor .u64 s0_2 (IntKind.u64.wrap (s0_2 * 8192)) = m := ⟨_, rfl⟩
 obtain ⟨m2, hm2⟩ : ∃ m, Go.bits .xor .u64 m1 (m1 / 128) = m := ⟨_, rfl⟩
 obtain ⟨m3, hm3⟩ : ∃ m, Go.bits .xor .u64 m2 (IntKind.u64.wrap (m2 * 131072)) = m := ⟨_, rfl⟩
 simp only [hm1, hm2, hm3] at h
 clear c3
 have fin : ∀ (v x : Int), (if IntKind.u64.wrap a1 = 0 then none else some (wrap64 ((IntKind.u64.wrap (v + m3 / 1048576)).tmod (IntKind.u64.wrap a1)), x, m3, s0_3)) = some (r1, r2, r3, r4) → IntKind.u64.wrap a1 ≠ 0 ∧ wrap64 ((IntKind.u64.wrap (v + m3 / 1048576)).tmod (IntKind.u64.wrap a1)) = r1 ∧ m3 = r3 ∧ s0_3 = r4 := by
  intro v x q
  by_cases c : IntKind.u64.wrap a1 = 0
  · rw [if_pos c] at q; cases q
  ·
   rw [if_neg c] at q
   simp only [Option.some.injEq, Prod.mk.injEq] at q
   exact ⟨c, q.1, q.2.2.1, q.2.2.2⟩
 by_cases c4 : s0_1 < (s0_0.length : Int)
 ·
  rw [if_pos c4] at h
  by_cases c5 : 0 ≤ s0_1
  ·
   rw [if_pos c5] at h
   obtain rfl : wrap64 (s0_1 + 1) = r2 := by
    split at h
    · cases h
    ·
     simp only [Option.some.injEq, Prod.mk.injEq] at h
     exact h.2.1
   obtain ⟨cn, rfl, rfl, rfl⟩ := fin _ _ h
   have c4b0 : decide (s0_1 < (s0_0.length : Int)) = true := decide_eq_true c4
   obtain ⟨A0, cc, hb, hge, hr⟩ := hI
   obtain ⟨ad, rfl, hxe⟩ := Kd.at_int hr s0_1 c5 c4
   replace hxe := cellG hB (zp_ _) hxe
   have hx0 := cellS168_0 hb
   have hx1 := cellS168_1 hb
   have hf1 := za_ hb 1
   have HI := AM (show zh_ w0 w g s0_0 s0_1 s0_2 s0_3 from ⟨_, cc, hb, hge, hr⟩)
   have HB := AM hB
   have HK := AM (zs_.refl w g none)
   have CN := AM cn
   have M1 := AM hm1
   have M2 := AM hm2
   have M3 := AM hm3
   have c4p := eq_true c4
   have c5p := eq_true c5
   clear hb hr hge h hB c4 c5 fin cn hm1 hm2 hm3
   go_enter Try.func64, Try.ntmps64
   go_wp2
   go_region
   go_wp2
   go_region
   go_wp2
   generalize hq : World.setCell _ _ _ = wz
   have HIz := AM (show zh_ w0 wz g s0_0 (wrap64 (s0_1 + 1)) s0_2 s0_3 by rw [← hq]; exact zh_.set_1 HI.out _)
   have HBz := AM (show Below w0.heap.size w0 wz by rw [← hq]; exact yv_ HB.out HI.out.ge)
   have HKz := AM (show zs_ w wz g none by rw [← hq]; exact zs_.set_ HK.out 1 _)
   clear hq hx0 hx1 hxe hf1 HI HB HK
   obtain ⟨hx2, hf2⟩ : wz.cell? ⟨g, 2, none⟩ = some (.int .u64 s0_2) ∧ wz.frozen? ⟨g, 2, none⟩ = false := by obtain ⟨_, _, hb, _⟩ := HIz.out; exact ⟨xz_ hb, za_ hb 2⟩
   go_wp2
   go_region
   rw [M1.out]
   generalize hq : World.drew _ = w1
   have HI1 := AM (show zh_ w0 w1 g s0_0 (wrap64 (s0_1 + 1)) m1 s0_3 by rw [← hq]; exact zh_.set_2 HIz.out m1)
   have HB1 := AM (show Below w0.heap.size w0 w1 by rw [← hq]; (repeat refine z1_ ?_); exact yv_ HBz.out HIz.out.ge)
   have HK1 := AM (show zs_ w w1 g none by rw [← hq]; exact zs_.set_ HKz.out 2 _)
   clear hq hx2 hf2 HIz HBz HKz
   obtain ⟨hx2, hf2⟩ : w1.cell? ⟨g, 2, none⟩ = some (.int .u64 m1) ∧ w1.frozen? ⟨g, 2, none⟩ = false := by obtain ⟨_, _, hb, _⟩ := HI1.out; exact ⟨xz_ hb, za_ hb 2⟩
   go_wp2
   go_region
   rw [M2.out]
   generalize hq : World.drew _ = w2
   have HI2 := AM (show zh_ w0 w2 g s0_0 (wrap64 (s0_1 + 1)) m2 s0_3 by rw [← hq]; exact zh_.set_2 HI1.out m2)
   have HB2 := AM (show Below w0.heap.size w0 w2 by rw [← hq]; (repeat refine z1_ ?_); exact yv_ HB1.out HI1.out.ge)
   have HK2 := AM (show zs_ w w2 g none by rw [← hq]; exact zs_.set_ HK1.out 2 _)
   clear hq hx2 hf2 HI1 HB1 HK1
   obtain ⟨hx2, hf2⟩ : w2.cell? ⟨g, 2, none⟩ = some (.int .u64 m2) ∧ w2.frozen? ⟨g, 2, none⟩ = false := by obtain ⟨_, _, hb, _⟩ := HI2.out; exact ⟨xz_ hb, za_ hb 2⟩
   go_wp2
   go_region
   rw [M3.out]
   generalize hq : World.drew _ = w3
   have HI3 := AM (show zh_ w0 w3 g s0_0 (wrap64 (s0_1 + 1)) m3 s0_3 by rw [← hq]; exact zh_.set_2 HI2.out m3)
   have HB3 := AM (show Below w0.heap.size w0 w3 by rw [← hq]; (repeat refine z1_ ?_); exact yv_ HB2.out HI2.out.ge)
   have HK3 := AM (show zs_ w w3 g none by rw [← hq]; exact zs_.set_ HK2.out 2 _)
   clear hq hx2 hf2 HI2 HB2 HK2
   obtain ⟨hx2, hf2⟩ : w3.cell? ⟨g, 2, none⟩ = some (.int .u64 m3) ∧ w3.frozen? ⟨g, 2, none⟩ = false := by obtain ⟨_, _, hb, _⟩ := HI3.out; exact ⟨xz_ hb, za_ hb 2⟩
   have cn := CN.out
   go_wp2
   go_ret
   exact ⟨(by first | rfl | (simp; done)), HI3.out, HB3.out, HK3.out⟩
  ·
   rw [if_neg c5] at h
   cases h
 ·
  rw [if_neg c4] at h
  obtain rfl : s0_1 = r2 := by
   split at h
   · cases h
   ·
    simp only [Option.some.injEq, Prod.mk.injEq] at h
    exact h.2.1
  obtain ⟨cn, rfl, rfl, rfl⟩ := fin _ _ h
  have c4b0 : decide (s0_1 < (s0_0.length : Int)) = false := decide_eq_false c4
  obtain ⟨A0, cc, hb, hge, hr⟩ := hI
  have hx0 := cellS168_0 hb
  have hx1 := cellS168_1 hb
  have hx2 := xz_ hb
  have hf2 := za_ hb 2
  have HIz := AM (show zh_ w0 w g s0_0 s0_1 s0_2 s0_3 from ⟨A0, cc, hb, hge, hr⟩)
  have HBz := AM hB
  have HKz := AM (zs_.refl w g none)
  have CN := AM cn
  have M1 := AM hm1
  have M2 := AM hm2
  have M3 := AM hm3
  clear hb hr hge h hB c4 fin cn hm1 hm2 hm3
  go_enter Try.func64, Try.ntmps64
  go_wp2
  go_region
  go_wp2
  go_region
  rw [M1.out]
  generalize hq : World.drew _ = w1
  have HI1 := AM (show zh_ w0 w1 g s0_0 (s0_1) m1 s0_3 by rw [← hq]; exact zh_.set_2 HIz.out m1)
  have HB1 := AM (show Below w0.heap.size w0 w1 by rw [← hq]; (repeat refine z1_ ?_); exact yv_ HBz.out HIz.out.ge)
  have HK1 := AM (show zs_ w w1 g none by rw [← hq]; exact zs_.set_ HKz.out 2 _)
  clear hq hx2 hf2 HIz HBz HKz
  obtain ⟨hx2, hf2⟩ : w1.cell? ⟨g, 2, none⟩ = some (.int .u64 m1) ∧ w1.frozen? ⟨g, 2, none⟩ = false := by obtain ⟨_, _, hb, _⟩ := HI1.out; exact ⟨xz_ hb, za_ hb 2⟩
  go_wp2
  go_region
  rw [M2.out]
  generalize hq : World.drew _ = w2
  have HI2 := AM (show zh_ w0 w2 g s0_0 (s0_1) m2 s0_3 by rw [← hq]; exact zh_.set_2 HI1.out m2)
  have HB2 := AM (show Below w0.heap.size w0 w2 by rw [← hq]; (repeat refine z1_ ?_); exact yv_ HB1.out HI1.out.ge)
  have HK2 := AM (show zs_ w w2 g none by rw [← hq]; exact zs_.set_ HK1.out 2 _)
  clear hq hx2 hf2 HI1 HB1 HK1
  obtain ⟨hx2, hf2⟩ : w2.cell? ⟨g, 2, none⟩ = some (.int .u64 m2) ∧ w2.frozen? ⟨g, 2, none⟩ = false := by obtain ⟨_, _, hb, _⟩ := HI2.out; exact ⟨xz_ hb, za_ hb 2⟩
  go_wp2
  go_region
  rw [M3.out]
  generalize hq : World.drew _ = w3
  have HI3 := AM (show zh_ w0 w3 g s0_0 (s0_1) m3 s0_3 by rw [← hq]; exact zh_.set_2 HI2.out m3)
  have HB3 := AM (show Below w0.heap.size w0 w3 by rw [← hq]; (repeat refine z1_ ?_); exact yv_ HB2.out HI2.out.ge)
  have HK3 := AM (show zs_ w w3 g none by rw [← hq]; exact zs_.set_ HK2.out 2 _)
  clear hq hx2 hf2 HI2 HB2 HK2
  obtain ⟨hx2, hf2⟩ : w3.cell? ⟨g, 2, none⟩ = some (.int .u64 m3) ∧ w3.frozen? ⟨g, 2, none⟩ = false := by obtain ⟨_, _, hb, _⟩ := HI3.out; exact ⟨xz_ hb, za_ hb 2⟩
  have cn := CN.out
  go_wp2
  go_ret
  exact ⟨(by first | rfl | (simp; done)), HI3.out, HB3.out, HK3.out⟩
/-! ### zK_: function 68 -/
def zK_.f (s0_0 : List Int) (s0_1 : Int) (s0_2 : Int) (s0_3 : Int) (a1 : Int) : Option (Bool × Int × Int × Int) := (zI_.f s0_0 s0_1 s0_2 s0_3 a1).bind fun bt104 => (some ((bt104.1 == 0), bt104.2.1, bt104.2.2.1, bt104.2.2.2))
theorem zK_.calls (g : Nat) (s0_0 : List Int) (s0_1 : Int) (s0_2 : Int) (s0_3 : Int) (a1 : Int) (r1 : Bool) (r2 : Int) (r3 : Int) (r4 : Int) (w0 w : World) (hI : zh_ w0 w g s0_0 s0_1 s0_2 s0_3) (hB : Below w0.heap.size w0 w) (h : zK_.f s0_0 s0_1 s0_2 s0_3 a1 = some (r1, r2, r3, r4)) :
 Calls Try.prog 68 #[.pointer (some ⟨g, 0, none⟩), .int .i64 a1] w fun e w' => e = .returned (.bool r1) ∧ zh_ w0 w' g s0_0 r2 r3 r4 ∧ Below w0.heap.size w0 w' ∧ zs_ w w' g none := by
 have HI0 := AM hI
 have HK := AM (zs_.refl w g none)
 have HL := AM hB.size
 clear hI
 have HW0 := AM hB.size
 have HB := AM hB
 clear hB
 have H : ((zI_.f s0_0 s0_1 s0_2 s0_3 a1).bind fun bt104 => (some ((bt104.1 == 0), bt104.2.1, bt104.2.2.1, bt104.2.2.2))) = some (r1, r2, r3, r4) := h
 clear h
 obtain ⟨⟨t104, t105, t106, t107⟩, A3, H⟩ := OB H
 try dsimp only at H
 replace A3 := AM A3
 simp only [Option.some.injEq, Prod.mk.injEq] at H
 obtain ⟨rfl, rfl, rfl, rfl⟩ := H
 go_enter Try.func68, Try.ntmps68
 go_wp2_with (first | ((with_reducible refine zl_ (f := 64) rfl ?_); refine gl_ (some 7) Try.func64 #[.pointer (some ⟨g, 0, none⟩), .int .i64 a1] ?_; (with_reducible refine (zI_.calls g s0_0 s0_1 s0_2 s0_3 a1 t104 t105 t106 t107 w0 _ ?side1 ?side2 A3.out).mono ?_); (case side1 => exact zA_); (case side2 => exact belg_ (zh_.ge HI0.out)); rintro e w4 ⟨rfl, hi, hb, hk⟩; refine ⟨_, rfl, ?_⟩; replace HK := AM (kk_ w hk); replace HB := AM hb; replace HI0 := AM hi; (try clear hb); (try clear hk); (try clear hi)))
 go_ret
 exact ⟨ri_, zA_, belg_ (zh_.ge HI0.out), kp_⟩
/-! ### xs_: function 245 -/
def xs_.f (a0 : Int) (a1 : Int) : Option (Int) := if 0 ≤ a1 then (if 0 ≤ (IntKind.u64.wrap (32 - a1)) then (some (Go.bits .or .u32 (shr .u32 a0 a1) (shl .u32 a0 (IntKind.u64.wrap (32 - a1))))) else (none)) else (none)
theorem xs_.calls (a0 : Int) (a1 : Int) (r : Int) (w : World) (h : xs_.f a0 a1 = some r) :
 Calls Try.prog 245 #[.int .u32 a0, .int .u64 a1] w fun e w' => e = .returned (.int .u32 r) ∧ xp_ w w' := by
 have H : (if 0 ≤ a1 then (if 0 ≤ (IntKind.u64.wrap (32 - a1)) then (some (Go.bits .or .u32 (shr .u32 a0 a1) (shl .u32 a0 (IntKind.u64.wrap (32 - a1))))) else (none)) else (none)) = some r := h
 clear h
 by_cases c3 : 0 ≤ a1
 ·
  rw [if_pos c3] at H
  have c3b0 := eq_true c3
  have c3b1 : decide (0 ≤ a1) = true := decide_eq_true c3
  clear c3
  obtain ⟨ji4, hji4⟩ : ∃ j_ : Int, (shr .u32 a0 a1) = j_ := ⟨_, rfl⟩
  replace H : (if 0 ≤ (IntKind.u64.wrap (32 - a1)) then (some (Go.bits .or .u32 (ji4) (shl .u32 a0 (IntKind.u64.wrap (32 - a1))))) else (none)) = some r := by first | (rw [hji4] at H; exact H) | (simp only [hji4] at H ⊢; exact H)
  have hji4_ : (a0 / 2 ^ min a1.toNat 32) = ji4 := hji4
  have hji4z : a1 ≤ 32 → (a0 / 2 ^ a1.toNat) = ji4 := shr_small hji4
  obtain ⟨ji5, hji5⟩ : ∃ j_ : Int, (IntKind.u64.wrap (32 - a1)) = j_ := ⟨_, rfl⟩
  replace H : (if 0 ≤ (ji5) then (some (Go.bits .or .u32 (ji4) (shl .u32 a0 (ji5)))) else (none)) = some r := by first | (rw [hji5] at H; exact H) | (simp only [hji5] at H ⊢; exact H)
  by_cases c6 : 0 ≤ (ji5)
  ·
   rw [if_pos c6] at H
   have c6b0 := eq_true c6
   have c6b1 : decide (0 ≤ (ji5)) = true := decide_eq_true c6
   clear c6
   obtain ⟨ji7, hji7⟩ : ∃ j_ : Int, (shl .u32 a0 (ji5)) = j_ := ⟨_, rfl⟩
   replace H : (some (Go.bits .or .u32 (ji4) (ji7))) = some r := by first | (rw [hji7] at H; exact H) | (simp only [hji7] at H ⊢; exact H)
   have hji7_ : (IntKind.u32.wrap (a0 * 2 ^ min (ji5).toNat 32)) = ji7 := hji7
   have hji7z : (ji5) ≤ 32 → (IntKind.u32.wrap (a0 * 2 ^ (ji5).toNat)) = ji7 := shl_small hji7
   obtain rfl := Option.some.inj H
   go_enter Try.func245, Try.ntmps245
   go_wp2
   go_ret
   exact ⟨by first | rfl | (simp; done) | (simp only [← hji4, ← hji5, ← hji7] <;> (first | rfl | simp)) | (simp [*]; done), dr_⟩
  ·
   rw [if_neg c6] at H
   exact absurd H (by simp)
 ·
  rw [if_neg c3] at H
  exact absurd H (by simp)
/-! ### xt_: function 246 -/
def xt_.f  : Option (List Int) := some (([1116352408, 1899447441, 3049323471, 3921009573, 961987163, 1508970993, 2453635748, 2870763221, 3624381080, 310598401, 607225278, 1426881987, 1925078388, 2162078206, 2614888103, 3248222580, 3835390401, 4022224774, 264347078, 604807628, 770255983, 1249150122, 1555081692, 1996064986, 2554220882, 2821834349, 2952996808, 3210313671, 3336571891, 3584528711, 113926993, 338241895, 666307205, 773529912, 1294757372, 1396182291, 1695183700, 1986661051, 2177026350, 2456956037, 2730485921, 2820302411, 3259730800, 3345764771, 3516065817, 3600352804, 4094571909, 275423344, 430227734, 506948616, 659060556, 883997877, 958139571, 1322822218, 1537002063, 1747873779, 1955562222, 2024104815, 2227730452, 2361852424, 2428436474, 2756734187, 3204031479, 3329325298] : List Int))
theorem xt_.calls  (r : List Int) (w : World) (h : xt_.f  = some r) :
 Calls Try.prog 246 #[] w fun e w' => ∃ v0_ : Value, e = .returned (v0_) ∧ Kd.R (Kd.int .u32) 283 w' w.heap.size (fun _ => True) v0_ r ∧ Below w.heap.size w w' := by
 have HB := AM (Below.refl w.heap.size w)
 have H : (some (([1116352408, 1899447441, 3049323471, 3921009573, 961987163, 1508970993, 2453635748, 2870763221, 3624381080, 310598401, 607225278, 1426881987, 1925078388, 2162078206, 2614888103, 3248222580, 3835390401, 4022224774, 264347078, 604807628, 770255983, 1249150122, 1555081692, 1996064986, 2554220882, 2821834349, 2952996808, 3210313671, 3336571891, 3584528711, 113926993, 338241895, 666307205, 773529912, 1294757372, 1396182291, 1695183700, 1986661051, 2177026350, 2456956037, 2730485921, 2820302411, 3259730800, 3345764771, 3516065817, 3600352804, 4094571909, 275423344, 430227734, 506948616, 659060556, 883997877, 958139571, 1322822218, 1537002063, 1747873779, 1955562222, 2024104815, 2227730452, 2361852424, 2428436474, 2756734187, 3204031479, 3329325298] : List Int))) = some r := h
 clear h
 obtain ⟨y108, hy108⟩ : ∃ y_ : List Int, y_ = (([1116352408, 1899447441, 3049323471, 3921009573, 961987163, 1508970993, 2453635748, 2870763221, 3624381080, 310598401, 607225278, 1426881987, 1925078388, 2162078206, 2614888103, 3248222580, 3835390401, 4022224774, 264347078, 604807628, 770255983, 1249150122, 1555081692, 1996064986, 2554220882, 2821834349, 2952996808, 3210313671, 3336571891, 3584528711, 113926993, 338241895, 666307205, 773529912, 1294757372, 1396182291, 1695183700, 1986661051, 2177026350, 2456956037, 2730485921, 2820302411, 3259730800, 3345764771, 3516065817, 3600352804, 4094571909, 275423344, 430227734, 506948616, 659060556, 883997877, 958139571, 1322822218, 1537002063, 1747873779, 1955562222, 2024104815, 2227730452, 2361852424, 2428436474, 2756734187, 3204031479, 3329325298] : List Int)) := ⟨_, rfl⟩
 replace H : (some y108) = some r := by first | (rw [hy108]; with_reducible exact H) | (have H2_ := (Option.bind_some _ _).symm.trans H; rw [hy108]; with_reducible exact H2_) | (have H2_ := (Option.bind_some _ _).symm.trans H; with_reducible exact H2_) | with_reducible exact H | (rw [hy108]; exact H) | exact H
 have Ny108 := AM hy108
 clear hy108
 obtain rfl := Option.some.inj H
 go_enter Try.func246, Try.ntmps246
 go_wp2_with (first | ((with_reducible refine z6_ (N := 1) rfl ?_); refine Kd.R_lit (Kd.int .u32) _ 283 ?hgL1 (N := 1) ?hdL1 (xs := ([1116352408, 1899447441, 3049323471, 3921009573, 961987163, 1508970993, 2453635748, 2870763221, 3624381080, 310598401, 607225278, 1426881987, 1925078388, 2162078206, 2614888103, 3248222580, 3835390401, 4022224774, 264347078, 604807628, 770255983, 1249150122, 1555081692, 1996064986, 2554220882, 2821834349, 2952996808, 3210313671, 3336571891, 3584528711, 113926993, 338241895, 666307205, 773529912, 1294757372, 1396182291, 1695183700, 1986661051, 2177026350, 2456956037, 2730485921, 2820302411, 3259730800, 3345764771, 3516065817, 3600352804, 4094571909, 275423344, 430227734, 506948616, 659060556, 883997877, 958139571, 1322822218, 1537002063, 1747873779, 1955562222, 2024104815, 2227730452, 2361852424, 2428436474, 2756734187, 3204031479, 3329325298] : List Int)) (inner := [.int .u32 1116352408, .int .u32 1899447441, .int .u32 3049323471, .int .u32 3921009573, .int .u32 961987163, .int .u32 1508970993, .int .u32 2453635748, .int .u32 2870763221, .int .u32 3624381080, .int .u32 310598401, .int .u32 607225278, .int .u32 1426881987, .int .u32 1925078388, .int .u32 2162078206, .int .u32 2614888103, .int .u32 3248222580, .int .u32 3835390401, .int .u32 4022224774, .int .u32 264347078, .int .u32 604807628, .int .u32 770255983, .int .u32 1249150122, .int .u32 1555081692, .int .u32 1996064986, .int .u32 2554220882, .int .u32 2821834349, .int .u32 2952996808, .int .u32 3210313671, .int .u32 3336571891, .int .u32 3584528711, .int .u32 113926993, .int .u32 338241895, .int .u32 666307205, .int .u32 773529912, .int .u32 1294757372, .int .u32 1396182291, .int .u32 1695183700, .int .u32 1986661051, .int .u32 2177026350, .int .u32 2456956037, .int .u32 2730485921, .int .u32 2820302411, .int .u32 3259730800, .int .u32 3345764771, .int .u32 3516065817, .int .u32 3600352804, .int .u32 4094571909, .int .u32 275423344, .int .u32 430227734, .int .u32 506948616, .int .u32 659060556, .int .u32 883997877, .int .u32 958139571, .int .u32 1322822218, .int .u32 1537002063, .int .u32 1747873779, .int .u32 1955562222, .int .u32 2024104815, .int .u32 2227730452, .int .u32 2361852424, .int .u32 2428436474, .int .u32 2756734187, .int .u32 3204031479, .int .u32 3329325298]) (ok := fun _ => True) (okp := fun _ => True) ?hrL1 ?hpL1 (fun _ hk => hk) trivial (Below.refl _ _) (Nat.le_refl _) (by simp) ?_; (case hdL1 => rfl); (case hgL1 => rfl); (case hrL1 => first | (go_simp; done) | (go_simp; rfl)); (case hpL1 => exact (Reps.one (show Kd.M (Kd.int .u32) _ _ _ 1116352408 [.int .u32 1116352408] from rfl) (Reps.one (show Kd.M (Kd.int .u32) _ _ _ 1899447441 [.int .u32 1899447441] from rfl) (Reps.one (show Kd.M (Kd.int .u32) _ _ _ 3049323471 [.int .u32 3049323471] from rfl) (Reps.one (show Kd.M (Kd.int .u32) _ _ _ 3921009573 [.int .u32 3921009573] from rfl) (Reps.one (show Kd.M (Kd.int .u32) _ _ _ 961987163 [.int .u32 961987163] from rfl) (Reps.one (show Kd.M (Kd.int .u32) _ _ _ 1508970993 [.int .u32 1508970993] from rfl) (Reps.one (show Kd.M (Kd.int .u32) _ _ _ 2453635748 [.int .u32 2453635748] from rfl) (Reps.one (show Kd.M (Kd.int .u32) _ _ _ 2870763221 [.int .u32 2870763221] from rfl) (Reps.one (show Kd.M (Kd.int .u32) _ _ _ 3624381080 [.int .u32 3624381080] from rfl) (Reps.one (show Kd.M (Kd.int .u32) _ _ _ 310598401 [.int .u32 310598401] from rfl) (Reps.one (show Kd.M (Kd.int .u32) _ _ _ 607225278 [.int .u32 607225278] from rfl) (Reps.one (show Kd.M (Kd.int .u32) _ _ _ 1426881987 [.int .u32 1426881987] from rfl) (Reps.one (show Kd.M (Kd.int .u32) _ _ _ 1925078388 [.int .u32 1925078388] from rfl) (Reps.one (show Kd.M (Kd.int .u32) _ _ _ 2162078206 [.int .u32 2162078206] from rfl) (Reps.one (show Kd.M (Kd.int .u32) _ _ _ 2614888103 [.int .u32 2614888103] from rfl) (Reps.one (show Kd.M (Kd.int .u32) _ _ _ 3248222580 [.int .u32 3248222580] from rfl) (Reps.one (show Kd.M (Kd.int .u32) _ _ _ 3835390401 [.int .u32 3835390401] from rfl) (Reps.one (show Kd.M (Kd.int .u32) _ _ _ 4022224774 [.int .u32 4022224774] from rfl) (Reps.one (show Kd.M (Kd.int .u32) _ _ _ 264347078 [.int .u32 264347078] from rfl) (Reps.one (show Kd.M (Kd.int .u32) _ _ _ 604807628 [.int .u32 604807628] from rfl) (Reps.one (show Kd.M (Kd.int .u32) _ _ _ 770255983 [.int .u32 770255983] from rfl) (Reps.one (show Kd.M (Kd.int .u32) _ _ _ 1249150122 [.int .u32 1249150122] from rfl) (Reps.one (show Kd.M (Kd.int .u32) _ _ _ 1555081692 [.int .u32 1555081692] from rfl) (Reps.one (show Kd.M (Kd.int .u32) _ _ _ 1996064986 [.int .u32 1996064986] from rfl) (Reps.one (show Kd.M (Kd.int .u32) _ _ _ 2554220882 [.int .u32 2554220882] from rfl) (Reps.one (show Kd.M (Kd.int .u32) _ _ _ 2821834349 [.int .u32 2821834349] from rfl) (Reps.one (show Kd.M (Kd.int .u32) _ _ _ 2952996808 [.int .u32 2952996808] from rfl) (Reps.one (show Kd.M (Kd.int .u32) _ _ _ 3210313671 [.int .u32 3210313671] from rfl) (Reps.one (show Kd.M (Kd.int .u32) _ _ _ 3336571891 [.int .u32 3336571891] from rfl) (Reps.one (show Kd.M (Kd.int .u32) _ _ _ 3584528711 [.int .u32 3584528711] from rfl) (Reps.one (show Kd.M (Kd.int .u32) _ _ _ 113926993 [.int .u32 113926993] from rfl) (Reps.one (show Kd.M (Kd.int .u32) _ _ _ 338241895 [.int .u32 338241895] from rfl) (Reps.one (show Kd.M (Kd.int .u32) _ _ _ 666307205 [.int .u32 666307205] from rfl) (Reps.one (show Kd.M (Kd.int .u32) _ _ _ 773529912 [.int .u32 773529912] from rfl) (Reps.one (show Kd.M (Kd.int .u32) _ _ _ 1294757372 [.int .u32 1294757372] from rfl) (Reps.one (show Kd.M (Kd.int .u32) _ _ _ 1396182291 [.int .u32 1396182291] from rfl) (Reps.one (show Kd.M (Kd.int .u32) _ _ _ 1695183700 [.int .u32 1695183700] from rfl) (Reps.one (show Kd.M (Kd.int .u32) _ _ _ 1986661051 [.int .u32 1986661051] from rfl) (Reps.one (show Kd.M (Kd.int .u32) _ _ _ 2177026350 [.int .u32 2177026350] from rfl) (Reps.one (show Kd.M (Kd.int .u32) _ _ _ 2456956037 [.int .u32 2456956037] from rfl) (Reps.one (show Kd.M (Kd.int .u32) _ _ _ 2730485921 [.int .u32 2730485921] from rfl) (Reps.one (show Kd.M (Kd.int .u32) _ _ _ 2820302411 [.int .u32 2820302411] from rfl) (Reps.one (show Kd.M (Kd.int .u32) _ _ _ 3259730800 [.int .u32 3259730800] from rfl) (Reps.one (show Kd.M (Kd.int .u32) _ _ _ 3345764771 [.int .u32 3345764771] from rfl) (Reps.one (show Kd.M (Kd.int .u32) _ _ _ 3516065817 [.int .u32 3516065817] from rfl) (Reps.one (show Kd.M (Kd.int .u32) _ _ _ 3600352804 [.int .u32 3600352804] from rfl) (Reps.one (show Kd.M (Kd.int .u32) _ _ _ 4094571909 [.int .u32 4094571909] from rfl) (Reps.one (show Kd.M (Kd.int .u32) _ _ _ 275423344 [.int .u32 275423344] from rfl) (Reps.one (show Kd.M (Kd.int .u32) _ _ _ 430227734 [.int .u32 430227734] from rfl) (Reps.one (show Kd.M (Kd.int .u32) _ _ _ 506948616 [.int .u32 506948616] from rfl) (Reps.one (show Kd.M (Kd.int .u32) _ _ _ 659060556 [.int .u32 659060556] from rfl) (Reps.one (show Kd.M (Kd.int .u32) _ _ _ 883997877 [.int .u32 883997877] from rfl) (Reps.one (show Kd.M (Kd.int .u32) _ _ _ 958139571 [.int .u32 958139571] from rfl) (Reps.one (show Kd.M (Kd.int .u32) _ _ _ 1322822218 [.int .u32 1322822218] from rfl) (Reps.one (show Kd.M (Kd.int .u32) _ _ _ 1537002063 [.int .u32 1537002063] from rfl) (Reps.one (show Kd.M (Kd.int .u32) _ _ _ 1747873779 [.int .u32 1747873779] from rfl) (Reps.one (show Kd.M (Kd.int .u32) _ _ _ 1955562222 [.int .u32 1955562222] from rfl) (Reps.one (show Kd.M (Kd.int .u32) _ _ _ 2024104815 [.int .u32 2024104815] from rfl) (Reps.one (show Kd.M (Kd.int .u32) _ _ _ 2227730452 [.int .u32 2227730452] from rfl) (Reps.one (show Kd.M (Kd.int .u32) _ _ _ 2361852424 [.int .u32 2361852424] from rfl) (Reps.one (show Kd.M (Kd.int .u32) _ _ _ 2428436474 [.int .u32 2428436474] from rfl) (Reps.one (show Kd.M (Kd.int .u32) _ _ _ 2756734187 [.int .u32 2756734187] from rfl) (Reps.one (show Kd.M (Kd.int .u32) _ _ _ 3204031479 [.int .u32 3204031479] from rfl) (Reps.one (show Kd.M (Kd.int .u32) _ _ _ 3329325298 [.int .u32 3329325298] from rfl) (Reps.none _ _)))))))))))))))))))))))))))))))))))))))))))))))))))))))))))))))))); intro v109 w1 ho2 hb hg_ hnew_; clear hg_ hnew_; (first | rw [← Ny108.out] at ho2 | (simp only [Int.reduceToNat] at ho2; rw [← Ny108.out] at ho2)); have HO110 := AM (Kd.yE_ ho2 (zj_ bel_)); replace HB := AM (zg_ bel_ hb); clear hb ho2))
 go_ret
 exact ⟨_, ri_, ro_ HO110.out, bel_⟩
/-! ### y7_: function 206 -/
def y7_.f (a0 : List Int) (a1 : ByteArray) : Option (List Int) := if a0.length = 8 ∧ a1.size = 64 then some (Hand.takenL (a0.map (· % 4294967296)) a1) else none
theorem y7_.calls (A0 : Option Addr) (c0 : Nat) (l0 : List Int) (a1 : ByteArray) (r : List Int) (w : World) (hr0 : Kd.C (Kd.int .i64) w A0 l0.length l0) (hc0 : l0.length ≤ c0) (h : y7_.f l0 a1 = some r) :
 Calls Try.prog 206 #[.slice A0 l0.length c0, .string a1] w fun e w' => ∃ v0_ : Value, e = .returned (v0_) ∧ Kd.R (Kd.int .i64) 2 w' w.heap.size (fun _ => True) v0_ r ∧ Below w.heap.size w w' := by
 unfold y7_.f at h
 by_cases hc : l0.length = 8 ∧ a1.size = 64
 ·
  rw [if_pos hc] at h
  obtain rfl := Option.some.inj h
  exact Hand.block_x A0 c0 l0 a1 w hr0 hc.1 hc.2
 ·
  rw [if_neg hc] at h
  cases h
/-! ### zz_: function 153 -/
def zz_.l0 : Nat → Int → List Int → ByteArray → Int → Option (List Int × ByteArray × Int)
 | 0, _, _, _, _ => none
 | k + 1, x6, x120000, x120001, x120002 => if (wrap64 ((x120001.size : Int) - x6)) ≥ 64 then (if 0 ≤ x6 then (if x6 ≤ (wrap64 (x6 + 64)) then (if (wrap64 (x6 + 64)) ≤ (x120001.size : Int) then ((y7_.f x120000 (x120001.extract (x6 : Int).toNat ((wrap64 (x6 + 64)) : Int).toNat)).bind fun t120 => (zz_.l0 k (wrap64 (x6 + 64)) t120 x120001 x120002)) else (none)) else (none)) else (none)) else (if 0 ≤ x6 then (if x6 ≤ (x120001.size : Int) then (some (x120000, x120001.extract (x6 : Int).toNat x120001.size, x120002)) else (none)) else (none))
def zz_.f (k : Nat) (l0_0 : List Int) (a0_1 : ByteArray) (a0_2 : Int) (a1 : ByteArray) : Option (List Int × ByteArray × Int) := (some (([] : List Int) : List Int)).bind fun y113 => (if y113.length + l0_0.length < 17592186044416 then (if a0_1.size + a1.size ≤ 9223372036854775807 then (zz_.l0 k 0 (y113 ++ l0_0) (a0_1 ++ a1) (wrap64 (a0_2 + (a1.size : Int)))) else (none)) else (none))
theorem zz_.mono_l : ∀ k, (∀ y0 y1 y2 y3, LeO (zz_.l0 k y0 y1 y2 y3) (zz_.l0 (k + 1) y0 y1 y2 y3))
 | 0 => fun _ _ _ _ r h => by simp [zz_.l0] at h
 | k + 1 => by
  have ih0 := zz_.mono_l k
  ·
   intro y0 y1 y2 y3
   unfold zz_.l0
   repeat' with_reducible first | exact ih0 _ _ _ _ | exact LeO.refl _ | exact LeO.none _ | refine LeO.ite ?_ ?_ | refine LeO.bind ?_ (fun _ => ?_)
theorem zz_.mono : ∀ a0 a1 a2 a3 k, LeO (zz_.f k a0 a1 a2 a3) (zz_.f (k + 1) a0 a1 a2 a3) := by
 intro a0 a1 a2 a3 k
 have ih0 := zz_.mono_l k
 unfold zz_.f
 repeat' with_reducible first | exact ih0 _ _ _ _ | exact LeO.refl _ | exact LeO.none _ | refine LeO.ite ?_ ?_ | refine LeO.bind ?_ (fun _ => ?_)
def zz_.T1 : Bool × List (List Nat × List Nat) := (true, [([], []), ([], []), ([1], [1]), ([0, 2], [0, 2]), ([], []), ([4], [4]), ([], []), ([5, 6], [5, 6]), ([], []), ([8], [8]), ([], []), ([10], [10]), ([9, 11], [9, 11]), ([3, 7, 12], [3, 7, 12]), ([], []), ([14, 13, 3, 0, 1, 2, 3, 4, 5, 6, 7, 8, 9, 10, 11, 12, 13, 14], [13, 14])])
def zz_.B1 : List Nat := [0, 0, 2, 7, 0, 16, 0, 112, 0, 256, 0, 1024, 3840, 8191, 0, 32767]
theorem zz_.tab1 : rtab .any (opsOf Try.f153 1) = zz_.T1 := by kernel_rfl
theorem zz_.bits1 : xe_ zz_.T1.2 zz_.B1 = true := by kernel_rfl
def zz_.T5 : Bool × List (List Nat × List Nat) := (true, [([], []), ([0], [0]), ([], []), ([2], [2]), ([], []), ([], []), ([5], [5]), ([3, 4, 6], [3, 4, 6]), ([1, 7], [1, 7]), ([0, 1, 2, 3, 4, 5, 6, 7, 8], []), ([9, 8, 8, 0, 1, 2, 3, 4, 5, 6, 7, 8], [8, 9])])
def zz_.B5 : List Nat := [0, 1, 0, 4, 0, 0, 32, 124, 255, 511, 1023]
theorem zz_.tab5 : rtab .any (opsOf Try.f153 5) = zz_.T5 := by kernel_rfl
theorem zz_.bits5 : xe_ zz_.T5.2 zz_.B5 = true := by kernel_rfl
theorem zz_.calls (k : Nat) (A0_0 : Option Addr) (c0_0 : Nat) (l0_0 : List Int) (a0_1 : ByteArray) (a0_2 : Int) (a1 : ByteArray) (r1 : List Int) (r2 : ByteArray) (r3 : Int) (w : World) (hr0_0 : Kd.C (Kd.int .i64) w A0_0 l0_0.length l0_0) (hc0_0 : l0_0.length ≤ c0_0) (h : zz_.f k l0_0 a0_1 a0_2 a1 = some (r1, r2, r3)) :
 Calls Try.prog 153 #[.agg #[.slice A0_0 l0_0.length c0_0, .string a0_1, .int .i64 a0_2], .string a1] w fun e w' => ∃ v0_ : Value, e = .returned (.agg #[v0_, .string r2, .int .i64 r3]) ∧ Kd.R (Kd.int .i64) 2 w' w.heap.size (fun _ => True) v0_ r1 ∧ Below w.heap.size w w' := by
 have hu191 := Try.underlying191
 have HR0_0 := AM hr0_0
 have HC0_0 := AM hc0_0
 clear hr0_0 hc0_0
 have HB := AM (Below.refl w.heap.size w)
 have H : ((some (([] : List Int) : List Int)).bind fun y113 => (if y113.length + l0_0.length < 17592186044416 then (if a0_1.size + a1.size ≤ 9223372036854775807 then (zz_.l0 k 0 (y113 ++ l0_0) (a0_1 ++ a1) (wrap64 (a0_2 + (a1.size : Int)))) else (none)) else (none))) = some (r1, r2, r3) := h
 clear h
 obtain ⟨y113, hy113⟩ : ∃ y_ : List Int, y_ = (([] : List Int)) := ⟨_, rfl⟩
 replace H : (if y113.length + l0_0.length < 17592186044416 then (if a0_1.size + a1.size ≤ 9223372036854775807 then (zz_.l0 k 0 (y113 ++ l0_0) (a0_1 ++ a1) (wrap64 (a0_2 + (a1.size : Int)))) else (none)) else (none)) = some (r1, r2, r3) := by first | (rw [hy113]; with_reducible exact H) | (have H2_ := (Option.bind_some _ _).symm.trans H; rw [hy113]; with_reducible exact H2_) | (have H2_ := (Option.bind_some _ _).symm.trans H; with_reducible exact H2_) | with_reducible exact H | (rw [hy113]; exact H) | exact H
 have Ny113 := AM hy113
 clear hy113
 by_cases c3 : y113.length + l0_0.length < 17592186044416
 ·
  rw [if_pos c3] at H
  have LMc3 := AM c3
  clear c3
  obtain ⟨y116, hy116⟩ : ∃ y_ : List Int, y_ = (y113 ++ l0_0) := ⟨_, rfl⟩
  replace H : (if a0_1.size + a1.size ≤ 9223372036854775807 then (zz_.l0 k 0 y116 (a0_1 ++ a1) (wrap64 (a0_2 + (a1.size : Int)))) else (none)) = some (r1, r2, r3) := by first | (rw [hy116]; with_reducible exact H) | (have H2_ := (Option.bind_some _ _).symm.trans H; rw [hy116]; with_reducible exact H2_) | (have H2_ := (Option.bind_some _ _).symm.trans H; with_reducible exact H2_) | with_reducible exact H | (rw [hy116]; exact H) | exact H
  have Ny116 := AM hy116
  clear hy116
  by_cases c4 : a0_1.size + a1.size ≤ 9223372036854775807
  ·
   rw [if_pos c4] at H
   have c4b0 := eq_true c4
   have c4b1 : decide (a0_1.size + a1.size ≤ 9223372036854775807) = true := decide_eq_true c4
   try have c4b2 : (9223372036854775807 < a0_1.size + a1.size) = False := eq_false (Nat.not_lt.2 c4)
   have H' := AM H
   clear H
   go_enter Try.func153, Try.ntmps153
   try go_wp2_with (first | ((with_reducible refine z6_ (N := 2) rfl ?_); refine be_ 2 #[.slice A0_0 l0_0.length c0_0, .string a0_1, .int .i64 a0_2] 191 ?_; intro gb111 hg w5 hbox hb; have BK111 := AM hbox; have GW111 := AM ((by rw [hg]; exact (zj_ bel_) : w.heap.size ≤ gb111)); have GE111 := AM ((by rw [hg]; exact (zj_ bel_) : w.heap.size ≤ gb111)); replace HB := AM (zg_ bel_ hb); clear hb hbox hg) | ((with_reducible refine z6_ (N := 4) rfl ?_); refine be_ 4 #[.slice none 0 0, .string (⟨#[]⟩ : ByteArray), .int .i64 0] 191 ?_; intro gb112 hg w6 hbox hb; have BK112 := AM hbox; have GW112 := AM ((by rw [hg]; exact (zj_ bel_) : w.heap.size ≤ gb112)); have GE112 := AM ((by rw [hg]; exact (zj_ bel_) : w.heap.size ≤ gb112)); replace HB := AM (zg_ bel_ hb); have NB111_112 := AM ((by rw [hg]; exact Nat.ne_of_lt (yS_ (g := gb111) (o := .cells #[.slice A0_0 l0_0.length c0_0, .string a0_1, .int .i64 a0_2] 191 (0, 0)) (bk_ BK111.out)) : gb111 ≠ gb112)); have NB112_111 := AM ((by rw [hg]; exact Nat.ne_of_gt (yS_ (g := gb111) (o := .cells #[.slice A0_0 l0_0.length c0_0, .string a0_1, .int .i64 a0_2] 191 (0, 0)) (bk_ BK111.out)) : gb112 ≠ gb111)); replace BK111 := AM (zP_ (g := gb111) (o := .cells #[.slice A0_0 l0_0.length c0_0, .string a0_1, .int .i64 a0_2] 191 (0, 0)) (bk_ BK111.out) hb); clear hb hbox hg))
   replace BK111 := AM (yU_ BK111.out)
   replace BK112 := AM (yU_ BK112.out)
   replace HB := AM (z1_ HB.out)
   refine xi_ (n := 16) (S := fun w' => w'.cell? ⟨gb111, 0, none⟩ = some (.slice A0_0 l0_0.length c0_0) ∧ w'.cell? ⟨gb111, 1, none⟩ = some (.string a0_1) ∧ w'.cell? ⟨gb111, 2, none⟩ = some (.int .i64 a0_2)) (ds := []) (Array.replicate 16 false) (by kernel_rfl) rfl rfl ⟨(zb_ BK111.out 0).trans rfl, (zb_ BK111.out 1).trans rfl, (zb_ BK111.out 2).trans rfl⟩ (fun hHeld => ?_); refine yu_ zz_.tab1 zz_.bits1 (fun HT_ HW_ => ?_)
   generalize w6.drew = w7 at BK111 BK112 HB hHeld ⊢
   refine pu_ HT_ 1 (some 8) (bA 16 2) ?_
   refine pu_ HT_ 4 (some 11) (bA 16 18) ?_
   refine pu_ HT_ 6 (some 13) (bA 16 82) ?_
   refine pu_ HT_ 8 (some 15) (bA 16 338) ?_
   refine pu_ HT_ 10 (some 17) (bA 16 1362) ?_
   refine pu_ HT_ 11 (some 18) (bA 16 3410) ?_
   refine ta_ HT_ HW_ 2 (some 9) (bA 16 3414) hHeld ?_
   refine ta_ HT_ HW_ 5 (some 12) (bA 16 3446) hHeld ?_
   refine pu_ HT_ 7 (some 14) (bA 16 3574) ?_
   refine ta_ HT_ HW_ 9 (some 16) (bA 16 4086) hHeld ?_
   refine pu_ HT_ 12 (some 19) (bA 16 8182) ?_
   refine join_ (σ := Value × Value × Nat) 1 #[true, true, true, true, true, true, true, true, true, true, true, true, true, true, true, false] (fun s_ => [(7, s_.1), (10, s_.2.1), (5, .pointer (some ⟨s_.2.2, 0, none⟩)), (20, .agg #[s_.2.1, .string (a0_1 ++ a1), .int .i64 (wrap64 (a0_2 + (a1.size : Int)))])]) (fun s_ w' => (w'.cell? ⟨gb111, 0, none⟩ = some (.slice A0_0 l0_0.length c0_0) ∧ w'.cell? ⟨gb111, 1, none⟩ = some (.string a0_1) ∧ w'.cell? ⟨gb111, 2, none⟩ = some (.int .i64 a0_2)) ∧ (Kd.R (Kd.int .i64) 2 w' w.heap.size (fun _ => True) s_.2.1 y116) ∧ (w'.heap[gb111]? = some (.cells #[.slice A0_0 l0_0.length c0_0, .string a0_1, .int .i64 a0_2] 191 (0, 0))) ∧ (w'.heap[gb112]? = some (.cells #[.slice none 0 0, .string (⟨#[]⟩ : ByteArray), .int .i64 0] 191 (0, 0))) ∧ (w'.heap[s_.2.2]? = some (.cells #[.slice none 0 0, .string (⟨#[]⟩ : ByteArray), .int .i64 0] 191 (0, 0))) ∧ (w.heap.size ≤ s_.2.2) ∧ (w.heap.size ≤ s_.2.2) ∧ (gb111 ≠ s_.2.2) ∧ (s_.2.2 ≠ gb111) ∧ (gb112 ≠ s_.2.2) ∧ (s_.2.2 ≠ gb112) ∧ (Below w.heap.size w w')) ?_ ?_
   rotate_left
   ·
    intro hCont
    refine tw_ HT_ 0 14 (some 7) (some 5) (bA 16 8183) (bA 16 24566) (fun K hK => ?_) (fun K hK => ?_)
    ·
     skip
     refine Kd.R_lit_step (Kd.int .i64) _ 2 ?hgL2 (N := 7) ?hdL2 (xs := ([] : List Int)) (inner := []) (ok := fun _ => True) (okp := fun _ => True) ?hrL2 ?hpL2 (fun _ hk => hk) trivial (Below.refl _ _) (Nat.le_refl _) (by simp) ?_; (case hdL2 => rfl); (case hgL2 => rfl); (case hrL2 => first | (go_simp; done) | (go_simp; rfl)); (case hpL2 => exact (Reps.none _ _))
     intro v114 w8 ho9 hb hg_ hnew_
     clear hg_ hnew_
     (first | rw [← Ny113.out] at ho9 | (simp only [Int.reduceToNat] at ho9; rw [← Ny113.out] at ho9))
     have HO115 := AM (Kd.yE_ ho9 (zj_ bel_))
     replace BK111 := AM (zP_ (g := gb111) (o := .cells #[.slice A0_0 l0_0.length c0_0, .string a0_1, .int .i64 a0_2] 191 (0, 0)) (bk_ BK111.out) hb)
     replace BK112 := AM (zP_ (g := gb112) (o := .cells #[.slice none 0 0, .string (⟨#[]⟩ : ByteArray), .int .i64 0] 191 (0, 0)) (bk_ BK112.out) hb)
     replace HB := AM (zg_ bel_ hb)
     clear hb ho9
     refine hK.out _ _ ⟨(zb_ BK111.out 0).trans rfl, (zb_ BK111.out 1).trans rfl, (zb_ BK111.out 2).trans rfl⟩ (fun hHeld => ?_)
     clear hK K
     refine nm_ ?_
     refine tw_ HT_ 3 14 (some 10) (some 5) (bA 16 8191) (bA 16 24567) (fun K hK => ?_) (fun K hK => ?_)
     ·
      skip
      refine Kd.xN_ (Kd.int .i64) (w0 := w) w.heap.size (by rfl) (.tmp 7) (.tmp 9) 82 2 (.int .i64 0) 8 rfl Try.underlying82 info2 rfl (by decide) (by omega) v114 y113 l0_0 _ _ _ (fun _ => True) (fun _ => False) rfl rfl ?aO ?aR (fun _ _ h => h) (fun _ h => h.elim) ?aF ?aB ?aS ?aL ?_
      (case aR => repeat (first | exact (Kd.xc_ HR0_0.out HB.out) | (with_reducible refine Kd.yx_ ?_ _) | (with_reducible refine Kd.yw_ ?_ _) | (with_reducible refine Kd.yQ_ ?_)))
      (case aB => exact bel_)
      (case aF => exact (fun _ _ => trivial))
      (case aO => exact (ro_ HO115.out))
      (case aS => exact (zj_ bel_))
      (case aL => have := LMc3.out; omega)
      intro v117 w10 ho hb hg hat
      rw [← Ny116.out] at ho
      have n0_ := AM (yp_ (g := gb111) (o := .cells #[.slice A0_0 l0_0.length c0_0, .string a0_1, .int .i64 a0_2] 191 (0, 0)) (bk_ BK111.out) hg (Kd.R_ne HO115.out BK111.out (by decide)))
      have n1_ := AM (yp_ (g := gb112) (o := .cells #[.slice none 0 0, .string (⟨#[]⟩ : ByteArray), .int .i64 0] 191 (0, 0)) (bk_ BK112.out) hg (Kd.R_ne HO115.out BK112.out (by decide)))
      have n2_ := AM hb
      have n3_ := AM ho
      clear BK111
      clear BK112
      clear HB
      clear HO115
      have BK111 := n0_
      have BK112 := n1_
      have HB := n2_
      have HO118 := n3_
      clear n0_ n1_ n2_ n3_
      clear ho hb hg hat
      obtain ⟨Ao11, co11, eo11⟩ := Kd.yA_ HO118.out
      (first | subst eo11 | (injection eo11 with f1_ f2_ f3_; have f4_ := f1_.symm; have f5_ := f3_.symm; clear f1_ f2_ f3_; subst f4_; subst f5_))
      refine hK.out _ _ ⟨(zb_ BK111.out 0).trans rfl, (zb_ BK111.out 1).trans rfl, (zb_ BK111.out 2).trans rfl⟩ (fun hHeld => ?_)
      clear hK K
      refine nm_ ?_
      refine pu_ HT_ 13 (some 20) (bA 16 16383) ?_
      refine on_ HT_ 14 (some 5) (bA 16 32767) (fun K hK => ?_)
      refine bs_ 5 #[.slice none 0 0, .string (⟨#[]⟩ : ByteArray), .int .i64 0] 191 ?_
      intro gb119 hg w12 hbox hb
      replace HO118 := AM (Kd.yO_ (ro_ HO118.out) hb)
      have BK119 := AM hbox
      have GW119 := AM ((by rw [hg]; exact (zj_ bel_) : w.heap.size ≤ gb119))
      have GE119 := AM ((by rw [hg]; exact (zj_ bel_) : w.heap.size ≤ gb119))
      replace HB := AM (zg_ bel_ hb)
      have NB111_119 := AM ((by rw [hg]; exact Nat.ne_of_lt (yS_ (g := gb111) (o := .cells #[.slice A0_0 l0_0.length c0_0, .string a0_1, .int .i64 a0_2] 191 (0, 0)) (bk_ BK111.out)) : gb111 ≠ gb119))
      have NB119_111 := AM ((by rw [hg]; exact Nat.ne_of_gt (yS_ (g := gb111) (o := .cells #[.slice A0_0 l0_0.length c0_0, .string a0_1, .int .i64 a0_2] 191 (0, 0)) (bk_ BK111.out)) : gb119 ≠ gb111))
      replace BK111 := AM (zP_ (g := gb111) (o := .cells #[.slice A0_0 l0_0.length c0_0, .string a0_1, .int .i64 a0_2] 191 (0, 0)) (bk_ BK111.out) hb)
      have NB112_119 := AM ((by rw [hg]; exact Nat.ne_of_lt (yS_ (g := gb112) (o := .cells #[.slice none 0 0, .string (⟨#[]⟩ : ByteArray), .int .i64 0] 191 (0, 0)) (bk_ BK112.out)) : gb112 ≠ gb119))
      have NB119_112 := AM ((by rw [hg]; exact Nat.ne_of_gt (yS_ (g := gb112) (o := .cells #[.slice none 0 0, .string (⟨#[]⟩ : ByteArray), .int .i64 0] 191 (0, 0)) (bk_ BK112.out)) : gb119 ≠ gb112))
      replace BK112 := AM (zP_ (g := gb112) (o := .cells #[.slice none 0 0, .string (⟨#[]⟩ : ByteArray), .int .i64 0] 191 (0, 0)) (bk_ BK112.out) hb)
      clear hb hbox hg
      refine hK.out _ _ ⟨(zb_ BK111.out 0).trans rfl, (zb_ BK111.out 1).trans rfl, (zb_ BK111.out 2).trans rfl⟩ (fun hHeld => ?_)
      clear hK K
      refine nm_ ?_
      exact nmE_ (hCont (v114, .slice Ao11 y116.length co11, gb119) _ ⟨hHeld, (ro_ HO118.out), (bk_ BK111.out), (bk_ BK112.out), (bk_ BK119.out), GW119.out, GE119.out, NB111_119.out, NB119_111.out, NB112_119.out, NB119_112.out, bel_⟩)
     ·
      skip
      refine bs_ 5 #[.slice none 0 0, .string (⟨#[]⟩ : ByteArray), .int .i64 0] 191 ?_
      intro gb119 hg w10 hbox hb
      replace HO115 := AM (Kd.yO_ (ro_ HO115.out) hb)
      have BK119 := AM hbox
      have GW119 := AM ((by rw [hg]; exact (zj_ bel_) : w.heap.size ≤ gb119))
      have GE119 := AM ((by rw [hg]; exact (zj_ bel_) : w.heap.size ≤ gb119))
      replace HB := AM (zg_ bel_ hb)
      have NB111_119 := AM ((by rw [hg]; exact Nat.ne_of_lt (yS_ (g := gb111) (o := .cells #[.slice A0_0 l0_0.length c0_0, .string a0_1, .int .i64 a0_2] 191 (0, 0)) (bk_ BK111.out)) : gb111 ≠ gb119))
      have NB119_111 := AM ((by rw [hg]; exact Nat.ne_of_gt (yS_ (g := gb111) (o := .cells #[.slice A0_0 l0_0.length c0_0, .string a0_1, .int .i64 a0_2] 191 (0, 0)) (bk_ BK111.out)) : gb119 ≠ gb111))
      replace BK111 := AM (zP_ (g := gb111) (o := .cells #[.slice A0_0 l0_0.length c0_0, .string a0_1, .int .i64 a0_2] 191 (0, 0)) (bk_ BK111.out) hb)
      have NB112_119 := AM ((by rw [hg]; exact Nat.ne_of_lt (yS_ (g := gb112) (o := .cells #[.slice none 0 0, .string (⟨#[]⟩ : ByteArray), .int .i64 0] 191 (0, 0)) (bk_ BK112.out)) : gb112 ≠ gb119))
      have NB119_112 := AM ((by rw [hg]; exact Nat.ne_of_gt (yS_ (g := gb112) (o := .cells #[.slice none 0 0, .string (⟨#[]⟩ : ByteArray), .int .i64 0] 191 (0, 0)) (bk_ BK112.out)) : gb119 ≠ gb112))
      replace BK112 := AM (zP_ (g := gb112) (o := .cells #[.slice none 0 0, .string (⟨#[]⟩ : ByteArray), .int .i64 0] 191 (0, 0)) (bk_ BK112.out) hb)
      clear hb hbox hg
      refine hK.out _ _ ⟨(zb_ BK111.out 0).trans rfl, (zb_ BK111.out 1).trans rfl, (zb_ BK111.out 2).trans rfl⟩ (fun hHeld => ?_)
      clear hK K
      refine nm_ ?_
      refine on_ HT_ 3 (some 10) (bA 16 24575) (fun K hK => ?_)
      refine Kd.xN_ (Kd.int .i64) (w0 := w) w.heap.size (by rfl) (.tmp 7) (.tmp 9) 82 2 (.int .i64 0) 8 rfl Try.underlying82 info2 rfl (by decide) (by omega) v114 y113 l0_0 _ _ _ (fun _ => True) (fun _ => False) rfl rfl ?aO ?aR (fun _ _ h => h) (fun _ h => h.elim) ?aF ?aB ?aS ?aL ?_
      (case aR => repeat (first | exact (Kd.xc_ HR0_0.out HB.out) | (with_reducible refine Kd.yx_ ?_ _) | (with_reducible refine Kd.yw_ ?_ _) | (with_reducible refine Kd.yQ_ ?_)))
      (case aB => exact bel_)
      (case aF => exact (fun _ _ => trivial))
      (case aO => exact (ro_ HO115.out))
      (case aS => exact (zj_ bel_))
      (case aL => have := LMc3.out; omega)
      intro v117 w11 ho hb hg hat
      rw [← Ny116.out] at ho
      have n0_ := AM (yp_ (g := gb111) (o := .cells #[.slice A0_0 l0_0.length c0_0, .string a0_1, .int .i64 a0_2] 191 (0, 0)) (bk_ BK111.out) hg (Kd.R_ne HO115.out BK111.out (by decide)))
      have n1_ := AM (yp_ (g := gb112) (o := .cells #[.slice none 0 0, .string (⟨#[]⟩ : ByteArray), .int .i64 0] 191 (0, 0)) (bk_ BK112.out) hg (Kd.R_ne HO115.out BK112.out (by decide)))
      have n2_ := AM (yp_ (g := gb119) (o := .cells #[.slice none 0 0, .string (⟨#[]⟩ : ByteArray), .int .i64 0] 191 (0, 0)) (bk_ BK119.out) hg (Kd.R_ne HO115.out BK119.out (by decide)))
      have n3_ := AM hb
      have n4_ := AM ho
      clear BK111
      clear BK112
      clear BK119
      clear HB
      clear HO115
      have BK111 := n0_
      have BK112 := n1_
      have BK119 := n2_
      have HB := n3_
      have HO118 := n4_
      clear n0_ n1_ n2_ n3_ n4_
      clear ho hb hg hat
      obtain ⟨Ao12, co12, eo12⟩ := Kd.yA_ HO118.out
      (first | subst eo12 | (injection eo12 with f1_ f2_ f3_; have f4_ := f1_.symm; have f5_ := f3_.symm; clear f1_ f2_ f3_; subst f4_; subst f5_))
      refine hK.out _ _ ⟨(zb_ BK111.out 0).trans rfl, (zb_ BK111.out 1).trans rfl, (zb_ BK111.out 2).trans rfl⟩ (fun hHeld => ?_)
      clear hK K
      refine nm_ ?_
      refine pu_ HT_ 13 (some 20) (bA 16 32767) ?_
      exact nmE_ (hCont (v114, .slice Ao12 y116.length co12, gb119) _ ⟨hHeld, (ro_ HO118.out), (bk_ BK111.out), (bk_ BK112.out), (bk_ BK119.out), GW119.out, GE119.out, NB111_119.out, NB119_111.out, NB112_119.out, NB119_112.out, bel_⟩)
    ·
     skip
     refine bs_ 5 #[.slice none 0 0, .string (⟨#[]⟩ : ByteArray), .int .i64 0] 191 ?_
     intro gb119 hg w8 hbox hb
     have BK119 := AM hbox
     have GW119 := AM ((by rw [hg]; exact (zj_ bel_) : w.heap.size ≤ gb119))
     have GE119 := AM ((by rw [hg]; exact (zj_ bel_) : w.heap.size ≤ gb119))
     replace HB := AM (zg_ bel_ hb)
     have NB111_119 := AM ((by rw [hg]; exact Nat.ne_of_lt (yS_ (g := gb111) (o := .cells #[.slice A0_0 l0_0.length c0_0, .string a0_1, .int .i64 a0_2] 191 (0, 0)) (bk_ BK111.out)) : gb111 ≠ gb119))
     have NB119_111 := AM ((by rw [hg]; exact Nat.ne_of_gt (yS_ (g := gb111) (o := .cells #[.slice A0_0 l0_0.length c0_0, .string a0_1, .int .i64 a0_2] 191 (0, 0)) (bk_ BK111.out)) : gb119 ≠ gb111))
     replace BK111 := AM (zP_ (g := gb111) (o := .cells #[.slice A0_0 l0_0.length c0_0, .string a0_1, .int .i64 a0_2] 191 (0, 0)) (bk_ BK111.out) hb)
     have NB112_119 := AM ((by rw [hg]; exact Nat.ne_of_lt (yS_ (g := gb112) (o := .cells #[.slice none 0 0, .string (⟨#[]⟩ : ByteArray), .int .i64 0] 191 (0, 0)) (bk_ BK112.out)) : gb112 ≠ gb119))
     have NB119_112 := AM ((by rw [hg]; exact Nat.ne_of_gt (yS_ (g := gb112) (o := .cells #[.slice none 0 0, .string (⟨#[]⟩ : ByteArray), .int .i64 0] 191 (0, 0)) (bk_ BK112.out)) : gb119 ≠ gb112))
     replace BK112 := AM (zP_ (g := gb112) (o := .cells #[.slice none 0 0, .string (⟨#[]⟩ : ByteArray), .int .i64 0] 191 (0, 0)) (bk_ BK112.out) hb)
     clear hb hbox hg
     refine hK.out _ _ ⟨(zb_ BK111.out 0).trans rfl, (zb_ BK111.out 1).trans rfl, (zb_ BK111.out 2).trans rfl⟩ (fun hHeld => ?_)
     clear hK K
     refine nm_ ?_
     refine on_ HT_ 0 (some 7) (bA 16 24567) (fun K hK => ?_)
     refine Kd.R_lit_step (Kd.int .i64) _ 2 ?hgL3 (N := 7) ?hdL3 (xs := ([] : List Int)) (inner := []) (ok := fun _ => True) (okp := fun _ => True) ?hrL3 ?hpL3 (fun _ hk => hk) trivial (Below.refl _ _) (Nat.le_refl _) (by simp) ?_; (case hdL3 => rfl); (case hgL3 => rfl); (case hrL3 => first | (go_simp; done) | (go_simp; rfl)); (case hpL3 => exact (Reps.none _ _))
     intro v114 w9 ho10 hb hg_ hnew_
     clear hg_ hnew_
     (first | rw [← Ny113.out] at ho10 | (simp only [Int.reduceToNat] at ho10; rw [← Ny113.out] at ho10))
     have HO115 := AM (Kd.yE_ ho10 (zj_ bel_))
     replace BK111 := AM (zP_ (g := gb111) (o := .cells #[.slice A0_0 l0_0.length c0_0, .string a0_1, .int .i64 a0_2] 191 (0, 0)) (bk_ BK111.out) hb)
     replace BK112 := AM (zP_ (g := gb112) (o := .cells #[.slice none 0 0, .string (⟨#[]⟩ : ByteArray), .int .i64 0] 191 (0, 0)) (bk_ BK112.out) hb)
     replace BK119 := AM (zP_ (g := gb119) (o := .cells #[.slice none 0 0, .string (⟨#[]⟩ : ByteArray), .int .i64 0] 191 (0, 0)) (bk_ BK119.out) hb)
     replace HB := AM (zg_ bel_ hb)
     clear hb ho10
     refine hK.out _ _ ⟨(zb_ BK111.out 0).trans rfl, (zb_ BK111.out 1).trans rfl, (zb_ BK111.out 2).trans rfl⟩ (fun hHeld => ?_)
     clear hK K
     refine nm_ ?_
     refine on_ HT_ 3 (some 10) (bA 16 24575) (fun K hK => ?_)
     refine Kd.xN_ (Kd.int .i64) (w0 := w) w.heap.size (by rfl) (.tmp 7) (.tmp 9) 82 2 (.int .i64 0) 8 rfl Try.underlying82 info2 rfl (by decide) (by omega) v114 y113 l0_0 _ _ _ (fun _ => True) (fun _ => False) rfl rfl ?aO ?aR (fun _ _ h => h) (fun _ h => h.elim) ?aF ?aB ?aS ?aL ?_
     (case aR => repeat (first | exact (Kd.xc_ HR0_0.out HB.out) | (with_reducible refine Kd.yx_ ?_ _) | (with_reducible refine Kd.yw_ ?_ _) | (with_reducible refine Kd.yQ_ ?_)))
     (case aB => exact bel_)
     (case aF => exact (fun _ _ => trivial))
     (case aO => exact (ro_ HO115.out))
     (case aS => exact (zj_ bel_))
     (case aL => have := LMc3.out; omega)
     intro v117 w11 ho hb hg hat
     rw [← Ny116.out] at ho
     have n0_ := AM (yp_ (g := gb111) (o := .cells #[.slice A0_0 l0_0.length c0_0, .string a0_1, .int .i64 a0_2] 191 (0, 0)) (bk_ BK111.out) hg (Kd.R_ne HO115.out BK111.out (by decide)))
     have n1_ := AM (yp_ (g := gb112) (o := .cells #[.slice none 0 0, .string (⟨#[]⟩ : ByteArray), .int .i64 0] 191 (0, 0)) (bk_ BK112.out) hg (Kd.R_ne HO115.out BK112.out (by decide)))
     have n2_ := AM (yp_ (g := gb119) (o := .cells #[.slice none 0 0, .string (⟨#[]⟩ : ByteArray), .int .i64 0] 191 (0, 0)) (bk_ BK119.out) hg (Kd.R_ne HO115.out BK119.out (by decide)))
     have n3_ := AM hb
     have n4_ := AM ho
     clear BK111
     clear BK112
     clear BK119
     clear HB
     clear HO115
     have BK111 := n0_
     have BK112 := n1_
     have BK119 := n2_
     have HB := n3_
     have HO118 := n4_
     clear n0_ n1_ n2_ n3_ n4_
     clear ho hb hg hat
     obtain ⟨Ao12, co12, eo12⟩ := Kd.yA_ HO118.out
     (first | subst eo12 | (injection eo12 with f1_ f2_ f3_; have f4_ := f1_.symm; have f5_ := f3_.symm; clear f1_ f2_ f3_; subst f4_; subst f5_))
     refine hK.out _ _ ⟨(zb_ BK111.out 0).trans rfl, (zb_ BK111.out 1).trans rfl, (zb_ BK111.out 2).trans rfl⟩ (fun hHeld => ?_)
     clear hK K
     refine nm_ ?_
     refine pu_ HT_ 13 (some 20) (bA 16 32767) ?_
     exact nmE_ (hCont (v114, .slice Ao12 y116.length co12, gb119) _ ⟨hHeld, (ro_ HO118.out), (bk_ BK111.out), (bk_ BK112.out), (bk_ BK119.out), GW119.out, GE119.out, NB111_119.out, NB119_111.out, NB112_119.out, NB119_112.out, bel_⟩)
   rintro ⟨v114, v117, gb119⟩ w13 ⟨hS_, h0_, h1_, h2_, h3_, h4_, h5_, h6_, h7_, h8_, h9_, h10_⟩
   have HO118 : zd_ (Kd.R (Kd.int .i64) 2 w13 w.heap.size (fun _ => True) v117 y116) := ⟨h0_⟩
   replace BK111 : zd_ (w13.heap[gb111]? = some (.cells #[.slice A0_0 l0_0.length c0_0, .string a0_1, .int .i64 a0_2] 191 (0, 0))) := ⟨h1_⟩
   replace BK112 : zd_ (w13.heap[gb112]? = some (.cells #[.slice none 0 0, .string (⟨#[]⟩ : ByteArray), .int .i64 0] 191 (0, 0))) := ⟨h2_⟩
   have BK119 : zd_ (w13.heap[gb119]? = some (.cells #[.slice none 0 0, .string (⟨#[]⟩ : ByteArray), .int .i64 0] 191 (0, 0))) := ⟨h3_⟩
   have GW119 : zd_ (w.heap.size ≤ gb119) := ⟨h4_⟩
   have GE119 : zd_ (w.heap.size ≤ gb119) := ⟨h5_⟩
   have NB111_119 : zd_ (gb111 ≠ gb119) := ⟨h6_⟩
   have NB119_111 : zd_ (gb119 ≠ gb111) := ⟨h7_⟩
   have NB112_119 : zd_ (gb112 ≠ gb119) := ⟨h8_⟩
   have NB119_112 : zd_ (gb119 ≠ gb112) := ⟨h9_⟩
   replace HB : zd_ (Below w.heap.size w w13) := ⟨h10_⟩
   clear h0_ h1_ h2_ h3_ h4_ h5_ h6_ h7_ h8_ h9_ h10_
   have hHeld : w13.cell? ⟨gb111, 0, none⟩ = some (.slice A0_0 l0_0.length c0_0) ∧ w13.cell? ⟨gb111, 1, none⟩ = some (.string a0_1) ∧ w13.cell? ⟨gb111, 2, none⟩ = some (.int .i64 a0_2) := hS_
   obtain ⟨Ao14, co14, eo14⟩ := Kd.yA_ HO118.out
   (first | subst eo14 | (injection eo14 with f1_ f2_ f3_; have f4_ := f1_.symm; have f5_ := f3_.symm; clear f1_ f2_ f3_; subst f4_; subst f5_))
   refine nmA_ ?_
   refine on_ HT_ 15 none (bA 16 65535) (fun K hK => ?_)
   have hs15 : w13.cell? ⟨gb119, 0, none⟩ = some (.slice none 0 0) := (zb_ BK119.out 0).trans rfl
   have hfs15 := za_ BK119.out 0
   have hns15_0 := NB111_119.out
   have hns15_1 := NB112_119.out
   have hms15_0 := NB119_111.out
   have hms15_1 := NB119_112.out
   have hs16 : w13.cell? ⟨gb119, 1, none⟩ = some (.string (⟨#[]⟩ : ByteArray)) := (zb_ BK119.out 1).trans rfl
   have hfs16 := za_ BK119.out 1
   have hns16_0 := NB111_119.out
   have hns16_1 := NB112_119.out
   have hms16_0 := NB119_111.out
   have hms16_1 := NB119_112.out
   have hs17 : w13.cell? ⟨gb119, 2, none⟩ = some (.int .i64 0) := (zb_ BK119.out 2).trans rfl
   have hfs17 := za_ BK119.out 2
   have hns17_0 := NB111_119.out
   have hns17_1 := NB112_119.out
   have hms17_0 := NB119_111.out
   have hms17_1 := NB119_112.out
   refine sk_ ?_
   refine hK.out _ _ ⟨(by (rw [cell_far, cell_far, cell_far]) <;> first | exact hHeld.1 | exact NB111_119.out), (by (rw [cell_far, cell_far, cell_far]) <;> first | exact hHeld.2.1 | exact NB111_119.out), (by (rw [cell_far, cell_far, cell_far]) <;> first | exact hHeld.2.2 | exact NB111_119.out)⟩ (fun hHeld => ?_)
   clear hK K
   refine dn_ HT_ ?_
   try go_wp2
   obtain ⟨cat, hcat⟩ : ∃ c_ : ByteArray, a0_1 ++ a1 = c_ := ⟨_, rfl⟩
   replace H' := H'.out
   replace BK119 := BK119.out
   rw [hcat] at H'
   try rw [hcat] at BK119
   try rw [hcat]
   replace H' := AM H'
   replace BK119 := AM BK119
   have Ncat := AM hcat
   clear hcat
   go_loopg [6] k (fun kq v6 w' => ∃ (x6_1 : Int) (x120000_1 : List Int) (u120000 : Value), v6 = .int .i64 x6_1 ∧ zd_ (zz_.l0 kq x6_1 x120000_1 cat (wrap64 (a0_2 + (a1.size : Int))) = some (r1, r2, r3)) ∧ zd_ (kq ≤ k) ∧ zd_ (Kd.R (Kd.int .i64) 2 w' w.heap.size (fun _ => True) u120000 x120000_1) ∧ zd_ (w'.heap[gb111]? = some (.cells #[(.slice A0_0 l0_0.length c0_0), .string a0_1, .int .i64 a0_2] 191 (0, 0))) ∧ zd_ (w'.heap[gb112]? = some (.cells #[(.slice none 0 0), .string (⟨#[]⟩ : ByteArray), .int .i64 0] 191 (0, 0))) ∧ zd_ (w'.heap[gb119]? = some (.cells #[u120000, .string cat, .int .i64 (wrap64 (a0_2 + (a1.size : Int)))] 191 (0, 0))) ∧ zd_ (Below w.heap.size w w'))
   case atStart => exact ⟨(0), (y116), (.slice Ao14 y116.length co14), re_, H', ⟨Nat.le_refl _⟩, ⟨by (with_reducible repeat (first | apply Kd.yP_ | apply Kd.yL_ | apply Kd.yW_)); exact Kd.z9_ (Kd.R_far (p := ⟨gb119, 2, none⟩) (Kd.R_far (p := ⟨gb119, 1, none⟩) (Kd.R_far (p := ⟨gb119, 0, none⟩) (Kd.yo_ HO118.out BK119.out (by decide)) (fun _ hk => hk.2) (.slice Ao14 y116.length co14)) (fun _ hk => hk.2) (.string cat)) (fun _ hk => hk.2) (.int .i64 (wrap64 (a0_2 + (a1.size : Int))))) (fun _ hk => trivial)⟩, ⟨bka_⟩, ⟨bka_⟩, ⟨bka_⟩, ⟨bel_⟩⟩
   case round =>
    clear H'
    (try clear c4); (try clear c4b0); (try clear c4b1); (try clear c4b2)
    obtain ⟨x6_1, x120000_1, u120000, rfl, HA, HK1, HO_120000, BK111, BK112, BK119, HB⟩ := hrel
    cases gk with
    | zero => exact absurd HA.out (by simp [zz_.l0])
    | succ k1 =>
     have H := HA.out
     clear HA
     simp only [zz_.l0] at H
     by_cases c18 : (wrap64 ((cat.size : Int) - x6_1)) ≥ 64
     ·
      rw [if_pos c18] at H
      have c18b0 : decide (64 ≤ (wrap64 ((cat.size : Int) - x6_1))) = true := decide_eq_true c18
      try have c18b9 : (decide (64 ≤ (((cat.size : Int) - x6_1)))) = true := (by have hw0 : wrap64 ((cat.size : Int) - x6_1) = (cat.size : Int) - x6_1 := (by unfold wrap64; omega); have z_ := c18b0; simp only [hw0] at z_; exact z_)
      clear c18
      by_cases c19 : 0 ≤ x6_1
      ·
       rw [if_pos c19] at H
       have c19b0 := eq_true c19
       have c19b1 : decide (0 ≤ x6_1) = true := decide_eq_true c19
       clear c19
       by_cases c20 : x6_1 ≤ (wrap64 (x6_1 + 64))
       ·
        rw [if_pos c20] at H
        have c20b0 := eq_true c20
        have c20b1 : decide (x6_1 ≤ (wrap64 (x6_1 + 64))) = true := decide_eq_true c20
        by_cases c21 : (wrap64 (x6_1 + 64)) ≤ (cat.size : Int)
        ·
         rw [if_pos c21] at H
         have c21b0 := eq_true c21
         have c21b1 : decide ((wrap64 (x6_1 + 64)) ≤ (cat.size : Int)) = true := decide_eq_true c21
         obtain ⟨t120, A22, H⟩ := OB H
         try dsimp only at H
         replace A22 := AM A22
         have H' := AM H
         clear H
         have hnb23 := NB119_111.out
         have hnc23 := NB111_119.out
         have hnb24 := NB119_112.out
         have hnc24 := NB112_119.out
         have hcz25_0 : wr.cell? ⟨gb119, 0, none⟩ = some (u120000) := (zb_ BK119.out 0).trans rfl
         have hcz25_1 : wr.cell? ⟨gb119, 1, none⟩ = some (.string cat) := (zb_ BK119.out 1).trans rfl
         have hcz25_2 : wr.cell? ⟨gb119, 2, none⟩ = some (.int .i64 (wrap64 (a0_2 + (a1.size : Int)))) := (zb_ BK119.out 2).trans rfl
         have hfz25_0 := za_ BK119.out 0
         have hfz25_1 := za_ BK119.out 1
         have hfz25_2 := za_ BK119.out 2
         try go_wp2
         replace HO_120000 := AM (Kd.yW_ HO_120000.out)
         replace BK111 := AM (yU_ BK111.out)
         replace BK112 := AM (yU_ BK112.out)
         replace BK119 := AM (yU_ BK119.out)
         replace HB := AM (z1_ HB.out)
         obtain ⟨Ao27, co27, eo27⟩ := Kd.yA_ HO_120000.out
         (first | subst eo27 | (injection eo27 with f1_ f2_ f3_; have f4_ := f1_.symm; have f5_ := f3_.symm; clear f1_ f2_ f3_; subst f4_; subst f5_))
         refine xi_ (n := 11) (S := fun w' => w'.cell? ⟨gb119, 0, none⟩ = some (.slice Ao27 x120000_1.length co27) ∧ w'.cell? ⟨gb119, 1, none⟩ = some (.string cat) ∧ w'.cell? ⟨gb119, 2, none⟩ = some (.int .i64 (wrap64 (a0_2 + (a1.size : Int))))) (ds := [10]) (Array.replicate 11 false) (by kernel_rfl) rfl rfl ⟨(zb_ BK119.out 0).trans rfl, (zb_ BK119.out 1).trans rfl, (zb_ BK119.out 2).trans rfl⟩ (fun hHeld => ?_); refine yu_ zz_.tab5 zz_.bits5 (fun HT_ HW_ => ?_)
         generalize wr.drew = w26 at HO_120000 BK111 BK112 BK119 HB hHeld ⊢
         refine pu_ HT_ 0 (some 29) (bA 11 1) ?_
         refine pu_ HT_ 2 (some 31) (bA 11 5) ?_
         refine pu_ HT_ 4 (some 33) (bA 11 21) ?_
         refine pu_ HT_ 5 (some 34) (bA 11 53) ?_
         refine pu_ HT_ 6 (some 35) (bA 11 117) ?_
         refine ta_ HT_ HW_ 1 (some 30) (bA 11 119) hHeld ?_
         refine ta_ HT_ HW_ 3 (some 32) (bA 11 127) hHeld ?_
         refine pu_ HT_ 7 (some 36) (bA 11 255) ?_
         refine on_ HT_ 8 (some 37) (bA 11 511) (fun K hK => ?_)
         refine go1_ Try.func206 #[.slice Ao27 x120000_1.length co27, .string (cat.extract (x6_1 : Int).toNat ((wrap64 (x6_1 + 64)) : Int).toNat)] ?_
         with_reducible refine (y7_.calls _ _ x120000_1 (cat.extract (x6_1 : Int).toNat ((wrap64 (x6_1 + 64)) : Int).toNat) t120 _ ?side1 ?side2 A22.out).mono ?_
         (case side1 => repeat (first | exact (Kd.yI_ HO_120000.out).2.2 | (with_reducible refine Kd.yx_ ?_ _) | (with_reducible refine Kd.yw_ ?_ _) | (with_reducible refine Kd.yQ_ ?_)))
         (case side2 => exact (Kd.yI_ HO_120000.out).2.1)
         rintro e w28 ⟨v121, rfl, ho0, hb⟩
         refine ⟨_, rfl, ?_⟩
         have HO122 := AM (Kd.yE_ (Kd.R_new' ho0 (Kd.R_lt (ro_ HO_120000.out))) (zj_ bel_))
         replace HO_120000 := AM (Kd.R_elder' (ro_ HO_120000.out) (Kd.R_base ho0) hb)
         replace BK111 := AM (zP_ (g := gb111) (o := .cells #[.slice A0_0 l0_0.length c0_0, .string a0_1, .int .i64 a0_2] 191 (0, 0)) (bk_ BK111.out) hb)
         replace BK112 := AM (zP_ (g := gb112) (o := .cells #[.slice none 0 0, .string (⟨#[]⟩ : ByteArray), .int .i64 0] 191 (0, 0)) (bk_ BK112.out) hb)
         replace BK119 := AM (zP_ (g := gb119) (o := .cells #[.slice Ao27 x120000_1.length co27, .string cat, .int .i64 (wrap64 (a0_2 + (a1.size : Int)))] 191 (0, 0)) (bk_ BK119.out) hb)
         replace HB := AM (zg_ bel_ hb)
         (try clear hb); (try clear hk); (try clear ho0)
         obtain ⟨Ao29, co29, eo29⟩ := Kd.yA_ HO122.out
         (first | subst eo29 | (injection eo29 with f1_ f2_ f3_; have f4_ := f1_.symm; have f5_ := f3_.symm; clear f1_ f2_ f3_; subst f4_; subst f5_))
         refine hK.out _ _ ⟨(zb_ BK119.out 0).trans rfl, (zb_ BK119.out 1).trans rfl, (zb_ BK119.out 2).trans rfl⟩ (fun hHeld => ?_)
         clear hK K
         refine nm_ ?_
         refine pu_ HT_ 9 (some 38) (bA 11 1023) ?_
         refine last_ (i := 10) (N := none) (bA 11 2047) rfl rfl (one_of HT_.out (by kernel_rfl)) (by decide) (fun K hK => ?_)
         have hs30 : w28.cell? ⟨gb119, 0, none⟩ = some (.slice Ao27 x120000_1.length co27) := (zb_ BK119.out 0).trans rfl
         have hfs30 := za_ BK119.out 0
         have hns30_0 := NB111_119.out
         have hns30_1 := NB112_119.out
         have hms30_0 := NB119_111.out
         have hms30_1 := NB119_112.out
         refine sk_ ?_
         refine hK.out _ _ ?_
         clear hK K
         refine dn_ HT_ ?_
         try go_wp2
         go_roundg k1
         case measure => have := HK1.out; omega
         case rel => exact ⟨(wrap64 (x6_1 + 64)), (t120), (.slice Ao29 t120.length co29), re_, H', ⟨by have := HK1.out; omega⟩, ⟨by (with_reducible repeat (first | apply Kd.yP_ | apply Kd.yL_ | apply Kd.yW_)); exact Kd.z9_ (Kd.R_far (p := ⟨gb119, 0, none⟩) (Kd.yo_ HO122.out BK119.out (by decide)) (fun _ hk => hk.2) (.slice Ao29 t120.length co29)) (fun _ hk => trivial)⟩, ⟨bka_⟩, ⟨bka_⟩, ⟨bka_⟩, ⟨bel_⟩⟩
        ·
         rw [if_neg c21] at H
         exact absurd H (by simp)
       ·
        rw [if_neg c20] at H
        exact absurd H (by simp)
      ·
       rw [if_neg c19] at H
       exact absurd H (by simp)
     ·
      rw [if_neg c18] at H
      have c18b0 : decide (64 ≤ (wrap64 ((cat.size : Int) - x6_1))) = false := decide_eq_false c18
      try have c18b9 : (decide (64 ≤ (((cat.size : Int) - x6_1)))) = false := (by have hw0 : wrap64 ((cat.size : Int) - x6_1) = (cat.size : Int) - x6_1 := (by unfold wrap64; omega); have z_ := c18b0; simp only [hw0] at z_; exact z_)
      clear c18
      by_cases c31 : 0 ≤ x6_1
      ·
       rw [if_pos c31] at H
       have c31b0 := eq_true c31
       have c31b1 : decide (0 ≤ x6_1) = true := decide_eq_true c31
       clear c31
       by_cases c32 : x6_1 ≤ (cat.size : Int)
       ·
        rw [if_pos c32] at H
        have c32b0 := eq_true c32
        have c32b1 : decide (x6_1 ≤ (cat.size : Int)) = true := decide_eq_true c32
        simp only [Option.some.injEq, Prod.mk.injEq] at H
        obtain ⟨rfl, rfl, rfl⟩ := H
        have hnb33 := NB119_111.out
        have hnc33 := NB111_119.out
        have hnb34 := NB119_112.out
        have hnc34 := NB112_119.out
        have hcz35_0 : wr.cell? ⟨gb119, 0, none⟩ = some (u120000) := (zb_ BK119.out 0).trans rfl
        have hcz35_1 : wr.cell? ⟨gb119, 1, none⟩ = some (.string cat) := (zb_ BK119.out 1).trans rfl
        have hcz35_2 : wr.cell? ⟨gb119, 2, none⟩ = some (.int .i64 (wrap64 (a0_2 + (a1.size : Int)))) := (zb_ BK119.out 2).trans rfl
        have hfz35_0 := za_ BK119.out 0
        have hfz35_1 := za_ BK119.out 1
        have hfz35_2 := za_ BK119.out 2
        obtain ⟨Ao36, co36, eo36⟩ := Kd.yA_ HO_120000.out
        subst eo36
        have hnb37 := NB112_111.out
        have hnc37 := NB111_112.out
        have hcz38_0 : wr.cell? ⟨gb112, 0, none⟩ = some (.slice none 0 0) := (zb_ BK112.out 0).trans rfl
        have hcz38_1 : wr.cell? ⟨gb112, 1, none⟩ = some (.string (⟨#[]⟩ : ByteArray)) := (zb_ BK112.out 1).trans rfl
        have hcz38_2 : wr.cell? ⟨gb112, 2, none⟩ = some (.int .i64 0) := (zb_ BK112.out 2).trans rfl
        have hfz38_0 := za_ BK112.out 0
        have hfz38_1 := za_ BK112.out 1
        have hfz38_2 := za_ BK112.out 2
        go_wp2
        refine bodyPost_ret (results_cell_row rfl _ _ gb112 191 #[.slice Ao36 x120000_1.length co36, .string (cat.extract (x6_1 : Int).toNat cat.size), .int .i64 (wrap64 (a0_2 + (a1.size : Int)))] (0, 0) _ rfl bka_ Try.underlying191 rfl (by kernel_rfl)) rfl ?_
        exact ⟨_, ri_, by (with_reducible repeat (first | apply Kd.yP_ | apply Kd.yL_ | apply Kd.yW_)); exact Kd.z9_ (Kd.R_far (p := ⟨gb112, 2, none⟩) (Kd.R_far (p := ⟨gb112, 1, none⟩) (Kd.R_far (p := ⟨gb112, 0, none⟩) (Kd.R_far (p := ⟨gb119, 1, none⟩) (Kd.yo_ (Kd.yo_ HO_120000.out BK119.out (by decide)) BK112.out (by decide)) (fun _ hk => hk.1.2) (.string (cat.extract (x6_1 : Int).toNat cat.size))) (fun _ hk => hk.2) (.slice Ao36 x120000_1.length co36)) (fun _ hk => hk.2) (.string (cat.extract (x6_1 : Int).toNat cat.size))) (fun _ hk => hk.2) (.int .i64 (wrap64 (a0_2 + (a1.size : Int))))) (fun _ hk => trivial), bel_⟩
       ·
        rw [if_neg c32] at H
        exact absurd H (by simp)
      ·
       rw [if_neg c31] at H
       exact absurd H (by simp)
  ·
   rw [if_neg c4] at H
   exact absurd H (by simp)
 ·
  rw [if_neg c3] at H
  exact absurd H (by simp)
end Go.Proofs.Ytfffdndeccipnaa.PFnNodes
