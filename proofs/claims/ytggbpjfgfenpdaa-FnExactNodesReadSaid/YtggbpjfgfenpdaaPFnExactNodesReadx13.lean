/- Functions of the law FnExactNodesRead: the print's, with walks of this session's own. No statement is proved here. -/
import Derived.WalkLawsBesides
import Derived.Test.YtggbpjfgfenpdaaVRegFnExactNodesRead
-- A program of this session wrote this text: a changed copy of the kit print, with given functions.
import Derived.Test.YtggbpjfgfenpdaaPFnExactNodesReadx0
import Derived.Test.YtggbpjfgfenpdaaPFnExactNodesReadx12
namespace Go.Proofs.Ytggbpjfgfenpdaa.PFnExactNodesRead
open Go.RowKit Go.Proofs.YtggbpjfgfenpdaaW.PrintWords Go.Proofs.YtggbpjfgfenpdaaW.PrintLast Go.Proofs.YtggbpjfgfenpdaaW.PrintMore Go.Proofs.Ytggbpjfgfenpdaa.Reg Go.Proofs.Ytggbpjfgfenpdaa.Aut
attribute [local go_sem] max2_int min2_int max_two min_two max_three min_three max_four min_four   -- for this text's walks alone
set_option linter.unusedVariables false
set_option linter.unusedSimpArgs false

/-- A state of type 132 at block g of W; what its slices lead to came in by w0. -/
def IsS132 (w0 W : World) (g : Nat) (f0 : ByteArray) (f1 : Int) (f2 : Bool) : Prop := W.heap[g]? = some (.cells #[.string f0, .int .i64 f1, .bool f2] 132 (0, 0)) ∧ w0.heap.size ≤ g
theorem IsS132.grown {w0 W : World} {g : Nat} {f0 : ByteArray} {f1 : Int} {f2 : Bool} {W1 : World} {row : Option Nat} (h : IsS132 w0 W g f0 f1 f2) (hw : W.grownBy W1 row) (hne : some g ≠ row) : IsS132 w0 W1 g f0 f1 f2 := by
  obtain ⟨hb, hg⟩ := h
  exact ⟨blk_grown hb hw hne, hg⟩
theorem IsS132.own_neN {w0 W : World} {g : Nat} {f0 : ByteArray} {f1 : Int} {f2 : Bool} {α : Type} {d : Kd α} {e : Nat} {base : Nat} {ok : Nat → Prop} {v : Value} {xs : List α} (h : IsS132 w0 W g f0 f1 f2) (ho : Kd.N d e W base ok v xs) (ht : e ≠ 132) : some g ≠ v.ownBlock := by
  obtain ⟨hb, hg⟩ := h
  exact Kd.N_ne ho hb ht
theorem IsS132.fresh {w0 W : World} {g : Nat} {f0 : ByteArray} {f1 : Int} {f2 : Bool} (h : IsS132 w0 W g f0 f1 f2) : ∀ k, W.heap.size ≤ k → k ≠ g := by
  obtain ⟨hb, hg⟩ := h
  exact Kd.freshB hb
theorem IsS132.kept {w0 W : World} {g : Nat} {f0 : ByteArray} {f1 : Int} {f2 : Bool} {W1 : World} {S : Nat → Prop} (h : IsS132 w0 W g f0 f1 f2) (hk : Kept W W1 S) (hne : ¬ S g) : IsS132 w0 W1 g f0 f1 f2 := by
  obtain ⟨hb, hg⟩ := h
  exact ⟨blk_kept hb hk hne, hg⟩
theorem IsS132.below {w0 W : World} {g : Nat} {f0 : ByteArray} {f1 : Int} {f2 : Bool} {W1 : World} (h : IsS132 w0 W g f0 f1 f2) (hw : Below W.heap.size W W1) : IsS132 w0 W1 g f0 f1 f2 := h.grown (grown_of_below hw none) (by simp)
theorem IsS132.alloc {w0 W : World} {g : Nat} {f0 : ByteArray} {f1 : Int} {f2 : Bool} (h : IsS132 w0 W g f0 f1 f2) (o : Obj) : IsS132 w0 (W.alloc o) g f0 f1 f2 := h.below (below_alloc (Below.refl _ _) o)
theorem IsS132.drewN {w0 W : World} {g : Nat} {f0 : ByteArray} {f1 : Int} {f2 : Bool} (h : IsS132 w0 W g f0 f1 f2) (m : Nat) : IsS132 w0 (W.drewN m) g f0 f1 f2 := h
theorem IsS132.drew {w0 W : World} {g : Nat} {f0 : ByteArray} {f1 : Int} {f2 : Bool} (h : IsS132 w0 W g f0 f1 f2) : IsS132 w0 W.drew g f0 f1 f2 := h
theorem IsS132.at_ {w0 W : World} {g : Nat} {f0 : ByteArray} {f1 : Int} {f2 : Bool} {w' : World} {m : Nat} (hq : W.drewN m = w') (h : IsS132 w0 W g f0 f1 f2) : IsS132 w0 w' g f0 f1 f2 := by subst hq; exact IsS132.drewN h m
theorem IsS132.apart {w0 W : World} {g : Nat} {f0 : ByteArray} {f1 : Int} {f2 : Bool} {α : Type} {d : Kd α} {e : Nat} {base : Nat} {ok : Nat → Prop} {v : Value} {xs : List α} (h : IsS132 w0 W g f0 f1 f2) (ho : d.R e W base ok v xs) (ht : ∀ q, q ∈ e :: d.E → q ≠ 132) : d.R e W base (fun k => ok k ∧ k ≠ g) v xs := by
  obtain ⟨hb, hg⟩ := h
  exact Kd.R_types ho hb ht
theorem IsS132.own_ne {w0 W : World} {g : Nat} {f0 : ByteArray} {f1 : Int} {f2 : Bool} {α : Type} {d : Kd α} {e : Nat} {base : Nat} {ok : Nat → Prop} {v : Value} {xs : List α} (h : IsS132 w0 W g f0 f1 f2) (ho : d.R e W base ok v xs) (ht : e ≠ 132) : some g ≠ v.ownBlock := by
  obtain ⟨hb, hg⟩ := h
  exact Kd.R_ne ho hb ht
theorem IsS132.apartQ {w0 W : World} {g : Nat} {f0 : ByteArray} {f1 : Int} {f2 : Bool} {α : Type} {d : Kd α} {e : Nat} {base : Nat} {ok : Nat → Prop} {v : Value} {xs : List α} (h : IsS132 w0 W g f0 f1 f2) (ho : d.Q e W base ok v xs) (ht : ∀ q, q ∈ e :: d.E → q ≠ 132) : d.Q e W base (fun k => ok k ∧ k ≠ g) v xs := by
  obtain ⟨hb, hg⟩ := h
  exact Kd.Q_types ho hb ht
theorem IsS132.own_neQ {w0 W : World} {g : Nat} {f0 : ByteArray} {f1 : Int} {f2 : Bool} {α : Type} {d : Kd α} {e : Nat} {base : Nat} {ok : Nat → Prop} {v : Value} {xs : List α} (h : IsS132 w0 W g f0 f1 f2) (ho : d.Q e W base ok v xs) (ht : e ≠ 132) : some g ≠ v.ownBlock := by
  obtain ⟨hb, hg⟩ := h
  exact Kd.Q_ne ho hb ht
theorem IsS132.apartS {w0 W : World} {g : Nat} {f0 : ByteArray} {f1 : Int} {f2 : Bool} {α : Type} {d : Kd α} {e : Nat} {base : Nat} {ok : Nat → Prop} {v : Value} {xs : List α} (h : IsS132 w0 W g f0 f1 f2) (ho : d.S e W base ok v xs) (ht : ∀ q, q ∈ e :: d.E → q ≠ 132) : d.S e W base (fun k => ok k ∧ k ≠ g) v xs := by
  obtain ⟨hb, hg⟩ := h
  exact Kd.S_types ho hb ht
theorem IsS132.own_neS {w0 W : World} {g : Nat} {f0 : ByteArray} {f1 : Int} {f2 : Bool} {α : Type} {d : Kd α} {e : Nat} {base : Nat} {ok : Nat → Prop} {v : Value} {xs : List α} (h : IsS132 w0 W g f0 f1 f2) (ho : d.S e W base ok v xs) (ht : e ≠ 132) : some g ≠ v.ownBlock := by
  obtain ⟨hb, hg⟩ := h
  exact Kd.S_ne ho hb ht
theorem IsS132.lt {w0 W : World} {g : Nat} {f0 : ByteArray} {f1 : Int} {f2 : Bool} (h : IsS132 w0 W g f0 f1 f2) : g < W.heap.size := by
  obtain ⟨hb, hg⟩ := h
  exact blk_lt hb
theorem IsS132.ge {w0 W : World} {g : Nat} {f0 : ByteArray} {f1 : Int} {f2 : Bool} (h : IsS132 w0 W g f0 f1 f2) : w0.heap.size ≤ g := by
  obtain ⟨hb, hg⟩ := h
  exact hg
theorem IsS132.ne_blk {w0 W : World} {g : Nat} {f0 : ByteArray} {f1 : Int} {f2 : Bool} {a : Nat} {cs : Array Value} {t : TypeId} {fr : Nat × Nat} (h : IsS132 w0 W g f0 f1 f2) (hb2 : W.heap[a]? = some (.cells cs t fr)) (ht : t ≠ 132) : g ≠ a := by
  obtain ⟨hb, hg⟩ := h
  rintro rfl
  rw [hb] at hb2
  injection hb2 with hb2
  injection hb2 with _ ht2
  exact ht ht2.symm
theorem IsS132.far {w0 W : World} {g : Nat} {f0 : ByteArray} {f1 : Int} {f2 : Bool} {p : Addr} (h : IsS132 w0 W g f0 f1 f2) (hne : g ≠ p.block) (u : Value) : IsS132 w0 (W.setCell p u) g f0 f1 f2 := by
  obtain ⟨hb, hg⟩ := h
  exact ⟨blk_far hb hne u, hg⟩
theorem cellS132_0 {W : World} {g : Nat} {f0 : ByteArray} {f1 : Int} {f2 : Bool} (h : W.heap[g]? = some (.cells #[.string f0, .int .i64 f1, .bool f2] 132 (0, 0))) : W.cell? ⟨g, 0, none⟩ = some (.string f0) := (blk_cell h 0).trans rfl
theorem IsS132.set_0 {w0 W : World} {g : Nat} {f0 : ByteArray} {f1 : Int} {f2 : Bool} (h : IsS132 w0 W g f0 f1 f2) (x : ByteArray) : IsS132 w0 (W.setCell ⟨g, 0, none⟩ (.string x)) g x f1 f2 := by
  obtain ⟨hb, hg⟩ := h
  exact ⟨by simpa using blk_set hb 0 (.string x), hg⟩
theorem cellS132_1 {W : World} {g : Nat} {f0 : ByteArray} {f1 : Int} {f2 : Bool} (h : W.heap[g]? = some (.cells #[.string f0, .int .i64 f1, .bool f2] 132 (0, 0))) : W.cell? ⟨g, 1, none⟩ = some (.int .i64 f1) := (blk_cell h 1).trans rfl
theorem IsS132.set_1 {w0 W : World} {g : Nat} {f0 : ByteArray} {f1 : Int} {f2 : Bool} (h : IsS132 w0 W g f0 f1 f2) (x : Int) : IsS132 w0 (W.setCell ⟨g, 1, none⟩ (.int .i64 x)) g f0 x f2 := by
  obtain ⟨hb, hg⟩ := h
  exact ⟨by simpa using blk_set hb 1 (.int .i64 x), hg⟩
theorem cellS132_2 {W : World} {g : Nat} {f0 : ByteArray} {f1 : Int} {f2 : Bool} (h : W.heap[g]? = some (.cells #[.string f0, .int .i64 f1, .bool f2] 132 (0, 0))) : W.cell? ⟨g, 2, none⟩ = some (.bool f2) := (blk_cell h 2).trans rfl
theorem IsS132.set_2 {w0 W : World} {g : Nat} {f0 : ByteArray} {f1 : Int} {f2 : Bool} (h : IsS132 w0 W g f0 f1 f2) (x : Bool) : IsS132 w0 (W.setCell ⟨g, 2, none⟩ (.bool x)) g f0 f1 x := by
  obtain ⟨hb, hg⟩ := h
  exact ⟨by simpa using blk_set hb 2 (.bool x), hg⟩
theorem IsS132.new (w0 W : World) (f0 : ByteArray) (f1 : Int) (f2 : Bool) (hB : Below w0.heap.size w0 W) : IsS132 w0 (W.alloc (.cells #[.string f0, .int .i64 f1, .bool f2] 132)) W.heap.size f0 f1 f2 := ⟨by simpa using heap_alloc_new W _, hB.size⟩

/-! ### impl_reader_num: function 108 -/
theorem IsS132.farA {w0 W : World} {g : Nat} {f0 : ByteArray} {f1 : Int} {f2 : Bool} {p : Addr} {u : Value} (hne : Aside0 (g ≠ p.block)) (h : IsS132 w0 W g f0 f1 f2) : IsS132 w0 (W.setCell p u) g f0 f1 f2 := IsS132.far h hne.out u
theorem is132_ {w0 W : World} {g : Nat} {f0 : ByteArray} {f1 : Int} {f2 : Bool} (h : IsS132 w0 W g f0 f1 f2 := by repeat (first | (with_reducible first | (refine Aside0.out ?_; assumption) | apply IsS132.alloc | apply IsS132.drewN | apply IsS132.drew | (apply IsS132.farA; assumption) | apply IsS132.set_0 | apply IsS132.set_1 | apply IsS132.set_2) | (refine Aside0.out ?_; assumption))) : IsS132 w0 W g f0 f1 f2 := h
def impl_reader_num.f (k : Nat) (s0_0 : ByteArray) (s0_1 : Int) (s0_2 : Bool) : Option (Int × ByteArray × Int × Bool) := (impl_getNum.f k s0_0 s0_1).bind fun bt171 => (if s0_2 = true then (some (0, s0_0, s0_1, true)) else (if bt171.2.2 = 0 then (some (bt171.1, s0_0, bt171.2.1, s0_2)) else (some (0, s0_0, s0_1, true))))
theorem impl_reader_num.mono : ∀ a0 a1 a2 k, LeO (impl_reader_num.f k a0 a1 a2) (impl_reader_num.f (k + 1) a0 a1 a2) := by
  intro a0 a1 a2 k
  unfold impl_reader_num.f
  repeat' first
      | (with_reducible exact impl_getNum.mono _ _ _)
      | (with_reducible exact LeO.refl _)
      | (with_reducible exact LeO.none _)
      | (with_reducible refine LeO.ite ?_ ?_)
      | (with_reducible refine LeO.bind ?_ (fun _ => ?_))
      | exact impl_getNum.mono _ _ _
      | exact LeO.none _
      | refine LeO.ite ?_ ?_
      | refine LeO.bind ?_ (fun _ => ?_)
def impl_reader_num.T1 : Bool × List (List Nat × List Nat) := (true, [([], []), ([0], [0]), ([1], [1]), ([2], [2]), ([], []), ([4], [4]), ([5], [5]), ([6], [6]), ([3, 7], [3, 7]), ([], []), ([9, 8, 8, 0, 1, 2, 3, 4, 5, 6, 7, 8, 9], [8, 9])])
def impl_reader_num.B1 : List Nat := [0, 1, 3, 7, 0, 16, 48, 112, 255, 0, 1023]
theorem impl_reader_num.tab1 : rtab .any (opsOf Try.f108 1) = impl_reader_num.T1 := by kernel_rfl
theorem impl_reader_num.bits1 : waitsOk impl_reader_num.T1.2 impl_reader_num.B1 = true := by kernel_rfl
set_option maxHeartbeats 8000000 in
set_option maxRecDepth 100000 in
theorem impl_reader_num.calls (k : Nat) (g : Nat) (s0_0 : ByteArray) (s0_1 : Int) (s0_2 : Bool) (r1 : Int) (r2 : ByteArray) (r3 : Int) (r4 : Bool) (w0 w : World) (hI : IsS132 w0 w g s0_0 s0_1 s0_2) (hB : Below w0.heap.size w0 w) (h : impl_reader_num.f k s0_0 s0_1 s0_2 = some (r1, r2, r3, r4)) :
    Calls Try.prog 108 #[.pointer (some ⟨g, 0, none⟩)] w fun e w' => e = .returned (.int .i64 r1) ∧ IsS132 w0 w' g r2 r3 r4 ∧ Below w0.heap.size w0 w' ∧ KeepBut w w' g none := by
  have hu157 := Try.underlying157
  have HI0 := AM hI
  have HK := AM (KeepBut.refl w g none)
  have HL := AM hB.size
  clear hI
  have HW0 := AM hB.size
  have HB := AM hB
  clear hB
  have H : ((impl_getNum.f k s0_0 s0_1).bind fun bt171 => (if s0_2 = true then (some (0, s0_0, s0_1, true)) else (if bt171.2.2 = 0 then (some (bt171.1, s0_0, bt171.2.1, s0_2)) else (some (0, s0_0, s0_1, true))))) = some (r1, r2, r3, r4) := h
  clear h
  obtain ⟨⟨t171, t172, t173⟩, A2, H⟩ := OB H
  try dsimp only at H
  replace A2 := AM A2
  by_cases c3 : s0_2 = true
  · subst c3
    rw [if_pos rfl] at H
    simp only [Option.some.injEq, Prod.mk.injEq] at H
    obtain ⟨rfl, rfl, rfl, rfl⟩ := H
    go_enter Try.func108, Try.ntmps108
    try go_wp2
    replace HI0 := AM (IsS132.drew HI0.out)
    replace HK := AM (keep_drew HK.out)
    replace HB := AM (below_drew1 HB.out)
    refine start_ (n := 11) (S := fun w' => w'.cell? ⟨g, 0, none⟩ = some (.string s0_0) ∧ w'.cell? ⟨g, 1, none⟩ = some (.int .i64 s0_1) ∧ w'.cell? ⟨g, 2, none⟩ = some (.bool true)) (ds := []) #[false, false, false, false, false, false, false, false, false, false, false] (by kernel_rfl) rfl rfl ⟨(cellS132_0 HI0.out.1), (cellS132_1 HI0.out.1), (cellS132_2 HI0.out.1)⟩ (fun hHeld => ?_); refine with_tabW impl_reader_num.tab1 impl_reader_num.bits1 (fun HT_ HW_ => ?_)
    generalize w.drew = w4 at HI0 HK HB hHeld ⊢
    refine pu_ HT_ 0 (some 4) #[true, false, false, false, false, false, false, false, false, false, false] ?_
    refine pu_ HT_ 1 (some 5) #[true, true, false, false, false, false, false, false, false, false, false] ?_
    refine pu_ HT_ 2 (some 6) #[true, true, true, false, false, false, false, false, false, false, false] ?_
    refine pu_ HT_ 4 (some 8) #[true, true, true, false, true, false, false, false, false, false, false] ?_
    refine pu_ HT_ 5 (some 9) #[true, true, true, false, true, true, false, false, false, false, false] ?_
    refine pu_ HT_ 6 (some 10) #[true, true, true, false, true, true, true, false, false, false, false] ?_
    refine ta_ HT_ HW_ 3 (some 7) #[true, true, true, true, true, true, true, false, false, false, false] hHeld ?_
    refine ta_ HT_ HW_ 7 (some 11) #[true, true, true, true, true, true, true, true, false, false, false] hHeld ?_
    refine join_ (σ := Nat) 1 #[true, true, true, true, true, true, true, true, true, true, false] (fun s_ => [(12, .agg #[.int .i64 t171, .int .i64 t172, .int .i64 t173]), (3, .pointer (some ⟨s_, 0, none⟩))]) (fun s_ w' => (w'.cell? ⟨g, 0, none⟩ = some (.string s0_0) ∧ w'.cell? ⟨g, 1, none⟩ = some (.int .i64 s0_1) ∧ w'.cell? ⟨g, 2, none⟩ = some (.bool true)) ∧ (w'.heap[s_]? = some (.cells #[.int .i64 0, .int .i64 0, .int .i64 0] 157 (0, 0))) ∧ (w.heap.size ≤ s_) ∧ (w0.heap.size ≤ s_) ∧ (g ≠ s_) ∧ (s_ ≠ g) ∧ (IsS132 w0 w' g s0_0 s0_1 true) ∧ (KeepBut w w' g none) ∧ (Below w0.heap.size w0 w')) ?_ ?_
    rotate_left
    · intro hCont
      refine tw_ HT_ 8 9 (some 12) (some 3) #[true, true, true, true, true, true, true, true, true, false, false] #[true, true, true, true, true, true, true, true, false, true, false] (fun K hK => ?_) (fun K hK => ?_)
      · skip
        refine go1_ Try.func141 #[.string s0_0, .int .i64 s0_1] ?_
        with_reducible refine (impl_getNum.calls k s0_0 s0_1 t171 t172 t173 _ A2.out).mono ?_
        rintro e w5 ⟨rfl, hb⟩
        refine ⟨_, rfl, ?_⟩
        replace HK := AM (KeepBut.trans (kp_ (w := w)) (KeepBut.of_below hb g none) (.inl rfl))
        replace HB := AM (below_step (belg_ (IsS132.ge HI0.out)) hb)
        replace HI0 := AM (IsS132.below is132_ hb)
        (try clear hb)
        (try clear hb2)
        (try clear hk)
        (try clear hi)
        refine hK.out _ _ ⟨(cellS132_0 HI0.out.1), (cellS132_1 HI0.out.1), (cellS132_2 HI0.out.1)⟩ (fun hHeld => ?_)
        clear hK K
        refine nm_ ?_
        refine on_ HT_ 9 (some 3) #[true, true, true, true, true, true, true, true, true, true, false] (fun K hK => ?_)
        refine bs_ 3 #[.int .i64 0, .int .i64 0, .int .i64 0] 157 ?_
        intro gb174 hg w6 hbox hb
        replace HB := AM (below_step (belg_ (IsS132.ge HI0.out)) hb)
        have BK174 := AM hbox
        have GW174 := AM ((by rw [hg]; exact (keep_size (w := w) (g := g) (row := none) kp_) : w.heap.size ≤ gb174))
        have GE174 := AM ((Nat.le_trans HW0.out (by rw [hg]; exact (keep_size (w := w) (g := g) (row := none) kp_) : w.heap.size ≤ gb174) : w0.heap.size ≤ gb174))
        replace HK := AM (KeepBut.trans (kp_ (w := w)) (KeepBut.of_below hb g none) (.inl rfl))
        have NB0_174 := AM ((by rw [hg]; exact Nat.ne_of_lt (IsS132.lt (show IsS132 w0 _ g s0_0 s0_1 true from is132_)) : g ≠ gb174))
        have NB174_0 := AM ((by rw [hg]; exact Nat.ne_of_gt (IsS132.lt (show IsS132 w0 _ g s0_0 s0_1 true from is132_)) : gb174 ≠ g))
        replace HI0 := AM (IsS132.below is132_ hb)
        clear hb hbox hg
        refine hK.out _ _ ⟨(cellS132_0 HI0.out.1), (cellS132_1 HI0.out.1), (cellS132_2 HI0.out.1)⟩ (fun hHeld => ?_)
        clear hK K
        refine nm_ ?_
        exact nmE_ (hCont (gb174) _ ⟨hHeld, (bk_ BK174.out), GW174.out, GE174.out, NB0_174.out, NB174_0.out, is132_, kp_, (belg_ (IsS132.ge HI0.out))⟩)
      · skip
        refine bs_ 3 #[.int .i64 0, .int .i64 0, .int .i64 0] 157 ?_
        intro gb174 hg w5 hbox hb
        replace HB := AM (below_step (belg_ (IsS132.ge HI0.out)) hb)
        have BK174 := AM hbox
        have GW174 := AM ((by rw [hg]; exact (keep_size (w := w) (g := g) (row := none) kp_) : w.heap.size ≤ gb174))
        have GE174 := AM ((Nat.le_trans HW0.out (by rw [hg]; exact (keep_size (w := w) (g := g) (row := none) kp_) : w.heap.size ≤ gb174) : w0.heap.size ≤ gb174))
        replace HK := AM (KeepBut.trans (kp_ (w := w)) (KeepBut.of_below hb g none) (.inl rfl))
        have NB0_174 := AM ((by rw [hg]; exact Nat.ne_of_lt (IsS132.lt (show IsS132 w0 _ g s0_0 s0_1 true from is132_)) : g ≠ gb174))
        have NB174_0 := AM ((by rw [hg]; exact Nat.ne_of_gt (IsS132.lt (show IsS132 w0 _ g s0_0 s0_1 true from is132_)) : gb174 ≠ g))
        replace HI0 := AM (IsS132.below is132_ hb)
        clear hb hbox hg
        refine hK.out _ _ ⟨(cellS132_0 HI0.out.1), (cellS132_1 HI0.out.1), (cellS132_2 HI0.out.1)⟩ (fun hHeld => ?_)
        clear hK K
        refine nm_ ?_
        refine on_ HT_ 8 (some 12) #[true, true, true, true, true, true, true, true, true, true, false] (fun K hK => ?_)
        refine go1_ Try.func141 #[.string s0_0, .int .i64 s0_1] ?_
        with_reducible refine (impl_getNum.calls k s0_0 s0_1 t171 t172 t173 _ A2.out).mono ?_
        rintro e w6 ⟨rfl, hb⟩
        refine ⟨_, rfl, ?_⟩
        replace BK174 := AM (blk_below (g := gb174) (o := .cells #[.int .i64 0, .int .i64 0, .int .i64 0] 157 (0, 0)) (bk_ BK174.out) hb)
        replace HK := AM (KeepBut.trans (kp_ (w := w)) (KeepBut.of_below hb g none) (.inl rfl))
        replace HB := AM (below_step (belg_ (IsS132.ge HI0.out)) hb)
        replace HI0 := AM (IsS132.below is132_ hb)
        (try clear hb)
        (try clear hb2)
        (try clear hk)
        (try clear hi)
        refine hK.out _ _ ⟨(cellS132_0 HI0.out.1), (cellS132_1 HI0.out.1), (cellS132_2 HI0.out.1)⟩ (fun hHeld => ?_)
        clear hK K
        refine nm_ ?_
        exact nmE_ (hCont (gb174) _ ⟨hHeld, (bk_ BK174.out), GW174.out, GE174.out, NB0_174.out, NB174_0.out, is132_, kp_, (belg_ (IsS132.ge HI0.out))⟩)
    rintro gb174 w7 ⟨hS_, h0_, h1_, h2_, h3_, h4_, h5_, h6_, h7_⟩
    have BK174 : Aside0 (w7.heap[gb174]? = some (.cells #[.int .i64 0, .int .i64 0, .int .i64 0] 157 (0, 0))) := ⟨h0_⟩
    have GW174 : Aside0 (w.heap.size ≤ gb174) := ⟨h1_⟩
    have GE174 : Aside0 (w0.heap.size ≤ gb174) := ⟨h2_⟩
    have NB0_174 : Aside0 (g ≠ gb174) := ⟨h3_⟩
    have NB174_0 : Aside0 (gb174 ≠ g) := ⟨h4_⟩
    replace HI0 : Aside0 (IsS132 w0 w7 g s0_0 s0_1 true) := ⟨h5_⟩
    replace HK : Aside0 (KeepBut w w7 g none) := ⟨h6_⟩
    replace HB : Aside0 (Below w0.heap.size w0 w7) := ⟨h7_⟩
    clear h0_ h1_ h2_ h3_ h4_ h5_ h6_ h7_
    have hHeld : w7.cell? ⟨g, 0, none⟩ = some (.string s0_0) ∧ w7.cell? ⟨g, 1, none⟩ = some (.int .i64 s0_1) ∧ w7.cell? ⟨g, 2, none⟩ = some (.bool true) := hS_
    refine nmA_ ?_
    refine on_ HT_ 10 none #[true, true, true, true, true, true, true, true, true, true, true] (fun K hK => ?_)
    have hs8 : w7.cell? ⟨gb174, 0, none⟩ = some (.int .i64 0) := (blk_cell BK174.out 0).trans rfl
    have hfs8 := blk_frozen BK174.out 0
    have hs9 : w7.cell? ⟨gb174, 1, none⟩ = some (.int .i64 0) := (blk_cell BK174.out 1).trans rfl
    have hfs9 := blk_frozen BK174.out 1
    have hs10 : w7.cell? ⟨gb174, 2, none⟩ = some (.int .i64 0) := (blk_cell BK174.out 2).trans rfl
    have hfs10 := blk_frozen BK174.out 2
    refine sk_ ?_
    refine hK.out _ _ ⟨(by (rw [cell_far, cell_far, cell_far]) <;> first | exact hHeld.1 | exact NB0_174.out), (by (rw [cell_far, cell_far, cell_far]) <;> first | exact hHeld.2.1 | exact NB0_174.out), (by (rw [cell_far, cell_far, cell_far]) <;> first | exact hHeld.2.2 | exact NB0_174.out)⟩ (fun hHeld => ?_)
    clear hK K
    refine dn_ HT_ ?_
    obtain ⟨HGz11, hgz11⟩ := HI0.out
    have hcz11_0 := cellS132_0 HGz11
    have hcz11_1 := cellS132_1 HGz11
    have hcz11_2 := cellS132_2 HGz11
    have hfz11_0 := blk_frozen HGz11 0
    have hfz11_1 := blk_frozen HGz11 1
    have hfz11_2 := blk_frozen HGz11 2
    clear HGz11 hgz11
    try go_wp2
    go_ret
    exact ⟨ri_, is132_, belg_ (IsS132.ge HI0.out), kp_⟩
  · replace c3 := Bool.eq_false_iff.mpr c3
    subst c3
    rw [if_neg (show ¬ (false = true) by decide)] at H
    by_cases c12 : t173 = 0
    · rw [if_pos c12] at H
      have c12b0 : (t173 == 0) = true := beq_iff_eq.mpr c12
      have c12b1 : (t173 != 0) = false := bne_eq_false_iff_eq.mpr c12
      clear c12
      simp only [Option.some.injEq, Prod.mk.injEq] at H
      obtain ⟨rfl, rfl, rfl, rfl⟩ := H
      go_enter Try.func108, Try.ntmps108
      try go_wp2
      replace HI0 := AM (IsS132.drew HI0.out)
      replace HK := AM (keep_drew HK.out)
      replace HB := AM (below_drew1 HB.out)
      refine start_ (n := 11) (S := fun w' => w'.cell? ⟨g, 0, none⟩ = some (.string s0_0) ∧ w'.cell? ⟨g, 1, none⟩ = some (.int .i64 s0_1) ∧ w'.cell? ⟨g, 2, none⟩ = some (.bool false)) (ds := []) #[false, false, false, false, false, false, false, false, false, false, false] (by kernel_rfl) rfl rfl ⟨(cellS132_0 HI0.out.1), (cellS132_1 HI0.out.1), (cellS132_2 HI0.out.1)⟩ (fun hHeld => ?_); refine with_tabW impl_reader_num.tab1 impl_reader_num.bits1 (fun HT_ HW_ => ?_)
      generalize w.drew = w13 at HI0 HK HB hHeld ⊢
      refine pu_ HT_ 0 (some 4) #[true, false, false, false, false, false, false, false, false, false, false] ?_
      refine pu_ HT_ 1 (some 5) #[true, true, false, false, false, false, false, false, false, false, false] ?_
      refine pu_ HT_ 2 (some 6) #[true, true, true, false, false, false, false, false, false, false, false] ?_
      refine pu_ HT_ 4 (some 8) #[true, true, true, false, true, false, false, false, false, false, false] ?_
      refine pu_ HT_ 5 (some 9) #[true, true, true, false, true, true, false, false, false, false, false] ?_
      refine pu_ HT_ 6 (some 10) #[true, true, true, false, true, true, true, false, false, false, false] ?_
      refine ta_ HT_ HW_ 3 (some 7) #[true, true, true, true, true, true, true, false, false, false, false] hHeld ?_
      refine ta_ HT_ HW_ 7 (some 11) #[true, true, true, true, true, true, true, true, false, false, false] hHeld ?_
      refine join_ (σ := Nat) 1 #[true, true, true, true, true, true, true, true, true, true, false] (fun s_ => [(12, .agg #[.int .i64 t171, .int .i64 t172, .int .i64 t173]), (3, .pointer (some ⟨s_, 0, none⟩))]) (fun s_ w' => (w'.cell? ⟨g, 0, none⟩ = some (.string s0_0) ∧ w'.cell? ⟨g, 1, none⟩ = some (.int .i64 s0_1) ∧ w'.cell? ⟨g, 2, none⟩ = some (.bool false)) ∧ (w'.heap[s_]? = some (.cells #[.int .i64 0, .int .i64 0, .int .i64 0] 157 (0, 0))) ∧ (w.heap.size ≤ s_) ∧ (w0.heap.size ≤ s_) ∧ (g ≠ s_) ∧ (s_ ≠ g) ∧ (IsS132 w0 w' g s0_0 s0_1 false) ∧ (KeepBut w w' g none) ∧ (Below w0.heap.size w0 w')) ?_ ?_
      rotate_left
      · intro hCont
        refine tw_ HT_ 8 9 (some 12) (some 3) #[true, true, true, true, true, true, true, true, true, false, false] #[true, true, true, true, true, true, true, true, false, true, false] (fun K hK => ?_) (fun K hK => ?_)
        · skip
          refine go1_ Try.func141 #[.string s0_0, .int .i64 s0_1] ?_
          with_reducible refine (impl_getNum.calls k s0_0 s0_1 t171 t172 t173 _ A2.out).mono ?_
          rintro e w14 ⟨rfl, hb⟩
          refine ⟨_, rfl, ?_⟩
          replace HK := AM (KeepBut.trans (kp_ (w := w)) (KeepBut.of_below hb g none) (.inl rfl))
          replace HB := AM (below_step (belg_ (IsS132.ge HI0.out)) hb)
          replace HI0 := AM (IsS132.below is132_ hb)
          (try clear hb)
          (try clear hb2)
          (try clear hk)
          (try clear hi)
          refine hK.out _ _ ⟨(cellS132_0 HI0.out.1), (cellS132_1 HI0.out.1), (cellS132_2 HI0.out.1)⟩ (fun hHeld => ?_)
          clear hK K
          refine nm_ ?_
          refine on_ HT_ 9 (some 3) #[true, true, true, true, true, true, true, true, true, true, false] (fun K hK => ?_)
          refine bs_ 3 #[.int .i64 0, .int .i64 0, .int .i64 0] 157 ?_
          intro gb174 hg w15 hbox hb
          replace HB := AM (below_step (belg_ (IsS132.ge HI0.out)) hb)
          have BK174 := AM hbox
          have GW174 := AM ((by rw [hg]; exact (keep_size (w := w) (g := g) (row := none) kp_) : w.heap.size ≤ gb174))
          have GE174 := AM ((Nat.le_trans HW0.out (by rw [hg]; exact (keep_size (w := w) (g := g) (row := none) kp_) : w.heap.size ≤ gb174) : w0.heap.size ≤ gb174))
          replace HK := AM (KeepBut.trans (kp_ (w := w)) (KeepBut.of_below hb g none) (.inl rfl))
          have NB0_174 := AM ((by rw [hg]; exact Nat.ne_of_lt (IsS132.lt (show IsS132 w0 _ g s0_0 s0_1 false from is132_)) : g ≠ gb174))
          have NB174_0 := AM ((by rw [hg]; exact Nat.ne_of_gt (IsS132.lt (show IsS132 w0 _ g s0_0 s0_1 false from is132_)) : gb174 ≠ g))
          replace HI0 := AM (IsS132.below is132_ hb)
          clear hb hbox hg
          refine hK.out _ _ ⟨(cellS132_0 HI0.out.1), (cellS132_1 HI0.out.1), (cellS132_2 HI0.out.1)⟩ (fun hHeld => ?_)
          clear hK K
          refine nm_ ?_
          exact nmE_ (hCont (gb174) _ ⟨hHeld, (bk_ BK174.out), GW174.out, GE174.out, NB0_174.out, NB174_0.out, is132_, kp_, (belg_ (IsS132.ge HI0.out))⟩)
        · skip
          refine bs_ 3 #[.int .i64 0, .int .i64 0, .int .i64 0] 157 ?_
          intro gb174 hg w14 hbox hb
          replace HB := AM (below_step (belg_ (IsS132.ge HI0.out)) hb)
          have BK174 := AM hbox
          have GW174 := AM ((by rw [hg]; exact (keep_size (w := w) (g := g) (row := none) kp_) : w.heap.size ≤ gb174))
          have GE174 := AM ((Nat.le_trans HW0.out (by rw [hg]; exact (keep_size (w := w) (g := g) (row := none) kp_) : w.heap.size ≤ gb174) : w0.heap.size ≤ gb174))
          replace HK := AM (KeepBut.trans (kp_ (w := w)) (KeepBut.of_below hb g none) (.inl rfl))
          have NB0_174 := AM ((by rw [hg]; exact Nat.ne_of_lt (IsS132.lt (show IsS132 w0 _ g s0_0 s0_1 false from is132_)) : g ≠ gb174))
          have NB174_0 := AM ((by rw [hg]; exact Nat.ne_of_gt (IsS132.lt (show IsS132 w0 _ g s0_0 s0_1 false from is132_)) : gb174 ≠ g))
          replace HI0 := AM (IsS132.below is132_ hb)
          clear hb hbox hg
          refine hK.out _ _ ⟨(cellS132_0 HI0.out.1), (cellS132_1 HI0.out.1), (cellS132_2 HI0.out.1)⟩ (fun hHeld => ?_)
          clear hK K
          refine nm_ ?_
          refine on_ HT_ 8 (some 12) #[true, true, true, true, true, true, true, true, true, true, false] (fun K hK => ?_)
          refine go1_ Try.func141 #[.string s0_0, .int .i64 s0_1] ?_
          with_reducible refine (impl_getNum.calls k s0_0 s0_1 t171 t172 t173 _ A2.out).mono ?_
          rintro e w15 ⟨rfl, hb⟩
          refine ⟨_, rfl, ?_⟩
          replace BK174 := AM (blk_below (g := gb174) (o := .cells #[.int .i64 0, .int .i64 0, .int .i64 0] 157 (0, 0)) (bk_ BK174.out) hb)
          replace HK := AM (KeepBut.trans (kp_ (w := w)) (KeepBut.of_below hb g none) (.inl rfl))
          replace HB := AM (below_step (belg_ (IsS132.ge HI0.out)) hb)
          replace HI0 := AM (IsS132.below is132_ hb)
          (try clear hb)
          (try clear hb2)
          (try clear hk)
          (try clear hi)
          refine hK.out _ _ ⟨(cellS132_0 HI0.out.1), (cellS132_1 HI0.out.1), (cellS132_2 HI0.out.1)⟩ (fun hHeld => ?_)
          clear hK K
          refine nm_ ?_
          exact nmE_ (hCont (gb174) _ ⟨hHeld, (bk_ BK174.out), GW174.out, GE174.out, NB0_174.out, NB174_0.out, is132_, kp_, (belg_ (IsS132.ge HI0.out))⟩)
      rintro gb174 w16 ⟨hS_, h0_, h1_, h2_, h3_, h4_, h5_, h6_, h7_⟩
      have BK174 : Aside0 (w16.heap[gb174]? = some (.cells #[.int .i64 0, .int .i64 0, .int .i64 0] 157 (0, 0))) := ⟨h0_⟩
      have GW174 : Aside0 (w.heap.size ≤ gb174) := ⟨h1_⟩
      have GE174 : Aside0 (w0.heap.size ≤ gb174) := ⟨h2_⟩
      have NB0_174 : Aside0 (g ≠ gb174) := ⟨h3_⟩
      have NB174_0 : Aside0 (gb174 ≠ g) := ⟨h4_⟩
      replace HI0 : Aside0 (IsS132 w0 w16 g s0_0 s0_1 false) := ⟨h5_⟩
      replace HK : Aside0 (KeepBut w w16 g none) := ⟨h6_⟩
      replace HB : Aside0 (Below w0.heap.size w0 w16) := ⟨h7_⟩
      clear h0_ h1_ h2_ h3_ h4_ h5_ h6_ h7_
      have hHeld : w16.cell? ⟨g, 0, none⟩ = some (.string s0_0) ∧ w16.cell? ⟨g, 1, none⟩ = some (.int .i64 s0_1) ∧ w16.cell? ⟨g, 2, none⟩ = some (.bool false) := hS_
      refine nmA_ ?_
      refine on_ HT_ 10 none #[true, true, true, true, true, true, true, true, true, true, true] (fun K hK => ?_)
      have hs17 : w16.cell? ⟨gb174, 0, none⟩ = some (.int .i64 0) := (blk_cell BK174.out 0).trans rfl
      have hfs17 := blk_frozen BK174.out 0
      have hs18 : w16.cell? ⟨gb174, 1, none⟩ = some (.int .i64 0) := (blk_cell BK174.out 1).trans rfl
      have hfs18 := blk_frozen BK174.out 1
      have hs19 : w16.cell? ⟨gb174, 2, none⟩ = some (.int .i64 0) := (blk_cell BK174.out 2).trans rfl
      have hfs19 := blk_frozen BK174.out 2
      refine sk_ ?_
      refine hK.out _ _ ⟨(by (rw [cell_far, cell_far, cell_far]) <;> first | exact hHeld.1 | exact NB0_174.out), (by (rw [cell_far, cell_far, cell_far]) <;> first | exact hHeld.2.1 | exact NB0_174.out), (by (rw [cell_far, cell_far, cell_far]) <;> first | exact hHeld.2.2 | exact NB0_174.out)⟩ (fun hHeld => ?_)
      clear hK K
      refine dn_ HT_ ?_
      obtain ⟨HGz20, hgz20⟩ := HI0.out
      have hcz20_0 := cellS132_0 HGz20
      have hcz20_1 := cellS132_1 HGz20
      have hcz20_2 := cellS132_2 HGz20
      have hfz20_0 := blk_frozen HGz20 0
      have hfz20_1 := blk_frozen HGz20 1
      have hfz20_2 := blk_frozen HGz20 2
      clear HGz20 hgz20
      have hnb21 := NB174_0.out
      have hnc21 := NB0_174.out
      have hcz22_0 : w16.cell? ⟨gb174, 0, none⟩ = some (.int .i64 0) := (blk_cell BK174.out 0).trans rfl
      have hcz22_1 : w16.cell? ⟨gb174, 1, none⟩ = some (.int .i64 0) := (blk_cell BK174.out 1).trans rfl
      have hcz22_2 : w16.cell? ⟨gb174, 2, none⟩ = some (.int .i64 0) := (blk_cell BK174.out 2).trans rfl
      have hfz22_0 := blk_frozen BK174.out 0
      have hfz22_1 := blk_frozen BK174.out 1
      have hfz22_2 := blk_frozen BK174.out 2
      try go_wp2
      go_ret
      exact ⟨ri_, is132_, belg_ (IsS132.ge HI0.out), kp_⟩
    · rw [if_neg c12] at H
      have c12b0 : (t173 == 0) = false := beq_eq_false_iff_ne.mpr c12
      have c12b1 : (t173 != 0) = true := bne_iff_ne.mpr c12
      simp only [Option.some.injEq, Prod.mk.injEq] at H
      obtain ⟨rfl, rfl, rfl, rfl⟩ := H
      go_enter Try.func108, Try.ntmps108
      try go_wp2
      replace HI0 := AM (IsS132.drew HI0.out)
      replace HK := AM (keep_drew HK.out)
      replace HB := AM (below_drew1 HB.out)
      refine start_ (n := 11) (S := fun w' => w'.cell? ⟨g, 0, none⟩ = some (.string s0_0) ∧ w'.cell? ⟨g, 1, none⟩ = some (.int .i64 s0_1) ∧ w'.cell? ⟨g, 2, none⟩ = some (.bool false)) (ds := []) #[false, false, false, false, false, false, false, false, false, false, false] (by kernel_rfl) rfl rfl ⟨(cellS132_0 HI0.out.1), (cellS132_1 HI0.out.1), (cellS132_2 HI0.out.1)⟩ (fun hHeld => ?_); refine with_tabW impl_reader_num.tab1 impl_reader_num.bits1 (fun HT_ HW_ => ?_)
      generalize w.drew = w23 at HI0 HK HB hHeld ⊢
      refine pu_ HT_ 0 (some 4) #[true, false, false, false, false, false, false, false, false, false, false] ?_
      refine pu_ HT_ 1 (some 5) #[true, true, false, false, false, false, false, false, false, false, false] ?_
      refine pu_ HT_ 2 (some 6) #[true, true, true, false, false, false, false, false, false, false, false] ?_
      refine pu_ HT_ 4 (some 8) #[true, true, true, false, true, false, false, false, false, false, false] ?_
      refine pu_ HT_ 5 (some 9) #[true, true, true, false, true, true, false, false, false, false, false] ?_
      refine pu_ HT_ 6 (some 10) #[true, true, true, false, true, true, true, false, false, false, false] ?_
      refine ta_ HT_ HW_ 3 (some 7) #[true, true, true, true, true, true, true, false, false, false, false] hHeld ?_
      refine ta_ HT_ HW_ 7 (some 11) #[true, true, true, true, true, true, true, true, false, false, false] hHeld ?_
      refine join_ (σ := Nat) 1 #[true, true, true, true, true, true, true, true, true, true, false] (fun s_ => [(12, .agg #[.int .i64 t171, .int .i64 t172, .int .i64 t173]), (3, .pointer (some ⟨s_, 0, none⟩))]) (fun s_ w' => (w'.cell? ⟨g, 0, none⟩ = some (.string s0_0) ∧ w'.cell? ⟨g, 1, none⟩ = some (.int .i64 s0_1) ∧ w'.cell? ⟨g, 2, none⟩ = some (.bool false)) ∧ (w'.heap[s_]? = some (.cells #[.int .i64 0, .int .i64 0, .int .i64 0] 157 (0, 0))) ∧ (w.heap.size ≤ s_) ∧ (w0.heap.size ≤ s_) ∧ (g ≠ s_) ∧ (s_ ≠ g) ∧ (IsS132 w0 w' g s0_0 s0_1 false) ∧ (KeepBut w w' g none) ∧ (Below w0.heap.size w0 w')) ?_ ?_
      rotate_left
      · intro hCont
        refine tw_ HT_ 8 9 (some 12) (some 3) #[true, true, true, true, true, true, true, true, true, false, false] #[true, true, true, true, true, true, true, true, false, true, false] (fun K hK => ?_) (fun K hK => ?_)
        · skip
          refine go1_ Try.func141 #[.string s0_0, .int .i64 s0_1] ?_
          with_reducible refine (impl_getNum.calls k s0_0 s0_1 t171 t172 t173 _ A2.out).mono ?_
          rintro e w24 ⟨rfl, hb⟩
          refine ⟨_, rfl, ?_⟩
          replace HK := AM (KeepBut.trans (kp_ (w := w)) (KeepBut.of_below hb g none) (.inl rfl))
          replace HB := AM (below_step (belg_ (IsS132.ge HI0.out)) hb)
          replace HI0 := AM (IsS132.below is132_ hb)
          (try clear hb)
          (try clear hb2)
          (try clear hk)
          (try clear hi)
          refine hK.out _ _ ⟨(cellS132_0 HI0.out.1), (cellS132_1 HI0.out.1), (cellS132_2 HI0.out.1)⟩ (fun hHeld => ?_)
          clear hK K
          refine nm_ ?_
          refine on_ HT_ 9 (some 3) #[true, true, true, true, true, true, true, true, true, true, false] (fun K hK => ?_)
          refine bs_ 3 #[.int .i64 0, .int .i64 0, .int .i64 0] 157 ?_
          intro gb174 hg w25 hbox hb
          replace HB := AM (below_step (belg_ (IsS132.ge HI0.out)) hb)
          have BK174 := AM hbox
          have GW174 := AM ((by rw [hg]; exact (keep_size (w := w) (g := g) (row := none) kp_) : w.heap.size ≤ gb174))
          have GE174 := AM ((Nat.le_trans HW0.out (by rw [hg]; exact (keep_size (w := w) (g := g) (row := none) kp_) : w.heap.size ≤ gb174) : w0.heap.size ≤ gb174))
          replace HK := AM (KeepBut.trans (kp_ (w := w)) (KeepBut.of_below hb g none) (.inl rfl))
          have NB0_174 := AM ((by rw [hg]; exact Nat.ne_of_lt (IsS132.lt (show IsS132 w0 _ g s0_0 s0_1 false from is132_)) : g ≠ gb174))
          have NB174_0 := AM ((by rw [hg]; exact Nat.ne_of_gt (IsS132.lt (show IsS132 w0 _ g s0_0 s0_1 false from is132_)) : gb174 ≠ g))
          replace HI0 := AM (IsS132.below is132_ hb)
          clear hb hbox hg
          refine hK.out _ _ ⟨(cellS132_0 HI0.out.1), (cellS132_1 HI0.out.1), (cellS132_2 HI0.out.1)⟩ (fun hHeld => ?_)
          clear hK K
          refine nm_ ?_
          exact nmE_ (hCont (gb174) _ ⟨hHeld, (bk_ BK174.out), GW174.out, GE174.out, NB0_174.out, NB174_0.out, is132_, kp_, (belg_ (IsS132.ge HI0.out))⟩)
        · skip
          refine bs_ 3 #[.int .i64 0, .int .i64 0, .int .i64 0] 157 ?_
          intro gb174 hg w24 hbox hb
          replace HB := AM (below_step (belg_ (IsS132.ge HI0.out)) hb)
          have BK174 := AM hbox
          have GW174 := AM ((by rw [hg]; exact (keep_size (w := w) (g := g) (row := none) kp_) : w.heap.size ≤ gb174))
          have GE174 := AM ((Nat.le_trans HW0.out (by rw [hg]; exact (keep_size (w := w) (g := g) (row := none) kp_) : w.heap.size ≤ gb174) : w0.heap.size ≤ gb174))
          replace HK := AM (KeepBut.trans (kp_ (w := w)) (KeepBut.of_below hb g none) (.inl rfl))
          have NB0_174 := AM ((by rw [hg]; exact Nat.ne_of_lt (IsS132.lt (show IsS132 w0 _ g s0_0 s0_1 false from is132_)) : g ≠ gb174))
          have NB174_0 := AM ((by rw [hg]; exact Nat.ne_of_gt (IsS132.lt (show IsS132 w0 _ g s0_0 s0_1 false from is132_)) : gb174 ≠ g))
          replace HI0 := AM (IsS132.below is132_ hb)
          clear hb hbox hg
          refine hK.out _ _ ⟨(cellS132_0 HI0.out.1), (cellS132_1 HI0.out.1), (cellS132_2 HI0.out.1)⟩ (fun hHeld => ?_)
          clear hK K
          refine nm_ ?_
          refine on_ HT_ 8 (some 12) #[true, true, true, true, true, true, true, true, true, true, false] (fun K hK => ?_)
          refine go1_ Try.func141 #[.string s0_0, .int .i64 s0_1] ?_
          with_reducible refine (impl_getNum.calls k s0_0 s0_1 t171 t172 t173 _ A2.out).mono ?_
          rintro e w25 ⟨rfl, hb⟩
          refine ⟨_, rfl, ?_⟩
          replace BK174 := AM (blk_below (g := gb174) (o := .cells #[.int .i64 0, .int .i64 0, .int .i64 0] 157 (0, 0)) (bk_ BK174.out) hb)
          replace HK := AM (KeepBut.trans (kp_ (w := w)) (KeepBut.of_below hb g none) (.inl rfl))
          replace HB := AM (below_step (belg_ (IsS132.ge HI0.out)) hb)
          replace HI0 := AM (IsS132.below is132_ hb)
          (try clear hb)
          (try clear hb2)
          (try clear hk)
          (try clear hi)
          refine hK.out _ _ ⟨(cellS132_0 HI0.out.1), (cellS132_1 HI0.out.1), (cellS132_2 HI0.out.1)⟩ (fun hHeld => ?_)
          clear hK K
          refine nm_ ?_
          exact nmE_ (hCont (gb174) _ ⟨hHeld, (bk_ BK174.out), GW174.out, GE174.out, NB0_174.out, NB174_0.out, is132_, kp_, (belg_ (IsS132.ge HI0.out))⟩)
      rintro gb174 w26 ⟨hS_, h0_, h1_, h2_, h3_, h4_, h5_, h6_, h7_⟩
      have BK174 : Aside0 (w26.heap[gb174]? = some (.cells #[.int .i64 0, .int .i64 0, .int .i64 0] 157 (0, 0))) := ⟨h0_⟩
      have GW174 : Aside0 (w.heap.size ≤ gb174) := ⟨h1_⟩
      have GE174 : Aside0 (w0.heap.size ≤ gb174) := ⟨h2_⟩
      have NB0_174 : Aside0 (g ≠ gb174) := ⟨h3_⟩
      have NB174_0 : Aside0 (gb174 ≠ g) := ⟨h4_⟩
      replace HI0 : Aside0 (IsS132 w0 w26 g s0_0 s0_1 false) := ⟨h5_⟩
      replace HK : Aside0 (KeepBut w w26 g none) := ⟨h6_⟩
      replace HB : Aside0 (Below w0.heap.size w0 w26) := ⟨h7_⟩
      clear h0_ h1_ h2_ h3_ h4_ h5_ h6_ h7_
      have hHeld : w26.cell? ⟨g, 0, none⟩ = some (.string s0_0) ∧ w26.cell? ⟨g, 1, none⟩ = some (.int .i64 s0_1) ∧ w26.cell? ⟨g, 2, none⟩ = some (.bool false) := hS_
      refine nmA_ ?_
      refine on_ HT_ 10 none #[true, true, true, true, true, true, true, true, true, true, true] (fun K hK => ?_)
      have hs27 : w26.cell? ⟨gb174, 0, none⟩ = some (.int .i64 0) := (blk_cell BK174.out 0).trans rfl
      have hfs27 := blk_frozen BK174.out 0
      have hs28 : w26.cell? ⟨gb174, 1, none⟩ = some (.int .i64 0) := (blk_cell BK174.out 1).trans rfl
      have hfs28 := blk_frozen BK174.out 1
      have hs29 : w26.cell? ⟨gb174, 2, none⟩ = some (.int .i64 0) := (blk_cell BK174.out 2).trans rfl
      have hfs29 := blk_frozen BK174.out 2
      refine sk_ ?_
      refine hK.out _ _ ⟨(by (rw [cell_far, cell_far, cell_far]) <;> first | exact hHeld.1 | exact NB0_174.out), (by (rw [cell_far, cell_far, cell_far]) <;> first | exact hHeld.2.1 | exact NB0_174.out), (by (rw [cell_far, cell_far, cell_far]) <;> first | exact hHeld.2.2 | exact NB0_174.out)⟩ (fun hHeld => ?_)
      clear hK K
      refine dn_ HT_ ?_
      obtain ⟨HGz30, hgz30⟩ := HI0.out
      have hcz30_0 := cellS132_0 HGz30
      have hcz30_1 := cellS132_1 HGz30
      have hcz30_2 := cellS132_2 HGz30
      have hfz30_0 := blk_frozen HGz30 0
      have hfz30_1 := blk_frozen HGz30 1
      have hfz30_2 := blk_frozen HGz30 2
      clear HGz30 hgz30
      have hnb31 := NB174_0.out
      have hnc31 := NB0_174.out
      have hcz32_0 : w26.cell? ⟨gb174, 0, none⟩ = some (.int .i64 0) := (blk_cell BK174.out 0).trans rfl
      have hcz32_1 : w26.cell? ⟨gb174, 1, none⟩ = some (.int .i64 0) := (blk_cell BK174.out 1).trans rfl
      have hcz32_2 : w26.cell? ⟨gb174, 2, none⟩ = some (.int .i64 0) := (blk_cell BK174.out 2).trans rfl
      have hfz32_0 := blk_frozen BK174.out 0
      have hfz32_1 := blk_frozen BK174.out 1
      have hfz32_2 := blk_frozen BK174.out 2
      try go_wp2
      go_ret
      exact ⟨ri_, is132_, belg_ (IsS132.ge HI0.out), kp_⟩

end Go.Proofs.Ytggbpjfgfenpdaa.PFnExactNodesRead
