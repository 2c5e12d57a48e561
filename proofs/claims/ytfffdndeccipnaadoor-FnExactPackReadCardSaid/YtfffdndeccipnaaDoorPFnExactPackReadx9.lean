/- Functions of the law FnExactPackRead: the print's, with walks of this session's own. No statement is proved here. -/
import Derived.WalkLawsBesides
import Derived.Test.YtfffdndeccipnaaDoorVRegFnExactPackRead
-- A program of this session wrote this text: a changed copy of the kit print, with given functions.
import Derived.Test.YtfffdndeccipnaaDoorPFnExactPackReadx0
import Derived.Test.YtfffdndeccipnaaDoorPFnExactPackReadx7
import Derived.Test.YtfffdndeccipnaaDoorPFnExactPackReadx8
namespace Go.Proofs.YtfffdndeccipnaaDoor.PFnExactPackRead
open Go.RowKit Go.Proofs.YtfffdndeccipnaaDoorW.PrintWords Go.Proofs.YtfffdndeccipnaaDoorW.PrintLast Go.Proofs.YtfffdndeccipnaaDoorW.PrintMore Go.Proofs.YtfffdndeccipnaaDoor.Reg Go.Proofs.YtfffdndeccipnaaDoor.Aut
attribute [local go_sem] max2_int min2_int max_two min_two max_three min_three max_four min_four   -- for this text's walks alone
set_option linter.unusedVariables false
set_option linter.unusedSimpArgs false

/-! ### impl_reader_num: function 85 -/
def impl_reader_num.f (k : Nat) (s0_0 : ByteArray) (s0_1 : Int) (s0_2 : Bool) : Option (Int × ByteArray × Int × Bool) := (impl_getNum.f k s0_0 s0_1).bind fun bt264 => (if s0_2 = true then (some (0, s0_0, s0_1, true)) else (if bt264.2.2 = 0 then (some (bt264.1, s0_0, bt264.2.1, s0_2)) else (some (0, s0_0, s0_1, true))))
theorem impl_reader_num.mono : ∀ a0 a1 a2 k, LeO (impl_reader_num.f k a0 a1 a2) (impl_reader_num.f (k + 1) a0 a1 a2) := by
  intro a0 a1 a2 k
  unfold impl_reader_num.f
  repeat' first
      | (with_reducible exact impl_getNum.mono _ _ _)
      | (with_reducible exact LeO.refl _)
      | (with_reducible exact LeO.none _)
      | (with_reducible refine LeO.ite ?_ ?_)
      | (with_reducible refine LeO.bind ?_ (fun _ => ?_))
      | exact impl_getNum.mono _ _ _
      | exact LeO.none _
      | refine LeO.ite ?_ ?_
      | refine LeO.bind ?_ (fun _ => ?_)
def impl_reader_num.T1 : Bool × List (List Nat × List Nat) := (true, [([], []), ([0], [0]), ([1], [1]), ([2], [2]), ([], []), ([4], [4]), ([5], [5]), ([6], [6]), ([3, 7], [3, 7]), ([], []), ([9, 8, 8, 0, 1, 2, 3, 4, 5, 6, 7, 8, 9], [8, 9])])
def impl_reader_num.B1 : List Nat := [0, 1, 3, 7, 0, 16, 48, 112, 255, 0, 1023]
theorem impl_reader_num.tab1 : rtab .any (opsOf Tryd.f85 1) = impl_reader_num.T1 := by kernel_rfl
theorem impl_reader_num.bits1 : waitsOk impl_reader_num.T1.2 impl_reader_num.B1 = true := by kernel_rfl
set_option maxHeartbeats 8000000 in
set_option maxRecDepth 100000 in
theorem impl_reader_num.calls (k : Nat) (g : Nat) (s0_0 : ByteArray) (s0_1 : Int) (s0_2 : Bool) (r1 : Int) (r2 : ByteArray) (r3 : Int) (r4 : Bool) (w0 w : World) (hI : IsS107 w0 w g s0_0 s0_1 s0_2) (hB : Below w0.heap.size w0 w) (h : impl_reader_num.f k s0_0 s0_1 s0_2 = some (r1, r2, r3, r4)) :
    Calls Tryd.prog 85 #[.pointer (some ⟨g, 0, none⟩)] w fun e w' => e = .returned (.int .i64 r1) ∧ IsS107 w0 w' g r2 r3 r4 ∧ Below w0.heap.size w0 w' ∧ KeepBut w w' g none := by
  have hu102 := Tryd.underlying102
  have HI0 := AM hI
  have HK := AM (KeepBut.refl w g none)
  have HL := AM hB.size
  clear hI
  have HW0 := AM hB.size
  have HB := AM hB
  clear hB
  have H : ((impl_getNum.f k s0_0 s0_1).bind fun bt264 => (if s0_2 = true then (some (0, s0_0, s0_1, true)) else (if bt264.2.2 = 0 then (some (bt264.1, s0_0, bt264.2.1, s0_2)) else (some (0, s0_0, s0_1, true))))) = some (r1, r2, r3, r4) := h
  clear h
  obtain ⟨⟨t264, t265, t266⟩, A2, H⟩ := OB H
  try dsimp only at H
  replace A2 := AM A2
  by_cases c3 : s0_2 = true
  · subst c3
    rw [if_pos rfl] at H
    simp only [Option.some.injEq, Prod.mk.injEq] at H
    obtain ⟨rfl, rfl, rfl, rfl⟩ := H
    go_enter Tryd.func85, Tryd.ntmps85
    try go_wp2
    replace HI0 := AM (IsS107.drew HI0.out)
    replace HK := AM (keep_drew HK.out)
    replace HB := AM (below_drew1 HB.out)
    refine start_ (n := 11) (S := fun w' => w'.cell? ⟨g, 0, none⟩ = some (.string s0_0) ∧ w'.cell? ⟨g, 1, none⟩ = some (.int .i64 s0_1) ∧ w'.cell? ⟨g, 2, none⟩ = some (.bool true)) (ds := []) #[false, false, false, false, false, false, false, false, false, false, false] (by kernel_rfl) rfl rfl ⟨(cellS107_0 HI0.out.1), (cellS107_1 HI0.out.1), (cellS107_2 HI0.out.1)⟩ (fun hHeld => ?_); refine with_tabW impl_reader_num.tab1 impl_reader_num.bits1 (fun HT_ HW_ => ?_)
    generalize w.drew = w4 at HI0 HK HB hHeld ⊢
    refine pu_ HT_ 0 (some 4) #[true, false, false, false, false, false, false, false, false, false, false] ?_
    refine pu_ HT_ 1 (some 5) #[true, true, false, false, false, false, false, false, false, false, false] ?_
    refine pu_ HT_ 2 (some 6) #[true, true, true, false, false, false, false, false, false, false, false] ?_
    refine pu_ HT_ 4 (some 8) #[true, true, true, false, true, false, false, false, false, false, false] ?_
    refine pu_ HT_ 5 (some 9) #[true, true, true, false, true, true, false, false, false, false, false] ?_
    refine pu_ HT_ 6 (some 10) #[true, true, true, false, true, true, true, false, false, false, false] ?_
    refine ta_ HT_ HW_ 3 (some 7) #[true, true, true, true, true, true, true, false, false, false, false] hHeld ?_
    refine ta_ HT_ HW_ 7 (some 11) #[true, true, true, true, true, true, true, true, false, false, false] hHeld ?_
    refine join_ (σ := Nat) 1 #[true, true, true, true, true, true, true, true, true, true, false] (fun s_ => [(12, .agg #[.int .i64 t264, .int .i64 t265, .int .i64 t266]), (3, .pointer (some ⟨s_, 0, none⟩))]) (fun s_ w' => (w'.cell? ⟨g, 0, none⟩ = some (.string s0_0) ∧ w'.cell? ⟨g, 1, none⟩ = some (.int .i64 s0_1) ∧ w'.cell? ⟨g, 2, none⟩ = some (.bool true)) ∧ (w'.heap[s_]? = some (.cells #[.int .i64 0, .int .i64 0, .int .i64 0] 102 (0, 0))) ∧ (w.heap.size ≤ s_) ∧ (w0.heap.size ≤ s_) ∧ (g ≠ s_) ∧ (s_ ≠ g) ∧ (IsS107 w0 w' g s0_0 s0_1 true) ∧ (KeepBut w w' g none) ∧ (Below w0.heap.size w0 w')) ?_ ?_
    rotate_left
    · intro hCont
      refine tw_ HT_ 8 9 (some 12) (some 3) #[true, true, true, true, true, true, true, true, true, false, false] #[true, true, true, true, true, true, true, true, false, true, false] (fun K hK => ?_) (fun K hK => ?_)
      · skip
        refine go1_ Tryd.func120 #[.string s0_0, .int .i64 s0_1] ?_
        with_reducible refine (impl_getNum.calls k s0_0 s0_1 t264 t265 t266 _ A2.out).mono ?_
        rintro e w5 ⟨rfl, hb⟩
        refine ⟨_, rfl, ?_⟩
        replace HK := AM (KeepBut.trans (kp_ (w := w)) (KeepBut.of_below hb g none) (.inl rfl))
        replace HB := AM (below_step (belg_ (IsS107.ge HI0.out)) hb)
        replace HI0 := AM (IsS107.below is107_ hb)
        (try clear hb)
        (try clear hb2)
        (try clear hk)
        (try clear hi)
        refine hK.out _ _ ⟨(cellS107_0 HI0.out.1), (cellS107_1 HI0.out.1), (cellS107_2 HI0.out.1)⟩ (fun hHeld => ?_)
        clear hK K
        refine nm_ ?_
        refine on_ HT_ 9 (some 3) #[true, true, true, true, true, true, true, true, true, true, false] (fun K hK => ?_)
        refine bs_ 3 #[.int .i64 0, .int .i64 0, .int .i64 0] 102 ?_
        intro gb267 hg w6 hbox hb
        replace HB := AM (below_step (belg_ (IsS107.ge HI0.out)) hb)
        have BK267 := AM hbox
        have GW267 := AM ((by rw [hg]; exact (keep_size (w := w) (g := g) (row := none) kp_) : w.heap.size ≤ gb267))
        have GE267 := AM ((Nat.le_trans HW0.out (by rw [hg]; exact (keep_size (w := w) (g := g) (row := none) kp_) : w.heap.size ≤ gb267) : w0.heap.size ≤ gb267))
        replace HK := AM (KeepBut.trans (kp_ (w := w)) (KeepBut.of_below hb g none) (.inl rfl))
        have NB0_267 := AM ((by rw [hg]; exact Nat.ne_of_lt (IsS107.lt (show IsS107 w0 _ g s0_0 s0_1 true from is107_)) : g ≠ gb267))
        have NB267_0 := AM ((by rw [hg]; exact Nat.ne_of_gt (IsS107.lt (show IsS107 w0 _ g s0_0 s0_1 true from is107_)) : gb267 ≠ g))
        replace HI0 := AM (IsS107.below is107_ hb)
        clear hb hbox hg
        refine hK.out _ _ ⟨(cellS107_0 HI0.out.1), (cellS107_1 HI0.out.1), (cellS107_2 HI0.out.1)⟩ (fun hHeld => ?_)
        clear hK K
        refine nm_ ?_
        exact nmE_ (hCont (gb267) _ ⟨hHeld, (bk_ BK267.out), GW267.out, GE267.out, NB0_267.out, NB267_0.out, is107_, kp_, (belg_ (IsS107.ge HI0.out))⟩)
      · skip
        refine bs_ 3 #[.int .i64 0, .int .i64 0, .int .i64 0] 102 ?_
        intro gb267 hg w5 hbox hb
        replace HB := AM (below_step (belg_ (IsS107.ge HI0.out)) hb)
        have BK267 := AM hbox
        have GW267 := AM ((by rw [hg]; exact (keep_size (w := w) (g := g) (row := none) kp_) : w.heap.size ≤ gb267))
        have GE267 := AM ((Nat.le_trans HW0.out (by rw [hg]; exact (keep_size (w := w) (g := g) (row := none) kp_) : w.heap.size ≤ gb267) : w0.heap.size ≤ gb267))
        replace HK := AM (KeepBut.trans (kp_ (w := w)) (KeepBut.of_below hb g none) (.inl rfl))
        have NB0_267 := AM ((by rw [hg]; exact Nat.ne_of_lt (IsS107.lt (show IsS107 w0 _ g s0_0 s0_1 true from is107_)) : g ≠ gb267))
        have NB267_0 := AM ((by rw [hg]; exact Nat.ne_of_gt (IsS107.lt (show IsS107 w0 _ g s0_0 s0_1 true from is107_)) : gb267 ≠ g))
        replace HI0 := AM (IsS107.below is107_ hb)
        clear hb hbox hg
        refine hK.out _ _ ⟨(cellS107_0 HI0.out.1), (cellS107_1 HI0.out.1), (cellS107_2 HI0.out.1)⟩ (fun hHeld => ?_)
        clear hK K
        refine nm_ ?_
        refine on_ HT_ 8 (some 12) #[true, true, true, true, true, true, true, true, true, true, false] (fun K hK => ?_)
        refine go1_ Tryd.func120 #[.string s0_0, .int .i64 s0_1] ?_
        with_reducible refine (impl_getNum.calls k s0_0 s0_1 t264 t265 t266 _ A2.out).mono ?_
        rintro e w6 ⟨rfl, hb⟩
        refine ⟨_, rfl, ?_⟩
        replace BK267 := AM (blk_below (g := gb267) (o := .cells #[.int .i64 0, .int .i64 0, .int .i64 0] 102 (0, 0)) (bk_ BK267.out) hb)
        replace HK := AM (KeepBut.trans (kp_ (w := w)) (KeepBut.of_below hb g none) (.inl rfl))
        replace HB := AM (below_step (belg_ (IsS107.ge HI0.out)) hb)
        replace HI0 := AM (IsS107.below is107_ hb)
        (try clear hb)
        (try clear hb2)
        (try clear hk)
        (try clear hi)
        refine hK.out _ _ ⟨(cellS107_0 HI0.out.1), (cellS107_1 HI0.out.1), (cellS107_2 HI0.out.1)⟩ (fun hHeld => ?_)
        clear hK K
        refine nm_ ?_
        exact nmE_ (hCont (gb267) _ ⟨hHeld, (bk_ BK267.out), GW267.out, GE267.out, NB0_267.out, NB267_0.out, is107_, kp_, (belg_ (IsS107.ge HI0.out))⟩)
    rintro gb267 w7 ⟨hS_, h0_, h1_, h2_, h3_, h4_, h5_, h6_, h7_⟩
    have BK267 : Aside0 (w7.heap[gb267]? = some (.cells #[.int .i64 0, .int .i64 0, .int .i64 0] 102 (0, 0))) := ⟨h0_⟩
    have GW267 : Aside0 (w.heap.size ≤ gb267) := ⟨h1_⟩
    have GE267 : Aside0 (w0.heap.size ≤ gb267) := ⟨h2_⟩
    have NB0_267 : Aside0 (g ≠ gb267) := ⟨h3_⟩
    have NB267_0 : Aside0 (gb267 ≠ g) := ⟨h4_⟩
    replace HI0 : Aside0 (IsS107 w0 w7 g s0_0 s0_1 true) := ⟨h5_⟩
    replace HK : Aside0 (KeepBut w w7 g none) := ⟨h6_⟩
    replace HB : Aside0 (Below w0.heap.size w0 w7) := ⟨h7_⟩
    clear h0_ h1_ h2_ h3_ h4_ h5_ h6_ h7_
    have hHeld : w7.cell? ⟨g, 0, none⟩ = some (.string s0_0) ∧ w7.cell? ⟨g, 1, none⟩ = some (.int .i64 s0_1) ∧ w7.cell? ⟨g, 2, none⟩ = some (.bool true) := hS_
    refine nmA_ ?_
    refine on_ HT_ 10 none #[true, true, true, true, true, true, true, true, true, true, true] (fun K hK => ?_)
    have hs8 : w7.cell? ⟨gb267, 0, none⟩ = some (.int .i64 0) := (blk_cell BK267.out 0).trans rfl
    have hfs8 := blk_frozen BK267.out 0
    have hs9 : w7.cell? ⟨gb267, 1, none⟩ = some (.int .i64 0) := (blk_cell BK267.out 1).trans rfl
    have hfs9 := blk_frozen BK267.out 1
    have hs10 : w7.cell? ⟨gb267, 2, none⟩ = some (.int .i64 0) := (blk_cell BK267.out 2).trans rfl
    have hfs10 := blk_frozen BK267.out 2
    refine sk_ ?_
    refine hK.out _ _ ⟨(by (rw [cell_far, cell_far, cell_far]) <;> first | exact hHeld.1 | exact NB0_267.out), (by (rw [cell_far, cell_far, cell_far]) <;> first | exact hHeld.2.1 | exact NB0_267.out), (by (rw [cell_far, cell_far, cell_far]) <;> first | exact hHeld.2.2 | exact NB0_267.out)⟩ (fun hHeld => ?_)
    clear hK K
    refine dn_ HT_ ?_
    obtain ⟨HGz11, hgz11⟩ := HI0.out
    have hcz11_0 := cellS107_0 HGz11
    have hcz11_1 := cellS107_1 HGz11
    have hcz11_2 := cellS107_2 HGz11
    have hfz11_0 := blk_frozen HGz11 0
    have hfz11_1 := blk_frozen HGz11 1
    have hfz11_2 := blk_frozen HGz11 2
    clear HGz11 hgz11
    try go_wp2
    go_ret
    exact ⟨ri_, is107_, belg_ (IsS107.ge HI0.out), kp_⟩
  · replace c3 := Bool.eq_false_iff.mpr c3
    subst c3
    rw [if_neg (show ¬ (false = true) by decide)] at H
    by_cases c12 : t266 = 0
    · rw [if_pos c12] at H
      have c12b0 : (t266 == 0) = true := beq_iff_eq.mpr c12
      have c12b1 : (t266 != 0) = false := bne_eq_false_iff_eq.mpr c12
      clear c12
      simp only [Option.some.injEq, Prod.mk.injEq] at H
      obtain ⟨rfl, rfl, rfl, rfl⟩ := H
      go_enter Tryd.func85, Tryd.ntmps85
      try go_wp2
      replace HI0 := AM (IsS107.drew HI0.out)
      replace HK := AM (keep_drew HK.out)
      replace HB := AM (below_drew1 HB.out)
      refine start_ (n := 11) (S := fun w' => w'.cell? ⟨g, 0, none⟩ = some (.string s0_0) ∧ w'.cell? ⟨g, 1, none⟩ = some (.int .i64 s0_1) ∧ w'.cell? ⟨g, 2, none⟩ = some (.bool false)) (ds := []) #[false, false, false, false, false, false, false, false, false, false, false] (by kernel_rfl) rfl rfl ⟨(cellS107_0 HI0.out.1), (cellS107_1 HI0.out.1), (cellS107_2 HI0.out.1)⟩ (fun hHeld => ?_); refine with_tabW impl_reader_num.tab1 impl_reader_num.bits1 (fun HT_ HW_ => ?_)
      generalize w.drew = w13 at HI0 HK HB hHeld ⊢
      refine pu_ HT_ 0 (some 4) #[true, false, false, false, false, false, false, false, false, false, false] ?_
      refine pu_ HT_ 1 (some 5) #[true, true, false, false, false, false, false, false, false, false, false] ?_
      refine pu_ HT_ 2 (some 6) #[true, true, true, false, false, false, false, false, false, false, false] ?_
      refine pu_ HT_ 4 (some 8) #[true, true, true, false, true, false, false, false, false, false, false] ?_
      refine pu_ HT_ 5 (some 9) #[true, true, true, false, true, true, false, false, false, false, false] ?_
      refine pu_ HT_ 6 (some 10) #[true, true, true, false, true, true, true, false, false, false, false] ?_
      refine ta_ HT_ HW_ 3 (some 7) #[true, true, true, true, true, true, true, false, false, false, false] hHeld ?_
      refine ta_ HT_ HW_ 7 (some 11) #[true, true, true, true, true, true, true, true, false, false, false] hHeld ?_
      refine join_ (σ := Nat) 1 #[true, true, true, true, true, true, true, true, true, true, false] (fun s_ => [(12, .agg #[.int .i64 t264, .int .i64 t265, .int .i64 t266]), (3, .pointer (some ⟨s_, 0, none⟩))]) (fun s_ w' => (w'.cell? ⟨g, 0, none⟩ = some (.string s0_0) ∧ w'.cell? ⟨g, 1, none⟩ = some (.int .i64 s0_1) ∧ w'.cell? ⟨g, 2, none⟩ = some (.bool false)) ∧ (w'.heap[s_]? = some (.cells #[.int .i64 0, .int .i64 0, .int .i64 0] 102 (0, 0))) ∧ (w.heap.size ≤ s_) ∧ (w0.heap.size ≤ s_) ∧ (g ≠ s_) ∧ (s_ ≠ g) ∧ (IsS107 w0 w' g s0_0 s0_1 false) ∧ (KeepBut w w' g none) ∧ (Below w0.heap.size w0 w')) ?_ ?_
      rotate_left
      · intro hCont
        refine tw_ HT_ 8 9 (some 12) (some 3) #[true, true, true, true, true, true, true, true, true, false, false] #[true, true, true, true, true, true, true, true, false, true, false] (fun K hK => ?_) (fun K hK => ?_)
        · skip
          refine go1_ Tryd.func120 #[.string s0_0, .int .i64 s0_1] ?_
          with_reducible refine (impl_getNum.calls k s0_0 s0_1 t264 t265 t266 _ A2.out).mono ?_
          rintro e w14 ⟨rfl, hb⟩
          refine ⟨_, rfl, ?_⟩
          replace HK := AM (KeepBut.trans (kp_ (w := w)) (KeepBut.of_below hb g none) (.inl rfl))
          replace HB := AM (below_step (belg_ (IsS107.ge HI0.out)) hb)
          replace HI0 := AM (IsS107.below is107_ hb)
          (try clear hb)
          (try clear hb2)
          (try clear hk)
          (try clear hi)
          refine hK.out _ _ ⟨(cellS107_0 HI0.out.1), (cellS107_1 HI0.out.1), (cellS107_2 HI0.out.1)⟩ (fun hHeld => ?_)
          clear hK K
          refine nm_ ?_
          refine on_ HT_ 9 (some 3) #[true, true, true, true, true, true, true, true, true, true, false] (fun K hK => ?_)
          refine bs_ 3 #[.int .i64 0, .int .i64 0, .int .i64 0] 102 ?_
          intro gb267 hg w15 hbox hb
          replace HB := AM (below_step (belg_ (IsS107.ge HI0.out)) hb)
          have BK267 := AM hbox
          have GW267 := AM ((by rw [hg]; exact (keep_size (w := w) (g := g) (row := none) kp_) : w.heap.size ≤ gb267))
          have GE267 := AM ((Nat.le_trans HW0.out (by rw [hg]; exact (keep_size (w := w) (g := g) (row := none) kp_) : w.heap.size ≤ gb267) : w0.heap.size ≤ gb267))
          replace HK := AM (KeepBut.trans (kp_ (w := w)) (KeepBut.of_below hb g none) (.inl rfl))
          have NB0_267 := AM ((by rw [hg]; exact Nat.ne_of_lt (IsS107.lt (show IsS107 w0 _ g s0_0 s0_1 false from is107_)) : g ≠ gb267))
          have NB267_0 := AM ((by rw [hg]; exact Nat.ne_of_gt (IsS107.lt (show IsS107 w0 _ g s0_0 s0_1 false from is107_)) : gb267 ≠ g))
          replace HI0 := AM (IsS107.below is107_ hb)
          clear hb hbox hg
          refine hK.out _ _ ⟨(cellS107_0 HI0.out.1), (cellS107_1 HI0.out.1), (cellS107_2 HI0.out.1)⟩ (fun hHeld => ?_)
          clear hK K
          refine nm_ ?_
          exact nmE_ (hCont (gb267) _ ⟨hHeld, (bk_ BK267.out), GW267.out, GE267.out, NB0_267.out, NB267_0.out, is107_, kp_, (belg_ (IsS107.ge HI0.out))⟩)
        · skip
          refine bs_ 3 #[.int .i64 0, .int .i64 0, .int .i64 0] 102 ?_
          intro gb267 hg w14 hbox hb
          replace HB := AM (below_step (belg_ (IsS107.ge HI0.out)) hb)
          have BK267 := AM hbox
          have GW267 := AM ((by rw [hg]; exact (keep_size (w := w) (g := g) (row := none) kp_) : w.heap.size ≤ gb267))
          have GE267 := AM ((Nat.le_trans HW0.out (by rw [hg]; exact (keep_size (w := w) (g := g) (row := none) kp_) : w.heap.size ≤ gb267) : w0.heap.size ≤ gb267))
          replace HK := AM (KeepBut.trans (kp_ (w := w)) (KeepBut.of_below hb g none) (.inl rfl))
          have NB0_267 := AM ((by rw [hg]; exact Nat.ne_of_lt (IsS107.lt (show IsS107 w0 _ g s0_0 s0_1 false from is107_)) : g ≠ gb267))
          have NB267_0 := AM ((by rw [hg]; exact Nat.ne_of_gt (IsS107.lt (show IsS107 w0 _ g s0_0 s0_1 false from is107_)) : gb267 ≠ g))
          replace HI0 := AM (IsS107.below is107_ hb)
          clear hb hbox hg
          refine hK.out _ _ ⟨(cellS107_0 HI0.out.1), (cellS107_1 HI0.out.1), (cellS107_2 HI0.out.1)⟩ (fun hHeld => ?_)
          clear hK K
          refine nm_ ?_
          refine on_ HT_ 8 (some 12) #[true, true, true, true, true, true, true, true, true, true, false] (fun K hK => ?_)
          refine go1_ Tryd.func120 #[.string s0_0, .int .i64 s0_1] ?_
          with_reducible refine (impl_getNum.calls k s0_0 s0_1 t264 t265 t266 _ A2.out).mono ?_
          rintro e w15 ⟨rfl, hb⟩
          refine ⟨_, rfl, ?_⟩
          replace BK267 := AM (blk_below (g := gb267) (o := .cells #[.int .i64 0, .int .i64 0, .int .i64 0] 102 (0, 0)) (bk_ BK267.out) hb)
          replace HK := AM (KeepBut.trans (kp_ (w := w)) (KeepBut.of_below hb g none) (.inl rfl))
          replace HB := AM (below_step (belg_ (IsS107.ge HI0.out)) hb)
          replace HI0 := AM (IsS107.below is107_ hb)
          (try clear hb)
          (try clear hb2)
          (try clear hk)
          (try clear hi)
          refine hK.out _ _ ⟨(cellS107_0 HI0.out.1), (cellS107_1 HI0.out.1), (cellS107_2 HI0.out.1)⟩ (fun hHeld => ?_)
          clear hK K
          refine nm_ ?_
          exact nmE_ (hCont (gb267) _ ⟨hHeld, (bk_ BK267.out), GW267.out, GE267.out, NB0_267.out, NB267_0.out, is107_, kp_, (belg_ (IsS107.ge HI0.out))⟩)
      rintro gb267 w16 ⟨hS_, h0_, h1_, h2_, h3_, h4_, h5_, h6_, h7_⟩
      have BK267 : Aside0 (w16.heap[gb267]? = some (.cells #[.int .i64 0, .int .i64 0, .int .i64 0] 102 (0, 0))) := ⟨h0_⟩
      have GW267 : Aside0 (w.heap.size ≤ gb267) := ⟨h1_⟩
      have GE267 : Aside0 (w0.heap.size ≤ gb267) := ⟨h2_⟩
      have NB0_267 : Aside0 (g ≠ gb267) := ⟨h3_⟩
      have NB267_0 : Aside0 (gb267 ≠ g) := ⟨h4_⟩
      replace HI0 : Aside0 (IsS107 w0 w16 g s0_0 s0_1 false) := ⟨h5_⟩
      replace HK : Aside0 (KeepBut w w16 g none) := ⟨h6_⟩
      replace HB : Aside0 (Below w0.heap.size w0 w16) := ⟨h7_⟩
      clear h0_ h1_ h2_ h3_ h4_ h5_ h6_ h7_
      have hHeld : w16.cell? ⟨g, 0, none⟩ = some (.string s0_0) ∧ w16.cell? ⟨g, 1, none⟩ = some (.int .i64 s0_1) ∧ w16.cell? ⟨g, 2, none⟩ = some (.bool false) := hS_
      refine nmA_ ?_
      refine on_ HT_ 10 none #[true, true, true, true, true, true, true, true, true, true, true] (fun K hK => ?_)
      have hs17 : w16.cell? ⟨gb267, 0, none⟩ = some (.int .i64 0) := (blk_cell BK267.out 0).trans rfl
      have hfs17 := blk_frozen BK267.out 0
      have hs18 : w16.cell? ⟨gb267, 1, none⟩ = some (.int .i64 0) := (blk_cell BK267.out 1).trans rfl
      have hfs18 := blk_frozen BK267.out 1
      have hs19 : w16.cell? ⟨gb267, 2, none⟩ = some (.int .i64 0) := (blk_cell BK267.out 2).trans rfl
      have hfs19 := blk_frozen BK267.out 2
      refine sk_ ?_
      refine hK.out _ _ ⟨(by (rw [cell_far, cell_far, cell_far]) <;> first | exact hHeld.1 | exact NB0_267.out), (by (rw [cell_far, cell_far, cell_far]) <;> first | exact hHeld.2.1 | exact NB0_267.out), (by (rw [cell_far, cell_far, cell_far]) <;> first | exact hHeld.2.2 | exact NB0_267.out)⟩ (fun hHeld => ?_)
      clear hK K
      refine dn_ HT_ ?_
      obtain ⟨HGz20, hgz20⟩ := HI0.out
      have hcz20_0 := cellS107_0 HGz20
      have hcz20_1 := cellS107_1 HGz20
      have hcz20_2 := cellS107_2 HGz20
      have hfz20_0 := blk_frozen HGz20 0
      have hfz20_1 := blk_frozen HGz20 1
      have hfz20_2 := blk_frozen HGz20 2
      clear HGz20 hgz20
      have hnb21 := NB267_0.out
      have hnc21 := NB0_267.out
      have hcz22_0 : w16.cell? ⟨gb267, 0, none⟩ = some (.int .i64 0) := (blk_cell BK267.out 0).trans rfl
      have hcz22_1 : w16.cell? ⟨gb267, 1, none⟩ = some (.int .i64 0) := (blk_cell BK267.out 1).trans rfl
      have hcz22_2 : w16.cell? ⟨gb267, 2, none⟩ = some (.int .i64 0) := (blk_cell BK267.out 2).trans rfl
      have hfz22_0 := blk_frozen BK267.out 0
      have hfz22_1 := blk_frozen BK267.out 1
      have hfz22_2 := blk_frozen BK267.out 2
      try go_wp2
      go_ret
      exact ⟨ri_, is107_, belg_ (IsS107.ge HI0.out), kp_⟩
    · rw [if_neg c12] at H
      have c12b0 : (t266 == 0) = false := beq_eq_false_iff_ne.mpr c12
      have c12b1 : (t266 != 0) = true := bne_iff_ne.mpr c12
      simp only [Option.some.injEq, Prod.mk.injEq] at H
      obtain ⟨rfl, rfl, rfl, rfl⟩ := H
      go_enter Tryd.func85, Tryd.ntmps85
      try go_wp2
      replace HI0 := AM (IsS107.drew HI0.out)
      replace HK := AM (keep_drew HK.out)
      replace HB := AM (below_drew1 HB.out)
      refine start_ (n := 11) (S := fun w' => w'.cell? ⟨g, 0, none⟩ = some (.string s0_0) ∧ w'.cell? ⟨g, 1, none⟩ = some (.int .i64 s0_1) ∧ w'.cell? ⟨g, 2, none⟩ = some (.bool false)) (ds := []) #[false, false, false, false, false, false, false, false, false, false, false] (by kernel_rfl) rfl rfl ⟨(cellS107_0 HI0.out.1), (cellS107_1 HI0.out.1), (cellS107_2 HI0.out.1)⟩ (fun hHeld => ?_); refine with_tabW impl_reader_num.tab1 impl_reader_num.bits1 (fun HT_ HW_ => ?_)
      generalize w.drew = w23 at HI0 HK HB hHeld ⊢
      refine pu_ HT_ 0 (some 4) #[true, false, false, false, false, false, false, false, false, false, false] ?_
      refine pu_ HT_ 1 (some 5) #[true, true, false, false, false, false, false, false, false, false, false] ?_
      refine pu_ HT_ 2 (some 6) #[true, true, true, false, false, false, false, false, false, false, false] ?_
      refine pu_ HT_ 4 (some 8) #[true, true, true, false, true, false, false, false, false, false, false] ?_
      refine pu_ HT_ 5 (some 9) #[true, true, true, false, true, true, false, false, false, false, false] ?_
      refine pu_ HT_ 6 (some 10) #[true, true, true, false, true, true, true, false, false, false, false] ?_
      refine ta_ HT_ HW_ 3 (some 7) #[true, true, true, true, true, true, true, false, false, false, false] hHeld ?_
      refine ta_ HT_ HW_ 7 (some 11) #[true, true, true, true, true, true, true, true, false, false, false] hHeld ?_
      refine join_ (σ := Nat) 1 #[true, true, true, true, true, true, true, true, true, true, false] (fun s_ => [(12, .agg #[.int .i64 t264, .int .i64 t265, .int .i64 t266]), (3, .pointer (some ⟨s_, 0, none⟩))]) (fun s_ w' => (w'.cell? ⟨g, 0, none⟩ = some (.string s0_0) ∧ w'.cell? ⟨g, 1, none⟩ = some (.int .i64 s0_1) ∧ w'.cell? ⟨g, 2, none⟩ = some (.bool false)) ∧ (w'.heap[s_]? = some (.cells #[.int .i64 0, .int .i64 0, .int .i64 0] 102 (0, 0))) ∧ (w.heap.size ≤ s_) ∧ (w0.heap.size ≤ s_) ∧ (g ≠ s_) ∧ (s_ ≠ g) ∧ (IsS107 w0 w' g s0_0 s0_1 false) ∧ (KeepBut w w' g none) ∧ (Below w0.heap.size w0 w')) ?_ ?_
      rotate_left
      · intro hCont
        refine tw_ HT_ 8 9 (some 12) (some 3) #[true, true, true, true, true, true, true, true, true, false, false] #[true, true, true, true, true, true, true, true, false, true, false] (fun K hK => ?_) (fun K hK => ?_)
        · skip
          refine go1_ Tryd.func120 #[.string s0_0, .int .i64 s0_1] ?_
          with_reducible refine (impl_getNum.calls k s0_0 s0_1 t264 t265 t266 _ A2.out).mono ?_
          rintro e w24 ⟨rfl, hb⟩
          refine ⟨_, rfl, ?_⟩
          replace HK := AM (KeepBut.trans (kp_ (w := w)) (KeepBut.of_below hb g none) (.inl rfl))
          replace HB := AM (below_step (belg_ (IsS107.ge HI0.out)) hb)
          replace HI0 := AM (IsS107.below is107_ hb)
          (try clear hb)
          (try clear hb2)
          (try clear hk)
          (try clear hi)
          refine hK.out _ _ ⟨(cellS107_0 HI0.out.1), (cellS107_1 HI0.out.1), (cellS107_2 HI0.out.1)⟩ (fun hHeld => ?_)
          clear hK K
          refine nm_ ?_
          refine on_ HT_ 9 (some 3) #[true, true, true, true, true, true, true, true, true, true, false] (fun K hK => ?_)
          refine bs_ 3 #[.int .i64 0, .int .i64 0, .int .i64 0] 102 ?_
          intro gb267 hg w25 hbox hb
          replace HB := AM (below_step (belg_ (IsS107.ge HI0.out)) hb)
          have BK267 := AM hbox
          have GW267 := AM ((by rw [hg]; exact (keep_size (w := w) (g := g) (row := none) kp_) : w.heap.size ≤ gb267))
          have GE267 := AM ((Nat.le_trans HW0.out (by rw [hg]; exact (keep_size (w := w) (g := g) (row := none) kp_) : w.heap.size ≤ gb267) : w0.heap.size ≤ gb267))
          replace HK := AM (KeepBut.trans (kp_ (w := w)) (KeepBut.of_below hb g none) (.inl rfl))
          have NB0_267 := AM ((by rw [hg]; exact Nat.ne_of_lt (IsS107.lt (show IsS107 w0 _ g s0_0 s0_1 false from is107_)) : g ≠ gb267))
          have NB267_0 := AM ((by rw [hg]; exact Nat.ne_of_gt (IsS107.lt (show IsS107 w0 _ g s0_0 s0_1 false from is107_)) : gb267 ≠ g))
          replace HI0 := AM (IsS107.below is107_ hb)
          clear hb hbox hg
          refine hK.out _ _ ⟨(cellS107_0 HI0.out.1), (cellS107_1 HI0.out.1), (cellS107_2 HI0.out.1)⟩ (fun hHeld => ?_)
          clear hK K
          refine nm_ ?_
          exact nmE_ (hCont (gb267) _ ⟨hHeld, (bk_ BK267.out), GW267.out, GE267.out, NB0_267.out, NB267_0.out, is107_, kp_, (belg_ (IsS107.ge HI0.out))⟩)
        · skip
          refine bs_ 3 #[.int .i64 0, .int .i64 0, .int .i64 0] 102 ?_
          intro gb267 hg w24 hbox hb
          replace HB := AM (below_step (belg_ (IsS107.ge HI0.out)) hb)
          have BK267 := AM hbox
          have GW267 := AM ((by rw [hg]; exact (keep_size (w := w) (g := g) (row := none) kp_) : w.heap.size ≤ gb267))
          have GE267 := AM ((Nat.le_trans HW0.out (by rw [hg]; exact (keep_size (w := w) (g := g) (row := none) kp_) : w.heap.size ≤ gb267) : w0.heap.size ≤ gb267))
          replace HK := AM (KeepBut.trans (kp_ (w := w)) (KeepBut.of_below hb g none) (.inl rfl))
          have NB0_267 := AM ((by rw [hg]; exact Nat.ne_of_lt (IsS107.lt (show IsS107 w0 _ g s0_0 s0_1 false from is107_)) : g ≠ gb267))
          have NB267_0 := AM ((by rw [hg]; exact Nat.ne_of_gt (IsS107.lt (show IsS107 w0 _ g s0_0 s0_1 false from is107_)) : gb267 ≠ g))
          replace HI0 := AM (IsS107.below is107_ hb)
          clear hb hbox hg
          refine hK.out _ _ ⟨(cellS107_0 HI0.out.1), (cellS107_1 HI0.out.1), (cellS107_2 HI0.out.1)⟩ (fun hHeld => ?_)
          clear hK K
          refine nm_ ?_
          refine on_ HT_ 8 (some 12) #[true, true, true, true, true, true, true, true, true, true, false] (fun K hK => ?_)
          refine go1_ Tryd.func120 #[.string s0_0, .int .i64 s0_1] ?_
          with_reducible refine (impl_getNum.calls k s0_0 s0_1 t264 t265 t266 _ A2.out).mono ?_
          rintro e w25 ⟨rfl, hb⟩
          refine ⟨_, rfl, ?_⟩
          replace BK267 := AM (blk_below (g := gb267) (o := .cells #[.int .i64 0, .int .i64 0, .int .i64 0] 102 (0, 0)) (bk_ BK267.out) hb)
          replace HK := AM (KeepBut.trans (kp_ (w := w)) (KeepBut.of_below hb g none) (.inl rfl))
          replace HB := AM (below_step (belg_ (IsS107.ge HI0.out)) hb)
          replace HI0 := AM (IsS107.below is107_ hb)
          (try clear hb)
          (try clear hb2)
          (try clear hk)
          (try clear hi)
          refine hK.out _ _ ⟨(cellS107_0 HI0.out.1), (cellS107_1 HI0.out.1), (cellS107_2 HI0.out.1)⟩ (fun hHeld => ?_)
          clear hK K
          refine nm_ ?_
          exact nmE_ (hCont (gb267) _ ⟨hHeld, (bk_ BK267.out), GW267.out, GE267.out, NB0_267.out, NB267_0.out, is107_, kp_, (belg_ (IsS107.ge HI0.out))⟩)
      rintro gb267 w26 ⟨hS_, h0_, h1_, h2_, h3_, h4_, h5_, h6_, h7_⟩
      have BK267 : Aside0 (w26.heap[gb267]? = some (.cells #[.int .i64 0, .int .i64 0, .int .i64 0] 102 (0, 0))) := ⟨h0_⟩
      have GW267 : Aside0 (w.heap.size ≤ gb267) := ⟨h1_⟩
      have GE267 : Aside0 (w0.heap.size ≤ gb267) := ⟨h2_⟩
      have NB0_267 : Aside0 (g ≠ gb267) := ⟨h3_⟩
      have NB267_0 : Aside0 (gb267 ≠ g) := ⟨h4_⟩
      replace HI0 : Aside0 (IsS107 w0 w26 g s0_0 s0_1 false) := ⟨h5_⟩
      replace HK : Aside0 (KeepBut w w26 g none) := ⟨h6_⟩
      replace HB : Aside0 (Below w0.heap.size w0 w26) := ⟨h7_⟩
      clear h0_ h1_ h2_ h3_ h4_ h5_ h6_ h7_
      have hHeld : w26.cell? ⟨g, 0, none⟩ = some (.string s0_0) ∧ w26.cell? ⟨g, 1, none⟩ = some (.int .i64 s0_1) ∧ w26.cell? ⟨g, 2, none⟩ = some (.bool false) := hS_
      refine nmA_ ?_
      refine on_ HT_ 10 none #[true, true, true, true, true, true, true, true, true, true, true] (fun K hK => ?_)
      have hs27 : w26.cell? ⟨gb267, 0, none⟩ = some (.int .i64 0) := (blk_cell BK267.out 0).trans rfl
      have hfs27 := blk_frozen BK267.out 0
      have hs28 : w26.cell? ⟨gb267, 1, none⟩ = some (.int .i64 0) := (blk_cell BK267.out 1).trans rfl
      have hfs28 := blk_frozen BK267.out 1
      have hs29 : w26.cell? ⟨gb267, 2, none⟩ = some (.int .i64 0) := (blk_cell BK267.out 2).trans rfl
      have hfs29 := blk_frozen BK267.out 2
      refine sk_ ?_
      refine hK.out _ _ ⟨(by (rw [cell_far, cell_far, cell_far]) <;> first | exact hHeld.1 | exact NB0_267.out), (by (rw [cell_far, cell_far, cell_far]) <;> first | exact hHeld.2.1 | exact NB0_267.out), (by (rw [cell_far, cell_far, cell_far]) <;> first | exact hHeld.2.2 | exact NB0_267.out)⟩ (fun hHeld => ?_)
      clear hK K
      refine dn_ HT_ ?_
      obtain ⟨HGz30, hgz30⟩ := HI0.out
      have hcz30_0 := cellS107_0 HGz30
      have hcz30_1 := cellS107_1 HGz30
      have hcz30_2 := cellS107_2 HGz30
      have hfz30_0 := blk_frozen HGz30 0
      have hfz30_1 := blk_frozen HGz30 1
      have hfz30_2 := blk_frozen HGz30 2
      clear HGz30 hgz30
      have hnb31 := NB267_0.out
      have hnc31 := NB0_267.out
      have hcz32_0 : w26.cell? ⟨gb267, 0, none⟩ = some (.int .i64 0) := (blk_cell BK267.out 0).trans rfl
      have hcz32_1 : w26.cell? ⟨gb267, 1, none⟩ = some (.int .i64 0) := (blk_cell BK267.out 1).trans rfl
      have hcz32_2 : w26.cell? ⟨gb267, 2, none⟩ = some (.int .i64 0) := (blk_cell BK267.out 2).trans rfl
      have hfz32_0 := blk_frozen BK267.out 0
      have hfz32_1 := blk_frozen BK267.out 1
      have hfz32_2 := blk_frozen BK267.out 2
      try go_wp2
      go_ret
      exact ⟨ri_, is107_, belg_ (IsS107.ge HI0.out), kp_⟩

end Go.Proofs.YtfffdndeccipnaaDoor.PFnExactPackRead
