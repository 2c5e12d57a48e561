/- Functions of the law FnExactNodesRead: the print's, with walks of this session's own. No statement is proved here. -/
import Derived.WalkLawsBesides
import Derived.Test.YtggbpjfgfenpdaaVRegFnExactNodesRead
-- A program of this session wrote this text: a changed copy of the kit print, with given functions.
import Derived.Test.YtggbpjfgfenpdaaPFnExactNodesReadx0
import Derived.Test.YtggbpjfgfenpdaaPFnExactNodesReadx10
import Derived.Test.YtggbpjfgfenpdaaPFnExactNodesReadx12
namespace Go.Proofs.Ytggbpjfgfenpdaa.PFnExactNodesRead
open Go.RowKit Go.Proofs.YtggbpjfgfenpdaaW.PrintWords Go.Proofs.YtggbpjfgfenpdaaW.PrintLast Go.Proofs.YtggbpjfgfenpdaaW.PrintMore Go.Proofs.Ytggbpjfgfenpdaa.Reg Go.Proofs.Ytggbpjfgfenpdaa.Aut
attribute [local go_sem] max2_int min2_int max_two min_two max_three min_three max_four min_four   -- for this text's walks alone
set_option linter.unusedVariables false
set_option linter.unusedSimpArgs false

/-! ### impl_getText: function 142 -/
def impl_getText.f (k : Nat) (a0 : ByteArray) (a1 : Int) : Option (ByteArray × Int × Int) := (impl_getNum.f k a0 a1).bind fun bt176 => (if bt176.2.2 = 0 then ((impl_within.f bt176.1 0 20000).bind fun t180 => (if t180 = true then ((impl_long.f a0).bind fun t181 => (if (wrap64 (bt176.2.1 + bt176.1)) > t181 then (some ((⟨#[]⟩ : ByteArray), 0, 4)) else (if 0 ≤ bt176.2.1 then (if bt176.2.1 ≤ (wrap64 (bt176.2.1 + bt176.1)) then (if (wrap64 (bt176.2.1 + bt176.1)) ≤ (a0.size : Int) then (some (a0.extract (bt176.2.1 : Int).toNat ((wrap64 (bt176.2.1 + bt176.1)) : Int).toNat, wrap64 (bt176.2.1 + bt176.1), 0)) else (none)) else (none)) else (none)))) else (some ((⟨#[]⟩ : ByteArray), 0, 3)))) else (some ((⟨#[]⟩ : ByteArray), 0, bt176.2.2)))
theorem impl_getText.mono : ∀ a0 a1 k, LeO (impl_getText.f k a0 a1) (impl_getText.f (k + 1) a0 a1) := by
  intro a0 a1 k
  unfold impl_getText.f
  repeat' first
      | (with_reducible exact impl_getNum.mono _ _ _)
      | (with_reducible exact LeO.refl _)
      | (with_reducible exact LeO.none _)
      | (with_reducible refine LeO.ite ?_ ?_)
      | (with_reducible refine LeO.bind ?_ (fun _ => ?_))
      | exact impl_getNum.mono _ _ _
      | exact LeO.none _
      | refine LeO.ite ?_ ?_
      | refine LeO.bind ?_ (fun _ => ?_)
def impl_getText.T6 : Bool × List (List Nat × List Nat) := (true, [([], []), ([0], [0]), ([], []), ([2], [2]), ([1, 3], [1, 3]), ([], []), ([5], [5]), ([4, 6], [4, 6]), ([7, 6], [7])])
def impl_getText.B6 : List Nat := [0, 1, 0, 4, 15, 0, 32, 127, 255]
theorem impl_getText.tab6 : rtab .any (opsOf Try.f142 6) = impl_getText.T6 := by kernel_rfl
theorem impl_getText.bits6 : waitsOk impl_getText.T6.2 impl_getText.B6 = true := by kernel_rfl
def impl_getText.T8 : Bool × List (List Nat × List Nat) := (true, [([], []), ([], []), ([1], [1]), ([], []), ([3], [3]), ([], []), ([5], [5]), ([4, 6], [4, 6]), ([0, 2, 7], [0, 2, 7]), ([], []), ([9], [9]), ([], []), ([11], [11]), ([10, 12], [10, 12]), ([8, 13], [8, 13]), ([14, 0, 1, 2, 3, 4, 5, 6, 7, 8, 9, 10, 11, 12, 13, 14], [14])])
def impl_getText.B8 : List Nat := [0, 0, 2, 0, 8, 0, 32, 120, 255, 0, 512, 0, 2048, 7680, 16383, 32767]
theorem impl_getText.tab8 : rtab .any (opsOf Try.f142 8) = impl_getText.T8 := by kernel_rfl
theorem impl_getText.bits8 : waitsOk impl_getText.T8.2 impl_getText.B8 = true := by kernel_rfl
set_option maxHeartbeats 8000000 in
set_option maxRecDepth 100000 in
theorem impl_getText.calls (k : Nat) (a0 : ByteArray) (a1 : Int) (r1 : ByteArray) (r2 : Int) (r3 : Int) (w : World) (h : impl_getText.f k a0 a1 = some (r1, r2, r3)) :
    Calls Try.prog 142 #[.string a0, .int .i64 a1] w fun e w' => e = .returned (.agg #[.string r1, .int .i64 r2, .int .i64 r3]) ∧ Below w.heap.size w w' := by
  have hu160 := Try.underlying160
  have hu157 := Try.underlying157
  have HB := AM (Below.refl w.heap.size w)
  have H : ((impl_getNum.f k a0 a1).bind fun bt176 => (if bt176.2.2 = 0 then ((impl_within.f bt176.1 0 20000).bind fun t180 => (if t180 = true then ((impl_long.f a0).bind fun t181 => (if (wrap64 (bt176.2.1 + bt176.1)) > t181 then (some ((⟨#[]⟩ : ByteArray), 0, 4)) else (if 0 ≤ bt176.2.1 then (if bt176.2.1 ≤ (wrap64 (bt176.2.1 + bt176.1)) then (if (wrap64 (bt176.2.1 + bt176.1)) ≤ (a0.size : Int) then (some (a0.extract (bt176.2.1 : Int).toNat ((wrap64 (bt176.2.1 + bt176.1)) : Int).toNat, wrap64 (bt176.2.1 + bt176.1), 0)) else (none)) else (none)) else (none)))) else (some ((⟨#[]⟩ : ByteArray), 0, 3)))) else (some ((⟨#[]⟩ : ByteArray), 0, bt176.2.2)))) = some (r1, r2, r3) := h
  clear h
  obtain ⟨⟨t176, t177, t178⟩, A3, H⟩ := OB H
  try dsimp only at H
  replace A3 := AM A3
  by_cases c4 : t178 = 0
  · rw [if_pos c4] at H
    have c4b0 : (t178 == 0) = true := beq_iff_eq.mpr c4
    have c4b1 : (t178 != 0) = false := bne_eq_false_iff_eq.mpr c4
    clear c4
    obtain ⟨t180, A5, H⟩ := OB H
    try dsimp only at H
    replace A5 := AM A5
    by_cases c6 : t180 = true
    · subst c6
      rw [if_pos rfl] at H
      obtain ⟨t181, A7, H⟩ := OB H
      try dsimp only at H
      replace A7 := AM A7
      by_cases c8 : (wrap64 (t177 + t176)) > t181
      · rw [if_pos c8] at H
        have c8b0 : decide (t181 < (wrap64 (t177 + t176))) = true := decide_eq_true c8
        try have c8b9 : (decide (t181 < ((t177 + t176)))) = true := (by have hw0 : wrap64 (t177 + t176) = t177 + t176 := (by unfold wrap64; omega); have z_ := c8b0; simp only [hw0] at z_; exact z_)
        clear c8
        simp only [Option.some.injEq, Prod.mk.injEq] at H
        obtain ⟨rfl, rfl, rfl⟩ := H
        go_enter Try.func142, Try.ntmps142
        try go_wp2_with (first | ((with_reducible refine gate_dst (N := 4) rfl ?_); refine be_ 4 #[.string (⟨#[]⟩ : ByteArray), .int .i64 0, .int .i64 0] 160 ?_; intro gb175 hg w9 hbox hb; have BK175 := AM hbox; have GW175 := AM ((by rw [hg]; exact (below_size bel_) : w.heap.size ≤ gb175)); have GE175 := AM ((by rw [hg]; exact (below_size bel_) : w.heap.size ≤ gb175)); replace HB := AM (below_step bel_ hb); clear hb hbox hg) | ((with_reducible refine gate_callee (f := 141) rfl ?_); refine gl_ (some 8) Try.func141 #[.string a0, .int .i64 a1] ?_; (with_reducible refine (impl_getNum.calls k a0 a1 t176 t177 t178 _ A3.out).mono ?_); rintro e w10 ⟨rfl, hb⟩; refine ⟨_, rfl, ?_⟩; replace BK175 := AM (blk_below (g := gb175) (o := .cells #[.string (⟨#[]⟩ : ByteArray), .int .i64 0, .int .i64 0] 160 (0, 0)) (bk_ BK175.out) hb); replace HB := AM (below_step bel_ hb); (try clear hb); (try clear hb2); (try clear hk); (try clear hi)) | ((with_reducible refine gate_dst (N := 5) rfl ?_); refine be_ 5 #[.int .i64 0, .int .i64 0, .int .i64 0] 157 ?_; intro gb179 hg w11 hbox hb; have BK179 := AM hbox; have GW179 := AM ((by rw [hg]; exact (below_size bel_) : w.heap.size ≤ gb179)); have GE179 := AM ((by rw [hg]; exact (below_size bel_) : w.heap.size ≤ gb179)); replace HB := AM (below_step bel_ hb); have NB175_179 := AM ((by rw [hg]; exact Nat.ne_of_lt (blk_lt (g := gb175) (o := .cells #[.string (⟨#[]⟩ : ByteArray), .int .i64 0, .int .i64 0] 160 (0, 0)) (bk_ BK175.out)) : gb175 ≠ gb179)); have NB179_175 := AM ((by rw [hg]; exact Nat.ne_of_gt (blk_lt (g := gb175) (o := .cells #[.string (⟨#[]⟩ : ByteArray), .int .i64 0, .int .i64 0] 160 (0, 0)) (bk_ BK175.out)) : gb179 ≠ gb175)); replace BK175 := AM (blk_below (g := gb175) (o := .cells #[.string (⟨#[]⟩ : ByteArray), .int .i64 0, .int .i64 0] 160 (0, 0)) (bk_ BK175.out) hb); clear hb hbox hg; have hnb12 := NB179_175.out; have hnc12 := NB175_179.out; have hcz13_0 : w11.cell? ⟨gb179, 0, none⟩ = some (.int .i64 0) := (blk_cell BK179.out 0).trans rfl; have hcz13_1 : w11.cell? ⟨gb179, 1, none⟩ = some (.int .i64 0) := (blk_cell BK179.out 1).trans rfl; have hcz13_2 : w11.cell? ⟨gb179, 2, none⟩ = some (.int .i64 0) := (blk_cell BK179.out 2).trans rfl; have hfz13_0 := blk_frozen BK179.out 0; have hfz13_1 := blk_frozen BK179.out 1; have hfz13_2 := blk_frozen BK179.out 2) | ((with_reducible refine gate_callee (f := 91) rfl ?_); refine gl_ (some 19) Try.func91 #[.int .i64 t176, .int .i64 0, .int .i64 20000] ?_; (with_reducible refine (impl_within.calls t176 0 20000 true _ A5.out).mono ?_); rintro e w' ⟨rfl, ⟨nd, rfl⟩⟩; refine ⟨_, rfl, ?_⟩))
        have n0_ : Aside0 ((((w11.setCell ⟨gb179, 0, none⟩ (.int .i64 t176)).setCell ⟨gb179, 1, none⟩ (.int .i64 t177)).setCell ⟨gb179, 2, none⟩ (.int .i64 t178)).heap[gb175]? = some (.cells #[.string (⟨#[]⟩ : ByteArray), .int .i64 0, .int .i64 0] 160 (0, 0))) := ⟨bka_⟩
        have n1_ : Aside0 ((((w11.setCell ⟨gb179, 0, none⟩ (.int .i64 t176)).setCell ⟨gb179, 1, none⟩ (.int .i64 t177)).setCell ⟨gb179, 2, none⟩ (.int .i64 t178)).heap[gb179]? = some (.cells #[.int .i64 t176, .int .i64 t177, .int .i64 t178] 157 (0, 0))) := ⟨bka_⟩
        have n2_ : Aside0 (Below w.heap.size w (((w11.setCell ⟨gb179, 0, none⟩ (.int .i64 t176)).setCell ⟨gb179, 1, none⟩ (.int .i64 t177)).setCell ⟨gb179, 2, none⟩ (.int .i64 t178))) := ⟨bel_⟩
        (try clear BK175)
        (try clear BK179)
        (try clear HB)
        generalize (((w11.setCell ⟨gb179, 0, none⟩ (.int .i64 t176)).setCell ⟨gb179, 1, none⟩ (.int .i64 t177)).setCell ⟨gb179, 2, none⟩ (.int .i64 t178)) = w14 at n0_ n1_ n2_ ⊢
        have BK175 := n0_
        have BK179 := n1_
        have HB := n2_
        clear n0_ n1_ n2_
        (try (rw [drewN_self w14]; generalize hq_ : World.drewN w14 _ = w14; replace BK175 : Aside0 (w14.heap[gb175]? = some (.cells #[.string (⟨#[]⟩ : ByteArray), .int .i64 0, .int .i64 0] 160 (0, 0))) := ⟨by rw [← hq_]; exact (bk_ BK175.out)⟩; replace BK179 : Aside0 (w14.heap[gb179]? = some (.cells #[.int .i64 t176, .int .i64 t177, .int .i64 t178] 157 (0, 0))) := ⟨by rw [← hq_]; exact (bk_ BK179.out)⟩; replace HB : Aside0 (Below w.heap.size w w14) := ⟨by rw [← hq_]; exact bel_⟩; clear hq_))
        replace BK175 := AM (blk_drew BK175.out)
        replace BK179 := AM (blk_drew BK179.out)
        replace HB := AM (below_drew1 HB.out)
        refine start_ (n := 9) (S := fun w' => w'.cell? ⟨gb179, 0, none⟩ = some (.int .i64 t176) ∧ w'.cell? ⟨gb179, 1, none⟩ = some (.int .i64 t177) ∧ w'.cell? ⟨gb179, 2, none⟩ = some (.int .i64 t178)) (ds := []) #[false, false, false, false, false, false, false, false, false] (by kernel_rfl) rfl rfl ⟨(blk_cell BK179.out 0).trans rfl, (blk_cell BK179.out 1).trans rfl, (blk_cell BK179.out 2).trans rfl⟩ (fun hHeld => ?_); refine with_tabW impl_getText.tab6 impl_getText.bits6 (fun HT_ HW_ => ?_)
        generalize w14.drew = w15 at BK175 BK179 HB hHeld ⊢
        refine pu_ HT_ 0 (some 23) #[true, false, false, false, false, false, false, false, false] ?_
        refine pu_ HT_ 2 (some 25) #[true, false, true, false, false, false, false, false, false] ?_
        refine pu_ HT_ 5 (some 28) #[true, false, true, false, false, true, false, false, false] ?_
        refine ta_ HT_ HW_ 1 (some 24) #[true, true, true, false, false, true, false, false, false] hHeld ?_
        refine ta_ HT_ HW_ 3 (some 26) #[true, true, true, true, false, true, false, false, false] hHeld ?_
        refine pu_ HT_ 4 (some 27) #[true, true, true, true, true, true, false, false, false] ?_
        refine on_ HT_ 6 (some 29) #[true, true, true, true, true, true, true, false, false] (fun K hK => ?_)
        refine go1_ Try.func137 #[.string a0] ?_
        with_reducible refine (impl_long.calls a0 t181 _ A7.out).mono ?_
        rintro e w' ⟨rfl, ⟨nd, rfl⟩⟩
        refine ⟨_, rfl, ?_⟩
        refine hK.out _ _ ⟨(blk_cell BK179.out 0).trans rfl, (blk_cell BK179.out 1).trans rfl, (blk_cell BK179.out 2).trans rfl⟩ (fun hHeld => ?_)
        clear hK K
        refine nm_ ?_
        refine pu_ HT_ 7 (some 30) #[true, true, true, true, true, true, true, true, false] ?_
        refine pu_ HT_ 8 (some 22) #[true, true, true, true, true, true, true, true, true] ?_
        refine dn_ HT_ ?_
        have hcz16_0 : w15.cell? ⟨gb175, 0, none⟩ = some (.string (⟨#[]⟩ : ByteArray)) := (blk_cell BK175.out 0).trans rfl
        have hcz16_1 : w15.cell? ⟨gb175, 1, none⟩ = some (.int .i64 0) := (blk_cell BK175.out 1).trans rfl
        have hcz16_2 : w15.cell? ⟨gb175, 2, none⟩ = some (.int .i64 0) := (blk_cell BK175.out 2).trans rfl
        have hfz16_0 := blk_frozen BK175.out 0
        have hfz16_1 := blk_frozen BK175.out 1
        have hfz16_2 := blk_frozen BK175.out 2
        try go_wp2
        refine bodyPost_ret (results_cell_row rfl _ _ gb175 160 #[.string (⟨#[]⟩ : ByteArray), .int .i64 0, .int .i64 4] (0, 0) _ rfl bka_ Try.underlying160 rfl (by kernel_rfl)) rfl ?_
        exact ⟨ri_, bel_⟩
      · rw [if_neg c8] at H
        have c8b0 : decide (t181 < (wrap64 (t177 + t176))) = false := decide_eq_false c8
        try have c8b9 : (decide (t181 < ((t177 + t176)))) = false := (by have hw0 : wrap64 (t177 + t176) = t177 + t176 := (by unfold wrap64; omega); have z_ := c8b0; simp only [hw0] at z_; exact z_)
        clear c8
        by_cases c17 : 0 ≤ t177
        · rw [if_pos c17] at H
          have c17b0 := eq_true c17
          have c17b1 : decide (0 ≤ t177) = true := decide_eq_true c17
          clear c17
          by_cases c18 : t177 ≤ (wrap64 (t177 + t176))
          · rw [if_pos c18] at H
            have c18b0 := eq_true c18
            have c18b1 : decide (t177 ≤ (wrap64 (t177 + t176))) = true := decide_eq_true c18
            by_cases c19 : (wrap64 (t177 + t176)) ≤ (a0.size : Int)
            · rw [if_pos c19] at H
              have c19b0 := eq_true c19
              have c19b1 : decide ((wrap64 (t177 + t176)) ≤ (a0.size : Int)) = true := decide_eq_true c19
              simp only [Option.some.injEq, Prod.mk.injEq] at H
              obtain ⟨rfl, rfl, rfl⟩ := H
              go_enter Try.func142, Try.ntmps142
              try go_wp2_with (first | ((with_reducible refine gate_dst (N := 4) rfl ?_); refine be_ 4 #[.string (⟨#[]⟩ : ByteArray), .int .i64 0, .int .i64 0] 160 ?_; intro gb175 hg w20 hbox hb; have BK175 := AM hbox; have GW175 := AM ((by rw [hg]; exact (below_size bel_) : w.heap.size ≤ gb175)); have GE175 := AM ((by rw [hg]; exact (below_size bel_) : w.heap.size ≤ gb175)); replace HB := AM (below_step bel_ hb); clear hb hbox hg) | ((with_reducible refine gate_callee (f := 141) rfl ?_); refine gl_ (some 8) Try.func141 #[.string a0, .int .i64 a1] ?_; (with_reducible refine (impl_getNum.calls k a0 a1 t176 t177 t178 _ A3.out).mono ?_); rintro e w21 ⟨rfl, hb⟩; refine ⟨_, rfl, ?_⟩; replace BK175 := AM (blk_below (g := gb175) (o := .cells #[.string (⟨#[]⟩ : ByteArray), .int .i64 0, .int .i64 0] 160 (0, 0)) (bk_ BK175.out) hb); replace HB := AM (below_step bel_ hb); (try clear hb); (try clear hb2); (try clear hk); (try clear hi)) | ((with_reducible refine gate_dst (N := 5) rfl ?_); refine be_ 5 #[.int .i64 0, .int .i64 0, .int .i64 0] 157 ?_; intro gb179 hg w22 hbox hb; have BK179 := AM hbox; have GW179 := AM ((by rw [hg]; exact (below_size bel_) : w.heap.size ≤ gb179)); have GE179 := AM ((by rw [hg]; exact (below_size bel_) : w.heap.size ≤ gb179)); replace HB := AM (below_step bel_ hb); have NB175_179 := AM ((by rw [hg]; exact Nat.ne_of_lt (blk_lt (g := gb175) (o := .cells #[.string (⟨#[]⟩ : ByteArray), .int .i64 0, .int .i64 0] 160 (0, 0)) (bk_ BK175.out)) : gb175 ≠ gb179)); have NB179_175 := AM ((by rw [hg]; exact Nat.ne_of_gt (blk_lt (g := gb175) (o := .cells #[.string (⟨#[]⟩ : ByteArray), .int .i64 0, .int .i64 0] 160 (0, 0)) (bk_ BK175.out)) : gb179 ≠ gb175)); replace BK175 := AM (blk_below (g := gb175) (o := .cells #[.string (⟨#[]⟩ : ByteArray), .int .i64 0, .int .i64 0] 160 (0, 0)) (bk_ BK175.out) hb); clear hb hbox hg; have hnb23 := NB179_175.out; have hnc23 := NB175_179.out; have hcz24_0 : w22.cell? ⟨gb179, 0, none⟩ = some (.int .i64 0) := (blk_cell BK179.out 0).trans rfl; have hcz24_1 : w22.cell? ⟨gb179, 1, none⟩ = some (.int .i64 0) := (blk_cell BK179.out 1).trans rfl; have hcz24_2 : w22.cell? ⟨gb179, 2, none⟩ = some (.int .i64 0) := (blk_cell BK179.out 2).trans rfl; have hfz24_0 := blk_frozen BK179.out 0; have hfz24_1 := blk_frozen BK179.out 1; have hfz24_2 := blk_frozen BK179.out 2) | ((with_reducible refine gate_callee (f := 91) rfl ?_); refine gl_ (some 19) Try.func91 #[.int .i64 t176, .int .i64 0, .int .i64 20000] ?_; (with_reducible refine (impl_within.calls t176 0 20000 true _ A5.out).mono ?_); rintro e w' ⟨rfl, ⟨nd, rfl⟩⟩; refine ⟨_, rfl, ?_⟩))
              have n0_ : Aside0 ((((w22.setCell ⟨gb179, 0, none⟩ (.int .i64 t176)).setCell ⟨gb179, 1, none⟩ (.int .i64 t177)).setCell ⟨gb179, 2, none⟩ (.int .i64 t178)).heap[gb175]? = some (.cells #[.string (⟨#[]⟩ : ByteArray), .int .i64 0, .int .i64 0] 160 (0, 0))) := ⟨bka_⟩
              have n1_ : Aside0 ((((w22.setCell ⟨gb179, 0, none⟩ (.int .i64 t176)).setCell ⟨gb179, 1, none⟩ (.int .i64 t177)).setCell ⟨gb179, 2, none⟩ (.int .i64 t178)).heap[gb179]? = some (.cells #[.int .i64 t176, .int .i64 t177, .int .i64 t178] 157 (0, 0))) := ⟨bka_⟩
              have n2_ : Aside0 (Below w.heap.size w (((w22.setCell ⟨gb179, 0, none⟩ (.int .i64 t176)).setCell ⟨gb179, 1, none⟩ (.int .i64 t177)).setCell ⟨gb179, 2, none⟩ (.int .i64 t178))) := ⟨bel_⟩
              (try clear BK175)
              (try clear BK179)
              (try clear HB)
              generalize (((w22.setCell ⟨gb179, 0, none⟩ (.int .i64 t176)).setCell ⟨gb179, 1, none⟩ (.int .i64 t177)).setCell ⟨gb179, 2, none⟩ (.int .i64 t178)) = w25 at n0_ n1_ n2_ ⊢
              have BK175 := n0_
              have BK179 := n1_
              have HB := n2_
              clear n0_ n1_ n2_
              (try (rw [drewN_self w25]; generalize hq_ : World.drewN w25 _ = w25; replace BK175 : Aside0 (w25.heap[gb175]? = some (.cells #[.string (⟨#[]⟩ : ByteArray), .int .i64 0, .int .i64 0] 160 (0, 0))) := ⟨by rw [← hq_]; exact (bk_ BK175.out)⟩; replace BK179 : Aside0 (w25.heap[gb179]? = some (.cells #[.int .i64 t176, .int .i64 t177, .int .i64 t178] 157 (0, 0))) := ⟨by rw [← hq_]; exact (bk_ BK179.out)⟩; replace HB : Aside0 (Below w.heap.size w w25) := ⟨by rw [← hq_]; exact bel_⟩; clear hq_))
              replace BK175 := AM (blk_drew BK175.out)
              replace BK179 := AM (blk_drew BK179.out)
              replace HB := AM (below_drew1 HB.out)
              refine start_ (n := 9) (S := fun w' => w'.cell? ⟨gb179, 0, none⟩ = some (.int .i64 t176) ∧ w'.cell? ⟨gb179, 1, none⟩ = some (.int .i64 t177) ∧ w'.cell? ⟨gb179, 2, none⟩ = some (.int .i64 t178)) (ds := []) #[false, false, false, false, false, false, false, false, false] (by kernel_rfl) rfl rfl ⟨(blk_cell BK179.out 0).trans rfl, (blk_cell BK179.out 1).trans rfl, (blk_cell BK179.out 2).trans rfl⟩ (fun hHeld => ?_); refine with_tabW impl_getText.tab6 impl_getText.bits6 (fun HT_ HW_ => ?_)
              generalize w25.drew = w26 at BK175 BK179 HB hHeld ⊢
              refine pu_ HT_ 0 (some 23) #[true, false, false, false, false, false, false, false, false] ?_
              refine pu_ HT_ 2 (some 25) #[true, false, true, false, false, false, false, false, false] ?_
              refine pu_ HT_ 5 (some 28) #[true, false, true, false, false, true, false, false, false] ?_
              refine ta_ HT_ HW_ 1 (some 24) #[true, true, true, false, false, true, false, false, false] hHeld ?_
              refine ta_ HT_ HW_ 3 (some 26) #[true, true, true, true, false, true, false, false, false] hHeld ?_
              refine pu_ HT_ 4 (some 27) #[true, true, true, true, true, true, false, false, false] ?_
              refine on_ HT_ 6 (some 29) #[true, true, true, true, true, true, true, false, false] (fun K hK => ?_)
              refine go1_ Try.func137 #[.string a0] ?_
              with_reducible refine (impl_long.calls a0 t181 _ A7.out).mono ?_
              rintro e w' ⟨rfl, ⟨nd, rfl⟩⟩
              refine ⟨_, rfl, ?_⟩
              refine hK.out _ _ ⟨(blk_cell BK179.out 0).trans rfl, (blk_cell BK179.out 1).trans rfl, (blk_cell BK179.out 2).trans rfl⟩ (fun hHeld => ?_)
              clear hK K
              refine nm_ ?_
              refine pu_ HT_ 7 (some 30) #[true, true, true, true, true, true, true, true, false] ?_
              refine pu_ HT_ 8 (some 22) #[true, true, true, true, true, true, true, true, true] ?_
              refine dn_ HT_ ?_
              try go_wp2
              (try (rw [drewN_self w26]; generalize hq_ : World.drewN w26 _ = w26; replace BK175 : Aside0 (w26.heap[gb175]? = some (.cells #[.string (⟨#[]⟩ : ByteArray), .int .i64 0, .int .i64 0] 160 (0, 0))) := ⟨by rw [← hq_]; exact (bk_ BK175.out)⟩; replace BK179 : Aside0 (w26.heap[gb179]? = some (.cells #[.int .i64 t176, .int .i64 t177, .int .i64 t178] 157 (0, 0))) := ⟨by rw [← hq_]; exact (bk_ BK179.out)⟩; replace HB : Aside0 (Below w.heap.size w w26) := ⟨by rw [← hq_]; exact bel_⟩; clear hq_))
              replace BK175 := AM (blk_drew BK175.out)
              replace BK179 := AM (blk_drew BK179.out)
              replace HB := AM (below_drew1 HB.out)
              refine start_ (n := 16) (S := fun w' => w'.cell? ⟨gb179, 0, none⟩ = some (.int .i64 t176) ∧ w'.cell? ⟨gb179, 1, none⟩ = some (.int .i64 t177) ∧ w'.cell? ⟨gb179, 2, none⟩ = some (.int .i64 t178)) (ds := []) #[false, false, false, false, false, false, false, false, false, false, false, false, false, false, false, false] (by kernel_rfl) rfl rfl ⟨(blk_cell BK179.out 0).trans rfl, (blk_cell BK179.out 1).trans rfl, (blk_cell BK179.out 2).trans rfl⟩ (fun hHeld => ?_); refine with_tabW impl_getText.tab8 impl_getText.bits8 (fun HT_ HW_ => ?_)
              generalize w26.drew = w27 at BK175 BK179 HB hHeld ⊢
              refine pu_ HT_ 0 (some 32) #[true, false, false, false, false, false, false, false, false, false, false, false, false, false, false, false] ?_
              refine pu_ HT_ 1 (some 33) #[true, true, false, false, false, false, false, false, false, false, false, false, false, false, false, false] ?_
              refine pu_ HT_ 3 (some 35) #[true, true, false, true, false, false, false, false, false, false, false, false, false, false, false, false] ?_
              refine pu_ HT_ 5 (some 37) #[true, true, false, true, false, true, false, false, false, false, false, false, false, false, false, false] ?_
              refine pu_ HT_ 9 (some 41) #[true, true, false, true, false, true, false, false, false, true, false, false, false, false, false, false] ?_
              refine pu_ HT_ 11 (some 43) #[true, true, false, true, false, true, false, false, false, true, false, true, false, false, false, false] ?_
              refine ta_ HT_ HW_ 2 (some 34) #[true, true, true, true, false, true, false, false, false, true, false, true, false, false, false, false] hHeld ?_
              refine ta_ HT_ HW_ 4 (some 36) #[true, true, true, true, true, true, false, false, false, true, false, true, false, false, false, false] hHeld ?_
              refine ta_ HT_ HW_ 6 (some 38) #[true, true, true, true, true, true, true, false, false, true, false, true, false, false, false, false] hHeld ?_
              refine pu_ HT_ 7 (some 39) #[true, true, true, true, true, true, true, true, false, true, false, true, false, false, false, false] ?_
              refine pu_ HT_ 8 (some 40) #[true, true, true, true, true, true, true, true, true, true, false, true, false, false, false, false] ?_
              refine ta_ HT_ HW_ 10 (some 42) #[true, true, true, true, true, true, true, true, true, true, true, true, false, false, false, false] hHeld ?_
              refine ta_ HT_ HW_ 12 (some 44) #[true, true, true, true, true, true, true, true, true, true, true, true, true, false, false, false] hHeld ?_
              refine pu_ HT_ 13 (some 45) #[true, true, true, true, true, true, true, true, true, true, true, true, true, true, false, false] ?_
              refine pu_ HT_ 14 (some 46) #[true, true, true, true, true, true, true, true, true, true, true, true, true, true, true, false] ?_
              refine on_ HT_ 15 none #[true, true, true, true, true, true, true, true, true, true, true, true, true, true, true, true] (fun K hK => ?_)
              have hs28 : w27.cell? ⟨gb175, 0, none⟩ = some (.string (⟨#[]⟩ : ByteArray)) := (blk_cell BK175.out 0).trans rfl
              have hfs28 := blk_frozen BK175.out 0
              have hns28_1 := NB179_175.out
              have hms28_1 := NB175_179.out
              have hs29 : w27.cell? ⟨gb175, 1, none⟩ = some (.int .i64 0) := (blk_cell BK175.out 1).trans rfl
              have hfs29 := blk_frozen BK175.out 1
              have hns29_1 := NB179_175.out
              have hms29_1 := NB175_179.out
              have hs30 : w27.cell? ⟨gb175, 2, none⟩ = some (.int .i64 0) := (blk_cell BK175.out 2).trans rfl
              have hfs30 := blk_frozen BK175.out 2
              have hns30_1 := NB179_175.out
              have hms30_1 := NB175_179.out
              refine sk_ ?_
              refine hK.out _ _ ⟨(by (rw [cell_far, cell_far, cell_far]) <;> first | exact hHeld.1 | exact NB179_175.out), (by (rw [cell_far, cell_far, cell_far]) <;> first | exact hHeld.2.1 | exact NB179_175.out), (by (rw [cell_far, cell_far, cell_far]) <;> first | exact hHeld.2.2 | exact NB179_175.out)⟩ (fun hHeld => ?_)
              clear hK K
              refine dn_ HT_ ?_
              try go_wp2
              refine bodyPost_ret (results_cell_row rfl _ _ gb175 160 #[.string (a0.extract (t177 : Int).toNat ((wrap64 (t177 + t176)) : Int).toNat), .int .i64 (wrap64 (t177 + t176)), .int .i64 0] (0, 0) _ rfl bka_ Try.underlying160 rfl (by kernel_rfl)) rfl ?_
              exact ⟨ri_, bel_⟩
            · rw [if_neg c19] at H
              exact absurd H (by simp)
          · rw [if_neg c18] at H
            exact absurd H (by simp)
        · rw [if_neg c17] at H
          exact absurd H (by simp)
    · replace c6 := Bool.eq_false_iff.mpr c6
      subst c6
      rw [if_neg (show ¬ (false = true) by decide)] at H
      simp only [Option.some.injEq, Prod.mk.injEq] at H
      obtain ⟨rfl, rfl, rfl⟩ := H
      go_enter Try.func142, Try.ntmps142
      go_wp2_with (first | ((with_reducible refine gate_dst (N := 4) rfl ?_); refine be_ 4 #[.string (⟨#[]⟩ : ByteArray), .int .i64 0, .int .i64 0] 160 ?_; intro gb175 hg w31 hbox hb; have BK175 := AM hbox; have GW175 := AM ((by rw [hg]; exact (below_size bel_) : w.heap.size ≤ gb175)); have GE175 := AM ((by rw [hg]; exact (below_size bel_) : w.heap.size ≤ gb175)); replace HB := AM (below_step bel_ hb); clear hb hbox hg) | ((with_reducible refine gate_callee (f := 141) rfl ?_); refine gl_ (some 8) Try.func141 #[.string a0, .int .i64 a1] ?_; (with_reducible refine (impl_getNum.calls k a0 a1 t176 t177 t178 _ A3.out).mono ?_); rintro e w32 ⟨rfl, hb⟩; refine ⟨_, rfl, ?_⟩; replace BK175 := AM (blk_below (g := gb175) (o := .cells #[.string (⟨#[]⟩ : ByteArray), .int .i64 0, .int .i64 0] 160 (0, 0)) (bk_ BK175.out) hb); replace HB := AM (below_step bel_ hb); (try clear hb); (try clear hb2); (try clear hk); (try clear hi)) | ((with_reducible refine gate_dst (N := 5) rfl ?_); refine be_ 5 #[.int .i64 0, .int .i64 0, .int .i64 0] 157 ?_; intro gb179 hg w33 hbox hb; have BK179 := AM hbox; have GW179 := AM ((by rw [hg]; exact (below_size bel_) : w.heap.size ≤ gb179)); have GE179 := AM ((by rw [hg]; exact (below_size bel_) : w.heap.size ≤ gb179)); replace HB := AM (below_step bel_ hb); have NB175_179 := AM ((by rw [hg]; exact Nat.ne_of_lt (blk_lt (g := gb175) (o := .cells #[.string (⟨#[]⟩ : ByteArray), .int .i64 0, .int .i64 0] 160 (0, 0)) (bk_ BK175.out)) : gb175 ≠ gb179)); have NB179_175 := AM ((by rw [hg]; exact Nat.ne_of_gt (blk_lt (g := gb175) (o := .cells #[.string (⟨#[]⟩ : ByteArray), .int .i64 0, .int .i64 0] 160 (0, 0)) (bk_ BK175.out)) : gb179 ≠ gb175)); replace BK175 := AM (blk_below (g := gb175) (o := .cells #[.string (⟨#[]⟩ : ByteArray), .int .i64 0, .int .i64 0] 160 (0, 0)) (bk_ BK175.out) hb); clear hb hbox hg; have hnb34 := NB179_175.out; have hnc34 := NB175_179.out; have hcz35_0 : w33.cell? ⟨gb179, 0, none⟩ = some (.int .i64 0) := (blk_cell BK179.out 0).trans rfl; have hcz35_1 : w33.cell? ⟨gb179, 1, none⟩ = some (.int .i64 0) := (blk_cell BK179.out 1).trans rfl; have hcz35_2 : w33.cell? ⟨gb179, 2, none⟩ = some (.int .i64 0) := (blk_cell BK179.out 2).trans rfl; have hfz35_0 := blk_frozen BK179.out 0; have hfz35_1 := blk_frozen BK179.out 1; have hfz35_2 := blk_frozen BK179.out 2) | ((with_reducible refine gate_callee (f := 91) rfl ?_); refine gl_ (some 19) Try.func91 #[.int .i64 t176, .int .i64 0, .int .i64 20000] ?_; (with_reducible refine (impl_within.calls t176 0 20000 false _ A5.out).mono ?_); rintro e w' ⟨rfl, ⟨nd, rfl⟩⟩; refine ⟨_, rfl, ?_⟩; have hcz36_0 : w33.cell? ⟨gb175, 0, none⟩ = some (.string (⟨#[]⟩ : ByteArray)) := (blk_cell BK175.out 0).trans rfl; have hcz36_1 : w33.cell? ⟨gb175, 1, none⟩ = some (.int .i64 0) := (blk_cell BK175.out 1).trans rfl; have hcz36_2 : w33.cell? ⟨gb175, 2, none⟩ = some (.int .i64 0) := (blk_cell BK175.out 2).trans rfl; have hfz36_0 := blk_frozen BK175.out 0; have hfz36_1 := blk_frozen BK175.out 1; have hfz36_2 := blk_frozen BK175.out 2))
      refine bodyPost_ret (results_cell_row rfl _ _ gb175 160 #[.string (⟨#[]⟩ : ByteArray), .int .i64 0, .int .i64 3] (0, 0) _ rfl bka_ Try.underlying160 rfl (by kernel_rfl)) rfl ?_
      exact ⟨ri_, bel_⟩
  · rw [if_neg c4] at H
    have c4b0 : (t178 == 0) = false := beq_eq_false_iff_ne.mpr c4
    have c4b1 : (t178 != 0) = true := bne_iff_ne.mpr c4
    simp only [Option.some.injEq, Prod.mk.injEq] at H
    obtain ⟨rfl, rfl, rfl⟩ := H
    go_enter Try.func142, Try.ntmps142
    go_wp2_with (first | ((with_reducible refine gate_dst (N := 4) rfl ?_); refine be_ 4 #[.string (⟨#[]⟩ : ByteArray), .int .i64 0, .int .i64 0] 160 ?_; intro gb175 hg w37 hbox hb; have BK175 := AM hbox; have GW175 := AM ((by rw [hg]; exact (below_size bel_) : w.heap.size ≤ gb175)); have GE175 := AM ((by rw [hg]; exact (below_size bel_) : w.heap.size ≤ gb175)); replace HB := AM (below_step bel_ hb); clear hb hbox hg) | ((with_reducible refine gate_callee (f := 141) rfl ?_); refine gl_ (some 8) Try.func141 #[.string a0, .int .i64 a1] ?_; (with_reducible refine (impl_getNum.calls k a0 a1 t176 t177 t178 _ A3.out).mono ?_); rintro e w38 ⟨rfl, hb⟩; refine ⟨_, rfl, ?_⟩; replace BK175 := AM (blk_below (g := gb175) (o := .cells #[.string (⟨#[]⟩ : ByteArray), .int .i64 0, .int .i64 0] 160 (0, 0)) (bk_ BK175.out) hb); replace HB := AM (below_step bel_ hb); (try clear hb); (try clear hb2); (try clear hk); (try clear hi)) | ((with_reducible refine gate_dst (N := 5) rfl ?_); refine be_ 5 #[.int .i64 0, .int .i64 0, .int .i64 0] 157 ?_; intro gb179 hg w39 hbox hb; have BK179 := AM hbox; have GW179 := AM ((by rw [hg]; exact (below_size bel_) : w.heap.size ≤ gb179)); have GE179 := AM ((by rw [hg]; exact (below_size bel_) : w.heap.size ≤ gb179)); replace HB := AM (below_step bel_ hb); have NB175_179 := AM ((by rw [hg]; exact Nat.ne_of_lt (blk_lt (g := gb175) (o := .cells #[.string (⟨#[]⟩ : ByteArray), .int .i64 0, .int .i64 0] 160 (0, 0)) (bk_ BK175.out)) : gb175 ≠ gb179)); have NB179_175 := AM ((by rw [hg]; exact Nat.ne_of_gt (blk_lt (g := gb175) (o := .cells #[.string (⟨#[]⟩ : ByteArray), .int .i64 0, .int .i64 0] 160 (0, 0)) (bk_ BK175.out)) : gb179 ≠ gb175)); replace BK175 := AM (blk_below (g := gb175) (o := .cells #[.string (⟨#[]⟩ : ByteArray), .int .i64 0, .int .i64 0] 160 (0, 0)) (bk_ BK175.out) hb); clear hb hbox hg; have hnb40 := NB179_175.out; have hnc40 := NB175_179.out; have hcz41_0 : w39.cell? ⟨gb179, 0, none⟩ = some (.int .i64 0) := (blk_cell BK179.out 0).trans rfl; have hcz41_1 : w39.cell? ⟨gb179, 1, none⟩ = some (.int .i64 0) := (blk_cell BK179.out 1).trans rfl; have hcz41_2 : w39.cell? ⟨gb179, 2, none⟩ = some (.int .i64 0) := (blk_cell BK179.out 2).trans rfl; have hfz41_0 := blk_frozen BK179.out 0; have hfz41_1 := blk_frozen BK179.out 1; have hfz41_2 := blk_frozen BK179.out 2; have hcz42_0 : w39.cell? ⟨gb175, 0, none⟩ = some (.string (⟨#[]⟩ : ByteArray)) := (blk_cell BK175.out 0).trans rfl; have hcz42_1 : w39.cell? ⟨gb175, 1, none⟩ = some (.int .i64 0) := (blk_cell BK175.out 1).trans rfl; have hcz42_2 : w39.cell? ⟨gb175, 2, none⟩ = some (.int .i64 0) := (blk_cell BK175.out 2).trans rfl; have hfz42_0 := blk_frozen BK175.out 0; have hfz42_1 := blk_frozen BK175.out 1; have hfz42_2 := blk_frozen BK175.out 2))
    refine bodyPost_ret (results_cell_row rfl _ _ gb175 160 #[.string (⟨#[]⟩ : ByteArray), .int .i64 0, .int .i64 t178] (0, 0) _ rfl bka_ Try.underlying160 rfl (by kernel_rfl)) rfl ?_
    exact ⟨ri_, bel_⟩

end Go.Proofs.Ytggbpjfgfenpdaa.PFnExactNodesRead
