/- Functions of the law FnExactPackRead: the print's, with walks of this session's own. No statement is proved here. -/
import Derived.WalkLawsBesides
import Derived.Test.YtfffdndeccipnaaDoorVRegFnExactPackRead
-- A program of this session wrote this text: a changed copy of the kit print, with given functions.
import Derived.Test.YtfffdndeccipnaaDoorPFnExactPackReadx0
import Derived.Test.YtfffdndeccipnaaDoorPFnExactPackReadx6
import Derived.Test.YtfffdndeccipnaaDoorPFnExactPackReadx8
namespace Go.Proofs.YtfffdndeccipnaaDoor.PFnExactPackRead
open Go.RowKit Go.Proofs.YtfffdndeccipnaaDoorW.PrintWords Go.Proofs.YtfffdndeccipnaaDoorW.PrintLast Go.Proofs.YtfffdndeccipnaaDoorW.PrintMore Go.Proofs.YtfffdndeccipnaaDoor.Reg Go.Proofs.YtfffdndeccipnaaDoor.Aut
attribute [local go_sem] max2_int min2_int max_two min_two max_three min_three max_four min_four   -- for this text's walks alone
set_option linter.unusedVariables false
set_option linter.unusedSimpArgs false

/-! ### impl_getText: function 121 -/
def impl_getText.f (k : Nat) (a0 : ByteArray) (a1 : Int) : Option (ByteArray × Int × Int) := (impl_getNum.f k a0 a1).bind fun bt269 => (if bt269.2.2 = 0 then ((impl_within.f bt269.1 0 20000).bind fun t273 => (if t273 = true then ((impl_long.f a0).bind fun t274 => (if (wrap64 (bt269.2.1 + bt269.1)) > t274 then (some ((⟨#[]⟩ : ByteArray), 0, 4)) else (if 0 ≤ bt269.2.1 then (if bt269.2.1 ≤ (wrap64 (bt269.2.1 + bt269.1)) then (if (wrap64 (bt269.2.1 + bt269.1)) ≤ (a0.size : Int) then (some (a0.extract (bt269.2.1 : Int).toNat ((wrap64 (bt269.2.1 + bt269.1)) : Int).toNat, wrap64 (bt269.2.1 + bt269.1), 0)) else (none)) else (none)) else (none)))) else (some ((⟨#[]⟩ : ByteArray), 0, 3)))) else (some ((⟨#[]⟩ : ByteArray), 0, bt269.2.2)))
theorem impl_getText.mono : ∀ a0 a1 k, LeO (impl_getText.f k a0 a1) (impl_getText.f (k + 1) a0 a1) := by
  intro a0 a1 k
  unfold impl_getText.f
  repeat' first
      | (with_reducible exact impl_getNum.mono _ _ _)
      | (with_reducible exact LeO.refl _)
      | (with_reducible exact LeO.none _)
      | (with_reducible refine LeO.ite ?_ ?_)
      | (with_reducible refine LeO.bind ?_ (fun _ => ?_))
      | exact impl_getNum.mono _ _ _
      | exact LeO.none _
      | refine LeO.ite ?_ ?_
      | refine LeO.bind ?_ (fun _ => ?_)
def impl_getText.T6 : Bool × List (List Nat × List Nat) := (true, [([], []), ([0], [0]), ([], []), ([2], [2]), ([1, 3], [1, 3]), ([], []), ([5], [5]), ([4, 6], [4, 6]), ([7, 6], [7])])
def impl_getText.B6 : List Nat := [0, 1, 0, 4, 15, 0, 32, 127, 255]
theorem impl_getText.tab6 : rtab .any (opsOf Tryd.f121 6) = impl_getText.T6 := by kernel_rfl
theorem impl_getText.bits6 : waitsOk impl_getText.T6.2 impl_getText.B6 = true := by kernel_rfl
def impl_getText.T8 : Bool × List (List Nat × List Nat) := (true, [([], []), ([], []), ([1], [1]), ([], []), ([3], [3]), ([], []), ([5], [5]), ([4, 6], [4, 6]), ([0, 2, 7], [0, 2, 7]), ([], []), ([9], [9]), ([], []), ([11], [11]), ([10, 12], [10, 12]), ([8, 13], [8, 13]), ([14, 0, 1, 2, 3, 4, 5, 6, 7, 8, 9, 10, 11, 12, 13, 14], [14])])
def impl_getText.B8 : List Nat := [0, 0, 2, 0, 8, 0, 32, 120, 255, 0, 512, 0, 2048, 7680, 16383, 32767]
theorem impl_getText.tab8 : rtab .any (opsOf Tryd.f121 8) = impl_getText.T8 := by kernel_rfl
theorem impl_getText.bits8 : waitsOk impl_getText.T8.2 impl_getText.B8 = true := by kernel_rfl
set_option maxHeartbeats 8000000 in
set_option maxRecDepth 100000 in
theorem impl_getText.calls (k : Nat) (a0 : ByteArray) (a1 : Int) (r1 : ByteArray) (r2 : Int) (r3 : Int) (w : World) (h : impl_getText.f k a0 a1 = some (r1, r2, r3)) :
    Calls Tryd.prog 121 #[.string a0, .int .i64 a1] w fun e w' => e = .returned (.agg #[.string r1, .int .i64 r2, .int .i64 r3]) ∧ Below w.heap.size w w' := by
  have hu138 := Tryd.underlying138
  have hu102 := Tryd.underlying102
  have HB := AM (Below.refl w.heap.size w)
  have H : ((impl_getNum.f k a0 a1).bind fun bt269 => (if bt269.2.2 = 0 then ((impl_within.f bt269.1 0 20000).bind fun t273 => (if t273 = true then ((impl_long.f a0).bind fun t274 => (if (wrap64 (bt269.2.1 + bt269.1)) > t274 then (some ((⟨#[]⟩ : ByteArray), 0, 4)) else (if 0 ≤ bt269.2.1 then (if bt269.2.1 ≤ (wrap64 (bt269.2.1 + bt269.1)) then (if (wrap64 (bt269.2.1 + bt269.1)) ≤ (a0.size : Int) then (some (a0.extract (bt269.2.1 : Int).toNat ((wrap64 (bt269.2.1 + bt269.1)) : Int).toNat, wrap64 (bt269.2.1 + bt269.1), 0)) else (none)) else (none)) else (none)))) else (some ((⟨#[]⟩ : ByteArray), 0, 3)))) else (some ((⟨#[]⟩ : ByteArray), 0, bt269.2.2)))) = some (r1, r2, r3) := h
  clear h
  obtain ⟨⟨t269, t270, t271⟩, A3, H⟩ := OB H
  try dsimp only at H
  replace A3 := AM A3
  by_cases c4 : t271 = 0
  · rw [if_pos c4] at H
    have c4b0 : (t271 == 0) = true := beq_iff_eq.mpr c4
    have c4b1 : (t271 != 0) = false := bne_eq_false_iff_eq.mpr c4
    clear c4
    obtain ⟨t273, A5, H⟩ := OB H
    try dsimp only at H
    replace A5 := AM A5
    by_cases c6 : t273 = true
    · subst c6
      rw [if_pos rfl] at H
      obtain ⟨t274, A7, H⟩ := OB H
      try dsimp only at H
      replace A7 := AM A7
      by_cases c8 : (wrap64 (t270 + t269)) > t274
      · rw [if_pos c8] at H
        have c8b0 : decide (t274 < (wrap64 (t270 + t269))) = true := decide_eq_true c8
        try have c8b9 : (decide (t274 < ((t270 + t269)))) = true := (by have hw0 : wrap64 (t270 + t269) = t270 + t269 := (by unfold wrap64; omega); have z_ := c8b0; simp only [hw0] at z_; exact z_)
        clear c8
        simp only [Option.some.injEq, Prod.mk.injEq] at H
        obtain ⟨rfl, rfl, rfl⟩ := H
        go_enter Tryd.func121, Tryd.ntmps121
        try go_wp2_with (first | ((with_reducible refine gate_dst (N := 4) rfl ?_); refine be_ 4 #[.string (⟨#[]⟩ : ByteArray), .int .i64 0, .int .i64 0] 138 ?_; intro gb268 hg w9 hbox hb; have BK268 := AM hbox; have GW268 := AM ((by rw [hg]; exact (below_size bel_) : w.heap.size ≤ gb268)); have GE268 := AM ((by rw [hg]; exact (below_size bel_) : w.heap.size ≤ gb268)); replace HB := AM (below_step bel_ hb); clear hb hbox hg) | ((with_reducible refine gate_callee (f := 120) rfl ?_); refine gl_ (some 8) Tryd.func120 #[.string a0, .int .i64 a1] ?_; (with_reducible refine (impl_getNum.calls k a0 a1 t269 t270 t271 _ A3.out).mono ?_); rintro e w10 ⟨rfl, hb⟩; refine ⟨_, rfl, ?_⟩; replace BK268 := AM (blk_below (g := gb268) (o := .cells #[.string (⟨#[]⟩ : ByteArray), .int .i64 0, .int .i64 0] 138 (0, 0)) (bk_ BK268.out) hb); replace HB := AM (below_step bel_ hb); (try clear hb); (try clear hb2); (try clear hk); (try clear hi)) | ((with_reducible refine gate_dst (N := 5) rfl ?_); refine be_ 5 #[.int .i64 0, .int .i64 0, .int .i64 0] 102 ?_; intro gb272 hg w11 hbox hb; have BK272 := AM hbox; have GW272 := AM ((by rw [hg]; exact (below_size bel_) : w.heap.size ≤ gb272)); have GE272 := AM ((by rw [hg]; exact (below_size bel_) : w.heap.size ≤ gb272)); replace HB := AM (below_step bel_ hb); have NB268_272 := AM ((by rw [hg]; exact Nat.ne_of_lt (blk_lt (g := gb268) (o := .cells #[.string (⟨#[]⟩ : ByteArray), .int .i64 0, .int .i64 0] 138 (0, 0)) (bk_ BK268.out)) : gb268 ≠ gb272)); have NB272_268 := AM ((by rw [hg]; exact Nat.ne_of_gt (blk_lt (g := gb268) (o := .cells #[.string (⟨#[]⟩ : ByteArray), .int .i64 0, .int .i64 0] 138 (0, 0)) (bk_ BK268.out)) : gb272 ≠ gb268)); replace BK268 := AM (blk_below (g := gb268) (o := .cells #[.string (⟨#[]⟩ : ByteArray), .int .i64 0, .int .i64 0] 138 (0, 0)) (bk_ BK268.out) hb); clear hb hbox hg; have hnb12 := NB272_268.out; have hnc12 := NB268_272.out; have hcz13_0 : w11.cell? ⟨gb272, 0, none⟩ = some (.int .i64 0) := (blk_cell BK272.out 0).trans rfl; have hcz13_1 : w11.cell? ⟨gb272, 1, none⟩ = some (.int .i64 0) := (blk_cell BK272.out 1).trans rfl; have hcz13_2 : w11.cell? ⟨gb272, 2, none⟩ = some (.int .i64 0) := (blk_cell BK272.out 2).trans rfl; have hfz13_0 := blk_frozen BK272.out 0; have hfz13_1 := blk_frozen BK272.out 1; have hfz13_2 := blk_frozen BK272.out 2) | ((with_reducible refine gate_callee (f := 65) rfl ?_); refine gl_ (some 19) Tryd.func65 #[.int .i64 t269, .int .i64 0, .int .i64 20000] ?_; (with_reducible refine (impl_within.calls t269 0 20000 true _ A5.out).mono ?_); rintro e w' ⟨rfl, ⟨nd, rfl⟩⟩; refine ⟨_, rfl, ?_⟩))
        have n0_ : Aside0 ((((w11.setCell ⟨gb272, 0, none⟩ (.int .i64 t269)).setCell ⟨gb272, 1, none⟩ (.int .i64 t270)).setCell ⟨gb272, 2, none⟩ (.int .i64 t271)).heap[gb268]? = some (.cells #[.string (⟨#[]⟩ : ByteArray), .int .i64 0, .int .i64 0] 138 (0, 0))) := ⟨bka_⟩
        have n1_ : Aside0 ((((w11.setCell ⟨gb272, 0, none⟩ (.int .i64 t269)).setCell ⟨gb272, 1, none⟩ (.int .i64 t270)).setCell ⟨gb272, 2, none⟩ (.int .i64 t271)).heap[gb272]? = some (.cells #[.int .i64 t269, .int .i64 t270, .int .i64 t271] 102 (0, 0))) := ⟨bka_⟩
        have n2_ : Aside0 (Below w.heap.size w (((w11.setCell ⟨gb272, 0, none⟩ (.int .i64 t269)).setCell ⟨gb272, 1, none⟩ (.int .i64 t270)).setCell ⟨gb272, 2, none⟩ (.int .i64 t271))) := ⟨bel_⟩
        (try clear BK268)
        (try clear BK272)
        (try clear HB)
        generalize (((w11.setCell ⟨gb272, 0, none⟩ (.int .i64 t269)).setCell ⟨gb272, 1, none⟩ (.int .i64 t270)).setCell ⟨gb272, 2, none⟩ (.int .i64 t271)) = w14 at n0_ n1_ n2_ ⊢
        have BK268 := n0_
        have BK272 := n1_
        have HB := n2_
        clear n0_ n1_ n2_
        (try (rw [drewN_self w14]; generalize hq_ : World.drewN w14 _ = w14; replace BK268 : Aside0 (w14.heap[gb268]? = some (.cells #[.string (⟨#[]⟩ : ByteArray), .int .i64 0, .int .i64 0] 138 (0, 0))) := ⟨by rw [← hq_]; exact (bk_ BK268.out)⟩; replace BK272 : Aside0 (w14.heap[gb272]? = some (.cells #[.int .i64 t269, .int .i64 t270, .int .i64 t271] 102 (0, 0))) := ⟨by rw [← hq_]; exact (bk_ BK272.out)⟩; replace HB : Aside0 (Below w.heap.size w w14) := ⟨by rw [← hq_]; exact bel_⟩; clear hq_))
        replace BK268 := AM (blk_drew BK268.out)
        replace BK272 := AM (blk_drew BK272.out)
        replace HB := AM (below_drew1 HB.out)
        refine start_ (n := 9) (S := fun w' => w'.cell? ⟨gb272, 0, none⟩ = some (.int .i64 t269) ∧ w'.cell? ⟨gb272, 1, none⟩ = some (.int .i64 t270) ∧ w'.cell? ⟨gb272, 2, none⟩ = some (.int .i64 t271)) (ds := []) #[false, false, false, false, false, false, false, false, false] (by kernel_rfl) rfl rfl ⟨(blk_cell BK272.out 0).trans rfl, (blk_cell BK272.out 1).trans rfl, (blk_cell BK272.out 2).trans rfl⟩ (fun hHeld => ?_); refine with_tabW impl_getText.tab6 impl_getText.bits6 (fun HT_ HW_ => ?_)
        generalize w14.drew = w15 at BK268 BK272 HB hHeld ⊢
        refine pu_ HT_ 0 (some 23) #[true, false, false, false, false, false, false, false, false] ?_
        refine pu_ HT_ 2 (some 25) #[true, false, true, false, false, false, false, false, false] ?_
        refine pu_ HT_ 5 (some 28) #[true, false, true, false, false, true, false, false, false] ?_
        refine ta_ HT_ HW_ 1 (some 24) #[true, true, true, false, false, true, false, false, false] hHeld ?_
        refine ta_ HT_ HW_ 3 (some 26) #[true, true, true, true, false, true, false, false, false] hHeld ?_
        refine pu_ HT_ 4 (some 27) #[true, true, true, true, true, true, false, false, false] ?_
        refine on_ HT_ 6 (some 29) #[true, true, true, true, true, true, true, false, false] (fun K hK => ?_)
        refine go1_ Tryd.func42 #[.string a0] ?_
        with_reducible refine (impl_long.calls a0 t274 _ A7.out).mono ?_
        rintro e w' ⟨rfl, ⟨nd, rfl⟩⟩
        refine ⟨_, rfl, ?_⟩
        refine hK.out _ _ ⟨(blk_cell BK272.out 0).trans rfl, (blk_cell BK272.out 1).trans rfl, (blk_cell BK272.out 2).trans rfl⟩ (fun hHeld => ?_)
        clear hK K
        refine nm_ ?_
        refine pu_ HT_ 7 (some 30) #[true, true, true, true, true, true, true, true, false] ?_
        refine pu_ HT_ 8 (some 22) #[true, true, true, true, true, true, true, true, true] ?_
        refine dn_ HT_ ?_
        have hcz16_0 : w15.cell? ⟨gb268, 0, none⟩ = some (.string (⟨#[]⟩ : ByteArray)) := (blk_cell BK268.out 0).trans rfl
        have hcz16_1 : w15.cell? ⟨gb268, 1, none⟩ = some (.int .i64 0) := (blk_cell BK268.out 1).trans rfl
        have hcz16_2 : w15.cell? ⟨gb268, 2, none⟩ = some (.int .i64 0) := (blk_cell BK268.out 2).trans rfl
        have hfz16_0 := blk_frozen BK268.out 0
        have hfz16_1 := blk_frozen BK268.out 1
        have hfz16_2 := blk_frozen BK268.out 2
        try go_wp2
        refine bodyPost_ret (results_cell_row rfl _ _ gb268 138 #[.string (⟨#[]⟩ : ByteArray), .int .i64 0, .int .i64 4] (0, 0) _ rfl bka_ Tryd.underlying138 rfl (by kernel_rfl)) rfl ?_
        exact ⟨ri_, bel_⟩
      · rw [if_neg c8] at H
        have c8b0 : decide (t274 < (wrap64 (t270 + t269))) = false := decide_eq_false c8
        try have c8b9 : (decide (t274 < ((t270 + t269)))) = false := (by have hw0 : wrap64 (t270 + t269) = t270 + t269 := (by unfold wrap64; omega); have z_ := c8b0; simp only [hw0] at z_; exact z_)
        clear c8
        by_cases c17 : 0 ≤ t270
        · rw [if_pos c17] at H
          have c17b0 := eq_true c17
          have c17b1 : decide (0 ≤ t270) = true := decide_eq_true c17
          clear c17
          by_cases c18 : t270 ≤ (wrap64 (t270 + t269))
          · rw [if_pos c18] at H
            have c18b0 := eq_true c18
            have c18b1 : decide (t270 ≤ (wrap64 (t270 + t269))) = true := decide_eq_true c18
            by_cases c19 : (wrap64 (t270 + t269)) ≤ (a0.size : Int)
            · rw [if_pos c19] at H
              have c19b0 := eq_true c19
              have c19b1 : decide ((wrap64 (t270 + t269)) ≤ (a0.size : Int)) = true := decide_eq_true c19
              simp only [Option.some.injEq, Prod.mk.injEq] at H
              obtain ⟨rfl, rfl, rfl⟩ := H
              go_enter Tryd.func121, Tryd.ntmps121
              try go_wp2_with (first | ((with_reducible refine gate_dst (N := 4) rfl ?_); refine be_ 4 #[.string (⟨#[]⟩ : ByteArray), .int .i64 0, .int .i64 0] 138 ?_; intro gb268 hg w20 hbox hb; have BK268 := AM hbox; have GW268 := AM ((by rw [hg]; exact (below_size bel_) : w.heap.size ≤ gb268)); have GE268 := AM ((by rw [hg]; exact (below_size bel_) : w.heap.size ≤ gb268)); replace HB := AM (below_step bel_ hb); clear hb hbox hg) | ((with_reducible refine gate_callee (f := 120) rfl ?_); refine gl_ (some 8) Tryd.func120 #[.string a0, .int .i64 a1] ?_; (with_reducible refine (impl_getNum.calls k a0 a1 t269 t270 t271 _ A3.out).mono ?_); rintro e w21 ⟨rfl, hb⟩; refine ⟨_, rfl, ?_⟩; replace BK268 := AM (blk_below (g := gb268) (o := .cells #[.string (⟨#[]⟩ : ByteArray), .int .i64 0, .int .i64 0] 138 (0, 0)) (bk_ BK268.out) hb); replace HB := AM (below_step bel_ hb); (try clear hb); (try clear hb2); (try clear hk); (try clear hi)) | ((with_reducible refine gate_dst (N := 5) rfl ?_); refine be_ 5 #[.int .i64 0, .int .i64 0, .int .i64 0] 102 ?_; intro gb272 hg w22 hbox hb; have BK272 := AM hbox; have GW272 := AM ((by rw [hg]; exact (below_size bel_) : w.heap.size ≤ gb272)); have GE272 := AM ((by rw [hg]; exact (below_size bel_) : w.heap.size ≤ gb272)); replace HB := AM (below_step bel_ hb); have NB268_272 := AM ((by rw [hg]; exact Nat.ne_of_lt (blk_lt (g := gb268) (o := .cells #[.string (⟨#[]⟩ : ByteArray), .int .i64 0, .int .i64 0] 138 (0, 0)) (bk_ BK268.out)) : gb268 ≠ gb272)); have NB272_268 := AM ((by rw [hg]; exact Nat.ne_of_gt (blk_lt (g := gb268) (o := .cells #[.string (⟨#[]⟩ : ByteArray), .int .i64 0, .int .i64 0] 138 (0, 0)) (bk_ BK268.out)) : gb272 ≠ gb268)); replace BK268 := AM (blk_below (g := gb268) (o := .cells #[.string (⟨#[]⟩ : ByteArray), .int .i64 0, .int .i64 0] 138 (0, 0)) (bk_ BK268.out) hb); clear hb hbox hg; have hnb23 := NB272_268.out; have hnc23 := NB268_272.out; have hcz24_0 : w22.cell? ⟨gb272, 0, none⟩ = some (.int .i64 0) := (blk_cell BK272.out 0).trans rfl; have hcz24_1 : w22.cell? ⟨gb272, 1, none⟩ = some (.int .i64 0) := (blk_cell BK272.out 1).trans rfl; have hcz24_2 : w22.cell? ⟨gb272, 2, none⟩ = some (.int .i64 0) := (blk_cell BK272.out 2).trans rfl; have hfz24_0 := blk_frozen BK272.out 0; have hfz24_1 := blk_frozen BK272.out 1; have hfz24_2 := blk_frozen BK272.out 2) | ((with_reducible refine gate_callee (f := 65) rfl ?_); refine gl_ (some 19) Tryd.func65 #[.int .i64 t269, .int .i64 0, .int .i64 20000] ?_; (with_reducible refine (impl_within.calls t269 0 20000 true _ A5.out).mono ?_); rintro e w' ⟨rfl, ⟨nd, rfl⟩⟩; refine ⟨_, rfl, ?_⟩))
              have n0_ : Aside0 ((((w22.setCell ⟨gb272, 0, none⟩ (.int .i64 t269)).setCell ⟨gb272, 1, none⟩ (.int .i64 t270)).setCell ⟨gb272, 2, none⟩ (.int .i64 t271)).heap[gb268]? = some (.cells #[.string (⟨#[]⟩ : ByteArray), .int .i64 0, .int .i64 0] 138 (0, 0))) := ⟨bka_⟩
              have n1_ : Aside0 ((((w22.setCell ⟨gb272, 0, none⟩ (.int .i64 t269)).setCell ⟨gb272, 1, none⟩ (.int .i64 t270)).setCell ⟨gb272, 2, none⟩ (.int .i64 t271)).heap[gb272]? = some (.cells #[.int .i64 t269, .int .i64 t270, .int .i64 t271] 102 (0, 0))) := ⟨bka_⟩
              have n2_ : Aside0 (Below w.heap.size w (((w22.setCell ⟨gb272, 0, none⟩ (.int .i64 t269)).setCell ⟨gb272, 1, none⟩ (.int .i64 t270)).setCell ⟨gb272, 2, none⟩ (.int .i64 t271))) := ⟨bel_⟩
              (try clear BK268)
              (try clear BK272)
              (try clear HB)
              generalize (((w22.setCell ⟨gb272, 0, none⟩ (.int .i64 t269)).setCell ⟨gb272, 1, none⟩ (.int .i64 t270)).setCell ⟨gb272, 2, none⟩ (.int .i64 t271)) = w25 at n0_ n1_ n2_ ⊢
              have BK268 := n0_
              have BK272 := n1_
              have HB := n2_
              clear n0_ n1_ n2_
              (try (rw [drewN_self w25]; generalize hq_ : World.drewN w25 _ = w25; replace BK268 : Aside0 (w25.heap[gb268]? = some (.cells #[.string (⟨#[]⟩ : ByteArray), .int .i64 0, .int .i64 0] 138 (0, 0))) := ⟨by rw [← hq_]; exact (bk_ BK268.out)⟩; replace BK272 : Aside0 (w25.heap[gb272]? = some (.cells #[.int .i64 t269, .int .i64 t270, .int .i64 t271] 102 (0, 0))) := ⟨by rw [← hq_]; exact (bk_ BK272.out)⟩; replace HB : Aside0 (Below w.heap.size w w25) := ⟨by rw [← hq_]; exact bel_⟩; clear hq_))
              replace BK268 := AM (blk_drew BK268.out)
              replace BK272 := AM (blk_drew BK272.out)
              replace HB := AM (below_drew1 HB.out)
              refine start_ (n := 9) (S := fun w' => w'.cell? ⟨gb272, 0, none⟩ = some (.int .i64 t269) ∧ w'.cell? ⟨gb272, 1, none⟩ = some (.int .i64 t270) ∧ w'.cell? ⟨gb272, 2, none⟩ = some (.int .i64 t271)) (ds := []) #[false, false, false, false, false, false, false, false, false] (by kernel_rfl) rfl rfl ⟨(blk_cell BK272.out 0).trans rfl, (blk_cell BK272.out 1).trans rfl, (blk_cell BK272.out 2).trans rfl⟩ (fun hHeld => ?_); refine with_tabW impl_getText.tab6 impl_getText.bits6 (fun HT_ HW_ => ?_)
              generalize w25.drew = w26 at BK268 BK272 HB hHeld ⊢
              refine pu_ HT_ 0 (some 23) #[true, false, false, false, false, false, false, false, false] ?_
              refine pu_ HT_ 2 (some 25) #[true, false, true, false, false, false, false, false, false] ?_
              refine pu_ HT_ 5 (some 28) #[true, false, true, false, false, true, false, false, false] ?_
              refine ta_ HT_ HW_ 1 (some 24) #[true, true, true, false, false, true, false, false, false] hHeld ?_
              refine ta_ HT_ HW_ 3 (some 26) #[true, true, true, true, false, true, false, false, false] hHeld ?_
              refine pu_ HT_ 4 (some 27) #[true, true, true, true, true, true, false, false, false] ?_
              refine on_ HT_ 6 (some 29) #[true, true, true, true, true, true, true, false, false] (fun K hK => ?_)
              refine go1_ Tryd.func42 #[.string a0] ?_
              with_reducible refine (impl_long.calls a0 t274 _ A7.out).mono ?_
              rintro e w' ⟨rfl, ⟨nd, rfl⟩⟩
              refine ⟨_, rfl, ?_⟩
              refine hK.out _ _ ⟨(blk_cell BK272.out 0).trans rfl, (blk_cell BK272.out 1).trans rfl, (blk_cell BK272.out 2).trans rfl⟩ (fun hHeld => ?_)
              clear hK K
              refine nm_ ?_
              refine pu_ HT_ 7 (some 30) #[true, true, true, true, true, true, true, true, false] ?_
              refine pu_ HT_ 8 (some 22) #[true, true, true, true, true, true, true, true, true] ?_
              refine dn_ HT_ ?_
              try go_wp2
              (try (rw [drewN_self w26]; generalize hq_ : World.drewN w26 _ = w26; replace BK268 : Aside0 (w26.heap[gb268]? = some (.cells #[.string (⟨#[]⟩ : ByteArray), .int .i64 0, .int .i64 0] 138 (0, 0))) := ⟨by rw [← hq_]; exact (bk_ BK268.out)⟩; replace BK272 : Aside0 (w26.heap[gb272]? = some (.cells #[.int .i64 t269, .int .i64 t270, .int .i64 t271] 102 (0, 0))) := ⟨by rw [← hq_]; exact (bk_ BK272.out)⟩; replace HB : Aside0 (Below w.heap.size w w26) := ⟨by rw [← hq_]; exact bel_⟩; clear hq_))
              replace BK268 := AM (blk_drew BK268.out)
              replace BK272 := AM (blk_drew BK272.out)
              replace HB := AM (below_drew1 HB.out)
              refine start_ (n := 16) (S := fun w' => w'.cell? ⟨gb272, 0, none⟩ = some (.int .i64 t269) ∧ w'.cell? ⟨gb272, 1, none⟩ = some (.int .i64 t270) ∧ w'.cell? ⟨gb272, 2, none⟩ = some (.int .i64 t271)) (ds := []) #[false, false, false, false, false, false, false, false, false, false, false, false, false, false, false, false] (by kernel_rfl) rfl rfl ⟨(blk_cell BK272.out 0).trans rfl, (blk_cell BK272.out 1).trans rfl, (blk_cell BK272.out 2).trans rfl⟩ (fun hHeld => ?_); refine with_tabW impl_getText.tab8 impl_getText.bits8 (fun HT_ HW_ => ?_)
              generalize w26.drew = w27 at BK268 BK272 HB hHeld ⊢
              refine pu_ HT_ 0 (some 32) #[true, false, false, false, false, false, false, false, false, false, false, false, false, false, false, false] ?_
              refine pu_ HT_ 1 (some 33) #[true, true, false, false, false, false, false, false, false, false, false, false, false, false, false, false] ?_
              refine pu_ HT_ 3 (some 35) #[true, true, false, true, false, false, false, false, false, false, false, false, false, false, false, false] ?_
              refine pu_ HT_ 5 (some 37) #[true, true, false, true, false, true, false, false, false, false, false, false, false, false, false, false] ?_
              refine pu_ HT_ 9 (some 41) #[true, true, false, true, false, true, false, false, false, true, false, false, false, false, false, false] ?_
              refine pu_ HT_ 11 (some 43) #[true, true, false, true, false, true, false, false, false, true, false, true, false, false, false, false] ?_
              refine ta_ HT_ HW_ 2 (some 34) #[true, true, true, true, false, true, false, false, false, true, false, true, false, false, false, false] hHeld ?_
              refine ta_ HT_ HW_ 4 (some 36) #[true, true, true, true, true, true, false, false, false, true, false, true, false, false, false, false] hHeld ?_
              refine ta_ HT_ HW_ 6 (some 38) #[true, true, true, true, true, true, true, false, false, true, false, true, false, false, false, false] hHeld ?_
              refine pu_ HT_ 7 (some 39) #[true, true, true, true, true, true, true, true, false, true, false, true, false, false, false, false] ?_
              refine pu_ HT_ 8 (some 40) #[true, true, true, true, true, true, true, true, true, true, false, true, false, false, false, false] ?_
              refine ta_ HT_ HW_ 10 (some 42) #[true, true, true, true, true, true, true, true, true, true, true, true, false, false, false, false] hHeld ?_
              refine ta_ HT_ HW_ 12 (some 44) #[true, true, true, true, true, true, true, true, true, true, true, true, true, false, false, false] hHeld ?_
              refine pu_ HT_ 13 (some 45) #[true, true, true, true, true, true, true, true, true, true, true, true, true, true, false, false] ?_
              refine pu_ HT_ 14 (some 46) #[true, true, true, true, true, true, true, true, true, true, true, true, true, true, true, false] ?_
              refine on_ HT_ 15 none #[true, true, true, true, true, true, true, true, true, true, true, true, true, true, true, true] (fun K hK => ?_)
              have hs28 : w27.cell? ⟨gb268, 0, none⟩ = some (.string (⟨#[]⟩ : ByteArray)) := (blk_cell BK268.out 0).trans rfl
              have hfs28 := blk_frozen BK268.out 0
              have hns28_1 := NB272_268.out
              have hms28_1 := NB268_272.out
              have hs29 : w27.cell? ⟨gb268, 1, none⟩ = some (.int .i64 0) := (blk_cell BK268.out 1).trans rfl
              have hfs29 := blk_frozen BK268.out 1
              have hns29_1 := NB272_268.out
              have hms29_1 := NB268_272.out
              have hs30 : w27.cell? ⟨gb268, 2, none⟩ = some (.int .i64 0) := (blk_cell BK268.out 2).trans rfl
              have hfs30 := blk_frozen BK268.out 2
              have hns30_1 := NB272_268.out
              have hms30_1 := NB268_272.out
              refine sk_ ?_
              refine hK.out _ _ ⟨(by (rw [cell_far, cell_far, cell_far]) <;> first | exact hHeld.1 | exact NB272_268.out), (by (rw [cell_far, cell_far, cell_far]) <;> first | exact hHeld.2.1 | exact NB272_268.out), (by (rw [cell_far, cell_far, cell_far]) <;> first | exact hHeld.2.2 | exact NB272_268.out)⟩ (fun hHeld => ?_)
              clear hK K
              refine dn_ HT_ ?_
              try go_wp2
              refine bodyPost_ret (results_cell_row rfl _ _ gb268 138 #[.string (a0.extract (t270 : Int).toNat ((wrap64 (t270 + t269)) : Int).toNat), .int .i64 (wrap64 (t270 + t269)), .int .i64 0] (0, 0) _ rfl bka_ Tryd.underlying138 rfl (by kernel_rfl)) rfl ?_
              exact ⟨ri_, bel_⟩
            · rw [if_neg c19] at H
              exact absurd H (by simp)
          · rw [if_neg c18] at H
            exact absurd H (by simp)
        · rw [if_neg c17] at H
          exact absurd H (by simp)
    · replace c6 := Bool.eq_false_iff.mpr c6
      subst c6
      rw [if_neg (show ¬ (false = true) by decide)] at H
      simp only [Option.some.injEq, Prod.mk.injEq] at H
      obtain ⟨rfl, rfl, rfl⟩ := H
      go_enter Tryd.func121, Tryd.ntmps121
      go_wp2_with (first | ((with_reducible refine gate_dst (N := 4) rfl ?_); refine be_ 4 #[.string (⟨#[]⟩ : ByteArray), .int .i64 0, .int .i64 0] 138 ?_; intro gb268 hg w31 hbox hb; have BK268 := AM hbox; have GW268 := AM ((by rw [hg]; exact (below_size bel_) : w.heap.size ≤ gb268)); have GE268 := AM ((by rw [hg]; exact (below_size bel_) : w.heap.size ≤ gb268)); replace HB := AM (below_step bel_ hb); clear hb hbox hg) | ((with_reducible refine gate_callee (f := 120) rfl ?_); refine gl_ (some 8) Tryd.func120 #[.string a0, .int .i64 a1] ?_; (with_reducible refine (impl_getNum.calls k a0 a1 t269 t270 t271 _ A3.out).mono ?_); rintro e w32 ⟨rfl, hb⟩; refine ⟨_, rfl, ?_⟩; replace BK268 := AM (blk_below (g := gb268) (o := .cells #[.string (⟨#[]⟩ : ByteArray), .int .i64 0, .int .i64 0] 138 (0, 0)) (bk_ BK268.out) hb); replace HB := AM (below_step bel_ hb); (try clear hb); (try clear hb2); (try clear hk); (try clear hi)) | ((with_reducible refine gate_dst (N := 5) rfl ?_); refine be_ 5 #[.int .i64 0, .int .i64 0, .int .i64 0] 102 ?_; intro gb272 hg w33 hbox hb; have BK272 := AM hbox; have GW272 := AM ((by rw [hg]; exact (below_size bel_) : w.heap.size ≤ gb272)); have GE272 := AM ((by rw [hg]; exact (below_size bel_) : w.heap.size ≤ gb272)); replace HB := AM (below_step bel_ hb); have NB268_272 := AM ((by rw [hg]; exact Nat.ne_of_lt (blk_lt (g := gb268) (o := .cells #[.string (⟨#[]⟩ : ByteArray), .int .i64 0, .int .i64 0] 138 (0, 0)) (bk_ BK268.out)) : gb268 ≠ gb272)); have NB272_268 := AM ((by rw [hg]; exact Nat.ne_of_gt (blk_lt (g := gb268) (o := .cells #[.string (⟨#[]⟩ : ByteArray), .int .i64 0, .int .i64 0] 138 (0, 0)) (bk_ BK268.out)) : gb272 ≠ gb268)); replace BK268 := AM (blk_below (g := gb268) (o := .cells #[.string (⟨#[]⟩ : ByteArray), .int .i64 0, .int .i64 0] 138 (0, 0)) (bk_ BK268.out) hb); clear hb hbox hg; have hnb34 := NB272_268.out; have hnc34 := NB268_272.out; have hcz35_0 : w33.cell? ⟨gb272, 0, none⟩ = some (.int .i64 0) := (blk_cell BK272.out 0).trans rfl; have hcz35_1 : w33.cell? ⟨gb272, 1, none⟩ = some (.int .i64 0) := (blk_cell BK272.out 1).trans rfl; have hcz35_2 : w33.cell? ⟨gb272, 2, none⟩ = some (.int .i64 0) := (blk_cell BK272.out 2).trans rfl; have hfz35_0 := blk_frozen BK272.out 0; have hfz35_1 := blk_frozen BK272.out 1; have hfz35_2 := blk_frozen BK272.out 2) | ((with_reducible refine gate_callee (f := 65) rfl ?_); refine gl_ (some 19) Tryd.func65 #[.int .i64 t269, .int .i64 0, .int .i64 20000] ?_; (with_reducible refine (impl_within.calls t269 0 20000 false _ A5.out).mono ?_); rintro e w' ⟨rfl, ⟨nd, rfl⟩⟩; refine ⟨_, rfl, ?_⟩; have hcz36_0 : w33.cell? ⟨gb268, 0, none⟩ = some (.string (⟨#[]⟩ : ByteArray)) := (blk_cell BK268.out 0).trans rfl; have hcz36_1 : w33.cell? ⟨gb268, 1, none⟩ = some (.int .i64 0) := (blk_cell BK268.out 1).trans rfl; have hcz36_2 : w33.cell? ⟨gb268, 2, none⟩ = some (.int .i64 0) := (blk_cell BK268.out 2).trans rfl; have hfz36_0 := blk_frozen BK268.out 0; have hfz36_1 := blk_frozen BK268.out 1; have hfz36_2 := blk_frozen BK268.out 2))
      refine bodyPost_ret (results_cell_row rfl _ _ gb268 138 #[.string (⟨#[]⟩ : ByteArray), .int .i64 0, .int .i64 3] (0, 0) _ rfl bka_ Tryd.underlying138 rfl (by kernel_rfl)) rfl ?_
      exact ⟨ri_, bel_⟩
  · rw [if_neg c4] at H
    have c4b0 : (t271 == 0) = false := beq_eq_false_iff_ne.mpr c4
    have c4b1 : (t271 != 0) = true := bne_iff_ne.mpr c4
    simp only [Option.some.injEq, Prod.mk.injEq] at H
    obtain ⟨rfl, rfl, rfl⟩ := H
    go_enter Tryd.func121, Tryd.ntmps121
    go_wp2_with (first | ((with_reducible refine gate_dst (N := 4) rfl ?_); refine be_ 4 #[.string (⟨#[]⟩ : ByteArray), .int .i64 0, .int .i64 0] 138 ?_; intro gb268 hg w37 hbox hb; have BK268 := AM hbox; have GW268 := AM ((by rw [hg]; exact (below_size bel_) : w.heap.size ≤ gb268)); have GE268 := AM ((by rw [hg]; exact (below_size bel_) : w.heap.size ≤ gb268)); replace HB := AM (below_step bel_ hb); clear hb hbox hg) | ((with_reducible refine gate_callee (f := 120) rfl ?_); refine gl_ (some 8) Tryd.func120 #[.string a0, .int .i64 a1] ?_; (with_reducible refine (impl_getNum.calls k a0 a1 t269 t270 t271 _ A3.out).mono ?_); rintro e w38 ⟨rfl, hb⟩; refine ⟨_, rfl, ?_⟩; replace BK268 := AM (blk_below (g := gb268) (o := .cells #[.string (⟨#[]⟩ : ByteArray), .int .i64 0, .int .i64 0] 138 (0, 0)) (bk_ BK268.out) hb); replace HB := AM (below_step bel_ hb); (try clear hb); (try clear hb2); (try clear hk); (try clear hi)) | ((with_reducible refine gate_dst (N := 5) rfl ?_); refine be_ 5 #[.int .i64 0, .int .i64 0, .int .i64 0] 102 ?_; intro gb272 hg w39 hbox hb; have BK272 := AM hbox; have GW272 := AM ((by rw [hg]; exact (below_size bel_) : w.heap.size ≤ gb272)); have GE272 := AM ((by rw [hg]; exact (below_size bel_) : w.heap.size ≤ gb272)); replace HB := AM (below_step bel_ hb); have NB268_272 := AM ((by rw [hg]; exact Nat.ne_of_lt (blk_lt (g := gb268) (o := .cells #[.string (⟨#[]⟩ : ByteArray), .int .i64 0, .int .i64 0] 138 (0, 0)) (bk_ BK268.out)) : gb268 ≠ gb272)); have NB272_268 := AM ((by rw [hg]; exact Nat.ne_of_gt (blk_lt (g := gb268) (o := .cells #[.string (⟨#[]⟩ : ByteArray), .int .i64 0, .int .i64 0] 138 (0, 0)) (bk_ BK268.out)) : gb272 ≠ gb268)); replace BK268 := AM (blk_below (g := gb268) (o := .cells #[.string (⟨#[]⟩ : ByteArray), .int .i64 0, .int .i64 0] 138 (0, 0)) (bk_ BK268.out) hb); clear hb hbox hg; have hnb40 := NB272_268.out; have hnc40 := NB268_272.out; have hcz41_0 : w39.cell? ⟨gb272, 0, none⟩ = some (.int .i64 0) := (blk_cell BK272.out 0).trans rfl; have hcz41_1 : w39.cell? ⟨gb272, 1, none⟩ = some (.int .i64 0) := (blk_cell BK272.out 1).trans rfl; have hcz41_2 : w39.cell? ⟨gb272, 2, none⟩ = some (.int .i64 0) := (blk_cell BK272.out 2).trans rfl; have hfz41_0 := blk_frozen BK272.out 0; have hfz41_1 := blk_frozen BK272.out 1; have hfz41_2 := blk_frozen BK272.out 2; have hcz42_0 : w39.cell? ⟨gb268, 0, none⟩ = some (.string (⟨#[]⟩ : ByteArray)) := (blk_cell BK268.out 0).trans rfl; have hcz42_1 : w39.cell? ⟨gb268, 1, none⟩ = some (.int .i64 0) := (blk_cell BK268.out 1).trans rfl; have hcz42_2 : w39.cell? ⟨gb268, 2, none⟩ = some (.int .i64 0) := (blk_cell BK268.out 2).trans rfl; have hfz42_0 := blk_frozen BK268.out 0; have hfz42_1 := blk_frozen BK268.out 1; have hfz42_2 := blk_frozen BK268.out 2))
    refine bodyPost_ret (results_cell_row rfl _ _ gb268 138 #[.string (⟨#[]⟩ : ByteArray), .int .i64 0, .int .i64 t271] (0, 0) _ rfl bka_ Tryd.underlying138 rfl (by kernel_rfl)) rfl ?_
    exact ⟨ri_, bel_⟩

end Go.Proofs.YtfffdndeccipnaaDoor.PFnExactPackRead
