/- Functions of the law FnNums: the print's, with walks of this session's own. No statement is proved here. -/
import Derived.WalkLawsBesides
import Derived.Test.YteljfdhjbnlgoaaReg
-- A program of this session wrote this text: a changed copy of the kit print, with given functions.
import Derived.Test.YteljfdhjbnlgoaaPFnNumsx0
import Derived.Test.YteljfdhjbnlgoaaPFnNumsx1
import Derived.Test.YteljfdhjbnlgoaaPFnNumsx2
import Derived.Test.YteljfdhjbnlgoaaPFnNumsx5
import Derived.Test.YteljfdhjbnlgoaaPFnNumsx6
namespace Go.Proofs.Yteljfdhjbnlgoaa.PFnNums
open Go.RowKit Go.Proofs.YteljfdhjbnlgoaaW.PrintWords Go.Proofs.YteljfdhjbnlgoaaW.PrintLast Go.Proofs.YteljfdhjbnlgoaaW.PrintMore Go.Proofs.Yteljfdhjbnlgoaa.Reg
attribute [local go_sem] max2_int min2_int max_two min_two max_three min_three max_four min_four   -- for this text's walks alone
set_option linter.unusedVariables false
set_option linter.unusedSimpArgs false

attribute [local go_sem high] eqA30 eqA36
/-! ### impl_GetText: function 32 -/
def impl_GetText.f (k : Nat) (a0 : ByteArray) (a1 : Int) : Option (ByteArray × Int × Int) := (impl_isLong.f a0).bind fun t207 => (if t207 = true then (some ((⟨#[]⟩ : ByteArray), 0, 2)) else ((impl_getText.f k a0 a1).bind fun bt208 => (some (bt208.1, bt208.2.1, bt208.2.2))))
theorem impl_GetText.mono : ∀ a0 a1 k, LeO (impl_GetText.f k a0 a1) (impl_GetText.f (k + 1) a0 a1) := by
  intro a0 a1 k
  unfold impl_GetText.f
  repeat' first
      | (with_reducible exact impl_getText.mono _ _ _)
      | (with_reducible exact LeO.refl _)
      | (with_reducible exact LeO.none _)
      | (with_reducible refine LeO.ite ?_ ?_)
      | (with_reducible refine LeO.bind ?_ (fun _ => ?_))
      | exact impl_getText.mono _ _ _
      | exact LeO.none _
      | refine LeO.ite ?_ ?_
      | refine LeO.bind ?_ (fun _ => ?_)
set_option maxHeartbeats 8000000 in
set_option maxRecDepth 100000 in
theorem impl_GetText.calls (k : Nat) (a0 : ByteArray) (a1 : Int) (r1 : ByteArray) (r2 : Int) (r3 : Int) (w : World) (h : impl_GetText.f k a0 a1 = some (r1, r2, r3)) :
    Calls Try.prog 32 #[.string a0, .int .i64 a1] w fun e w' => e = .returned (.agg #[.string r1, .int .i64 r2, .int .i64 r3]) ∧ Below w.heap.size w w' := by
  have hu30 := Try.underlying30
  have HB := Aside0.mk (Below.refl w.heap.size w)
  have H : ((impl_isLong.f a0).bind fun t207 => (if t207 = true then (some ((⟨#[]⟩ : ByteArray), 0, 2)) else ((impl_getText.f k a0 a1).bind fun bt208 => (some (bt208.1, bt208.2.1, bt208.2.2))))) = some (r1, r2, r3) := h
  clear h
  replace H := Option.bind_eq_some_iff.mp H
  obtain ⟨t207, A30, H⟩ := H
  replace H : (if t207 = true then (some ((⟨#[]⟩ : ByteArray), 0, 2)) else ((impl_getText.f k a0 a1).bind fun bt208 => (some (bt208.1, bt208.2.1, bt208.2.2)))) = some (r1, r2, r3) := H
  have A3 := Aside0.mk A30
  clear A30
  by_cases c4 : t207 = true
  · subst c4
    have H1 : (some ((⟨#[]⟩ : ByteArray), 0, 2)) = some (r1, r2, r3) := by rw [if_pos rfl] at H; exact H
    clear H
    have H := H1
    clear H1
    simp only [Option.some.injEq, Prod.mk.injEq] at H
    obtain ⟨rfl, rfl, rfl⟩ := H
    go_enter Try.func32, Try.ntmps32
    go_wp2_with (first | ((with_reducible refine gate_dst (N := 4) rfl ?_); refine box_event ?hg (N := 4) ?hd (cs := #[.string (⟨#[]⟩ : ByteArray), .int .i64 0, .int .i64 0]) (t := 30) ?hr ?_; (case hd => rfl); (case hg => rfl); (case hr => first | (go_simp; done) | (go_simp; rfl)); intro gb206 hg w5 hbox hb; have n0_ := Aside0.mk (below_step (by repeat (first | (with_reducible first | exact HB.out | apply below_alloc | apply pw_below_drewN | apply below_drew1) | exact HB.out)) hb); have n1_ := Aside0.mk (hbox); have n2_ := Aside0.mk ((by rw [hg]; exact (below_size (by repeat (first | (with_reducible first | exact HB.out | apply below_alloc | apply pw_below_drewN | apply below_drew1) | exact HB.out))) : w.heap.size ≤ gb206)); have n3_ := Aside0.mk ((by rw [hg]; exact (below_size (by repeat (first | (with_reducible first | exact HB.out | apply below_alloc | apply pw_below_drewN | apply below_drew1) | exact HB.out))) : w.heap.size ≤ gb206)); clear HB; have HB := n0_; have BK206 := n1_; have GW206 := n2_; have GE206 := n3_; clear n0_ n1_ n2_ n3_; clear hb hbox hg) | ((with_reducible refine gate_callee (f := 78) rfl ?_); refine goesL_ (some 6) rfl rfl Try.func78 (by kernel_rfl) rfl #[.string a0] rfl (by (try simp only [List.map_toArray, List.map_cons, List.map_nil]); first | done | rfl | (simp only [List.length_drop, List.length_take]; rfl)) ?_; (with_reducible refine (impl_isLong.calls a0 true _ A3.out).mono ?_); rintro e w' ⟨rfl, ⟨nd, rfl⟩⟩; refine ⟨_, rfl, ?_⟩; (try (rw [drewN_self w5]; generalize hq_ : World.drewN w5 _ = w5; have n0_ : Aside0 (w5.heap[gb206]? = some (.cells #[.string (⟨#[]⟩ : ByteArray), .int .i64 0, .int .i64 0] 30 (0, 0))) := ⟨by rw [← hq_]; exact (by (with_reducible repeat (first | refine blk_drewN ?_ _ | refine blk_drew ?_ | refine blk_alloc ?_ _)); exact BK206.out)⟩; have n1_ : Aside0 (Below w.heap.size w w5) := ⟨by rw [← hq_]; exact (by repeat (first | (with_reducible first | exact HB.out | apply below_alloc | apply pw_below_drewN | apply below_drew1 | refine below_set ?_ GE206.out) | exact HB.out))⟩; clear BK206 HB hq_; have BK206 := n0_; have HB := n1_; clear n0_ n1_)); have hcz6_0 : w5.cell? ⟨gb206, 0, none⟩ = some (.string (⟨#[]⟩ : ByteArray)) := (blk_cell BK206.out 0).trans rfl; have hcz6_1 : w5.cell? ⟨gb206, 1, none⟩ = some (.int .i64 0) := (blk_cell BK206.out 1).trans rfl; have hcz6_2 : w5.cell? ⟨gb206, 2, none⟩ = some (.int .i64 0) := (blk_cell BK206.out 2).trans rfl; have hfz6_0 := blk_frozen BK206.out 0; have hfz6_1 := blk_frozen BK206.out 1; have hfz6_2 := blk_frozen BK206.out 2))
    refine bodyPost_ret (results_cell_row rfl _ _ gb206 30 #[.string (⟨#[]⟩ : ByteArray), .int .i64 0, .int .i64 2] (0, 0) _ rfl (by (with_reducible repeat (first | refine blk_drewN ?_ _ | refine blk_drew ?_ | refine blk_alloc ?_ _)); refine blk_put (cs := #[.string (⟨#[]⟩ : ByteArray), .int .i64 0, .int .i64 0]) ?_ 2 _ rfl; (with_reducible repeat (first | refine blk_drewN ?_ _ | refine blk_drew ?_ | refine blk_alloc ?_ _)); refine blk_put (cs := #[.string (⟨#[]⟩ : ByteArray), .int .i64 0, .int .i64 0]) ?_ 1 _ rfl; (with_reducible repeat (first | refine blk_drewN ?_ _ | refine blk_drew ?_ | refine blk_alloc ?_ _)); refine blk_put (cs := #[.string (⟨#[]⟩ : ByteArray), .int .i64 0, .int .i64 0]) ?_ 0 _ rfl; (with_reducible repeat (first | refine blk_drewN ?_ _ | refine blk_drew ?_ | refine blk_alloc ?_ _)); exact BK206.out) Try.underlying30 rfl (by kernel_rfl)) rfl ?_
    exact ⟨by first | rfl | (simp [errW_none, errW_some] <;> rfl) | (simp [*, errW_none, errW_some] <;> rfl), by repeat (first | (with_reducible first | exact HB.out | apply below_alloc | apply pw_below_drewN | apply below_drew1 | refine below_set ?_ GE206.out) | exact HB.out)⟩
  · replace c4 := Bool.eq_false_iff.mpr c4
    subst c4
    have H1 : ((impl_getText.f k a0 a1).bind fun bt208 => (some (bt208.1, bt208.2.1, bt208.2.2))) = some (r1, r2, r3) := by rw [if_neg (show ¬ (false = true) by decide)] at H; exact H
    clear H
    have H := H1
    clear H1
    replace H := Option.bind_eq_some_iff.mp H
    obtain ⟨⟨t208, t209, t210⟩, A70, H⟩ := H
    replace H : (some (t208, t209, t210)) = some (r1, r2, r3) := H
    have A7 := Aside0.mk A70
    clear A70
    simp only [Option.some.injEq, Prod.mk.injEq] at H
    obtain ⟨rfl, rfl, rfl⟩ := H
    go_enter Try.func32, Try.ntmps32
    go_wp2_with (first | ((with_reducible refine gate_dst (N := 4) rfl ?_); refine box_event ?hg (N := 4) ?hd (cs := #[.string (⟨#[]⟩ : ByteArray), .int .i64 0, .int .i64 0]) (t := 30) ?hr ?_; (case hd => rfl); (case hg => rfl); (case hr => first | (go_simp; done) | (go_simp; rfl)); intro gb206 hg w8 hbox hb; have n0_ := Aside0.mk (below_step (by repeat (first | (with_reducible first | exact HB.out | apply below_alloc | apply pw_below_drewN | apply below_drew1) | exact HB.out)) hb); have n1_ := Aside0.mk (hbox); have n2_ := Aside0.mk ((by rw [hg]; exact (below_size (by repeat (first | (with_reducible first | exact HB.out | apply below_alloc | apply pw_below_drewN | apply below_drew1) | exact HB.out))) : w.heap.size ≤ gb206)); have n3_ := Aside0.mk ((by rw [hg]; exact (below_size (by repeat (first | (with_reducible first | exact HB.out | apply below_alloc | apply pw_below_drewN | apply below_drew1) | exact HB.out))) : w.heap.size ≤ gb206)); clear HB; have HB := n0_; have BK206 := n1_; have GW206 := n2_; have GE206 := n3_; clear n0_ n1_ n2_ n3_; clear hb hbox hg) | ((with_reducible refine gate_callee (f := 78) rfl ?_); refine goesL_ (some 6) rfl rfl Try.func78 (by kernel_rfl) rfl #[.string a0] rfl (by (try simp only [List.map_toArray, List.map_cons, List.map_nil]); first | done | rfl | (simp only [List.length_drop, List.length_take]; rfl)) ?_; (with_reducible refine (impl_isLong.calls a0 false _ A3.out).mono ?_); rintro e w' ⟨rfl, ⟨nd, rfl⟩⟩; refine ⟨_, rfl, ?_⟩; (try (rw [drewN_self w8]; generalize hq_ : World.drewN w8 _ = w8; have n0_ : Aside0 (w8.heap[gb206]? = some (.cells #[.string (⟨#[]⟩ : ByteArray), .int .i64 0, .int .i64 0] 30 (0, 0))) := ⟨by rw [← hq_]; exact (by (with_reducible repeat (first | refine blk_drewN ?_ _ | refine blk_drew ?_ | refine blk_alloc ?_ _)); exact BK206.out)⟩; have n1_ : Aside0 (Below w.heap.size w w8) := ⟨by rw [← hq_]; exact (by repeat (first | (with_reducible first | exact HB.out | apply below_alloc | apply pw_below_drewN | apply below_drew1 | refine below_set ?_ GE206.out) | exact HB.out))⟩; clear BK206 HB hq_; have BK206 := n0_; have HB := n1_; clear n0_ n1_))) | ((with_reducible refine gate_callee (f := 94) rfl ?_); refine goesL_ (some 10) rfl rfl Try.func94 (by kernel_rfl) rfl #[.string a0, .int .i64 a1] rfl (by (try simp only [List.map_toArray, List.map_cons, List.map_nil]); first | done | rfl | (simp only [List.length_drop, List.length_take]; rfl)) ?_; (with_reducible refine (impl_getText.calls k a0 a1 t208 t209 t210 _ A7.out).mono ?_); rintro e w9 ⟨rfl, hb⟩; refine ⟨_, rfl, ?_⟩; have n0_ := Aside0.mk (blk_below (g := gb206) (o := .cells #[.string (⟨#[]⟩ : ByteArray), .int .i64 0, .int .i64 0] 30 (0, 0)) (by (with_reducible repeat (first | refine blk_drewN ?_ _ | refine blk_drew ?_ | refine blk_alloc ?_ _)); exact BK206.out) hb); have n1_ := Aside0.mk (below_step (by repeat (first | (with_reducible first | exact HB.out | apply below_alloc | apply pw_below_drewN | apply below_drew1 | refine below_set ?_ GE206.out) | exact HB.out)) hb); clear BK206; clear HB; have BK206 := n0_; have HB := n1_; clear n0_ n1_; (try clear hb); (try clear hb2); (try clear hk); (try clear hi); have hcz10_0 : w9.cell? ⟨gb206, 0, none⟩ = some (.string (⟨#[]⟩ : ByteArray)) := (blk_cell BK206.out 0).trans rfl; have hcz10_1 : w9.cell? ⟨gb206, 1, none⟩ = some (.int .i64 0) := (blk_cell BK206.out 1).trans rfl; have hcz10_2 : w9.cell? ⟨gb206, 2, none⟩ = some (.int .i64 0) := (blk_cell BK206.out 2).trans rfl; have hfz10_0 := blk_frozen BK206.out 0; have hfz10_1 := blk_frozen BK206.out 1; have hfz10_2 := blk_frozen BK206.out 2))
    refine bodyPost_ret (results_cell_row rfl _ _ gb206 30 #[.string t208, .int .i64 t209, .int .i64 t210] (0, 0) _ rfl (by (with_reducible repeat (first | refine blk_drewN ?_ _ | refine blk_drew ?_ | refine blk_alloc ?_ _)); refine blk_put (cs := #[.string t208, .int .i64 t209, .int .i64 0]) ?_ 2 _ rfl; (with_reducible repeat (first | refine blk_drewN ?_ _ | refine blk_drew ?_ | refine blk_alloc ?_ _)); refine blk_put (cs := #[.string t208, .int .i64 0, .int .i64 0]) ?_ 1 _ rfl; (with_reducible repeat (first | refine blk_drewN ?_ _ | refine blk_drew ?_ | refine blk_alloc ?_ _)); refine blk_put (cs := #[.string (⟨#[]⟩ : ByteArray), .int .i64 0, .int .i64 0]) ?_ 0 _ rfl; (with_reducible repeat (first | refine blk_drewN ?_ _ | refine blk_drew ?_ | refine blk_alloc ?_ _)); exact BK206.out) Try.underlying30 rfl (by kernel_rfl)) rfl ?_
    exact ⟨by first | rfl | (simp [errW_none, errW_some] <;> rfl) | (simp [*, errW_none, errW_some] <;> rfl), by repeat (first | (with_reducible first | exact HB.out | apply below_alloc | apply pw_below_drewN | apply below_drew1 | refine below_set ?_ GE206.out) | exact HB.out)⟩

/-! ### laws_FnNums: function 5 -/
mutual
def laws_FnNums.j0 : Nat → List Int → List Int → Bool → Option (Bool)
  | 0, _, _, _ => none
  | k + 1, x0, x1, x17 => if x17 = true then (some true) else ((spec_DrawPutNum.f k x0).bind fun t211 => ((impl_PutNum.f k t211).bind fun t212 => ((spec_PutNum.f k t211).bind fun t213 => (if t212.toList = t213.toList then (if (t212.size : Int) < 1 then (laws_FnNums.j1 k x1 t211 t212 true) else (laws_FnNums.j1 k x1 t211 t212 (decide ((t212.size : Int) > 10)))) else (laws_FnNums.j1 k x1 t211 t212 true)))))
def laws_FnNums.j1 : Nat → List Int → Int → ByteArray → Bool → Option (Bool)
  | 0, _, _, _, _ => none
  | k + 1, x1, x5, x6, x35 => if x35 = true then (some false) else (if 2 + x6.size ≤ 9223372036854775807 then (if ((⟨#[120, 121]⟩ : ByteArray) ++ x6).size + 1 ≤ 9223372036854775807 then ((impl_GetNum.f k (((⟨#[120, 121]⟩ : ByteArray) ++ x6) ++ (⟨#[122]⟩ : ByteArray)) 2).bind fun bt214 => (if (!(bt214.1 == x5) || (!(bt214.2.1 == (wrap64 ((x6.size : Int) + 2))) || (!(bt214.2.2 == 0)))) = true then (laws_FnNums.j2 k x1 true) else (if 0 ≤ (wrap64 ((x6.size : Int) - 1)) then (if (wrap64 ((x6.size : Int) - 1)) ≤ (x6.size : Int) then ((impl_GetNum.f k (x6.extract 0 ((wrap64 ((x6.size : Int) - 1)) : Int).toNat) 0).bind fun bt218 => (laws_FnNums.j2 k x1 (bt218.2.2 != 4))) else (none)) else (none)))) else (none)) else (none))
def laws_FnNums.j2 : Nat → List Int → Bool → Option (Bool)
  | 0, _, _ => none
  | k + 1, x1, x56 => if x56 = true then (some false) else ((spec_DrawPutText.f k x1).bind fun t221 => ((impl_PutText.f k t221).bind fun t222 => ((spec_PutText.f k t221).bind fun t223 => (if t222.toList = t223.toList then (laws_FnNums.j3 k t221 t222 (t222.toList == ([] : List UInt8))) else (laws_FnNums.j3 k t221 t222 true)))))
def laws_FnNums.j3 : Nat → ByteArray → ByteArray → Bool → Option (Bool)
  | 0, _, _, _ => none
  | k + 1, x8, x9, x68 => if x68 = true then ((spec_PutText.f k x8).bind fun t224 => (some (x9.toList == t224.toList))) else (if (wrap64 ((x9.size : Int) + 1)) > 20000 then (some true) else (if 1 + x9.size ≤ 9223372036854775807 then ((impl_GetText.f k ((⟨#[120]⟩ : ByteArray) ++ x9) 1).bind fun bt225 => (if (bt225.1.toList == x8.toList && (bt225.2.1 == (wrap64 ((x9.size : Int) + 1)) && (bt225.2.2 == 0))) = true then (if 0 ≤ (wrap64 ((x9.size : Int) - 1)) then (if (wrap64 ((x9.size : Int) - 1)) ≤ (x9.size : Int) then ((impl_GetText.f k (x9.extract 0 ((wrap64 ((x9.size : Int) - 1)) : Int).toNat) 0).bind fun bt228 => (some (bt228.2.2 == 4))) else (none)) else (none)) else (some false))) else (none)))
end
def laws_FnNums.f (k : Nat) (l0 : List Int) (l1 : List Int) : Option (Bool) := if (l0.length : Int) > 1048576 then (laws_FnNums.j0 k l0 l1 true) else (laws_FnNums.j0 k l0 l1 (decide ((l1.length : Int) > 1048576)))
theorem laws_FnNums.mono_l : ∀ k, (∀ y0 y1 y2, LeO (laws_FnNums.j0 k y0 y1 y2) (laws_FnNums.j0 (k + 1) y0 y1 y2)) ∧ (∀ y0 y1 y2 y3, LeO (laws_FnNums.j1 k y0 y1 y2 y3) (laws_FnNums.j1 (k + 1) y0 y1 y2 y3)) ∧ (∀ y0 y1, LeO (laws_FnNums.j2 k y0 y1) (laws_FnNums.j2 (k + 1) y0 y1)) ∧ (∀ y0 y1 y2, LeO (laws_FnNums.j3 k y0 y1 y2) (laws_FnNums.j3 (k + 1) y0 y1 y2))
  | 0 => ⟨fun _ _ _ r h => by simp [laws_FnNums.j0] at h, fun _ _ _ _ r h => by simp [laws_FnNums.j1] at h, fun _ _ r h => by simp [laws_FnNums.j2] at h, fun _ _ _ r h => by simp [laws_FnNums.j3] at h⟩
  | k + 1 => by
    obtain ⟨ih0, ih1, ih2, ih3⟩ := laws_FnNums.mono_l k
    refine ⟨?_, ?_, ?_, ?_⟩
    · intro y0 y1 y2
      unfold laws_FnNums.j0
      repeat' first
      | (with_reducible exact ih0 _ _ _)
      | (with_reducible exact ih1 _ _ _ _)
      | (with_reducible exact ih2 _ _)
      | (with_reducible exact ih3 _ _ _)
      | (with_reducible exact impl_GetNum.mono _ _ _)
      | (with_reducible exact impl_GetText.mono _ _ _)
      | (with_reducible exact impl_PutNum.mono _ _)
      | (with_reducible exact impl_PutText.mono _ _)
      | (with_reducible exact spec_DrawPutNum.mono _ _)
      | (with_reducible exact spec_DrawPutText.mono _ _)
      | (with_reducible exact spec_PutNum.mono _ _)
      | (with_reducible exact spec_PutText.mono _ _)
      | (with_reducible exact LeO.refl _)
      | (with_reducible exact LeO.none _)
      | (with_reducible refine LeO.ite ?_ ?_)
      | (with_reducible refine LeO.bind ?_ (fun _ => ?_))
      | exact ih0 _ _ _
      | exact ih1 _ _ _ _
      | exact ih2 _ _
      | exact ih3 _ _ _
      | exact impl_GetNum.mono _ _ _
      | exact impl_GetText.mono _ _ _
      | exact impl_PutNum.mono _ _
      | exact impl_PutText.mono _ _
      | exact spec_DrawPutNum.mono _ _
      | exact spec_DrawPutText.mono _ _
      | exact spec_PutNum.mono _ _
      | exact spec_PutText.mono _ _
      | exact LeO.none _
      | refine LeO.ite ?_ ?_
      | refine LeO.bind ?_ (fun _ => ?_)
    · intro y0 y1 y2 y3
      unfold laws_FnNums.j1
      repeat' first
      | (with_reducible exact ih0 _ _ _)
      | (with_reducible exact ih1 _ _ _ _)
      | (with_reducible exact ih2 _ _)
      | (with_reducible exact ih3 _ _ _)
      | (with_reducible exact impl_GetNum.mono _ _ _)
      | (with_reducible exact impl_GetText.mono _ _ _)
      | (with_reducible exact impl_PutNum.mono _ _)
      | (with_reducible exact impl_PutText.mono _ _)
      | (with_reducible exact spec_DrawPutNum.mono _ _)
      | (with_reducible exact spec_DrawPutText.mono _ _)
      | (with_reducible exact spec_PutNum.mono _ _)
      | (with_reducible exact spec_PutText.mono _ _)
      | (with_reducible exact LeO.refl _)
      | (with_reducible exact LeO.none _)
      | (with_reducible refine LeO.ite ?_ ?_)
      | (with_reducible refine LeO.bind ?_ (fun _ => ?_))
      | exact ih0 _ _ _
      | exact ih1 _ _ _ _
      | exact ih2 _ _
      | exact ih3 _ _ _
      | exact impl_GetNum.mono _ _ _
      | exact impl_GetText.mono _ _ _
      | exact impl_PutNum.mono _ _
      | exact impl_PutText.mono _ _
      | exact spec_DrawPutNum.mono _ _
      | exact spec_DrawPutText.mono _ _
      | exact spec_PutNum.mono _ _
      | exact spec_PutText.mono _ _
      | exact LeO.none _
      | refine LeO.ite ?_ ?_
      | refine LeO.bind ?_ (fun _ => ?_)
    · intro y0 y1
      unfold laws_FnNums.j2
      repeat' first
      | (with_reducible exact ih0 _ _ _)
      | (with_reducible exact ih1 _ _ _ _)
      | (with_reducible exact ih2 _ _)
      | (with_reducible exact ih3 _ _ _)
      | (with_reducible exact impl_GetNum.mono _ _ _)
      | (with_reducible exact impl_GetText.mono _ _ _)
      | (with_reducible exact impl_PutNum.mono _ _)
      | (with_reducible exact impl_PutText.mono _ _)
      | (with_reducible exact spec_DrawPutNum.mono _ _)
      | (with_reducible exact spec_DrawPutText.mono _ _)
      | (with_reducible exact spec_PutNum.mono _ _)
      | (with_reducible exact spec_PutText.mono _ _)
      | (with_reducible exact LeO.refl _)
      | (with_reducible exact LeO.none _)
      | (with_reducible refine LeO.ite ?_ ?_)
      | (with_reducible refine LeO.bind ?_ (fun _ => ?_))
      | exact ih0 _ _ _
      | exact ih1 _ _ _ _
      | exact ih2 _ _
      | exact ih3 _ _ _
      | exact impl_GetNum.mono _ _ _
      | exact impl_GetText.mono _ _ _
      | exact impl_PutNum.mono _ _
      | exact impl_PutText.mono _ _
      | exact spec_DrawPutNum.mono _ _
      | exact spec_DrawPutText.mono _ _
      | exact spec_PutNum.mono _ _
      | exact spec_PutText.mono _ _
      | exact LeO.none _
      | refine LeO.ite ?_ ?_
      | refine LeO.bind ?_ (fun _ => ?_)
    · intro y0 y1 y2
      unfold laws_FnNums.j3
      repeat' first
      | (with_reducible exact ih0 _ _ _)
      | (with_reducible exact ih1 _ _ _ _)
      | (with_reducible exact ih2 _ _)
      | (with_reducible exact ih3 _ _ _)
      | (with_reducible exact impl_GetNum.mono _ _ _)
      | (with_reducible exact impl_GetText.mono _ _ _)
      | (with_reducible exact impl_PutNum.mono _ _)
      | (with_reducible exact impl_PutText.mono _ _)
      | (with_reducible exact spec_DrawPutNum.mono _ _)
      | (with_reducible exact spec_DrawPutText.mono _ _)
      | (with_reducible exact spec_PutNum.mono _ _)
      | (with_reducible exact spec_PutText.mono _ _)
      | (with_reducible exact LeO.refl _)
      | (with_reducible exact LeO.none _)
      | (with_reducible refine LeO.ite ?_ ?_)
      | (with_reducible refine LeO.bind ?_ (fun _ => ?_))
      | exact ih0 _ _ _
      | exact ih1 _ _ _ _
      | exact ih2 _ _
      | exact ih3 _ _ _
      | exact impl_GetNum.mono _ _ _
      | exact impl_GetText.mono _ _ _
      | exact impl_PutNum.mono _ _
      | exact impl_PutText.mono _ _
      | exact spec_DrawPutNum.mono _ _
      | exact spec_DrawPutText.mono _ _
      | exact spec_PutNum.mono _ _
      | exact spec_PutText.mono _ _
      | exact LeO.none _
      | refine LeO.ite ?_ ?_
      | refine LeO.bind ?_ (fun _ => ?_)
theorem laws_FnNums.mono : ∀ a0 a1 k, LeO (laws_FnNums.f k a0 a1) (laws_FnNums.f (k + 1) a0 a1) := by
  intro a0 a1 k
  obtain ⟨ih0, ih1, ih2, ih3⟩ := laws_FnNums.mono_l k
  unfold laws_FnNums.f
  repeat' first
      | (with_reducible exact ih0 _ _ _)
      | (with_reducible exact ih1 _ _ _ _)
      | (with_reducible exact ih2 _ _)
      | (with_reducible exact ih3 _ _ _)
      | (with_reducible exact impl_GetNum.mono _ _ _)
      | (with_reducible exact impl_GetText.mono _ _ _)
      | (with_reducible exact impl_PutNum.mono _ _)
      | (with_reducible exact impl_PutText.mono _ _)
      | (with_reducible exact spec_DrawPutNum.mono _ _)
      | (with_reducible exact spec_DrawPutText.mono _ _)
      | (with_reducible exact spec_PutNum.mono _ _)
      | (with_reducible exact spec_PutText.mono _ _)
      | (with_reducible exact LeO.refl _)
      | (with_reducible exact LeO.none _)
      | (with_reducible refine LeO.ite ?_ ?_)
      | (with_reducible refine LeO.bind ?_ (fun _ => ?_))
      | exact ih0 _ _ _
      | exact ih1 _ _ _ _
      | exact ih2 _ _
      | exact ih3 _ _ _
      | exact impl_GetNum.mono _ _ _
      | exact impl_GetText.mono _ _ _
      | exact impl_PutNum.mono _ _
      | exact impl_PutText.mono _ _
      | exact spec_DrawPutNum.mono _ _
      | exact spec_DrawPutText.mono _ _
      | exact spec_PutNum.mono _ _
      | exact spec_PutText.mono _ _
      | exact LeO.none _
      | refine LeO.ite ?_ ?_
      | refine LeO.bind ?_ (fun _ => ?_)
set_option maxHeartbeats 8000000 in
set_option maxRecDepth 100000 in
theorem laws_FnNums.calls (k : Nat) (A0 : Option Addr) (c0 : Nat) (l0 : List Int) (A1 : Option Addr) (c1 : Nat) (l1 : List Int) (r : Bool) (w : World) (hr0 : Kd.C (Kd.int .u8) w A0 l0.length l0) (hc0 : l0.length ≤ c0) (hr1 : Kd.C (Kd.int .u8) w A1 l1.length l1) (hc1 : l1.length ≤ c1) (h : laws_FnNums.f k l0 l1 = some r) :
    Calls Try.prog 5 #[.slice A0 l0.length c0, .slice A1 l1.length c1] w fun e w' => e = .returned (.bool r) ∧ Below w.heap.size w w' := by
  have hu36 := Try.underlying36
  have hfl36_2 : ∀ (x0 x1 x2 : Value) (w : World), Sem.run Try.prog (Instr.field 36 (.agg #[x0, x1, x2]) 2) w = .ok x2 w := by intro x0 x1 x2 w; unfold Instr.field; go_simp; rfl
  have hu30 := Try.underlying30
  have hfl30_2 : ∀ (x0 x1 x2 : Value) (w : World), Sem.run Try.prog (Instr.field 30 (.agg #[x0, x1, x2]) 2) w = .ok x2 w := by intro x0 x1 x2 w; unfold Instr.field; go_simp; rfl
  have HR0 := Aside0.mk hr0
  have HC0 := Aside0.mk hc0
  clear hr0 hc0
  have HR1 := Aside0.mk hr1
  have HC1 := Aside0.mk hc1
  clear hr1 hc1
  have HB := Aside0.mk (Below.refl w.heap.size w)
  have H : (if (l0.length : Int) > 1048576 then (laws_FnNums.j0 k l0 l1 true) else (laws_FnNums.j0 k l0 l1 (decide ((l1.length : Int) > 1048576)))) = some r := h
  clear h
  have HC3 := Aside0.mk H
  clear H
  go_enter Try.func5, Try.ntmps5
  go_upto_region 1 with (fail)
  go_cut [17] (fun v17 wc => ∃ (kq : Nat) (x17_2 : Bool), v17 = .bool x17_2 ∧ Aside0 (laws_FnNums.j0 kq l0 l1 x17_2 = some r) ∧ Aside0 (kq ≤ k) ∧ Aside0 (Below w.heap.size w wc))
  case first =>
    have H := HC3.out
    clear HC3
    by_cases c4 : (l0.length : Int) > 1048576
    · rw [if_pos c4] at H
      have c4b0 : decide (1048576 < (l0.length : Int)) = true := decide_eq_true c4
      have c4b1 : decide (1048576 < l0.length) = true := decide_eq_true (by omega)
      clear c4
      (first | rw [c4b0] | (simp only [i64_w, i32_w]; rw [c4b0]) | skip)
      have H' := Aside0.mk H
      clear H
      go_wp2
      go_meet
      case rel => exact ⟨_, (true), (by first | rfl | (simp; done) | (simp [*]; done)), H', ⟨by first | omega | exact Nat.le_refl _⟩, ⟨by repeat (first | (with_reducible first | exact HB.out | apply below_alloc | apply pw_below_drewN | apply below_drew1) | exact HB.out)⟩⟩
    · rw [if_neg c4] at H
      have c4b0 : decide (1048576 < (l0.length : Int)) = false := decide_eq_false c4
      have c4b1 : decide (1048576 < l0.length) = false := decide_eq_false (by omega)
      clear c4
      (first | rw [c4b0] | (simp only [i64_w, i32_w]; rw [c4b0]) | skip)
      have H' := Aside0.mk H
      clear H
      go_wp2
      go_meet
      case rel => exact ⟨_, (decide ((l1.length : Int) > 1048576)), (by first | rfl | (simp; done) | (simp [*]; done)), H', ⟨by first | omega | exact Nat.le_refl _⟩, ⟨by repeat (first | (with_reducible first | exact HB.out | apply below_alloc | apply pw_below_drewN | apply below_drew1) | exact HB.out)⟩⟩
  case rest =>
    clear HC3
    try clear c1
    try clear p2
    try clear c4
    try clear c4b0
    try clear c4b1
    obtain ⟨kq, x17_2, rfl, HA, HJ2, HB⟩ := hcut
    cases kq with
    | zero => exact absurd HA.out (by simp [laws_FnNums.j0])
    | succ kj2 =>
      have H := HA.out
      clear HA
      simp only [laws_FnNums.j0] at H
      by_cases c5 : x17_2 = true
      · subst c5
        have H1 : (some true) = some r := by rw [if_pos rfl] at H; exact H
        clear H
        have H := H1
        clear H1
        obtain rfl := Option.some.inj H
        go_wp2
        go_ret
        exact ⟨by first | rfl | (simp [errW_none, errW_some] <;> rfl) | (simp [*, errW_none, errW_some] <;> rfl), by repeat (first | (with_reducible first | exact HB.out | apply below_alloc | apply pw_below_drewN | apply below_drew1) | exact HB.out)⟩
      · replace c5 := Bool.eq_false_iff.mpr c5
        subst c5
        have H1 : ((spec_DrawPutNum.f kj2 l0).bind fun t211 => ((impl_PutNum.f kj2 t211).bind fun t212 => ((spec_PutNum.f kj2 t211).bind fun t213 => (if t212.toList = t213.toList then (if (t212.size : Int) < 1 then (laws_FnNums.j1 kj2 l1 t211 t212 true) else (laws_FnNums.j1 kj2 l1 t211 t212 (decide ((t212.size : Int) > 10)))) else (laws_FnNums.j1 kj2 l1 t211 t212 true))))) = some r := by rw [if_neg (show ¬ (false = true) by decide)] at H; exact H
        clear H
        have H := H1
        clear H1
        replace H := Option.bind_eq_some_iff.mp H
        obtain ⟨t211, A60, H⟩ := H
        replace H : ((impl_PutNum.f kj2 t211).bind fun t212 => ((spec_PutNum.f kj2 t211).bind fun t213 => (if t212.toList = t213.toList then (if (t212.size : Int) < 1 then (laws_FnNums.j1 kj2 l1 t211 t212 true) else (laws_FnNums.j1 kj2 l1 t211 t212 (decide ((t212.size : Int) > 10)))) else (laws_FnNums.j1 kj2 l1 t211 t212 true)))) = some r := H
        have A6 := Aside0.mk A60
        clear A60
        replace H := Option.bind_eq_some_iff.mp H
        obtain ⟨t212, A70, H⟩ := H
        replace H : ((spec_PutNum.f kj2 t211).bind fun t213 => (if t212.toList = t213.toList then (if (t212.size : Int) < 1 then (laws_FnNums.j1 kj2 l1 t211 t212 true) else (laws_FnNums.j1 kj2 l1 t211 t212 (decide ((t212.size : Int) > 10)))) else (laws_FnNums.j1 kj2 l1 t211 t212 true))) = some r := H
        have A7 := Aside0.mk A70
        clear A70
        have HC8 := Aside0.mk H
        clear H
        go_upto_region 5 with (first | ((with_reducible refine gate_callee (f := 25) rfl ?_); refine goesL_ (some 19) rfl rfl Try.func25 (by kernel_rfl) rfl #[.slice A0 l0.length c0] rfl (by (try simp only [List.map_toArray, List.map_cons, List.map_nil]); first | done | rfl | (simp only [List.length_drop, List.length_take]; rfl)) ?_; (with_reducible refine (spec_DrawPutNum.calls kj2 _ _ l0 t211 _ ?side1 ?side2 A6.out).mono ?_); (case side1 => repeat (first | exact (Kd.C_below HR0.out HB.out) | (with_reducible refine Kd.C_alloc ?_ _) | (with_reducible refine Kd.C_drewN ?_ _) | (with_reducible refine Kd.C_drew ?_))); (case side2 => exact HC0.out); rintro e w9 ⟨rfl, hb⟩; refine ⟨_, rfl, ?_⟩; have n0_ := Aside0.mk (below_step (by repeat (first | (with_reducible first | exact HB.out | apply below_alloc | apply pw_below_drewN | apply below_drew1) | exact HB.out)) hb); clear HB; have HB := n0_; clear n0_; (try clear hb); (try clear hb2); (try clear hk); (try clear hi)) | ((with_reducible refine gate_callee (f := 26) rfl ?_); refine goesL_ (some 21) rfl rfl Try.func26 (by kernel_rfl) rfl #[.int .i64 t211] rfl (by (try simp only [List.map_toArray, List.map_cons, List.map_nil]); first | done | rfl | (simp only [List.length_drop, List.length_take]; rfl)) ?_; (with_reducible refine (impl_PutNum.calls kj2 t211 t212 _ A7.out).mono ?_); rintro e w10 ⟨rfl, hb⟩; refine ⟨_, rfl, ?_⟩; have n0_ := Aside0.mk (below_step (by repeat (first | (with_reducible first | exact HB.out | apply below_alloc | apply pw_below_drewN | apply below_drew1) | exact HB.out)) hb); clear HB; have HB := n0_; clear n0_; (try clear hb); (try clear hb2); (try clear hk); (try clear hi)))
        (try simp only [Act.put, List.setIfInBounds_toArray, List.set_cons_zero, List.set_cons_succ])
        go_cut [35] (fun v35 wc => ∃ (kq : Nat) (x35_7 : Bool), v35 = .bool x35_7 ∧ Aside0 (laws_FnNums.j1 kq l1 t211 t212 x35_7 = some r) ∧ Aside0 (kq ≤ kj2) ∧ Aside0 (Below w.heap.size w wc))
        case first =>
          have H := HC8.out
          clear HC8
          replace H := Option.bind_eq_some_iff.mp H
          obtain ⟨t213, A110, H⟩ := H
          replace H : (if t212.toList = t213.toList then (if (t212.size : Int) < 1 then (laws_FnNums.j1 kj2 l1 t211 t212 true) else (laws_FnNums.j1 kj2 l1 t211 t212 (decide ((t212.size : Int) > 10)))) else (laws_FnNums.j1 kj2 l1 t211 t212 true)) = some r := H
          have A11 := Aside0.mk A110
          clear A110
          by_cases c12 : t212.toList = t213.toList
          · rw [if_pos c12] at H
            have c12b0 : (t212.toList == t213.toList) = true := beq_iff_eq.mpr c12
            have c12b1 : (t212.toList != t213.toList) = false := bne_eq_false_iff_eq.mpr c12
            clear c12
            (first | rw [c12b0] | (simp only [i64_w, i32_w]; rw [c12b0]) | skip)
            by_cases c13 : (t212.size : Int) < 1
            · rw [if_pos c13] at H
              have c13b0 : decide ((t212.size : Int) < 1) = true := decide_eq_true c13
              have c13b1 : decide (t212.size < 1) = true := decide_eq_true (by omega)
              clear c13
              have H' := Aside0.mk H
              clear H
              go_wp2_with (first | ((with_reducible refine gate_callee (f := 27) rfl ?_); refine goesL_ (some 24) rfl rfl Try.func27 (by kernel_rfl) rfl #[.int .i64 t211] rfl (by (try simp only [List.map_toArray, List.map_cons, List.map_nil]); first | done | rfl | (simp only [List.length_drop, List.length_take]; rfl)) ?_; (with_reducible refine (spec_PutNum.calls kj2 t211 t213 _ A11.out).mono ?_); rintro e w14 ⟨rfl, hb⟩; refine ⟨_, rfl, ?_⟩; have n0_ := Aside0.mk (below_step (by repeat (first | (with_reducible first | exact HB.out | apply below_alloc | apply pw_below_drewN | apply below_drew1) | exact HB.out)) hb); clear HB; have HB := n0_; clear n0_; (try clear hb); (try clear hb2); (try clear hk); (try clear hi)))
              go_meet
              case rel => exact ⟨_, (true), (by first | rfl | (simp; done) | (simp [*]; done)), H', ⟨by have := HJ2.out; first | omega | exact Nat.le_refl _⟩, ⟨by repeat (first | (with_reducible first | exact HB.out | apply below_alloc | apply pw_below_drewN | apply below_drew1) | exact HB.out)⟩⟩
            · rw [if_neg c13] at H
              have c13b0 : decide ((t212.size : Int) < 1) = false := decide_eq_false c13
              have c13b1 : decide (t212.size < 1) = false := decide_eq_false (by omega)
              clear c13
              have H' := Aside0.mk H
              clear H
              go_wp2_with (first | ((with_reducible refine gate_callee (f := 27) rfl ?_); refine goesL_ (some 24) rfl rfl Try.func27 (by kernel_rfl) rfl #[.int .i64 t211] rfl (by (try simp only [List.map_toArray, List.map_cons, List.map_nil]); first | done | rfl | (simp only [List.length_drop, List.length_take]; rfl)) ?_; (with_reducible refine (spec_PutNum.calls kj2 t211 t213 _ A11.out).mono ?_); rintro e w15 ⟨rfl, hb⟩; refine ⟨_, rfl, ?_⟩; have n0_ := Aside0.mk (below_step (by repeat (first | (with_reducible first | exact HB.out | apply below_alloc | apply pw_below_drewN | apply below_drew1) | exact HB.out)) hb); clear HB; have HB := n0_; clear n0_; (try clear hb); (try clear hb2); (try clear hk); (try clear hi)))
              go_meet
              case rel => exact ⟨_, (decide ((t212.size : Int) > 10)), (by first | rfl | (simp; done) | (simp [*]; done)), H', ⟨by have := HJ2.out; first | omega | exact Nat.le_refl _⟩, ⟨by repeat (first | (with_reducible first | exact HB.out | apply below_alloc | apply pw_below_drewN | apply below_drew1) | exact HB.out)⟩⟩
          · rw [if_neg c12] at H
            have c12b0 : (t212.toList == t213.toList) = false := beq_eq_false_iff_ne.mpr c12
            have c12b1 : (t212.toList != t213.toList) = true := bne_iff_ne.mpr c12
            (first | rw [c12b0] | (simp only [i64_w, i32_w]; rw [c12b0]) | skip)
            have H' := Aside0.mk H
            clear H
            go_wp2_with (first | ((with_reducible refine gate_callee (f := 27) rfl ?_); refine goesL_ (some 24) rfl rfl Try.func27 (by kernel_rfl) rfl #[.int .i64 t211] rfl (by (try simp only [List.map_toArray, List.map_cons, List.map_nil]); first | done | rfl | (simp only [List.length_drop, List.length_take]; rfl)) ?_; (with_reducible refine (spec_PutNum.calls kj2 t211 t213 _ A11.out).mono ?_); rintro e w16 ⟨rfl, hb⟩; refine ⟨_, rfl, ?_⟩; have n0_ := Aside0.mk (below_step (by repeat (first | (with_reducible first | exact HB.out | apply below_alloc | apply pw_below_drewN | apply below_drew1) | exact HB.out)) hb); clear HB; have HB := n0_; clear n0_; (try clear hb); (try clear hb2); (try clear hk); (try clear hi)))
            go_meet
            case rel => exact ⟨_, (true), (by first | rfl | (simp; done) | (simp [*]; done)), H', ⟨by have := HJ2.out; first | omega | exact Nat.le_refl _⟩, ⟨by repeat (first | (with_reducible first | exact HB.out | apply below_alloc | apply pw_below_drewN | apply below_drew1) | exact HB.out)⟩⟩
        case rest =>
          clear HC8
          try clear c1
          try clear c2
          try clear p2
          try clear c4
          try clear c4b0
          try clear c4b1
          try clear c5
          try clear c12
          try clear c12b0
          try clear c12b1
          try clear c13
          try clear c13b0
          try clear c13b1
          try clear p2
          obtain ⟨kq, x35_7, rfl, HA, HJ7, HB⟩ := hcut
          cases kq with
          | zero => exact absurd HA.out (by simp [laws_FnNums.j1])
          | succ kj7 =>
            have H := HA.out
            clear HA
            simp only [laws_FnNums.j1] at H
            by_cases c17 : x35_7 = true
            · subst c17
              have H1 : (some false) = some r := by rw [if_pos rfl] at H; exact H
              clear H
              have H := H1
              clear H1
              obtain rfl := Option.some.inj H
              go_wp2
              go_ret
              exact ⟨by first | rfl | (simp [errW_none, errW_some] <;> rfl) | (simp [*, errW_none, errW_some] <;> rfl), by repeat (first | (with_reducible first | exact HB.out | apply below_alloc | apply pw_below_drewN | apply below_drew1) | exact HB.out)⟩
            · replace c17 := Bool.eq_false_iff.mpr c17
              subst c17
              have H1 : (if 2 + t212.size ≤ 9223372036854775807 then (if ((⟨#[120, 121]⟩ : ByteArray) ++ t212).size + 1 ≤ 9223372036854775807 then ((impl_GetNum.f kj7 (((⟨#[120, 121]⟩ : ByteArray) ++ t212) ++ (⟨#[122]⟩ : ByteArray)) 2).bind fun bt214 => (if (!(bt214.1 == t211) || (!(bt214.2.1 == (wrap64 ((t212.size : Int) + 2))) || (!(bt214.2.2 == 0)))) = true then (laws_FnNums.j2 kj7 l1 true) else (if 0 ≤ (wrap64 ((t212.size : Int) - 1)) then (if (wrap64 ((t212.size : Int) - 1)) ≤ (t212.size : Int) then ((impl_GetNum.f kj7 (t212.extract 0 ((wrap64 ((t212.size : Int) - 1)) : Int).toNat) 0).bind fun bt218 => (laws_FnNums.j2 kj7 l1 (bt218.2.2 != 4))) else (none)) else (none)))) else (none)) else (none)) = some r := by rw [if_neg (show ¬ (false = true) by decide)] at H; exact H
              clear H
              have H := H1
              clear H1
              by_cases c18 : 2 + t212.size ≤ 9223372036854775807
              · rw [if_pos c18] at H
                have c18b0 := eq_true c18
                have c18b1 : decide (2 + t212.size ≤ 9223372036854775807) = true := decide_eq_true c18
                try have c18b2 : (9223372036854775807 < 2 + t212.size) = False := eq_false (Nat.not_lt.2 c18)
                by_cases c19 : ((⟨#[120, 121]⟩ : ByteArray) ++ t212).size + 1 ≤ 9223372036854775807
                · rw [if_pos c19] at H
                  have c19b0 := eq_true c19
                  have c19b1 : decide (((⟨#[120, 121]⟩ : ByteArray) ++ t212).size + 1 ≤ 9223372036854775807) = true := decide_eq_true c19
                  try have c19b2 : (9223372036854775807 < ((⟨#[120, 121]⟩ : ByteArray) ++ t212).size + 1) = False := eq_false (Nat.not_lt.2 c19)
                  try have c19b3 : (9223372036854775807 < 2 + t212.size + 1) = False := eq_false (Nat.not_lt.2 (by have z := c19; simp only [ByteArray.size_append] at z; exact z))
                  replace H := Option.bind_eq_some_iff.mp H
                  obtain ⟨⟨t214, t215, t216⟩, A200, H⟩ := H
                  replace H : (if (!(t214 == t211) || (!(t215 == (wrap64 ((t212.size : Int) + 2))) || (!(t216 == 0)))) = true then (laws_FnNums.j2 kj7 l1 true) else (if 0 ≤ (wrap64 ((t212.size : Int) - 1)) then (if (wrap64 ((t212.size : Int) - 1)) ≤ (t212.size : Int) then ((impl_GetNum.f kj7 (t212.extract 0 ((wrap64 ((t212.size : Int) - 1)) : Int).toNat) 0).bind fun bt218 => (laws_FnNums.j2 kj7 l1 (bt218.2.2 != 4))) else (none)) else (none))) = some r := H
                  have A20 := Aside0.mk A200
                  clear A200
                  have HC21 := Aside0.mk H
                  clear H
                  go_upto_region 8 with (first | ((with_reducible refine gate_callee (f := 28) rfl ?_); refine goesL_ (some 39) rfl rfl Try.func28 (by kernel_rfl) rfl #[.string (((⟨#[120, 121]⟩ : ByteArray) ++ t212) ++ (⟨#[122]⟩ : ByteArray)), .int .i64 2] rfl (by (try simp only [List.map_toArray, List.map_cons, List.map_nil]); first | done | rfl | (simp only [List.length_drop, List.length_take]; rfl)) ?_; (with_reducible refine (impl_GetNum.calls kj7 (((⟨#[120, 121]⟩ : ByteArray) ++ t212) ++ (⟨#[122]⟩ : ByteArray)) 2 t214 t215 t216 _ A20.out).mono ?_); rintro e w22 ⟨rfl, hb⟩; refine ⟨_, rfl, ?_⟩; have n0_ := Aside0.mk (below_step (by repeat (first | (with_reducible first | exact HB.out | apply below_alloc | apply pw_below_drewN | apply below_drew1) | exact HB.out)) hb); clear HB; have HB := n0_; clear n0_; (try clear hb); (try clear hb2); (try clear hk); (try clear hi)) | ((with_reducible refine gate_dst (N := 7) rfl ?_); (try (refine gate_guard (by rfl) ?_; dsimp only)); refine box_event ?hg (N := 7) ?hd (cs := #[.int .i64 0, .int .i64 0, .int .i64 0]) (t := 36) ?hr ?_; (case hd => rfl); (case hg => rfl); (case hr => first | (go_simp; done) | (go_simp; rfl)); intro gb217 hg w23 hbox hb; have n0_ := Aside0.mk (below_step (by repeat (first | (with_reducible first | exact HB.out | apply below_alloc | apply pw_below_drewN | apply below_drew1) | exact HB.out)) hb); have n1_ := Aside0.mk (hbox); have n2_ := Aside0.mk ((by rw [hg]; exact (below_size (by repeat (first | (with_reducible first | exact HB.out | apply below_alloc | apply pw_below_drewN | apply below_drew1) | exact HB.out))) : w.heap.size ≤ gb217)); have n3_ := Aside0.mk ((by rw [hg]; exact (below_size (by repeat (first | (with_reducible first | exact HB.out | apply below_alloc | apply pw_below_drewN | apply below_drew1) | exact HB.out))) : w.heap.size ≤ gb217)); clear HB; have HB := n0_; have BK217 := n1_; have GW217 := n2_; have GE217 := n3_; clear n0_ n1_ n2_ n3_; clear hb hbox hg; have hcz24_0 : w23.cell? ⟨gb217, 0, none⟩ = some (.int .i64 0) := (blk_cell BK217.out 0).trans rfl; have hcz24_1 : w23.cell? ⟨gb217, 1, none⟩ = some (.int .i64 0) := (blk_cell BK217.out 1).trans rfl; have hcz24_2 : w23.cell? ⟨gb217, 2, none⟩ = some (.int .i64 0) := (blk_cell BK217.out 2).trans rfl; have hfz24_0 := blk_frozen BK217.out 0; have hfz24_1 := blk_frozen BK217.out 1; have hfz24_2 := blk_frozen BK217.out 2))
                  (try simp only [Act.put, List.setIfInBounds_toArray, List.set_cons_zero, List.set_cons_succ])
                  go_cut [56] (fun v56 wc => ∃ (kq : Nat) (x56_20 : Bool), v56 = .bool x56_20 ∧ Aside0 (laws_FnNums.j2 kq l1 x56_20 = some r) ∧ Aside0 (kq ≤ kj7) ∧ Aside0 (wc.heap[gb217]? = some (.cells #[.int .i64 t214, .int .i64 t215, .int .i64 t216] 36 (0, 0))) ∧ Aside0 (Below w.heap.size w wc))
                  case first =>
                    have H := HC21.out
                    clear HC21
                    by_cases c25 : (!(t214 == t211) || (!(t215 == (wrap64 ((t212.size : Int) + 2))) || (!(t216 == 0)))) = true
                    · rw [if_pos c25] at H
                      have c25b0 : (!(t214 == t211) || (!(t215 == (wrap64 ((t212.size : Int) + 2))) || (!(t216 == 0)))) = true := c25
                      try have c25p : (t214 = t211 ∧ t215 = (t212.size : Int) + 2 ∧ t216 = 0) = False := eq_false (fun q_ => by have hw0 : wrap64 ((t212.size : Int) + 2) = (t212.size : Int) + 2 := (by unfold wrap64; omega); have z_ := c25b0; simp [hw0, q_.1, q_.2.1, q_.2.2] at z_)
                      try have c25b9 : ((!(t214 == t211) || (!(t215 == (((t212.size : Int) + 2))) || (!(t216 == 0))))) = true := (by have hw0 : wrap64 ((t212.size : Int) + 2) = (t212.size : Int) + 2 := (by unfold wrap64; omega); have z_ := c25b0; simp only [hw0] at z_; exact z_)
                      clear c25
                      (first | rw [c25b0] | (simp only [i64_w, i32_w]; rw [c25b0]) | skip)
                      have H' := Aside0.mk H
                      clear H
                      have hcz26_0 : w23.cell? ⟨gb217, 0, none⟩ = some (.int .i64 0) := (blk_cell BK217.out 0).trans rfl
                      have hcz26_1 : w23.cell? ⟨gb217, 1, none⟩ = some (.int .i64 0) := (blk_cell BK217.out 1).trans rfl
                      have hcz26_2 : w23.cell? ⟨gb217, 2, none⟩ = some (.int .i64 0) := (blk_cell BK217.out 2).trans rfl
                      have hfz26_0 := blk_frozen BK217.out 0
                      have hfz26_1 := blk_frozen BK217.out 1
                      have hfz26_2 := blk_frozen BK217.out 2
                      go_wp2
                      go_meet
                      case rel => exact ⟨_, (true), (by first | rfl | (simp; done) | (simp [*]; done)), H', ⟨by have := HJ2.out; have := HJ7.out; first | omega | exact Nat.le_refl _⟩, ⟨by (with_reducible repeat (first | refine blk_drewN ?_ _ | refine blk_drew ?_ | refine blk_alloc ?_ _)); refine blk_put (cs := #[.int .i64 t214, .int .i64 t215, .int .i64 0]) ?_ 2 _ rfl; (with_reducible repeat (first | refine blk_drewN ?_ _ | refine blk_drew ?_ | refine blk_alloc ?_ _)); refine blk_put (cs := #[.int .i64 t214, .int .i64 0, .int .i64 0]) ?_ 1 _ rfl; (with_reducible repeat (first | refine blk_drewN ?_ _ | refine blk_drew ?_ | refine blk_alloc ?_ _)); refine blk_put (cs := #[.int .i64 0, .int .i64 0, .int .i64 0]) ?_ 0 _ rfl; (with_reducible repeat (first | refine blk_drewN ?_ _ | refine blk_drew ?_ | refine blk_alloc ?_ _)); exact BK217.out⟩, ⟨by repeat (first | (with_reducible first | exact HB.out | apply below_alloc | apply pw_below_drewN | apply below_drew1 | refine below_set ?_ GE217.out) | exact HB.out)⟩⟩
                    · rw [if_neg c25] at H
                      have c25b0 : (!(t214 == t211) || (!(t215 == (wrap64 ((t212.size : Int) + 2))) || (!(t216 == 0)))) = false := by simpa using c25
                      try have c25p : (t214 = t211 ∧ t215 = (t212.size : Int) + 2 ∧ t216 = 0) = True := eq_true (by have hw0 : wrap64 ((t212.size : Int) + 2) = (t212.size : Int) + 2 := (by unfold wrap64; omega); have z_ := c25b0; simpa [hw0] using z_)
                      try have c25b9 : ((!(t214 == t211) || (!(t215 == (((t212.size : Int) + 2))) || (!(t216 == 0))))) = false := (by have hw0 : wrap64 ((t212.size : Int) + 2) = (t212.size : Int) + 2 := (by unfold wrap64; omega); have z_ := c25b0; simp only [hw0] at z_; exact z_)
                      clear c25
                      (first | rw [c25b0] | (simp only [i64_w, i32_w]; rw [c25b0]) | skip)
                      obtain ⟨ji27, hji27⟩ : ∃ j_ : Int, (wrap64 ((t212.size : Int) - 1)) = j_ := ⟨_, rfl⟩
                      replace H : (if 0 ≤ (ji27) then (if (ji27) ≤ (t212.size : Int) then ((impl_GetNum.f kj7 (t212.extract 0 ((ji27) : Int).toNat) 0).bind fun bt218 => (laws_FnNums.j2 kj7 l1 (bt218.2.2 != 4))) else (none)) else (none)) = some r := by first | (rw [hji27] at H; exact H) | (simp only [hji27] at H ⊢; exact H)
                      have hji27w : (IntKind.i64.wrap ((t212.size : Int) - 1)) = ji27 := (i64_w _).trans hji27
                      by_cases c28 : 0 ≤ (ji27)
                      · rw [if_pos c28] at H
                        have c28b0 := eq_true c28
                        have c28b1 : decide (0 ≤ (ji27)) = true := decide_eq_true c28
                        clear c28
                        by_cases c29 : (ji27) ≤ (t212.size : Int)
                        · rw [if_pos c29] at H
                          have c29b0 := eq_true c29
                          have c29b1 : decide ((ji27) ≤ (t212.size : Int)) = true := decide_eq_true c29
                          clear c29
                          replace H := Option.bind_eq_some_iff.mp H
                          obtain ⟨⟨t218, t219, t220⟩, A300, H⟩ := H
                          replace H : (laws_FnNums.j2 kj7 l1 (t220 != 4)) = some r := H
                          have A30 := Aside0.mk A300
                          clear A300
                          have H' := Aside0.mk H
                          clear H
                          have hcz31_0 : w23.cell? ⟨gb217, 0, none⟩ = some (.int .i64 0) := (blk_cell BK217.out 0).trans rfl
                          have hcz31_1 : w23.cell? ⟨gb217, 1, none⟩ = some (.int .i64 0) := (blk_cell BK217.out 1).trans rfl
                          have hcz31_2 : w23.cell? ⟨gb217, 2, none⟩ = some (.int .i64 0) := (blk_cell BK217.out 2).trans rfl
                          have hfz31_0 := blk_frozen BK217.out 0
                          have hfz31_1 := blk_frozen BK217.out 1
                          have hfz31_2 := blk_frozen BK217.out 2
                          go_wp2_with (first | (go_at_call 28; (with_reducible refine (impl_GetNum.calls kj7 (t212.extract 0 ((ji27) : Int).toNat) 0 t218 t219 t220 _ A30.out).mono ?_); rintro e w32 ⟨rfl, hb⟩; have n0_ := Aside0.mk (blk_below (g := gb217) (o := .cells #[.int .i64 t214, .int .i64 t215, .int .i64 t216] 36 (0, 0)) (by (with_reducible repeat (first | refine blk_drewN ?_ _ | refine blk_drew ?_ | refine blk_alloc ?_ _)); refine blk_put (cs := #[.int .i64 t214, .int .i64 t215, .int .i64 0]) ?_ 2 _ rfl; (with_reducible repeat (first | refine blk_drewN ?_ _ | refine blk_drew ?_ | refine blk_alloc ?_ _)); refine blk_put (cs := #[.int .i64 t214, .int .i64 0, .int .i64 0]) ?_ 1 _ rfl; (with_reducible repeat (first | refine blk_drewN ?_ _ | refine blk_drew ?_ | refine blk_alloc ?_ _)); refine blk_put (cs := #[.int .i64 0, .int .i64 0, .int .i64 0]) ?_ 0 _ rfl; (with_reducible repeat (first | refine blk_drewN ?_ _ | refine blk_drew ?_ | refine blk_alloc ?_ _)); exact BK217.out) hb); have n1_ := Aside0.mk (below_step (by repeat (first | (with_reducible first | exact HB.out | apply below_alloc | apply pw_below_drewN | apply below_drew1 | refine below_set ?_ GE217.out) | exact HB.out)) hb); clear BK217; clear HB; have BK217 := n0_; have HB := n1_; clear n0_ n1_; (try clear hb); (try clear hb2); (try clear hk); (try clear hi)))
                          go_meet
                          case rel => exact ⟨_, ((t220 != 4)), (by first | rfl | (simp; done) | (simp [*]; done)), H', ⟨by have := HJ2.out; have := HJ7.out; first | omega | exact Nat.le_refl _⟩, ⟨by (with_reducible repeat (first | refine blk_drewN ?_ _ | refine blk_drew ?_ | refine blk_alloc ?_ _)); exact BK217.out⟩, ⟨by repeat (first | (with_reducible first | exact HB.out | apply below_alloc | apply pw_below_drewN | apply below_drew1 | refine below_set ?_ GE217.out) | exact HB.out)⟩⟩
                        · rw [if_neg c29] at H
                          exact absurd H (by simp)
                      · rw [if_neg c28] at H
                        exact absurd H (by simp)
                  case rest =>
                    clear HC21
                    try clear c1
                    try clear c2
                    try clear p2
                    try clear c4
                    try clear c4b0
                    try clear c4b1
                    try clear c5
                    try clear p6
                    try clear c12
                    try clear c12b0
                    try clear c12b1
                    try clear c13
                    try clear c13b0
                    try clear c13b1
                    try clear c17
                    try clear c18
                    try clear c18b0
                    try clear c18b1
                    try clear c18b2
                    try clear c19
                    try clear c19b0
                    try clear c19b1
                    try clear c19b2
                    try clear c25
                    try clear c25b0
                    try clear c26
                    try clear c27
                    try clear c28
                    try clear c28b0
                    try clear c28b1
                    try clear c29
                    try clear c29b0
                    try clear c29b1
                    try clear hcz24_0
                    try clear hcz24_1
                    try clear hcz24_2
                    try clear hcz26_0
                    try clear hcz26_1
                    try clear hcz26_2
                    try clear hcz31_0
                    try clear hcz31_1
                    try clear hcz31_2
                    try clear hfz24_0
                    try clear hfz24_1
                    try clear hfz24_2
                    try clear hfz26_0
                    try clear hfz26_1
                    try clear hfz26_2
                    try clear hfz31_0
                    try clear hfz31_1
                    try clear hfz31_2
                    try clear p2
                    obtain ⟨kq, x56_20, rfl, HA, HJ20, BK217, HB⟩ := hcut
                    cases kq with
                    | zero => exact absurd HA.out (by simp [laws_FnNums.j2])
                    | succ kj20 =>
                      have H := HA.out
                      clear HA
                      simp only [laws_FnNums.j2] at H
                      by_cases c33 : x56_20 = true
                      · subst c33
                        have H1 : (some false) = some r := by rw [if_pos rfl] at H; exact H
                        clear H
                        have H := H1
                        clear H1
                        obtain rfl := Option.some.inj H
                        go_wp2
                        go_ret
                        exact ⟨by first | rfl | (simp [errW_none, errW_some] <;> rfl) | (simp [*, errW_none, errW_some] <;> rfl), by repeat (first | (with_reducible first | exact HB.out | apply below_alloc | apply pw_below_drewN | apply below_drew1 | refine below_set ?_ GE217.out) | exact HB.out)⟩
                      · replace c33 := Bool.eq_false_iff.mpr c33
                        subst c33
                        have H1 : ((spec_DrawPutText.f kj20 l1).bind fun t221 => ((impl_PutText.f kj20 t221).bind fun t222 => ((spec_PutText.f kj20 t221).bind fun t223 => (if t222.toList = t223.toList then (laws_FnNums.j3 kj20 t221 t222 (t222.toList == ([] : List UInt8))) else (laws_FnNums.j3 kj20 t221 t222 true))))) = some r := by rw [if_neg (show ¬ (false = true) by decide)] at H; exact H
                        clear H
                        have H := H1
                        clear H1
                        replace H := Option.bind_eq_some_iff.mp H
                        obtain ⟨t221, A340, H⟩ := H
                        replace H : ((impl_PutText.f kj20 t221).bind fun t222 => ((spec_PutText.f kj20 t221).bind fun t223 => (if t222.toList = t223.toList then (laws_FnNums.j3 kj20 t221 t222 (t222.toList == ([] : List UInt8))) else (laws_FnNums.j3 kj20 t221 t222 true)))) = some r := H
                        have A34 := Aside0.mk A340
                        clear A340
                        replace H := Option.bind_eq_some_iff.mp H
                        obtain ⟨t222, A350, H⟩ := H
                        replace H : ((spec_PutText.f kj20 t221).bind fun t223 => (if t222.toList = t223.toList then (laws_FnNums.j3 kj20 t221 t222 (t222.toList == ([] : List UInt8))) else (laws_FnNums.j3 kj20 t221 t222 true))) = some r := H
                        have A35 := Aside0.mk A350
                        clear A350
                        have HC36 := Aside0.mk H
                        clear H
                        go_upto_region 12 with (first | ((with_reducible refine gate_callee (f := 29) rfl ?_); refine goesL_ (some 58) rfl rfl Try.func29 (by kernel_rfl) rfl #[.slice A1 l1.length c1] rfl (by (try simp only [List.map_toArray, List.map_cons, List.map_nil]); first | done | rfl | (simp only [List.length_drop, List.length_take]; rfl)) ?_; (with_reducible refine (spec_DrawPutText.calls kj20 _ _ l1 t221 _ ?side1 ?side2 A34.out).mono ?_); (case side1 => repeat (first | exact (Kd.C_below HR1.out HB.out) | (with_reducible refine Kd.C_alloc ?_ _) | (with_reducible refine Kd.C_drewN ?_ _) | (with_reducible refine Kd.C_drew ?_))); (case side2 => exact HC1.out); rintro e w37 ⟨rfl, hb⟩; refine ⟨_, rfl, ?_⟩; have n0_ := Aside0.mk (blk_below (g := gb217) (o := .cells #[.int .i64 t214, .int .i64 t215, .int .i64 t216] 36 (0, 0)) (by (with_reducible repeat (first | refine blk_drewN ?_ _ | refine blk_drew ?_ | refine blk_alloc ?_ _)); exact BK217.out) hb); have n1_ := Aside0.mk (below_step (by repeat (first | (with_reducible first | exact HB.out | apply below_alloc | apply pw_below_drewN | apply below_drew1 | refine below_set ?_ GE217.out) | exact HB.out)) hb); clear BK217; clear HB; have BK217 := n0_; have HB := n1_; clear n0_ n1_; (try clear hb); (try clear hb2); (try clear hk); (try clear hi)) | ((with_reducible refine gate_callee (f := 30) rfl ?_); refine goesL_ (some 60) rfl rfl Try.func30 (by kernel_rfl) rfl #[.string t221] rfl (by (try simp only [List.map_toArray, List.map_cons, List.map_nil]); first | done | rfl | (simp only [List.length_drop, List.length_take]; rfl)) ?_; (with_reducible refine (impl_PutText.calls kj20 t221 t222 _ A35.out).mono ?_); rintro e w38 ⟨rfl, hb⟩; refine ⟨_, rfl, ?_⟩; have n0_ := Aside0.mk (blk_below (g := gb217) (o := .cells #[.int .i64 t214, .int .i64 t215, .int .i64 t216] 36 (0, 0)) (by (with_reducible repeat (first | refine blk_drewN ?_ _ | refine blk_drew ?_ | refine blk_alloc ?_ _)); exact BK217.out) hb); have n1_ := Aside0.mk (below_step (by repeat (first | (with_reducible first | exact HB.out | apply below_alloc | apply pw_below_drewN | apply below_drew1 | refine below_set ?_ GE217.out) | exact HB.out)) hb); clear BK217; clear HB; have BK217 := n0_; have HB := n1_; clear n0_ n1_; (try clear hb); (try clear hb2); (try clear hk); (try clear hi)))
                        (try simp only [Act.put, List.setIfInBounds_toArray, List.set_cons_zero, List.set_cons_succ])
                        go_cut [68] (fun v68 wc => ∃ (kq : Nat) (x68_35 : Bool), v68 = .bool x68_35 ∧ Aside0 (laws_FnNums.j3 kq t221 t222 x68_35 = some r) ∧ Aside0 (kq ≤ kj20) ∧ Aside0 (wc.heap[gb217]? = some (.cells #[.int .i64 t214, .int .i64 t215, .int .i64 t216] 36 (0, 0))) ∧ Aside0 (Below w.heap.size w wc))
                        case first =>
                          have H := HC36.out
                          clear HC36
                          replace H := Option.bind_eq_some_iff.mp H
                          obtain ⟨t223, A390, H⟩ := H
                          replace H : (if t222.toList = t223.toList then (laws_FnNums.j3 kj20 t221 t222 (t222.toList == ([] : List UInt8))) else (laws_FnNums.j3 kj20 t221 t222 true)) = some r := H
                          have A39 := Aside0.mk A390
                          clear A390
                          by_cases c40 : t222.toList = t223.toList
                          · rw [if_pos c40] at H
                            have c40b0 : (t222.toList == t223.toList) = true := beq_iff_eq.mpr c40
                            have c40b1 : (t222.toList != t223.toList) = false := bne_eq_false_iff_eq.mpr c40
                            clear c40
                            (first | rw [c40b0] | (simp only [i64_w, i32_w]; rw [c40b0]) | skip)
                            have H' := Aside0.mk H
                            clear H
                            go_wp2_with (first | ((with_reducible refine gate_callee (f := 31) rfl ?_); refine goesL_ (some 63) rfl rfl Try.func31 (by kernel_rfl) rfl #[.string t221] rfl (by (try simp only [List.map_toArray, List.map_cons, List.map_nil]); first | done | rfl | (simp only [List.length_drop, List.length_take]; rfl)) ?_; (with_reducible refine (spec_PutText.calls kj20 t221 t223 _ A39.out).mono ?_); rintro e w41 ⟨rfl, hb⟩; refine ⟨_, rfl, ?_⟩; have n0_ := Aside0.mk (blk_below (g := gb217) (o := .cells #[.int .i64 t214, .int .i64 t215, .int .i64 t216] 36 (0, 0)) (by (with_reducible repeat (first | refine blk_drewN ?_ _ | refine blk_drew ?_ | refine blk_alloc ?_ _)); exact BK217.out) hb); have n1_ := Aside0.mk (below_step (by repeat (first | (with_reducible first | exact HB.out | apply below_alloc | apply pw_below_drewN | apply below_drew1 | refine below_set ?_ GE217.out) | exact HB.out)) hb); clear BK217; clear HB; have BK217 := n0_; have HB := n1_; clear n0_ n1_; (try clear hb); (try clear hb2); (try clear hk); (try clear hi)))
                            go_meet
                            case rel => exact ⟨_, ((t222.toList == ([] : List UInt8))), (by first | rfl | (simp; done) | (simp [*]; done)), H', ⟨by have := HJ2.out; have := HJ7.out; have := HJ20.out; first | omega | exact Nat.le_refl _⟩, ⟨by (with_reducible repeat (first | refine blk_drewN ?_ _ | refine blk_drew ?_ | refine blk_alloc ?_ _)); exact BK217.out⟩, ⟨by repeat (first | (with_reducible first | exact HB.out | apply below_alloc | apply pw_below_drewN | apply below_drew1 | refine below_set ?_ GE217.out) | exact HB.out)⟩⟩
                          · rw [if_neg c40] at H
                            have c40b0 : (t222.toList == t223.toList) = false := beq_eq_false_iff_ne.mpr c40
                            have c40b1 : (t222.toList != t223.toList) = true := bne_iff_ne.mpr c40
                            (first | rw [c40b0] | (simp only [i64_w, i32_w]; rw [c40b0]) | skip)
                            have H' := Aside0.mk H
                            clear H
                            go_wp2_with (first | ((with_reducible refine gate_callee (f := 31) rfl ?_); refine goesL_ (some 63) rfl rfl Try.func31 (by kernel_rfl) rfl #[.string t221] rfl (by (try simp only [List.map_toArray, List.map_cons, List.map_nil]); first | done | rfl | (simp only [List.length_drop, List.length_take]; rfl)) ?_; (with_reducible refine (spec_PutText.calls kj20 t221 t223 _ A39.out).mono ?_); rintro e w42 ⟨rfl, hb⟩; refine ⟨_, rfl, ?_⟩; have n0_ := Aside0.mk (blk_below (g := gb217) (o := .cells #[.int .i64 t214, .int .i64 t215, .int .i64 t216] 36 (0, 0)) (by (with_reducible repeat (first | refine blk_drewN ?_ _ | refine blk_drew ?_ | refine blk_alloc ?_ _)); exact BK217.out) hb); have n1_ := Aside0.mk (below_step (by repeat (first | (with_reducible first | exact HB.out | apply below_alloc | apply pw_below_drewN | apply below_drew1 | refine below_set ?_ GE217.out) | exact HB.out)) hb); clear BK217; clear HB; have BK217 := n0_; have HB := n1_; clear n0_ n1_; (try clear hb); (try clear hb2); (try clear hk); (try clear hi)))
                            go_meet
                            case rel => exact ⟨_, (true), (by first | rfl | (simp; done) | (simp [*]; done)), H', ⟨by have := HJ2.out; have := HJ7.out; have := HJ20.out; first | omega | exact Nat.le_refl _⟩, ⟨by (with_reducible repeat (first | refine blk_drewN ?_ _ | refine blk_drew ?_ | refine blk_alloc ?_ _)); exact BK217.out⟩, ⟨by repeat (first | (with_reducible first | exact HB.out | apply below_alloc | apply pw_below_drewN | apply below_drew1 | refine below_set ?_ GE217.out) | exact HB.out)⟩⟩
                        case rest =>
                          clear HC36
                          try clear c1
                          try clear c2
                          try clear p2
                          try clear c3
                          try clear c4
                          try clear c4b0
                          try clear c4b1
                          try clear c5
                          try clear p6
                          try clear c12
                          try clear c12b0
                          try clear c12b1
                          try clear c13
                          try clear c13b0
                          try clear c13b1
                          try clear c17
                          try clear c18
                          try clear c18b0
                          try clear c18b1
                          try clear c18b2
                          try clear c19
                          try clear c19b0
                          try clear c19b1
                          try clear c19b2
                          try clear c25
                          try clear c25b0
                          try clear c26
                          try clear c27
                          try clear c28
                          try clear c28b0
                          try clear c28b1
                          try clear c29
                          try clear c29b0
                          try clear c29b1
                          try clear c30
                          try clear c31
                          try clear c33
                          try clear c40
                          try clear c40b0
                          try clear c40b1
                          try clear hcz24_0
                          try clear hcz24_1
                          try clear hcz24_2
                          try clear hcz26_0
                          try clear hcz26_1
                          try clear hcz26_2
                          try clear hcz31_0
                          try clear hcz31_1
                          try clear hcz31_2
                          try clear hfz24_0
                          try clear hfz24_1
                          try clear hfz24_2
                          try clear hfz26_0
                          try clear hfz26_1
                          try clear hfz26_2
                          try clear hfz31_0
                          try clear hfz31_1
                          try clear hfz31_2
                          try clear p2
                          try clear p6
                          obtain ⟨kq, x68_35, rfl, HA, HJ35, BK217, HB⟩ := hcut
                          cases kq with
                          | zero => exact absurd HA.out (by simp [laws_FnNums.j3])
                          | succ kj35 =>
                            have H := HA.out
                            clear HA
                            simp only [laws_FnNums.j3] at H
                            by_cases c43 : x68_35 = true
                            · subst c43
                              have H1 : ((spec_PutText.f kj35 t221).bind fun t224 => (some (t222.toList == t224.toList))) = some r := by rw [if_pos rfl] at H; exact H
                              clear H
                              have H := H1
                              clear H1
                              replace H := Option.bind_eq_some_iff.mp H
                              obtain ⟨t224, A440, H⟩ := H
                              replace H : (some (t222.toList == t224.toList)) = some r := H
                              have A44 := Aside0.mk A440
                              clear A440
                              obtain rfl := Option.some.inj H
                              go_wp2_with (first | ((with_reducible refine gate_callee (f := 31) rfl ?_); refine goesL_ (some 71) rfl rfl Try.func31 (by kernel_rfl) rfl #[.string t221] rfl (by (try simp only [List.map_toArray, List.map_cons, List.map_nil]); first | done | rfl | (simp only [List.length_drop, List.length_take]; rfl)) ?_; (with_reducible refine (spec_PutText.calls kj35 t221 t224 _ A44.out).mono ?_); rintro e w45 ⟨rfl, hb⟩; refine ⟨_, rfl, ?_⟩; have n0_ := Aside0.mk (blk_below (g := gb217) (o := .cells #[.int .i64 t214, .int .i64 t215, .int .i64 t216] 36 (0, 0)) (by (with_reducible repeat (first | refine blk_drewN ?_ _ | refine blk_drew ?_ | refine blk_alloc ?_ _)); exact BK217.out) hb); have n1_ := Aside0.mk (below_step (by repeat (first | (with_reducible first | exact HB.out | apply below_alloc | apply pw_below_drewN | apply below_drew1 | refine below_set ?_ GE217.out) | exact HB.out)) hb); clear BK217; clear HB; have BK217 := n0_; have HB := n1_; clear n0_ n1_; (try clear hb); (try clear hb2); (try clear hk); (try clear hi)))
                              go_ret
                              exact ⟨by first | rfl | (simp [errW_none, errW_some] <;> rfl) | (simp [*, errW_none, errW_some] <;> rfl), by repeat (first | (with_reducible first | exact HB.out | apply below_alloc | apply pw_below_drewN | apply below_drew1 | refine below_set ?_ GE217.out) | exact HB.out)⟩
                            · replace c43 := Bool.eq_false_iff.mpr c43
                              subst c43
                              have H1 : (if (wrap64 ((t222.size : Int) + 1)) > 20000 then (some true) else (if 1 + t222.size ≤ 9223372036854775807 then ((impl_GetText.f kj35 ((⟨#[120]⟩ : ByteArray) ++ t222) 1).bind fun bt225 => (if (bt225.1.toList == t221.toList && (bt225.2.1 == (wrap64 ((t222.size : Int) + 1)) && (bt225.2.2 == 0))) = true then (if 0 ≤ (wrap64 ((t222.size : Int) - 1)) then (if (wrap64 ((t222.size : Int) - 1)) ≤ (t222.size : Int) then ((impl_GetText.f kj35 (t222.extract 0 ((wrap64 ((t222.size : Int) - 1)) : Int).toNat) 0).bind fun bt228 => (some (bt228.2.2 == 4))) else (none)) else (none)) else (some false))) else (none))) = some r := by rw [if_neg (show ¬ (false = true) by decide)] at H; exact H
                              clear H
                              have H := H1
                              clear H1
                              by_cases c46 : (wrap64 ((t222.size : Int) + 1)) > 20000
                              · rw [if_pos c46] at H
                                have c46b0 : decide (20000 < (wrap64 ((t222.size : Int) + 1))) = true := decide_eq_true c46
                                try have c46b9 : (decide (20000 < (((t222.size : Int) + 1)))) = true := (by have hw0 : wrap64 ((t222.size : Int) + 1) = (t222.size : Int) + 1 := (by unfold wrap64; omega); have z_ := c46b0; simp only [hw0] at z_; exact z_)
                                clear c46
                                obtain rfl := Option.some.inj H
                                go_wp2
                                go_ret
                                exact ⟨by first | rfl | (simp [errW_none, errW_some] <;> rfl) | (simp [*, errW_none, errW_some] <;> rfl), by repeat (first | (with_reducible first | exact HB.out | apply below_alloc | apply pw_below_drewN | apply below_drew1 | refine below_set ?_ GE217.out) | exact HB.out)⟩
                              · rw [if_neg c46] at H
                                have c46b0 : decide (20000 < (wrap64 ((t222.size : Int) + 1))) = false := decide_eq_false c46
                                try have c46b9 : (decide (20000 < (((t222.size : Int) + 1)))) = false := (by have hw0 : wrap64 ((t222.size : Int) + 1) = (t222.size : Int) + 1 := (by unfold wrap64; omega); have z_ := c46b0; simp only [hw0] at z_; exact z_)
                                clear c46
                                by_cases c47 : 1 + t222.size ≤ 9223372036854775807
                                · rw [if_pos c47] at H
                                  have c47b0 := eq_true c47
                                  have c47b1 : decide (1 + t222.size ≤ 9223372036854775807) = true := decide_eq_true c47
                                  try have c25b8 : ((!(t214 == t211) || (!(t215 == (((t212.size : Int) + 2))) || (!(t216 == 0))))) = true := (by have hw0 : wrap64 ((t212.size : Int) + 2) = (t212.size : Int) + 2 := (by unfold wrap64; omega); have z_ := c25b0; simp only [hw0] at z_; exact z_)
                                  try have c25b8 : ((!(t214 == t211) || (!(t215 == (((t212.size : Int) + 2))) || (!(t216 == 0))))) = false := (by have hw0 : wrap64 ((t212.size : Int) + 2) = (t212.size : Int) + 2 := (by unfold wrap64; omega); have z_ := c25b0; simp only [hw0] at z_; exact z_)
                                  try have c46b8 : (decide (20000 < (((t222.size : Int) + 1)))) = true := (by have hw0 : wrap64 ((t222.size : Int) + 1) = (t222.size : Int) + 1 := (by unfold wrap64; omega); have z_ := c46b0; simp only [hw0] at z_; exact z_)
                                  try have c46b8 : (decide (20000 < (((t222.size : Int) + 1)))) = false := (by have hw0 : wrap64 ((t222.size : Int) + 1) = (t222.size : Int) + 1 := (by unfold wrap64; omega); have z_ := c46b0; simp only [hw0] at z_; exact z_)
                                  try have c47b2 : (9223372036854775807 < 1 + t222.size) = False := eq_false (Nat.not_lt.2 c47)
                                  replace H := Option.bind_eq_some_iff.mp H
                                  obtain ⟨⟨t225, t226, t227⟩, A480, H⟩ := H
                                  replace H : (if (t225.toList == t221.toList && (t226 == (wrap64 ((t222.size : Int) + 1)) && (t227 == 0))) = true then (if 0 ≤ (wrap64 ((t222.size : Int) - 1)) then (if (wrap64 ((t222.size : Int) - 1)) ≤ (t222.size : Int) then ((impl_GetText.f kj35 (t222.extract 0 ((wrap64 ((t222.size : Int) - 1)) : Int).toNat) 0).bind fun bt228 => (some (bt228.2.2 == 4))) else (none)) else (none)) else (some false)) = some r := H
                                  have A48 := Aside0.mk A480
                                  clear A480
                                  by_cases c49 : (t225.toList == t221.toList && (t226 == (wrap64 ((t222.size : Int) + 1)) && (t227 == 0))) = true
                                  · rw [if_pos c49] at H
                                    have c49b0 : (t225.toList == t221.toList && (t226 == (wrap64 ((t222.size : Int) + 1)) && (t227 == 0))) = true := c49
                                    try have c49p : (t225.toList = t221.toList ∧ t226 = (t222.size : Int) + 1 ∧ t227 = 0) = True := eq_true (by have hw0 : wrap64 ((t222.size : Int) + 1) = (t222.size : Int) + 1 := (by unfold wrap64; omega); have z_ := c49b0; simpa [hw0] using z_)
                                    try have c49b9 : ((t225.toList == t221.toList && (t226 == (((t222.size : Int) + 1)) && (t227 == 0)))) = true := (by have hw0 : wrap64 ((t222.size : Int) + 1) = (t222.size : Int) + 1 := (by unfold wrap64; omega); have z_ := c49b0; simp only [hw0] at z_; exact z_)
                                    (try (have c49b1 : decide (t225.toList = t221.toList && (t226 == (wrap64 ((t222.size : Int) + 1)) && (t227 == 0))) = true := by simpa using c49))
                                    (try (have c49b2 : (t225.toList == t221.toList && (t226 == (wrap64 ((t222.size : Int) + 1)) && (t227 == 0))) = true := by simpa using c49))
                                    clear c49
                                    obtain ⟨ji50, hji50⟩ : ∃ j_ : Int, (wrap64 ((t222.size : Int) - 1)) = j_ := ⟨_, rfl⟩
                                    replace H : (if 0 ≤ (ji50) then (if (ji50) ≤ (t222.size : Int) then ((impl_GetText.f kj35 (t222.extract 0 ((ji50) : Int).toNat) 0).bind fun bt228 => (some (bt228.2.2 == 4))) else (none)) else (none)) = some r := by first | (rw [hji50] at H; exact H) | (simp only [hji50] at H ⊢; exact H)
                                    (try rw [hji50] at A48)
                                    have hji50w : (IntKind.i64.wrap ((t222.size : Int) - 1)) = ji50 := (i64_w _).trans hji50
                                    by_cases c51 : 0 ≤ (ji50)
                                    · rw [if_pos c51] at H
                                      have c51b0 := eq_true c51
                                      have c51b1 : decide (0 ≤ (ji50)) = true := decide_eq_true c51
                                      clear c51
                                      by_cases c52 : (ji50) ≤ (t222.size : Int)
                                      · rw [if_pos c52] at H
                                        have c52b0 := eq_true c52
                                        have c52b1 : decide ((ji50) ≤ (t222.size : Int)) = true := decide_eq_true c52
                                        clear c52
                                        replace H := Option.bind_eq_some_iff.mp H
                                        obtain ⟨⟨t228, t229, t230⟩, A530, H⟩ := H
                                        replace H : (some (t230 == 4)) = some r := H
                                        have A53 := Aside0.mk A530
                                        clear A530
                                        obtain rfl := Option.some.inj H
                                        go_wp2_with (first | (go_at_call 32; (with_reducible refine (impl_GetText.calls kj35 ((⟨#[120]⟩ : ByteArray) ++ t222) 1 t225 t226 t227 _ A48.out).mono ?_); rintro e w54 ⟨rfl, hb⟩; have n0_ := Aside0.mk (blk_below (g := gb217) (o := .cells #[.int .i64 t214, .int .i64 t215, .int .i64 t216] 36 (0, 0)) (by (with_reducible repeat (first | refine blk_drewN ?_ _ | refine blk_drew ?_ | refine blk_alloc ?_ _)); exact BK217.out) hb); have n1_ := Aside0.mk (below_step (by repeat (first | (with_reducible first | exact HB.out | apply below_alloc | apply pw_below_drewN | apply below_drew1 | refine below_set ?_ GE217.out) | exact HB.out)) hb); clear BK217; clear HB; have BK217 := n0_; have HB := n1_; clear n0_ n1_; (try clear hb); (try clear hb2); (try clear hk); (try clear hi)) | (go_at_call 32; (with_reducible refine (impl_GetText.calls kj35 (t222.extract 0 ((ji50) : Int).toNat) 0 t228 t229 t230 _ A53.out).mono ?_); rintro e w55 ⟨rfl, hb⟩; have n0_ := Aside0.mk (blk_below (g := gb217) (o := .cells #[.int .i64 t214, .int .i64 t215, .int .i64 t216] 36 (0, 0)) (by (with_reducible repeat (first | refine blk_drewN ?_ _ | refine blk_drew ?_ | refine blk_alloc ?_ _)); exact BK217.out) hb); have n1_ := Aside0.mk (below_step (by repeat (first | (with_reducible first | exact HB.out | apply below_alloc | apply pw_below_drewN | apply below_drew1 | refine below_set ?_ GE217.out) | exact HB.out)) hb); clear BK217; clear HB; have BK217 := n0_; have HB := n1_; clear n0_ n1_; (try clear hb); (try clear hb2); (try clear hk); (try clear hi)))
                                        go_ret
                                        exact ⟨by first | rfl | (simp [errW_none, errW_some] <;> rfl) | (simp only [← hji50]; first | rfl | (simp [errW_none, errW_some] <;> rfl)) | (simp [*, errW_none, errW_some] <;> rfl), by repeat (first | (with_reducible first | exact HB.out | apply below_alloc | apply pw_below_drewN | apply below_drew1 | refine below_set ?_ GE217.out) | exact HB.out)⟩
                                      · rw [if_neg c52] at H
                                        exact absurd H (by simp)
                                    · rw [if_neg c51] at H
                                      exact absurd H (by simp)
                                  · rw [if_neg c49] at H
                                    have c49b0 : (t225.toList == t221.toList && (t226 == (wrap64 ((t222.size : Int) + 1)) && (t227 == 0))) = false := by simpa using c49
                                    try have c49p : (t225.toList = t221.toList ∧ t226 = (t222.size : Int) + 1 ∧ t227 = 0) = False := eq_false (fun q_ => by have hw0 : wrap64 ((t222.size : Int) + 1) = (t222.size : Int) + 1 := (by unfold wrap64; omega); have z_ := c49b0; simp [hw0, q_.1, q_.2.1, q_.2.2] at z_)
                                    try have c49b9 : ((t225.toList == t221.toList && (t226 == (((t222.size : Int) + 1)) && (t227 == 0)))) = false := (by have hw0 : wrap64 ((t222.size : Int) + 1) = (t222.size : Int) + 1 := (by unfold wrap64; omega); have z_ := c49b0; simp only [hw0] at z_; exact z_)
                                    (try (have c49b1 : decide (t225.toList = t221.toList && (t226 == (wrap64 ((t222.size : Int) + 1)) && (t227 == 0))) = false := by simpa using c49))
                                    (try (have c49b2 : (t225.toList == t221.toList && (t226 == (wrap64 ((t222.size : Int) + 1)) && (t227 == 0))) = false := by simpa using c49))
                                    (try (have c49b3 : ¬ (t225.toList = t221.toList && (t226 == (wrap64 ((t222.size : Int) + 1)) && (t227 == 0))) := by simpa using c49))
                                    clear c49
                                    obtain rfl := Option.some.inj H
                                    go_wp2_with (first | (go_at_call 32; (with_reducible refine (impl_GetText.calls kj35 ((⟨#[120]⟩ : ByteArray) ++ t222) 1 t225 t226 t227 _ A48.out).mono ?_); rintro e w56 ⟨rfl, hb⟩; have n0_ := Aside0.mk (blk_below (g := gb217) (o := .cells #[.int .i64 t214, .int .i64 t215, .int .i64 t216] 36 (0, 0)) (by (with_reducible repeat (first | refine blk_drewN ?_ _ | refine blk_drew ?_ | refine blk_alloc ?_ _)); exact BK217.out) hb); have n1_ := Aside0.mk (below_step (by repeat (first | (with_reducible first | exact HB.out | apply below_alloc | apply pw_below_drewN | apply below_drew1 | refine below_set ?_ GE217.out) | exact HB.out)) hb); clear BK217; clear HB; have BK217 := n0_; have HB := n1_; clear n0_ n1_; (try clear hb); (try clear hb2); (try clear hk); (try clear hi)))
                                    go_ret
                                    exact ⟨by first | rfl | (simp [errW_none, errW_some] <;> rfl) | (simp [*, errW_none, errW_some] <;> rfl), by repeat (first | (with_reducible first | exact HB.out | apply below_alloc | apply pw_below_drewN | apply below_drew1 | refine below_set ?_ GE217.out) | exact HB.out)⟩
                                · rw [if_neg c47] at H
                                  exact absurd H (by simp)
                · rw [if_neg c19] at H
                  exact absurd H (by simp)
              · rw [if_neg c18] at H
                exact absurd H (by simp)

/-- THE ONE PURE STATEMENT of laws_FnNums: yours. -/
def laws_FnNums.Pure : Prop := ∀ (l0 : List Int) (l1 : List Int), l0.length ≤ maxLen → l0.length * 1 ≤ 140737488351232 → (∀ x ∈ l0, (Lit.int .u8 x).wf = true) → l1.length ≤ maxLen → l1.length * 1 ≤ 140737488351232 → (∀ x ∈ l1, (Lit.int .u8 x).wf = true) → ∃ k, laws_FnNums.f k l0 l1 = some true
theorem laws_FnNums.walk (P : laws_FnNums.Pure) (a0 : Option Addr) (len0 cap0 : Nat) (z0 : List Int) (a1 : Option Addr) (len1 cap1 : Nat) (z1 : List Int) (w : World) (w0 : (a0 = none ∧ len0 = 0 ∧ cap0 = 0 ∧ z0 = []) ∨ ∃ x, a0 = some x ∧ len0 ≤ cap0 ∧ cap0 ≤ maxLen ∧ z0.length = cap0 ∧ (∀ i, i < z0.length → w.cell? (x.add i) = some (.int .u8 (z0.getD i 0))) ∧ ∀ n ∈ z0, (Lit.int .u8 n).wf = true) (y0 : len0 * 1 ≤ 140737488351232) (w1 : (a1 = none ∧ len1 = 0 ∧ cap1 = 0 ∧ z1 = []) ∨ ∃ x, a1 = some x ∧ len1 ≤ cap1 ∧ cap1 ≤ maxLen ∧ z1.length = cap1 ∧ (∀ i, i < z1.length → w.cell? (x.add i) = some (.int .u8 (z1.getD i 0))) ∧ ∀ n ∈ z1, (Lit.int .u8 n).wf = true) (y1 : len1 * 1 ≤ 140737488351232) :
    Calls Try.prog 5 #[.slice a0 len0 cap0, .slice a1 len1 cap1] w fun e w' => e = .returned (.bool true) ∧ Below w.heap.size w w' := by
  obtain ⟨l0, rfl, hr0, hm0, hw0, hc0⟩ := ReadsInt.ofRowC w0
  obtain ⟨l1, rfl, hr1, hm1, hw1, hc1⟩ := ReadsInt.ofRowC w1
  obtain ⟨k, h⟩ := P l0 l1 hm0 y0 hw0 hm1 y1 hw1
  refine (laws_FnNums.calls k _ _ l0 _ _ l1 true w (Kd.C_of_reads (d := (0 : Int)) (h1 := fun _ => rfl) hr0) hc0 (Kd.C_of_reads (d := (0 : Int)) (h1 := fun _ => rfl) hr1) hc1 h).mono ?_
  rintro e w' ⟨rfl, hd⟩
  exact ⟨rfl, hd⟩

end Go.Proofs.Yteljfdhjbnlgoaa.PFnNums
