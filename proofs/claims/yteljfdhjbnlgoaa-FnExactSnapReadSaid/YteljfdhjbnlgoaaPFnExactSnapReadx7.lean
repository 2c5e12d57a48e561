/- Functions of the law FnExactSnapRead: the print's, with walks of this session's own. No statement is proved here. -/
import Derived.WalkLawsBesides
-- A program of this session wrote this text: a changed copy of the kit print, with given functions.
import Derived.Test.YteljfdhjbnlgoaaPFnExactSnapReadx0
import Derived.Test.YteljfdhjbnlgoaaPFnExactSnapReadx6
namespace Go.Proofs.Yteljfdhjbnlgoaa.PFnExactSnapRead
open Go.RowKit Go.Proofs.YteljfdhjbnlgoaaW.PrintWords Go.Proofs.YteljfdhjbnlgoaaW.PrintLast Go.Proofs.YteljfdhjbnlgoaaW.PrintMore
attribute [local go_sem] max2_int min2_int max_two min_two max_three min_three max_four min_four   -- for this text's walks alone
set_option linter.unusedVariables false
set_option linter.unusedSimpArgs false

/-! ### spec_SnapRead: function 50 -/
def spec_SnapRead.f (k : Nat) (a0 : ByteArray) : Option (ByteArray × Int × ByteArray × Int) := if (a0.size : Int) > 20000 then (some ((⟨#[]⟩ : ByteArray), 0, (⟨#[]⟩ : ByteArray), 2)) else ((spec_l12Snap.f k a0).bind fun bt140 => (if bt140.2.2.2 = true then (some (bt140.1, bt140.2.1, bt140.2.2.1, 0)) else (some ((⟨#[]⟩ : ByteArray), 0, (⟨#[]⟩ : ByteArray), 3))))
theorem spec_SnapRead.mono : ∀ a0 k, LeO (spec_SnapRead.f k a0) (spec_SnapRead.f (k + 1) a0) := by
 intro a0 k
 unfold spec_SnapRead.f
 repeat' first
   | (with_reducible exact spec_l12Snap.mono _ _)
   | (with_reducible exact LeO.refl _)
   | (with_reducible exact LeO.none _)
   | (with_reducible refine LeO.ite ?_ ?_)
   | (with_reducible refine LeO.bind ?_ (fun _ => ?_))
   | exact spec_l12Snap.mono _ _
   | exact LeO.none _
   | refine LeO.ite ?_ ?_
   | refine LeO.bind ?_ (fun _ => ?_)
set_option maxHeartbeats 8000000 in
set_option maxRecDepth 100000 in
theorem spec_SnapRead.calls (k : Nat) (a0 : ByteArray) (r1 : ByteArray) (r2 : Int) (r3 : ByteArray) (r4 : Int) (w : World) (h : spec_SnapRead.f k a0 = some (r1, r2, r3, r4)) :
  Calls Try.prog 50 #[.string a0] w fun e w' => e = .returned (.agg #[.string r1, .int .i64 r2, .string r3, .int .i64 r4]) ∧ Below w.heap.size w w' := by
 have hu76 := Try.underlying76
 have hu74 := Try.underlying74
 have HB := AM (Below.refl w.heap.size w)
 have H : (if (a0.size : Int) > 20000 then (some ((⟨#[]⟩ : ByteArray), 0, (⟨#[]⟩ : ByteArray), 2)) else ((spec_l12Snap.f k a0).bind fun bt140 => (if bt140.2.2.2 = true then (some (bt140.1, bt140.2.1, bt140.2.2.1, 0)) else (some ((⟨#[]⟩ : ByteArray), 0, (⟨#[]⟩ : ByteArray), 3))))) = some (r1, r2, r3, r4) := h
 clear h
 by_cases c2 : (a0.size : Int) > 20000
 ·rw [if_pos c2] at H
  have c2b0 : decide (20000 < (a0.size : Int)) = true := decide_eq_true c2
  have c2b1 : decide (20000 < a0.size) = true := decide_eq_true (by omega)
  clear c2
  simp only [Option.some.injEq, Prod.mk.injEq] at H
  obtain ⟨rfl, rfl, rfl, rfl⟩ := H
  go_enter Try.func50, Try.ntmps50
  go_wp2_with (first | ((with_reducible refine gate_dst (N := 2) rfl ?_); refine box_event ?hg (N := 2) ?hd (cs := #[.string (⟨#[]⟩ : ByteArray), .int .i64 0, .string (⟨#[]⟩ : ByteArray), .int .i64 0]) (t := 76) ?hr ?_; (case hd => rfl); (case hg => rfl); (case hr => first | (go_simp; done) | (go_simp; rfl)); intro gb139 hg w3 hbox hb; have n0_ := AM (below_step (by repeat (first | (with_reducible first | exact HB.out | apply Wa | apply Wn | apply Wd) | exact HB.out)) hb); have n1_ := AM (hbox); have n2_ := AM ((by rw [hg]; exact (below_size (by repeat (first | (with_reducible first | exact HB.out | apply Wa | apply Wn | apply Wd) | exact HB.out))) : w.heap.size ≤ gb139)); have n3_ := AM ((by rw [hg]; exact (below_size (by repeat (first | (with_reducible first | exact HB.out | apply Wa | apply Wn | apply Wd) | exact HB.out))) : w.heap.size ≤ gb139)); clear HB; have HB := n0_; have BK139 := n1_; have GW139 := n2_; have GE139 := n3_; clear n0_ n1_ n2_ n3_; clear hb hbox hg; have hcz4_0 : w3.cell? ⟨gb139, 0, none⟩ = some (.string (⟨#[]⟩ : ByteArray)) := (blk_cell BK139.out 0).trans rfl; have hcz4_1 : w3.cell? ⟨gb139, 1, none⟩ = some (.int .i64 0) := (blk_cell BK139.out 1).trans rfl; have hcz4_2 : w3.cell? ⟨gb139, 2, none⟩ = some (.string (⟨#[]⟩ : ByteArray)) := (blk_cell BK139.out 2).trans rfl; have hcz4_3 : w3.cell? ⟨gb139, 3, none⟩ = some (.int .i64 0) := (blk_cell BK139.out 3).trans rfl; have hfz4_0 := blk_frozen BK139.out 0; have hfz4_1 := blk_frozen BK139.out 1; have hfz4_2 := blk_frozen BK139.out 2; have hfz4_3 := blk_frozen BK139.out 3))
  refine bodyPost_ret (results_cell_row rfl _ _ gb139 76 #[.string (⟨#[]⟩ : ByteArray), .int .i64 0, .string (⟨#[]⟩ : ByteArray), .int .i64 2] (0, 0) _ rfl (by (with_reducible repeat (first | refine Gn ?_ _ | refine Gd ?_ | refine Ga ?_ _)); refine blk_put (cs := #[.string (⟨#[]⟩ : ByteArray), .int .i64 0, .string (⟨#[]⟩ : ByteArray), .int .i64 0]) ?_ 3 _ rfl; (with_reducible repeat (first | refine Gn ?_ _ | refine Gd ?_ | refine Ga ?_ _)); refine blk_put (cs := #[.string (⟨#[]⟩ : ByteArray), .int .i64 0, .string (⟨#[]⟩ : ByteArray), .int .i64 0]) ?_ 2 _ rfl; (with_reducible repeat (first | refine Gn ?_ _ | refine Gd ?_ | refine Ga ?_ _)); refine blk_put (cs := #[.string (⟨#[]⟩ : ByteArray), .int .i64 0, .string (⟨#[]⟩ : ByteArray), .int .i64 0]) ?_ 1 _ rfl; (with_reducible repeat (first | refine Gn ?_ _ | refine Gd ?_ | refine Ga ?_ _)); refine blk_put (cs := #[.string (⟨#[]⟩ : ByteArray), .int .i64 0, .string (⟨#[]⟩ : ByteArray), .int .i64 0]) ?_ 0 _ rfl; (with_reducible repeat (first | refine Gn ?_ _ | refine Gd ?_ | refine Ga ?_ _)); exact BK139.out) Try.underlying76 rfl (by kernel_rfl)) rfl ?_
  exact ⟨by first | rfl | (simp [errW_none, errW_some] <;> rfl) | (simp [*, errW_none, errW_some] <;> rfl), by repeat (first | (with_reducible first | exact HB.out | apply Wa | apply Wn | apply Wd | refine Ws ?_ GE139.out) | exact HB.out)⟩
 ·rw [if_neg c2] at H
  have c2b0 : decide (20000 < (a0.size : Int)) = false := decide_eq_false c2
  have c2b1 : decide (20000 < a0.size) = false := decide_eq_false (by omega)
  clear c2
  replace H := Option.bind_eq_some_iff.mp H
  obtain ⟨⟨t140, t141, t142, t143⟩, A50, H⟩ := H
  replace H : (if t143 = true then (some (t140, t141, t142, 0)) else (some ((⟨#[]⟩ : ByteArray), 0, (⟨#[]⟩ : ByteArray), 3))) = some (r1, r2, r3, r4) := H
  have A5 := AM A50
  clear A50
  by_cases c6 : t143 = true
  ·subst c6
   have H1 : (some (t140, t141, t142, 0)) = some (r1, r2, r3, r4) := by rw [if_pos rfl] at H; exact H
   clear H
   have H := H1
   clear H1
   simp only [Option.some.injEq, Prod.mk.injEq] at H
   obtain ⟨rfl, rfl, rfl, rfl⟩ := H
   go_enter Try.func50, Try.ntmps50
   go_wp2_with (first | ((with_reducible refine gate_dst (N := 2) rfl ?_); refine box_event ?hg (N := 2) ?hd (cs := #[.string (⟨#[]⟩ : ByteArray), .int .i64 0, .string (⟨#[]⟩ : ByteArray), .int .i64 0]) (t := 76) ?hr ?_; (case hd => rfl); (case hg => rfl); (case hr => first | (go_simp; done) | (go_simp; rfl)); intro gb139 hg w7 hbox hb; have n0_ := AM (below_step (by repeat (first | (with_reducible first | exact HB.out | apply Wa | apply Wn | apply Wd) | exact HB.out)) hb); have n1_ := AM (hbox); have n2_ := AM ((by rw [hg]; exact (below_size (by repeat (first | (with_reducible first | exact HB.out | apply Wa | apply Wn | apply Wd) | exact HB.out))) : w.heap.size ≤ gb139)); have n3_ := AM ((by rw [hg]; exact (below_size (by repeat (first | (with_reducible first | exact HB.out | apply Wa | apply Wn | apply Wd) | exact HB.out))) : w.heap.size ≤ gb139)); clear HB; have HB := n0_; have BK139 := n1_; have GW139 := n2_; have GE139 := n3_; clear n0_ n1_ n2_ n3_; clear hb hbox hg) | ((with_reducible refine gate_callee (f := 116) rfl ?_); refine goesL_ (some 11) rfl rfl Try.func116 (by kernel_rfl) rfl #[.string a0] rfl (by (try simp only [List.map_toArray, List.map_cons, List.map_nil]); first | done | rfl | (simp only [List.length_drop, List.length_take]; rfl)) ?_; (with_reducible refine (spec_l12Snap.calls k a0 t140 t141 t142 true _ A5.out).mono ?_); rintro e w8 ⟨rfl, hb⟩; refine ⟨_, rfl, ?_⟩; have n0_ := AM (blk_below (g := gb139) (o := .cells #[.string (⟨#[]⟩ : ByteArray), .int .i64 0, .string (⟨#[]⟩ : ByteArray), .int .i64 0] 76 (0, 0)) (by (with_reducible repeat (first | refine Gn ?_ _ | refine Gd ?_ | refine Ga ?_ _)); exact BK139.out) hb); have n1_ := AM (below_step (by repeat (first | (with_reducible first | exact HB.out | apply Wa | apply Wn | apply Wd | refine Ws ?_ GE139.out) | exact HB.out)) hb); clear BK139; clear HB; have BK139 := n0_; have HB := n1_; clear n0_ n1_; (try clear hb); (try clear hb2); (try clear hk); (try clear hi)) | ((with_reducible refine gate_dst (N := 3) rfl ?_); refine box_event ?hg (N := 3) ?hd (cs := #[.string (⟨#[]⟩ : ByteArray), .int .i64 0, .string (⟨#[]⟩ : ByteArray)]) (t := 74) ?hr ?_; (case hd => rfl); (case hg => rfl); (case hr => first | (go_simp; done) | (go_simp; rfl)); intro gb144 hg w9 hbox hb; have n0_ := AM (blk_below (g := gb139) (o := .cells #[.string (⟨#[]⟩ : ByteArray), .int .i64 0, .string (⟨#[]⟩ : ByteArray), .int .i64 0] 76 (0, 0)) (by (with_reducible repeat (first | refine Gn ?_ _ | refine Gd ?_ | refine Ga ?_ _)); exact BK139.out) hb); have n1_ := AM (below_step (by repeat (first | (with_reducible first | exact HB.out | apply Wa | apply Wn | apply Wd | refine Ws ?_ GE139.out) | exact HB.out)) hb); have n2_ := AM (hbox); have n3_ := AM ((by rw [hg]; exact (below_size (by repeat (first | (with_reducible first | exact HB.out | apply Wa | apply Wn | apply Wd | refine Ws ?_ GE139.out) | exact HB.out))) : w.heap.size ≤ gb144)); have n4_ := AM ((by rw [hg]; exact (below_size (by repeat (first | (with_reducible first | exact HB.out | apply Wa | apply Wn | apply Wd | refine Ws ?_ GE139.out) | exact HB.out))) : w.heap.size ≤ gb144)); have n5_ := AM ((by rw [hg]; exact Nat.ne_of_lt (blk_lt (g := gb139) (o := .cells #[.string (⟨#[]⟩ : ByteArray), .int .i64 0, .string (⟨#[]⟩ : ByteArray), .int .i64 0] 76 (0, 0)) (by (with_reducible repeat (first | refine Gn ?_ _ | refine Gd ?_ | refine Ga ?_ _)); exact BK139.out)) : gb139 ≠ gb144)); have n6_ := AM ((by rw [hg]; exact Nat.ne_of_gt (blk_lt (g := gb139) (o := .cells #[.string (⟨#[]⟩ : ByteArray), .int .i64 0, .string (⟨#[]⟩ : ByteArray), .int .i64 0] 76 (0, 0)) (by (with_reducible repeat (first | refine Gn ?_ _ | refine Gd ?_ | refine Ga ?_ _)); exact BK139.out)) : gb144 ≠ gb139)); clear BK139; clear HB; have BK139 := n0_; have HB := n1_; have BK144 := n2_; have GW144 := n3_; have GE144 := n4_; have NB139_144 := n5_; have NB144_139 := n6_; clear n0_ n1_ n2_ n3_ n4_ n5_ n6_; clear hb hbox hg; have hnb10 := NB144_139.out; have hnc10 := NB139_144.out; have hcz11_0 : w9.cell? ⟨gb144, 0, none⟩ = some (.string (⟨#[]⟩ : ByteArray)) := (blk_cell BK144.out 0).trans rfl; have hcz11_1 : w9.cell? ⟨gb144, 1, none⟩ = some (.int .i64 0) := (blk_cell BK144.out 1).trans rfl; have hcz11_2 : w9.cell? ⟨gb144, 2, none⟩ = some (.string (⟨#[]⟩ : ByteArray)) := (blk_cell BK144.out 2).trans rfl; have hfz11_0 := blk_frozen BK144.out 0; have hfz11_1 := blk_frozen BK144.out 1; have hfz11_2 := blk_frozen BK144.out 2; have hcz12_0 : w9.cell? ⟨gb139, 0, none⟩ = some (.string (⟨#[]⟩ : ByteArray)) := (blk_cell BK139.out 0).trans rfl; have hcz12_1 : w9.cell? ⟨gb139, 1, none⟩ = some (.int .i64 0) := (blk_cell BK139.out 1).trans rfl; have hcz12_2 : w9.cell? ⟨gb139, 2, none⟩ = some (.string (⟨#[]⟩ : ByteArray)) := (blk_cell BK139.out 2).trans rfl; have hcz12_3 : w9.cell? ⟨gb139, 3, none⟩ = some (.int .i64 0) := (blk_cell BK139.out 3).trans rfl; have hfz12_0 := blk_frozen BK139.out 0; have hfz12_1 := blk_frozen BK139.out 1; have hfz12_2 := blk_frozen BK139.out 2; have hfz12_3 := blk_frozen BK139.out 3))
   refine bodyPost_ret (results_cell_row rfl _ _ gb139 76 #[.string t140, .int .i64 t141, .string t142, .int .i64 0] (0, 0) _ rfl (by (with_reducible repeat (first | refine Gn ?_ _ | refine Gd ?_ | refine Ga ?_ _)); refine blk_put (cs := #[.string t140, .int .i64 t141, .string t142, .int .i64 0]) ?_ 3 _ rfl; (with_reducible repeat (first | refine Gn ?_ _ | refine Gd ?_ | refine Ga ?_ _)); refine blk_put (cs := #[.string t140, .int .i64 t141, .string (⟨#[]⟩ : ByteArray), .int .i64 0]) ?_ 2 _ rfl; (with_reducible repeat (first | refine Gn ?_ _ | refine Gd ?_ | refine Ga ?_ _)); refine blk_put (cs := #[.string t140, .int .i64 0, .string (⟨#[]⟩ : ByteArray), .int .i64 0]) ?_ 1 _ rfl; (with_reducible repeat (first | refine Gn ?_ _ | refine Gd ?_ | refine Ga ?_ _)); refine blk_put (cs := #[.string (⟨#[]⟩ : ByteArray), .int .i64 0, .string (⟨#[]⟩ : ByteArray), .int .i64 0]) ?_ 0 _ rfl; (with_reducible repeat (first | refine Gn ?_ _ | refine Gd ?_ | refine Ga ?_ _)); refine blk_far ?_ NB139_144.out _; (with_reducible repeat (first | refine Gn ?_ _ | refine Gd ?_ | refine Ga ?_ _)); refine blk_far ?_ NB139_144.out _; (with_reducible repeat (first | refine Gn ?_ _ | refine Gd ?_ | refine Ga ?_ _)); refine blk_far ?_ NB139_144.out _; (with_reducible repeat (first | refine Gn ?_ _ | refine Gd ?_ | refine Ga ?_ _)); exact BK139.out) Try.underlying76 rfl (by kernel_rfl)) rfl ?_
   exact ⟨by first | rfl | (simp [errW_none, errW_some] <;> rfl) | (simp [*, errW_none, errW_some] <;> rfl), by repeat (first | (with_reducible first | exact HB.out | apply Wa | apply Wn | apply Wd | refine Ws ?_ GE139.out | refine Ws ?_ GE144.out) | exact HB.out)⟩
  ·replace c6 := Bool.eq_false_iff.mpr c6
   subst c6
   have H1 : (some ((⟨#[]⟩ : ByteArray), 0, (⟨#[]⟩ : ByteArray), 3)) = some (r1, r2, r3, r4) := by rw [if_neg (show ¬ (false = true) by decide)] at H; exact H
   clear H
   have H := H1
   clear H1
   simp only [Option.some.injEq, Prod.mk.injEq] at H
   obtain ⟨rfl, rfl, rfl, rfl⟩ := H
   go_enter Try.func50, Try.ntmps50
   go_wp2_with (first | ((with_reducible refine gate_dst (N := 2) rfl ?_); refine box_event ?hg (N := 2) ?hd (cs := #[.string (⟨#[]⟩ : ByteArray), .int .i64 0, .string (⟨#[]⟩ : ByteArray), .int .i64 0]) (t := 76) ?hr ?_; (case hd => rfl); (case hg => rfl); (case hr => first | (go_simp; done) | (go_simp; rfl)); intro gb139 hg w13 hbox hb; have n0_ := AM (below_step (by repeat (first | (with_reducible first | exact HB.out | apply Wa | apply Wn | apply Wd) | exact HB.out)) hb); have n1_ := AM (hbox); have n2_ := AM ((by rw [hg]; exact (below_size (by repeat (first | (with_reducible first | exact HB.out | apply Wa | apply Wn | apply Wd) | exact HB.out))) : w.heap.size ≤ gb139)); have n3_ := AM ((by rw [hg]; exact (below_size (by repeat (first | (with_reducible first | exact HB.out | apply Wa | apply Wn | apply Wd) | exact HB.out))) : w.heap.size ≤ gb139)); clear HB; have HB := n0_; have BK139 := n1_; have GW139 := n2_; have GE139 := n3_; clear n0_ n1_ n2_ n3_; clear hb hbox hg) | ((with_reducible refine gate_callee (f := 116) rfl ?_); refine goesL_ (some 11) rfl rfl Try.func116 (by kernel_rfl) rfl #[.string a0] rfl (by (try simp only [List.map_toArray, List.map_cons, List.map_nil]); first | done | rfl | (simp only [List.length_drop, List.length_take]; rfl)) ?_; (with_reducible refine (spec_l12Snap.calls k a0 t140 t141 t142 false _ A5.out).mono ?_); rintro e w14 ⟨rfl, hb⟩; refine ⟨_, rfl, ?_⟩; have n0_ := AM (blk_below (g := gb139) (o := .cells #[.string (⟨#[]⟩ : ByteArray), .int .i64 0, .string (⟨#[]⟩ : ByteArray), .int .i64 0] 76 (0, 0)) (by (with_reducible repeat (first | refine Gn ?_ _ | refine Gd ?_ | refine Ga ?_ _)); exact BK139.out) hb); have n1_ := AM (below_step (by repeat (first | (with_reducible first | exact HB.out | apply Wa | apply Wn | apply Wd | refine Ws ?_ GE139.out) | exact HB.out)) hb); clear BK139; clear HB; have BK139 := n0_; have HB := n1_; clear n0_ n1_; (try clear hb); (try clear hb2); (try clear hk); (try clear hi)) | ((with_reducible refine gate_dst (N := 3) rfl ?_); refine box_event ?hg (N := 3) ?hd (cs := #[.string (⟨#[]⟩ : ByteArray), .int .i64 0, .string (⟨#[]⟩ : ByteArray)]) (t := 74) ?hr ?_; (case hd => rfl); (case hg => rfl); (case hr => first | (go_simp; done) | (go_simp; rfl)); intro gb144 hg w15 hbox hb; have n0_ := AM (blk_below (g := gb139) (o := .cells #[.string (⟨#[]⟩ : ByteArray), .int .i64 0, .string (⟨#[]⟩ : ByteArray), .int .i64 0] 76 (0, 0)) (by (with_reducible repeat (first | refine Gn ?_ _ | refine Gd ?_ | refine Ga ?_ _)); exact BK139.out) hb); have n1_ := AM (below_step (by repeat (first | (with_reducible first | exact HB.out | apply Wa | apply Wn | apply Wd | refine Ws ?_ GE139.out) | exact HB.out)) hb); have n2_ := AM (hbox); have n3_ := AM ((by rw [hg]; exact (below_size (by repeat (first | (with_reducible first | exact HB.out | apply Wa | apply Wn | apply Wd | refine Ws ?_ GE139.out) | exact HB.out))) : w.heap.size ≤ gb144)); have n4_ := AM ((by rw [hg]; exact (below_size (by repeat (first | (with_reducible first | exact HB.out | apply Wa | apply Wn | apply Wd | refine Ws ?_ GE139.out) | exact HB.out))) : w.heap.size ≤ gb144)); have n5_ := AM ((by rw [hg]; exact Nat.ne_of_lt (blk_lt (g := gb139) (o := .cells #[.string (⟨#[]⟩ : ByteArray), .int .i64 0, .string (⟨#[]⟩ : ByteArray), .int .i64 0] 76 (0, 0)) (by (with_reducible repeat (first | refine Gn ?_ _ | refine Gd ?_ | refine Ga ?_ _)); exact BK139.out)) : gb139 ≠ gb144)); have n6_ := AM ((by rw [hg]; exact Nat.ne_of_gt (blk_lt (g := gb139) (o := .cells #[.string (⟨#[]⟩ : ByteArray), .int .i64 0, .string (⟨#[]⟩ : ByteArray), .int .i64 0] 76 (0, 0)) (by (with_reducible repeat (first | refine Gn ?_ _ | refine Gd ?_ | refine Ga ?_ _)); exact BK139.out)) : gb144 ≠ gb139)); clear BK139; clear HB; have BK139 := n0_; have HB := n1_; have BK144 := n2_; have GW144 := n3_; have GE144 := n4_; have NB139_144 := n5_; have NB144_139 := n6_; clear n0_ n1_ n2_ n3_ n4_ n5_ n6_; clear hb hbox hg; have hnb16 := NB144_139.out; have hnc16 := NB139_144.out; have hcz17_0 : w15.cell? ⟨gb144, 0, none⟩ = some (.string (⟨#[]⟩ : ByteArray)) := (blk_cell BK144.out 0).trans rfl; have hcz17_1 : w15.cell? ⟨gb144, 1, none⟩ = some (.int .i64 0) := (blk_cell BK144.out 1).trans rfl; have hcz17_2 : w15.cell? ⟨gb144, 2, none⟩ = some (.string (⟨#[]⟩ : ByteArray)) := (blk_cell BK144.out 2).trans rfl; have hfz17_0 := blk_frozen BK144.out 0; have hfz17_1 := blk_frozen BK144.out 1; have hfz17_2 := blk_frozen BK144.out 2; have hcz18_0 : w15.cell? ⟨gb139, 0, none⟩ = some (.string (⟨#[]⟩ : ByteArray)) := (blk_cell BK139.out 0).trans rfl; have hcz18_1 : w15.cell? ⟨gb139, 1, none⟩ = some (.int .i64 0) := (blk_cell BK139.out 1).trans rfl; have hcz18_2 : w15.cell? ⟨gb139, 2, none⟩ = some (.string (⟨#[]⟩ : ByteArray)) := (blk_cell BK139.out 2).trans rfl; have hcz18_3 : w15.cell? ⟨gb139, 3, none⟩ = some (.int .i64 0) := (blk_cell BK139.out 3).trans rfl; have hfz18_0 := blk_frozen BK139.out 0; have hfz18_1 := blk_frozen BK139.out 1; have hfz18_2 := blk_frozen BK139.out 2; have hfz18_3 := blk_frozen BK139.out 3))
   refine bodyPost_ret (results_cell_row rfl _ _ gb139 76 #[.string (⟨#[]⟩ : ByteArray), .int .i64 0, .string (⟨#[]⟩ : ByteArray), .int .i64 3] (0, 0) _ rfl (by (with_reducible repeat (first | refine Gn ?_ _ | refine Gd ?_ | refine Ga ?_ _)); refine blk_put (cs := #[.string (⟨#[]⟩ : ByteArray), .int .i64 0, .string (⟨#[]⟩ : ByteArray), .int .i64 0]) ?_ 3 _ rfl; (with_reducible repeat (first | refine Gn ?_ _ | refine Gd ?_ | refine Ga ?_ _)); refine blk_put (cs := #[.string (⟨#[]⟩ : ByteArray), .int .i64 0, .string (⟨#[]⟩ : ByteArray), .int .i64 0]) ?_ 2 _ rfl; (with_reducible repeat (first | refine Gn ?_ _ | refine Gd ?_ | refine Ga ?_ _)); refine blk_put (cs := #[.string (⟨#[]⟩ : ByteArray), .int .i64 0, .string (⟨#[]⟩ : ByteArray), .int .i64 0]) ?_ 1 _ rfl; (with_reducible repeat (first | refine Gn ?_ _ | refine Gd ?_ | refine Ga ?_ _)); refine blk_put (cs := #[.string (⟨#[]⟩ : ByteArray), .int .i64 0, .string (⟨#[]⟩ : ByteArray), .int .i64 0]) ?_ 0 _ rfl; (with_reducible repeat (first | refine Gn ?_ _ | refine Gd ?_ | refine Ga ?_ _)); refine blk_far ?_ NB139_144.out _; (with_reducible repeat (first | refine Gn ?_ _ | refine Gd ?_ | refine Ga ?_ _)); refine blk_far ?_ NB139_144.out _; (with_reducible repeat (first | refine Gn ?_ _ | refine Gd ?_ | refine Ga ?_ _)); refine blk_far ?_ NB139_144.out _; (with_reducible repeat (first | refine Gn ?_ _ | refine Gd ?_ | refine Ga ?_ _)); exact BK139.out) Try.underlying76 rfl (by kernel_rfl)) rfl ?_
   exact ⟨by first | rfl | (simp [errW_none, errW_some] <;> rfl) | (simp [*, errW_none, errW_some] <;> rfl), by repeat (first | (with_reducible first | exact HB.out | apply Wa | apply Wn | apply Wd | refine Ws ?_ GE139.out | refine Ws ?_ GE144.out) | exact HB.out)⟩

/-! ### impl_isLong: function 78 -/
def impl_isLong.f (a0 : ByteArray) : Option (Bool) := some (decide ((a0.size : Int) > 20000))
set_option maxHeartbeats 8000000 in
set_option maxRecDepth 100000 in
theorem impl_isLong.calls (a0 : ByteArray) (r : Bool) (w : World) (h : impl_isLong.f a0 = some r) :
  Calls Try.prog 78 #[.string a0] w fun e w' => e = .returned (.bool r) ∧ Drawn0 w w' := by
 have H : (some (decide ((a0.size : Int) > 20000))) = some r := h
 clear h
 obtain rfl := Option.some.inj H
 go_enter Try.func78, Try.ntmps78
 go_wp2
 go_ret
 exact ⟨by first | rfl | (simp; done) | (simp [*]; done), by repeat (first | exact Drawn0.refl _ | apply Drawn0.step)⟩

/-! ### impl_long: function 146 -/
def impl_long.f (a0 : ByteArray) : Option (Int) := some (a0.size : Int)
set_option maxHeartbeats 8000000 in
set_option maxRecDepth 100000 in
theorem impl_long.calls (a0 : ByteArray) (r : Int) (w : World) (h : impl_long.f a0 = some r) :
  Calls Try.prog 146 #[.string a0] w fun e w' => e = .returned (.int .i64 r) ∧ Drawn0 w w' := by
 have H : (some (a0.size : Int)) = some r := h
 clear h
 obtain rfl := Option.some.inj H
 go_enter Try.func146, Try.ntmps146
 go_wp2
 go_ret
 exact ⟨by first | rfl | (simp; done) | (simp [*]; done), by repeat (first | exact Drawn0.refl _ | apply Drawn0.step)⟩

/-! ### impl_getNum: function 92 -/
mutual
def impl_getNum.l0 : Nat → ByteArray → Int → Int → Int → Option (Int × Int × Int)
 | 0, _, _, _, _ => none
 | k + 1, x0, x1, x5, x6 => (impl_long.f x0).bind fun t146 => (if x1 > (wrap64 ((wrap64 (t146 - 1)) - x6)) then (some (0, 0, 4)) else (if 0 ≤ (wrap64 (x1 + x6)) then (if (wrap64 (x1 + x6)) < (x0.size : Int) then (if 0 ≤ (wrap64 (7 * x6)) then (if x6 = 9 then (impl_getNum.j1 k x0 x1 (Go.bits .or .u64 x5 (shl .u64 (IntKind.u64.wrap (Go.bits .and .u8 (bt x0 (wrap64 (x1 + x6))) 127)) (wrap64 (7 * x6)))) x6 (bt x0 (wrap64 (x1 + x6))) (decide ((bt x0 (wrap64 (x1 + x6))) > 1))) else (impl_getNum.j1 k x0 x1 (Go.bits .or .u64 x5 (shl .u64 (IntKind.u64.wrap (Go.bits .and .u8 (bt x0 (wrap64 (x1 + x6))) 127)) (wrap64 (7 * x6)))) x6 (bt x0 (wrap64 (x1 + x6))) false)) else (none)) else (none)) else (none)))
def impl_getNum.j1 : Nat → ByteArray → Int → Int → Int → Int → Bool → Option (Int × Int × Int)
 | 0, _, _, _, _, _, _ => none
 | k + 1, x0, x1, x5, x6, x7, x34 => if x34 = true then (impl_getNum.j2 k x0 x1 x5 x6 x7 x34) else (if x7 = 0 then (impl_getNum.j2 k x0 x1 x5 x6 x7 (decide (x6 > 0))) else (impl_getNum.j2 k x0 x1 x5 x6 x7 false))
def impl_getNum.j2 : Nat → ByteArray → Int → Int → Int → Int → Bool → Option (Int × Int × Int)
 | 0, _, _, _, _, _, _ => none
 | k + 1, x0, x1, x5, x6, x7, x34 => if x34 = true then (some (0, 0, 3)) else (if x7 < 128 then (some (Go.bits .xor .i64 (wrap64 (x5 / 2)) (wrap64 (-(wrap64 (Go.bits .and .u64 x5 1)))), wrap64 ((wrap64 (x1 + x6)) + 1), 0)) else (impl_getNum.l0 k x0 x1 x5 (wrap64 (x6 + 1))))
end
def impl_getNum.f (k : Nat) (a0 : ByteArray) (a1 : Int) : Option (Int × Int × Int) := if a1 < 0 then (some (0, 0, 1)) else (impl_getNum.l0 k a0 a1 0 0)
theorem impl_getNum.mono_l : ∀ k, (∀ y0 y1 y2 y3, LeO (impl_getNum.l0 k y0 y1 y2 y3) (impl_getNum.l0 (k + 1) y0 y1 y2 y3)) ∧ (∀ y0 y1 y2 y3 y4 y5, LeO (impl_getNum.j1 k y0 y1 y2 y3 y4 y5) (impl_getNum.j1 (k + 1) y0 y1 y2 y3 y4 y5)) ∧ (∀ y0 y1 y2 y3 y4 y5, LeO (impl_getNum.j2 k y0 y1 y2 y3 y4 y5) (impl_getNum.j2 (k + 1) y0 y1 y2 y3 y4 y5))
 | 0 => ⟨fun _ _ _ _ r h => by simp [impl_getNum.l0] at h, fun _ _ _ _ _ _ r h => by simp [impl_getNum.j1] at h, fun _ _ _ _ _ _ r h => by simp [impl_getNum.j2] at h⟩
 | k + 1 => by
  obtain ⟨ih0, ih1, ih2⟩ := impl_getNum.mono_l k
  refine ⟨?_, ?_, ?_⟩
  ·intro y0 y1 y2 y3
   unfold impl_getNum.l0
   repeat' first
   | (with_reducible exact ih0 _ _ _ _)
   | (with_reducible exact ih1 _ _ _ _ _ _)
   | (with_reducible exact ih2 _ _ _ _ _ _)
   | (with_reducible exact LeO.refl _)
   | (with_reducible exact LeO.none _)
   | (with_reducible refine LeO.ite ?_ ?_)
   | (with_reducible refine LeO.bind ?_ (fun _ => ?_))
   | exact ih0 _ _ _ _
   | exact ih1 _ _ _ _ _ _
   | exact ih2 _ _ _ _ _ _
   | exact LeO.none _
   | refine LeO.ite ?_ ?_
   | refine LeO.bind ?_ (fun _ => ?_)
  ·intro y0 y1 y2 y3 y4 y5
   unfold impl_getNum.j1
   repeat' first
   | (with_reducible exact ih0 _ _ _ _)
   | (with_reducible exact ih1 _ _ _ _ _ _)
   | (with_reducible exact ih2 _ _ _ _ _ _)
   | (with_reducible exact LeO.refl _)
   | (with_reducible exact LeO.none _)
   | (with_reducible refine LeO.ite ?_ ?_)
   | (with_reducible refine LeO.bind ?_ (fun _ => ?_))
   | exact ih0 _ _ _ _
   | exact ih1 _ _ _ _ _ _
   | exact ih2 _ _ _ _ _ _
   | exact LeO.none _
   | refine LeO.ite ?_ ?_
   | refine LeO.bind ?_ (fun _ => ?_)
  ·intro y0 y1 y2 y3 y4 y5
   unfold impl_getNum.j2
   repeat' first
   | (with_reducible exact ih0 _ _ _ _)
   | (with_reducible exact ih1 _ _ _ _ _ _)
   | (with_reducible exact ih2 _ _ _ _ _ _)
   | (with_reducible exact LeO.refl _)
   | (with_reducible exact LeO.none _)
   | (with_reducible refine LeO.ite ?_ ?_)
   | (with_reducible refine LeO.bind ?_ (fun _ => ?_))
   | exact ih0 _ _ _ _
   | exact ih1 _ _ _ _ _ _
   | exact ih2 _ _ _ _ _ _
   | exact LeO.none _
   | refine LeO.ite ?_ ?_
   | refine LeO.bind ?_ (fun _ => ?_)
theorem impl_getNum.mono : ∀ a0 a1 k, LeO (impl_getNum.f k a0 a1) (impl_getNum.f (k + 1) a0 a1) := by
 intro a0 a1 k
 obtain ⟨ih0, ih1, ih2⟩ := impl_getNum.mono_l k
 unfold impl_getNum.f
 repeat' first
   | (with_reducible exact ih0 _ _ _ _)
   | (with_reducible exact ih1 _ _ _ _ _ _)
   | (with_reducible exact ih2 _ _ _ _ _ _)
   | (with_reducible exact LeO.refl _)
   | (with_reducible exact LeO.none _)
   | (with_reducible refine LeO.ite ?_ ?_)
   | (with_reducible refine LeO.bind ?_ (fun _ => ?_))
   | exact ih0 _ _ _ _
   | exact ih1 _ _ _ _ _ _
   | exact ih2 _ _ _ _ _ _
   | exact LeO.none _
   | refine LeO.ite ?_ ?_
   | refine LeO.bind ?_ (fun _ => ?_)
set_option maxHeartbeats 8000000 in
set_option maxRecDepth 100000 in
theorem impl_getNum.calls (k : Nat) (a0 : ByteArray) (a1 : Int) (r1 : Int) (r2 : Int) (r3 : Int) (w : World) (h : impl_getNum.f k a0 a1 = some (r1, r2, r3)) :
  Calls Try.prog 92 #[.string a0, .int .i64 a1] w fun e w' => e = .returned (.agg #[.int .i64 r1, .int .i64 r2, .int .i64 r3]) ∧ Below w.heap.size w w' := by
 have hu36 := Try.underlying36
 have HB := AM (Below.refl w.heap.size w)
 have H : (if a1 < 0 then (some (0, 0, 1)) else (impl_getNum.l0 k a0 a1 0 0)) = some (r1, r2, r3) := h
 clear h
 by_cases c3 : a1 < 0
 ·rw [if_pos c3] at H
  have c3b0 : decide (a1 < 0) = true := decide_eq_true c3
  clear c3
  simp only [Option.some.injEq, Prod.mk.injEq] at H
  obtain ⟨rfl, rfl, rfl⟩ := H
  go_enter Try.func92, Try.ntmps92
  go_wp2_with (first | ((with_reducible refine gate_dst (N := 4) rfl ?_); refine box_event ?hg (N := 4) ?hd (cs := #[.int .i64 0, .int .i64 0, .int .i64 0]) (t := 36) ?hr ?_; (case hd => rfl); (case hg => rfl); (case hr => first | (go_simp; done) | (go_simp; rfl)); intro gb145 hg w4 hbox hb; have n0_ := AM (below_step (by repeat (first | (with_reducible first | exact HB.out | apply Wa | apply Wn | apply Wd) | exact HB.out)) hb); have n1_ := AM (hbox); have n2_ := AM ((by rw [hg]; exact (below_size (by repeat (first | (with_reducible first | exact HB.out | apply Wa | apply Wn | apply Wd) | exact HB.out))) : w.heap.size ≤ gb145)); have n3_ := AM ((by rw [hg]; exact (below_size (by repeat (first | (with_reducible first | exact HB.out | apply Wa | apply Wn | apply Wd) | exact HB.out))) : w.heap.size ≤ gb145)); clear HB; have HB := n0_; have BK145 := n1_; have GW145 := n2_; have GE145 := n3_; clear n0_ n1_ n2_ n3_; clear hb hbox hg; have hcz5_0 : w4.cell? ⟨gb145, 0, none⟩ = some (.int .i64 0) := (blk_cell BK145.out 0).trans rfl; have hcz5_1 : w4.cell? ⟨gb145, 1, none⟩ = some (.int .i64 0) := (blk_cell BK145.out 1).trans rfl; have hcz5_2 : w4.cell? ⟨gb145, 2, none⟩ = some (.int .i64 0) := (blk_cell BK145.out 2).trans rfl; have hfz5_0 := blk_frozen BK145.out 0; have hfz5_1 := blk_frozen BK145.out 1; have hfz5_2 := blk_frozen BK145.out 2))
  refine bodyPost_ret (results_cell_row rfl _ _ gb145 36 #[.int .i64 0, .int .i64 0, .int .i64 1] (0, 0) _ rfl (by (with_reducible repeat (first | refine Gn ?_ _ | refine Gd ?_ | refine Ga ?_ _)); refine blk_put (cs := #[.int .i64 0, .int .i64 0, .int .i64 0]) ?_ 2 _ rfl; (with_reducible repeat (first | refine Gn ?_ _ | refine Gd ?_ | refine Ga ?_ _)); refine blk_put (cs := #[.int .i64 0, .int .i64 0, .int .i64 0]) ?_ 1 _ rfl; (with_reducible repeat (first | refine Gn ?_ _ | refine Gd ?_ | refine Ga ?_ _)); refine blk_put (cs := #[.int .i64 0, .int .i64 0, .int .i64 0]) ?_ 0 _ rfl; (with_reducible repeat (first | refine Gn ?_ _ | refine Gd ?_ | refine Ga ?_ _)); exact BK145.out) Try.underlying36 rfl (by kernel_rfl)) rfl ?_
  exact ⟨by first | rfl | (simp [errW_none, errW_some] <;> rfl) | (simp [*, errW_none, errW_some] <;> rfl), by repeat (first | (with_reducible first | exact HB.out | apply Wa | apply Wn | apply Wd | refine Ws ?_ GE145.out) | exact HB.out)⟩
 ·rw [if_neg c3] at H
  have c3b0 : decide (a1 < 0) = false := decide_eq_false c3
  clear c3
  have H' := AM H
  clear H
  go_enter Try.func92, Try.ntmps92
  go_wp2_with (first | ((with_reducible refine gate_dst (N := 4) rfl ?_); refine box_event ?hg (N := 4) ?hd (cs := #[.int .i64 0, .int .i64 0, .int .i64 0]) (t := 36) ?hr ?_; (case hd => rfl); (case hg => rfl); (case hr => first | (go_simp; done) | (go_simp; rfl)); intro gb145 hg w6 hbox hb; have n0_ := AM (below_step (by repeat (first | (with_reducible first | exact HB.out | apply Wa | apply Wn | apply Wd) | exact HB.out)) hb); have n1_ := AM (hbox); have n2_ := AM ((by rw [hg]; exact (below_size (by repeat (first | (with_reducible first | exact HB.out | apply Wa | apply Wn | apply Wd) | exact HB.out))) : w.heap.size ≤ gb145)); have n3_ := AM ((by rw [hg]; exact (below_size (by repeat (first | (with_reducible first | exact HB.out | apply Wa | apply Wn | apply Wd) | exact HB.out))) : w.heap.size ≤ gb145)); clear HB; have HB := n0_; have BK145 := n1_; have GW145 := n2_; have GE145 := n3_; clear n0_ n1_ n2_ n3_; clear hb hbox hg))
  go_loopg [5, 6] k (fun kq v5 v6 w' => ∃ (x5_1 : Int) (x6_1 : Int) (x146000_1 : Int) (x146001_1 : Int) (x146002_1 : Int), v5 = .int .u64 x5_1 ∧ v6 = .int .i64 x6_1 ∧ Aside0 (impl_getNum.l0 kq a0 a1 x5_1 x6_1 = some (r1, r2, r3)) ∧ Aside0 (kq ≤ k) ∧ Aside0 (w'.heap[gb145]? = some (.cells #[.int .i64 x146000_1, .int .i64 x146001_1, .int .i64 x146002_1] 36 (0, 0))) ∧ Aside0 (Below w.heap.size w w'))
  case atStart => exact ⟨(0), (0), (0), (0), (0), (by first | rfl | (simp; done) | (simp [*]; done)), (by first | rfl | (simp; done) | (simp [*]; done)), H', ⟨Nat.le_refl _⟩, ⟨by (with_reducible repeat (first | refine Gn ?_ _ | refine Gd ?_ | refine Ga ?_ _)); exact BK145.out⟩, ⟨by repeat (first | (with_reducible first | exact HB.out | apply Wa | apply Wn | apply Wd | refine Ws ?_ GE145.out) | exact HB.out)⟩⟩
  case round =>
   clear H'
   (try clear p2); (try clear c3); (try clear c3b0); (try clear hcz5_0); (try clear hcz5_1); (try clear hcz5_2); (try clear hfz5_0); (try clear hfz5_1); (try clear hfz5_2)
   obtain ⟨x5_1, x6_1, x146000_1, x146001_1, x146002_1, rfl, rfl, HA, HK1, BK145, HB⟩ := hrel
   cases gk with
   | zero => exact absurd HA.out (by simp [impl_getNum.l0])
   | succ k1 =>
    have H := HA.out
    clear HA
    simp only [impl_getNum.l0] at H
    replace H := Option.bind_eq_some_iff.mp H
    obtain ⟨t146, A70, H⟩ := H
    replace H : (if a1 > (wrap64 ((wrap64 (t146 - 1)) - x6_1)) then (some (0, 0, 4)) else (if 0 ≤ (wrap64 (a1 + x6_1)) then (if (wrap64 (a1 + x6_1)) < (a0.size : Int) then (if 0 ≤ (wrap64 (7 * x6_1)) then (if x6_1 = 9 then (impl_getNum.j1 k1 a0 a1 (Go.bits .or .u64 x5_1 (shl .u64 (IntKind.u64.wrap (Go.bits .and .u8 (bt a0 (wrap64 (a1 + x6_1))) 127)) (wrap64 (7 * x6_1)))) x6_1 (bt a0 (wrap64 (a1 + x6_1))) (decide ((bt a0 (wrap64 (a1 + x6_1))) > 1))) else (impl_getNum.j1 k1 a0 a1 (Go.bits .or .u64 x5_1 (shl .u64 (IntKind.u64.wrap (Go.bits .and .u8 (bt a0 (wrap64 (a1 + x6_1))) 127)) (wrap64 (7 * x6_1)))) x6_1 (bt a0 (wrap64 (a1 + x6_1))) false)) else (none)) else (none)) else (none))) = some (r1, r2, r3) := H
    have A7 := AM A70
    clear A70
    by_cases c8 : a1 > (wrap64 ((wrap64 (t146 - 1)) - x6_1))
    ·rw [if_pos c8] at H
     have c8b0 : decide ((wrap64 ((wrap64 (t146 - 1)) - x6_1)) < a1) = true := decide_eq_true c8
     try have c8b9 : (decide (((((t146 - 1)) - x6_1)) < a1)) = true := (by have hw0 : wrap64 (t146 - 1) = t146 - 1 := (by unfold wrap64; omega); have hw1 : wrap64 (((t146 - 1)) - x6_1) = ((t146 - 1)) - x6_1 := (by unfold wrap64; omega); have z_ := c8b0; simp only [hw0, hw1] at z_; exact z_)
     clear c8
     simp only [Option.some.injEq, Prod.mk.injEq] at H
     obtain ⟨rfl, rfl, rfl⟩ := H
     go_wp2_with (first | ((with_reducible refine gate_callee (f := 146) rfl ?_); refine goesL_ (some 15) rfl rfl Try.func146 (by kernel_rfl) rfl #[.string a0] rfl (by (try simp only [List.map_toArray, List.map_cons, List.map_nil]); first | done | rfl | (simp only [List.length_drop, List.length_take]; rfl)) ?_; (with_reducible refine (impl_long.calls a0 t146 _ A7.out).mono ?_); rintro e w' ⟨rfl, ⟨nd, rfl⟩⟩; refine ⟨_, rfl, ?_⟩; (try (rw [drewN_self wr]; generalize hq_ : World.drewN wr _ = wr; have n0_ : Aside0 (wr.heap[gb145]? = some (.cells #[.int .i64 x146000_1, .int .i64 x146001_1, .int .i64 x146002_1] 36 (0, 0))) := ⟨by rw [← hq_]; exact (by (with_reducible repeat (first | refine Gn ?_ _ | refine Gd ?_ | refine Ga ?_ _)); exact BK145.out)⟩; have n1_ : Aside0 (Below w.heap.size w wr) := ⟨by rw [← hq_]; exact (by repeat (first | (with_reducible first | exact HB.out | apply Wa | apply Wn | apply Wd | refine Ws ?_ GE145.out) | exact HB.out))⟩; clear BK145 HB hq_; have BK145 := n0_; have HB := n1_; clear n0_ n1_)); have hcz9_0 : wr.cell? ⟨gb145, 0, none⟩ = some (.int .i64 x146000_1) := (blk_cell BK145.out 0).trans rfl; have hcz9_1 : wr.cell? ⟨gb145, 1, none⟩ = some (.int .i64 x146001_1) := (blk_cell BK145.out 1).trans rfl; have hcz9_2 : wr.cell? ⟨gb145, 2, none⟩ = some (.int .i64 x146002_1) := (blk_cell BK145.out 2).trans rfl; have hfz9_0 := blk_frozen BK145.out 0; have hfz9_1 := blk_frozen BK145.out 1; have hfz9_2 := blk_frozen BK145.out 2))
     refine bodyPost_ret (results_cell_row rfl _ _ gb145 36 #[.int .i64 0, .int .i64 0, .int .i64 4] (0, 0) _ rfl (by (with_reducible repeat (first | refine Gn ?_ _ | refine Gd ?_ | refine Ga ?_ _)); refine blk_put (cs := #[.int .i64 0, .int .i64 0, .int .i64 x146002_1]) ?_ 2 _ rfl; (with_reducible repeat (first | refine Gn ?_ _ | refine Gd ?_ | refine Ga ?_ _)); refine blk_put (cs := #[.int .i64 0, .int .i64 x146001_1, .int .i64 x146002_1]) ?_ 1 _ rfl; (with_reducible repeat (first | refine Gn ?_ _ | refine Gd ?_ | refine Ga ?_ _)); refine blk_put (cs := #[.int .i64 x146000_1, .int .i64 x146001_1, .int .i64 x146002_1]) ?_ 0 _ rfl; (with_reducible repeat (first | refine Gn ?_ _ | refine Gd ?_ | refine Ga ?_ _)); exact BK145.out) Try.underlying36 rfl (by kernel_rfl)) rfl ?_
     exact ⟨by first | rfl | (simp [errW_none, errW_some] <;> rfl) | (simp [*, errW_none, errW_some] <;> rfl), by repeat (first | (with_reducible first | exact HB.out | apply Wa | apply Wn | apply Wd | refine Ws ?_ GE145.out) | exact HB.out)⟩
    ·rw [if_neg c8] at H
     have c8b0 : decide ((wrap64 ((wrap64 (t146 - 1)) - x6_1)) < a1) = false := decide_eq_false c8
     try have c8b9 : (decide (((((t146 - 1)) - x6_1)) < a1)) = false := (by have hw0 : wrap64 (t146 - 1) = t146 - 1 := (by unfold wrap64; omega); have hw1 : wrap64 (((t146 - 1)) - x6_1) = ((t146 - 1)) - x6_1 := (by unfold wrap64; omega); have z_ := c8b0; simp only [hw0, hw1] at z_; exact z_)
     clear c8
     obtain ⟨ji10, hji10⟩ : ∃ j_ : Int, (wrap64 (a1 + x6_1)) = j_ := ⟨_, rfl⟩
     replace H : (if 0 ≤ (ji10) then (if (ji10) < (a0.size : Int) then (if 0 ≤ (wrap64 (7 * x6_1)) then (if x6_1 = 9 then (impl_getNum.j1 k1 a0 a1 (Go.bits .or .u64 x5_1 (shl .u64 (IntKind.u64.wrap (Go.bits .and .u8 (bt a0 (ji10)) 127)) (wrap64 (7 * x6_1)))) x6_1 (bt a0 (ji10)) (decide ((bt a0 (ji10)) > 1))) else (impl_getNum.j1 k1 a0 a1 (Go.bits .or .u64 x5_1 (shl .u64 (IntKind.u64.wrap (Go.bits .and .u8 (bt a0 (ji10)) 127)) (wrap64 (7 * x6_1)))) x6_1 (bt a0 (ji10)) false)) else (none)) else (none)) else (none)) = some (r1, r2, r3) := by first | (rw [hji10] at H; exact H) | (simp only [hji10] at H ⊢; exact H)
     (try rw [hji10] at A7)
     have hji10w : (IntKind.i64.wrap (a1 + x6_1)) = ji10 := (i64_w _).trans hji10
     by_cases c11 : 0 ≤ (ji10)
     ·rw [if_pos c11] at H
      have c11b0 : decide (0 ≤ (ji10)) = true := decide_eq_true c11
      clear c11
      by_cases c12 : (ji10) < (a0.size : Int)
      ·rw [if_pos c12] at H
       have c12b0 : decide ((ji10) < (a0.size : Int)) = true := decide_eq_true c12
       clear c12
       obtain ⟨ji14, hji14⟩ : ∃ j_ : Int, (wrap64 (7 * x6_1)) = j_ := ⟨_, rfl⟩
       replace H : (if 0 ≤ (ji14) then (if x6_1 = 9 then (impl_getNum.j1 k1 a0 a1 (Go.bits .or .u64 x5_1 (shl .u64 (IntKind.u64.wrap (Go.bits .and .u8 (bt a0 (ji10)) 127)) (ji14))) x6_1 (bt a0 (ji10)) (decide ((bt a0 (ji10)) > 1))) else (impl_getNum.j1 k1 a0 a1 (Go.bits .or .u64 x5_1 (shl .u64 (IntKind.u64.wrap (Go.bits .and .u8 (bt a0 (ji10)) 127)) (ji14))) x6_1 (bt a0 (ji10)) false)) else (none)) = some (r1, r2, r3) := by first | (rw [hji14] at H; exact H) | (simp only [hji14] at H ⊢; exact H)
       (try rw [hji14] at A7)
       have hji14w : (IntKind.i64.wrap (7 * x6_1)) = ji14 := (i64_w _).trans hji14
       by_cases c15 : 0 ≤ (ji14)
       ·rw [if_pos c15] at H
        have c15b0 := eq_true c15
        have c15b1 : decide (0 ≤ (ji14)) = true := decide_eq_true c15
        clear c15
        obtain ⟨ji16, hji16⟩ : ∃ j_ : Int, (shl .u64 (IntKind.u64.wrap (Go.bits .and .u8 (bt a0 (ji10)) 127)) (ji14)) = j_ := ⟨_, rfl⟩
        replace H : (if x6_1 = 9 then (impl_getNum.j1 k1 a0 a1 (Go.bits .or .u64 x5_1 (ji16)) x6_1 (bt a0 (ji10)) (decide ((bt a0 (ji10)) > 1))) else (impl_getNum.j1 k1 a0 a1 (Go.bits .or .u64 x5_1 (ji16)) x6_1 (bt a0 (ji10)) false)) = some (r1, r2, r3) := by first | (rw [hji16] at H; exact H) | (simp only [hji16] at H ⊢; exact H)
        (try rw [hji16] at A7)
        have hji16_ : (IntKind.u64.wrap ((IntKind.u64.wrap (Go.bits .and .u8 (bt a0 (ji10)) 127)) * 2 ^ min (ji14).toNat 64)) = ji16 := hji16
        have hji16z : (ji14) ≤ 64 → (IntKind.u64.wrap ((IntKind.u64.wrap (Go.bits .and .u8 (bt a0 (ji10)) 127)) * 2 ^ (ji14).toNat)) = ji16 := shl_small hji16
        have HC17 := AM H
        clear H
        go_upto_region 10 with (first | ((with_reducible refine gate_callee (f := 146) rfl ?_); refine goesL_ (some 15) rfl rfl Try.func146 (by kernel_rfl) rfl #[.string a0] rfl (by (try simp only [List.map_toArray, List.map_cons, List.map_nil]); first | done | rfl | (simp only [List.length_drop, List.length_take]; rfl)) ?_; (with_reducible refine (impl_long.calls a0 t146 _ A7.out).mono ?_); rintro e w' ⟨rfl, ⟨nd, rfl⟩⟩; refine ⟨_, rfl, ?_⟩; have p13 : 0 ≤ ((ji10) : Int) := of_decide_eq_true (by first | (with_reducible assumption) | assumption); have q13 : (ji10) < (a0.size : Int) := of_decide_eq_true (by first | (with_reducible assumption) | assumption); have hx13 := bt_at a0 (ji10); replace p13 := eq_true p13; replace q13 := eq_true q13))
        (try simp only [Act.put, Pa, List.set_cons_zero, List.set_cons_succ])
        go_cut [34] (fun v34 wc => ∃ (kq : Nat) (x34_16 : Bool), v34 = .bool x34_16 ∧ Aside0 (impl_getNum.j1 kq a0 a1 (Go.bits .or .u64 x5_1 (ji16)) x6_1 (bt a0 (ji10)) x34_16 = some (r1, r2, r3)) ∧ Aside0 (kq ≤ k1) ∧ Aside0 (wc.heap[gb145]? = some (.cells #[.int .i64 x146000_1, .int .i64 x146001_1, .int .i64 x146002_1] 36 (0, 0))) ∧ Aside0 (Below w.heap.size w wc))
        case first =>
         have H := HC17.out
         clear HC17
         by_cases c18 : x6_1 = 9
         ·rw [if_pos c18] at H
          have c18b0 : (x6_1 == 9) = true := beq_iff_eq.mpr c18
          have c18b1 : (x6_1 != 9) = false := bne_eq_false_iff_eq.mpr c18
          clear c18
          (first | rw [c18b0] | (simp only [i64_w, i32_w]; rw [c18b0]) | skip)
          have H' := AM H
          clear H
          go_wp2
          go_meet
          case rel => exact ⟨_, (decide ((bt a0 (ji10)) > 1)), (by first | rfl | (simp; done) | (simp only [← hji10] <;> (first | rfl | simp)) | (simp [*]; done)), H', ⟨by have := HK1.out; first | omega | exact Nat.le_refl _⟩, ⟨by (with_reducible repeat (first | refine Gn ?_ _ | refine Gd ?_ | refine Ga ?_ _)); exact BK145.out⟩, ⟨by repeat (first | (with_reducible first | exact HB.out | apply Wa | apply Wn | apply Wd | refine Ws ?_ GE145.out) | exact HB.out)⟩⟩
         ·rw [if_neg c18] at H
          have c18b0 : (x6_1 == 9) = false := beq_eq_false_iff_ne.mpr c18
          have c18b1 : (x6_1 != 9) = true := bne_iff_ne.mpr c18
          (first | rw [c18b0] | (simp only [i64_w, i32_w]; rw [c18b0]) | skip)
          have H' := AM H
          clear H
          go_wp2
          go_meet
          case rel => exact ⟨_, (false), (by first | rfl | (simp; done) | (simp [*]; done)), H', ⟨by have := HK1.out; first | omega | exact Nat.le_refl _⟩, ⟨by (with_reducible repeat (first | refine Gn ?_ _ | refine Gd ?_ | refine Ga ?_ _)); exact BK145.out⟩, ⟨by repeat (first | (with_reducible first | exact HB.out | apply Wa | apply Wn | apply Wd | refine Ws ?_ GE145.out) | exact HB.out)⟩⟩
        case rest =>
         clear HC17
         (try clear c1); (try clear p1); (try clear q1); (try clear hx1); (try clear p2); (try clear c3); (try clear c3b0); (try clear p6); (try clear c8); (try clear c8b0); (try clear c9); (try clear c11); (try clear c11b0); (try clear c12); (try clear c12b0); (try clear p13); (try clear q13); (try clear hx13); (try clear c14); (try clear c15); (try clear c15b0); (try clear c15b1); (try clear c18); (try clear c18b0); (try clear c18b1); (try clear hcz5_0); (try clear hcz5_1); (try clear hcz5_2); (try clear hcz9_0); (try clear hcz9_1); (try clear hcz9_2); (try clear hfz5_0); (try clear hfz5_1); (try clear hfz5_2); (try clear hfz9_0); (try clear hfz9_1); (try clear hfz9_2); (try clear p13); (try clear p2); (try clear q13)
         obtain ⟨kq, x34_16, rfl, HA, HJ16, BK145, HB⟩ := hcut
         cases kq with
         | zero => exact absurd HA.out (by simp [impl_getNum.j1])
         | succ kj16 =>
          have H := HA.out
          clear HA
          simp only [impl_getNum.j1] at H
          have HC19 := AM H
          clear H
          go_upto_if 34 with (fail)
          go_cut [34] (fun v34 wc => ∃ (kq : Nat) (x34_18 : Bool), v34 = .bool x34_18 ∧ Aside0 (impl_getNum.j2 kq a0 a1 (Go.bits .or .u64 x5_1 (ji16)) x6_1 (bt a0 (ji10)) x34_18 = some (r1, r2, r3)) ∧ Aside0 (kq ≤ kj16) ∧ Aside0 (wc.heap[gb145]? = some (.cells #[.int .i64 x146000_1, .int .i64 x146001_1, .int .i64 x146002_1] 36 (0, 0))) ∧ Aside0 (Below w.heap.size w wc))
          case first =>
           have H := HC19.out
           clear HC19
           by_cases c20 : x34_16 = true
           ·subst c20
            have H1 : (impl_getNum.j2 kj16 a0 a1 (Go.bits .or .u64 x5_1 (ji16)) x6_1 (bt a0 (ji10)) true) = some (r1, r2, r3) := by rw [if_pos rfl] at H; exact H
            clear H
            have H := H1
            clear H1
            have H' := AM H
            clear H
            go_wp2
            go_meet
            case rel => exact ⟨_, (true), (by first | rfl | (simp; done) | (simp [*]; done)), H', ⟨by have := HK1.out; have := HJ16.out; first | omega | exact Nat.le_refl _⟩, ⟨by (with_reducible repeat (first | refine Gn ?_ _ | refine Gd ?_ | refine Ga ?_ _)); exact BK145.out⟩, ⟨by repeat (first | (with_reducible first | exact HB.out | apply Wa | apply Wn | apply Wd | refine Ws ?_ GE145.out) | exact HB.out)⟩⟩
           ·replace c20 := Bool.eq_false_iff.mpr c20
            subst c20
            have H1 : (if (bt a0 (ji10)) = 0 then (impl_getNum.j2 kj16 a0 a1 (Go.bits .or .u64 x5_1 (ji16)) x6_1 (bt a0 (ji10)) (decide (x6_1 > 0))) else (impl_getNum.j2 kj16 a0 a1 (Go.bits .or .u64 x5_1 (ji16)) x6_1 (bt a0 (ji10)) false)) = some (r1, r2, r3) := by rw [if_neg (show ¬ (false = true) by decide)] at H; exact H
            clear H
            have H := H1
            clear H1
            by_cases c21 : (bt a0 (ji10)) = 0
            ·rw [if_pos c21] at H
             have c21b0 : ((bt a0 (ji10)) == 0) = true := beq_iff_eq.mpr c21
             have c21b1 : ((bt a0 (ji10)) != 0) = false := bne_eq_false_iff_eq.mpr c21
             clear c21
             (first | rw [c21b0] | (simp only [i64_w, i32_w]; rw [c21b0]) | skip)
             have H' := AM H
             clear H
             go_wp2
             go_meet
             case rel => exact ⟨_, (decide (x6_1 > 0)), (by first | rfl | (simp; done) | (simp [*]; done)), H', ⟨by have := HK1.out; have := HJ16.out; first | omega | exact Nat.le_refl _⟩, ⟨by (with_reducible repeat (first | refine Gn ?_ _ | refine Gd ?_ | refine Ga ?_ _)); exact BK145.out⟩, ⟨by repeat (first | (with_reducible first | exact HB.out | apply Wa | apply Wn | apply Wd | refine Ws ?_ GE145.out) | exact HB.out)⟩⟩
            ·rw [if_neg c21] at H
             have c21b0 : ((bt a0 (ji10)) == 0) = false := beq_eq_false_iff_ne.mpr c21
             have c21b1 : ((bt a0 (ji10)) != 0) = true := bne_iff_ne.mpr c21
             (first | rw [c21b0] | (simp only [i64_w, i32_w]; rw [c21b0]) | skip)
             have H' := AM H
             clear H
             go_wp2
             go_meet
             case rel => exact ⟨_, (false), (by first | rfl | (simp; done) | (simp [*]; done)), H', ⟨by have := HK1.out; have := HJ16.out; first | omega | exact Nat.le_refl _⟩, ⟨by (with_reducible repeat (first | refine Gn ?_ _ | refine Gd ?_ | refine Ga ?_ _)); exact BK145.out⟩, ⟨by repeat (first | (with_reducible first | exact HB.out | apply Wa | apply Wn | apply Wd | refine Ws ?_ GE145.out) | exact HB.out)⟩⟩
          case rest =>
           clear HC19
           (try clear c1); (try clear p1); (try clear q1); (try clear hx1); (try clear c2); (try clear p2); (try clear c3); (try clear c3b0); (try clear p6); (try clear c8); (try clear c8b0); (try clear c9); (try clear c11); (try clear c11b0); (try clear c12); (try clear c12b0); (try clear p13); (try clear q13); (try clear hx13); (try clear c14); (try clear c15); (try clear c15b0); (try clear c15b1); (try clear c18); (try clear c18b0); (try clear c18b1); (try clear c20); (try clear c21); (try clear c21b0); (try clear c21b1); (try clear hcz5_0); (try clear hcz5_1); (try clear hcz5_2); (try clear hcz9_0); (try clear hcz9_1); (try clear hcz9_2); (try clear hfz5_0); (try clear hfz5_1); (try clear hfz5_2); (try clear hfz9_0); (try clear hfz9_1); (try clear hfz9_2); (try clear p1); (try clear p13); (try clear p2); (try clear p6); (try clear q1); (try clear q13)
           obtain ⟨kq, x34_18, rfl, HA, HJ18, BK145, HB⟩ := hcut
           cases kq with
           | zero => exact absurd HA.out (by simp [impl_getNum.j2])
           | succ kj18 =>
            have H := HA.out
            clear HA
            simp only [impl_getNum.j2] at H
            by_cases c22 : x34_18 = true
            ·subst c22
             have H1 : (some (0, 0, 3)) = some (r1, r2, r3) := by rw [if_pos rfl] at H; exact H
             clear H
             have H := H1
             clear H1
             simp only [Option.some.injEq, Prod.mk.injEq] at H
             obtain ⟨rfl, rfl, rfl⟩ := H
             have hcz23_0 : wc.cell? ⟨gb145, 0, none⟩ = some (.int .i64 x146000_1) := (blk_cell BK145.out 0).trans rfl
             have hcz23_1 : wc.cell? ⟨gb145, 1, none⟩ = some (.int .i64 x146001_1) := (blk_cell BK145.out 1).trans rfl
             have hcz23_2 : wc.cell? ⟨gb145, 2, none⟩ = some (.int .i64 x146002_1) := (blk_cell BK145.out 2).trans rfl
             have hfz23_0 := blk_frozen BK145.out 0
             have hfz23_1 := blk_frozen BK145.out 1
             have hfz23_2 := blk_frozen BK145.out 2
             go_wp2
             refine bodyPost_ret (results_cell_row rfl _ _ gb145 36 #[.int .i64 0, .int .i64 0, .int .i64 3] (0, 0) _ rfl (by (with_reducible repeat (first | refine Gn ?_ _ | refine Gd ?_ | refine Ga ?_ _)); refine blk_put (cs := #[.int .i64 0, .int .i64 0, .int .i64 x146002_1]) ?_ 2 _ rfl; (with_reducible repeat (first | refine Gn ?_ _ | refine Gd ?_ | refine Ga ?_ _)); refine blk_put (cs := #[.int .i64 0, .int .i64 x146001_1, .int .i64 x146002_1]) ?_ 1 _ rfl; (with_reducible repeat (first | refine Gn ?_ _ | refine Gd ?_ | refine Ga ?_ _)); refine blk_put (cs := #[.int .i64 x146000_1, .int .i64 x146001_1, .int .i64 x146002_1]) ?_ 0 _ rfl; (with_reducible repeat (first | refine Gn ?_ _ | refine Gd ?_ | refine Ga ?_ _)); exact BK145.out) Try.underlying36 rfl (by kernel_rfl)) rfl ?_
             exact ⟨by first | rfl | (simp [errW_none, errW_some] <;> rfl) | (simp only [← hji10, ← hji14, ← hji16]; first | rfl | (simp [errW_none, errW_some] <;> rfl)) | (simp [*, errW_none, errW_some] <;> rfl), by repeat (first | (with_reducible first | exact HB.out | apply Wa | apply Wn | apply Wd | refine Ws ?_ GE145.out) | exact HB.out)⟩
            ·replace c22 := Bool.eq_false_iff.mpr c22
             subst c22
             have H1 : (if (bt a0 (ji10)) < 128 then (some (Go.bits .xor .i64 (wrap64 ((Go.bits .or .u64 x5_1 (ji16)) / 2)) (wrap64 (-(wrap64 (Go.bits .and .u64 (Go.bits .or .u64 x5_1 (ji16)) 1)))), wrap64 ((wrap64 (a1 + x6_1)) + 1), 0)) else (impl_getNum.l0 kj18 a0 a1 (Go.bits .or .u64 x5_1 (ji16)) (wrap64 (x6_1 + 1)))) = some (r1, r2, r3) := by rw [if_neg (show ¬ (false = true) by decide)] at H; exact H
             clear H
             have H := H1
             clear H1
             by_cases c24 : (bt a0 (ji10)) < 128
             ·rw [if_pos c24] at H
              have c24b0 : decide ((bt a0 (ji10)) < 128) = true := decide_eq_true c24
              clear c24
              simp only [Option.some.injEq, Prod.mk.injEq] at H
              obtain ⟨rfl, rfl, rfl⟩ := H
              have hcz25_0 : wc.cell? ⟨gb145, 0, none⟩ = some (.int .i64 x146000_1) := (blk_cell BK145.out 0).trans rfl
              have hcz25_1 : wc.cell? ⟨gb145, 1, none⟩ = some (.int .i64 x146001_1) := (blk_cell BK145.out 1).trans rfl
              have hcz25_2 : wc.cell? ⟨gb145, 2, none⟩ = some (.int .i64 x146002_1) := (blk_cell BK145.out 2).trans rfl
              have hfz25_0 := blk_frozen BK145.out 0
              have hfz25_1 := blk_frozen BK145.out 1
              have hfz25_2 := blk_frozen BK145.out 2
              go_wp2
              (try rw [← hji10])
              refine bodyPost_ret (results_cell_row rfl _ _ gb145 36 #[.int .i64 (Go.bits .xor .i64 (wrap64 ((Go.bits .or .u64 x5_1 (ji16)) / 2)) (wrap64 (-(wrap64 (Go.bits .and .u64 (Go.bits .or .u64 x5_1 (ji16)) 1))))), .int .i64 (wrap64 ((wrap64 (a1 + x6_1)) + 1)), .int .i64 0] (0, 0) _ rfl (by (with_reducible repeat (first | refine Gn ?_ _ | refine Gd ?_ | refine Ga ?_ _)); refine blk_put (cs := #[.int .i64 (Go.bits .xor .i64 (wrap64 ((Go.bits .or .u64 x5_1 (ji16)) / 2)) (wrap64 (-(wrap64 (Go.bits .and .u64 (Go.bits .or .u64 x5_1 (ji16)) 1))))), .int .i64 (wrap64 ((wrap64 (a1 + x6_1)) + 1)), .int .i64 x146002_1]) ?_ 2 _ rfl; (with_reducible repeat (first | refine Gn ?_ _ | refine Gd ?_ | refine Ga ?_ _)); refine blk_put (cs := #[.int .i64 (Go.bits .xor .i64 (wrap64 ((Go.bits .or .u64 x5_1 (ji16)) / 2)) (wrap64 (-(wrap64 (Go.bits .and .u64 (Go.bits .or .u64 x5_1 (ji16)) 1))))), .int .i64 x146001_1, .int .i64 x146002_1]) ?_ 1 _ rfl; (with_reducible repeat (first | refine Gn ?_ _ | refine Gd ?_ | refine Ga ?_ _)); refine blk_put (cs := #[.int .i64 x146000_1, .int .i64 x146001_1, .int .i64 x146002_1]) ?_ 0 _ rfl; (with_reducible repeat (first | refine Gn ?_ _ | refine Gd ?_ | refine Ga ?_ _)); exact BK145.out) Try.underlying36 rfl (by kernel_rfl)) rfl ?_
              exact ⟨by first | rfl | (simp [errW_none, errW_some] <;> rfl) | (simp only [← hji10, ← hji14, ← hji16]; first | rfl | (simp [errW_none, errW_some] <;> rfl)) | (simp [*, errW_none, errW_some] <;> rfl), by repeat (first | (with_reducible first | exact HB.out | apply Wa | apply Wn | apply Wd | refine Ws ?_ GE145.out) | exact HB.out)⟩
             ·rw [if_neg c24] at H
              have c24b0 : decide ((bt a0 (ji10)) < 128) = false := decide_eq_false c24
              clear c24
              have H' := AM H
              clear H
              go_wp2
              go_roundg kj18
              case measure => have := HK1.out; have := HJ16.out; have := HJ18.out; omega
              case rel => exact ⟨((Go.bits .or .u64 x5_1 (ji16))), (wrap64 (x6_1 + 1)), (x146000_1), (x146001_1), (x146002_1), (by first | rfl | (simp; done) | (simp only [← hji16] <;> (first | rfl | simp)) | (simp [*]; done)), (by first | rfl | (simp; done) | (simp [*]; done)), H', ⟨by have := HK1.out; have := HJ16.out; have := HJ18.out; omega⟩, ⟨by (with_reducible repeat (first | refine Gn ?_ _ | refine Gd ?_ | refine Ga ?_ _)); exact BK145.out⟩, ⟨by repeat (first | (with_reducible first | exact HB.out | apply Wa | apply Wn | apply Wd | refine Ws ?_ GE145.out) | exact HB.out)⟩⟩
       ·rw [if_neg c15] at H
        exact absurd H (by simp)
      ·rw [if_neg c12] at H
       exact absurd H (by simp)
     ·rw [if_neg c11] at H
      exact absurd H (by simp)

end Go.Proofs.Yteljfdhjbnlgoaa.PFnExactSnapRead
