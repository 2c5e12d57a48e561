-- A program of this session wrote this text: a changed copy of the kit print, with given functions.
import Derived.Test.YteljfdhjbnlgoaaPFnExactSnapReadx0
import Derived.Test.YteljfdhjbnlgoaaPFnExactSnapReadx2
import Derived.Test.YteljfdhjbnlgoaaPFnExactSnapReadx3
import Derived.Test.YteljfdhjbnlgoaaPFnExactSnapReadx4
import Derived.Test.YteljfdhjbnlgoaaPFnExactSnapReadx5
namespace Go.Proofs.Yteljfdhjbnlgoaa.PFnExactSnapRead
open Go.RowKit Go.Proofs.YteljfdhjbnlgoaaW.PrintWords Go.Proofs.YteljfdhjbnlgoaaW.PrintLast Go.Proofs.YteljfdhjbnlgoaaW.PrintMore
attribute [local go_sem] max2_int min2_int max_two min_two max_three min_three max_four min_four   -- for this text's walks alone
set_option linter.unusedVariables false
set_option linter.unusedSimpArgs false

/-! ### spec_l12Snap: function 116 -/
def spec_l12Snap.f (k : Nat) (a0 : ByteArray) : Option (ByteArray × Int × ByteArray × Bool) := (spec_l10Reader_bytes.f a0 0 false 1).bind fun bt121 => ((spec_l10Reader_text.f k bt121.2.1 bt121.2.2.1 bt121.2.2.2).bind fun bt126 => ((spec_l10Reader_num.f k bt126.2.1 bt126.2.2.1 bt126.2.2.2).bind fun bt130 => ((spec_l10Reader_bytes.f bt130.2.1 bt130.2.2.1 bt130.2.2.2 32).bind fun bt134 => (if bt121.1.toList = ([83] : List UInt8) then (if bt134.2.2.2 = true then (some (bt126.1, bt130.1, bt134.1, false)) else (if bt134.2.2.1 = (a0.size : Int) then ((spec_SnapRight.f k bt126.1 bt130.1 bt134.1).bind fun t138 => (some (bt126.1, bt130.1, bt134.1, t138))) else (some (bt126.1, bt130.1, bt134.1, false)))) else (some (bt126.1, bt130.1, bt134.1, false))))))
theorem spec_l12Snap.mono : ∀ a0 k, LeO (spec_l12Snap.f k a0) (spec_l12Snap.f (k + 1) a0) := by
 intro a0 k
 unfold spec_l12Snap.f
 repeat' first
   | (with_reducible exact spec_SnapRight.mono _ _ _ _)
   | (with_reducible exact spec_l10Reader_num.mono _ _ _ _)
   | (with_reducible exact spec_l10Reader_text.mono _ _ _ _)
   | (with_reducible exact LeO.refl _)
   | (with_reducible exact LeO.none _)
   | (with_reducible refine LeO.ite ?_ ?_)
   | (with_reducible refine LeO.bind ?_ (fun _ => ?_))
   | exact spec_SnapRight.mono _ _ _ _
   | exact spec_l10Reader_num.mono _ _ _ _
   | exact spec_l10Reader_text.mono _ _ _ _
   | exact LeO.none _
   | refine LeO.ite ?_ ?_
   | refine LeO.bind ?_ (fun _ => ?_)
def spec_l12Snap.T7 : Bool × List (List Nat × List Nat) := (true, [([], []), ([], []), ([1], [1]), ([2], [2]), ([3], [3]), ([4, 3], [3, 4]), ([5, 3], [3, 5]), ([6, 3], [3, 6]), ([7, 3], [3, 7]), ([3, 8], [3, 8]), ([9, 3], [9]), ([10], [10]), ([11, 10], [10, 11]), ([12, 10], [10, 12]), ([13, 10], [10, 13]), ([10], [10]), ([15, 10], [10, 15]), ([14, 16, 10], [10, 14, 16]), ([10, 17], [10, 17]), ([18, 10], [18]), ([19], [19]), ([20, 19, 19], [19, 20]), ([19, 21], [19, 21]), ([0, 21, 0], [0]), ([22, 23, 0, 1, 2, 3, 4, 5, 6, 7, 8, 9, 10, 11, 12, 13, 14, 15, 16, 17, 18, 19, 20, 21, 22, 23], [22])])
def spec_l12Snap.B7 : List Nat := [0, 0, 2, 6, 14, 30, 62, 126, 254, 510, 1022, 2046, 4094, 8190, 16382, 2046, 34814, 131070, 262142, 524286, 1048574, 2097150, 4194302, 4194303, 16777215]
theorem spec_l12Snap.tab7 : rtab .any (opsOf Try.f116 7) = spec_l12Snap.T7 := by kernel_rfl
theorem spec_l12Snap.bits7 : waitsOk spec_l12Snap.T7.2 spec_l12Snap.B7 = true := by kernel_rfl
set_option maxHeartbeats 8000000 in
set_option maxRecDepth 100000 in
theorem spec_l12Snap.calls (k : Nat) (a0 : ByteArray) (r1 : ByteArray) (r2 : Int) (r3 : ByteArray) (r4 : Bool) (w : World) (h : spec_l12Snap.f k a0 = some (r1, r2, r3, r4)) :
  Calls Try.prog 116 #[.string a0] w fun e w' => e = .returned (.tuple #[.agg #[.string r1, .int .i64 r2, .string r3], .bool r4]) ∧ Below w.heap.size w w' := by
 have hu74 := Try.underlying74
 have hu149 := Try.underlying149
 have HB := AM (Below.refl w.heap.size w)
 have H : ((spec_l10Reader_bytes.f a0 0 false 1).bind fun bt121 => ((spec_l10Reader_text.f k bt121.2.1 bt121.2.2.1 bt121.2.2.2).bind fun bt126 => ((spec_l10Reader_num.f k bt126.2.1 bt126.2.2.1 bt126.2.2.2).bind fun bt130 => ((spec_l10Reader_bytes.f bt130.2.1 bt130.2.2.1 bt130.2.2.2 32).bind fun bt134 => (if bt121.1.toList = ([83] : List UInt8) then (if bt134.2.2.2 = true then (some (bt126.1, bt130.1, bt134.1, false)) else (if bt134.2.2.1 = (a0.size : Int) then ((spec_SnapRight.f k bt126.1 bt130.1 bt134.1).bind fun t138 => (some (bt126.1, bt130.1, bt134.1, t138))) else (some (bt126.1, bt130.1, bt134.1, false)))) else (some (bt126.1, bt130.1, bt134.1, false))))))) = some (r1, r2, r3, r4) := h
 clear h
 replace H := Option.bind_eq_some_iff.mp H
 obtain ⟨⟨t121, t122, t123, t124⟩, A20, H⟩ := H
 replace H : ((spec_l10Reader_text.f k t122 t123 t124).bind fun bt126 => ((spec_l10Reader_num.f k bt126.2.1 bt126.2.2.1 bt126.2.2.2).bind fun bt130 => ((spec_l10Reader_bytes.f bt130.2.1 bt130.2.2.1 bt130.2.2.2 32).bind fun bt134 => (if t121.toList = ([83] : List UInt8) then (if bt134.2.2.2 = true then (some (bt126.1, bt130.1, bt134.1, false)) else (if bt134.2.2.1 = (a0.size : Int) then ((spec_SnapRight.f k bt126.1 bt130.1 bt134.1).bind fun t138 => (some (bt126.1, bt130.1, bt134.1, t138))) else (some (bt126.1, bt130.1, bt134.1, false)))) else (some (bt126.1, bt130.1, bt134.1, false)))))) = some (r1, r2, r3, r4) := H
 have A2 := AM A20
 clear A20
 replace H := Option.bind_eq_some_iff.mp H
 obtain ⟨⟨t126, t127, t128, t129⟩, A30, H⟩ := H
 replace H : ((spec_l10Reader_num.f k t127 t128 t129).bind fun bt130 => ((spec_l10Reader_bytes.f bt130.2.1 bt130.2.2.1 bt130.2.2.2 32).bind fun bt134 => (if t121.toList = ([83] : List UInt8) then (if bt134.2.2.2 = true then (some (t126, bt130.1, bt134.1, false)) else (if bt134.2.2.1 = (a0.size : Int) then ((spec_SnapRight.f k t126 bt130.1 bt134.1).bind fun t138 => (some (t126, bt130.1, bt134.1, t138))) else (some (t126, bt130.1, bt134.1, false)))) else (some (t126, bt130.1, bt134.1, false))))) = some (r1, r2, r3, r4) := H
 have A3 := AM A30
 clear A30
 replace H := Option.bind_eq_some_iff.mp H
 obtain ⟨⟨t130, t131, t132, t133⟩, A40, H⟩ := H
 replace H : ((spec_l10Reader_bytes.f t131 t132 t133 32).bind fun bt134 => (if t121.toList = ([83] : List UInt8) then (if bt134.2.2.2 = true then (some (t126, t130, bt134.1, false)) else (if bt134.2.2.1 = (a0.size : Int) then ((spec_SnapRight.f k t126 t130 bt134.1).bind fun t138 => (some (t126, t130, bt134.1, t138))) else (some (t126, t130, bt134.1, false)))) else (some (t126, t130, bt134.1, false)))) = some (r1, r2, r3, r4) := H
 have A4 := AM A40
 clear A40
 replace H := Option.bind_eq_some_iff.mp H
 obtain ⟨⟨t134, t135, t136, t137⟩, A50, H⟩ := H
 replace H : (if t121.toList = ([83] : List UInt8) then (if t137 = true then (some (t126, t130, t134, false)) else (if t136 = (a0.size : Int) then ((spec_SnapRight.f k t126 t130 t134).bind fun t138 => (some (t126, t130, t134, t138))) else (some (t126, t130, t134, false)))) else (some (t126, t130, t134, false))) = some (r1, r2, r3, r4) := H
 have A5 := AM A50
 clear A50
 by_cases c6 : t121.toList = ([83] : List UInt8)
 ·rw [if_pos c6] at H
  have c6b0 : (t121.toList == ([83] : List UInt8)) = true := beq_iff_eq.mpr c6
  have c6b1 : (t121.toList != ([83] : List UInt8)) = false := bne_eq_false_iff_eq.mpr c6
  clear c6
  by_cases c7 : t137 = true
  ·subst c7
   have H1 : (some (t126, t130, t134, false)) = some (r1, r2, r3, r4) := by rw [if_pos rfl] at H; exact H
   clear H
   have H := H1
   clear H1
   simp only [Option.some.injEq, Prod.mk.injEq] at H
   obtain ⟨rfl, rfl, rfl, rfl⟩ := H
   go_enter Try.func116, Try.ntmps116
   try go_wp2_with (first | ((with_reducible refine gate_dst (N := 2) rfl ?_); (try (refine gate_guard (by rfl) ?_; dsimp only)); refine box_event ?hg (N := 2) ?hd (cs := #[.string (⟨#[]⟩ : ByteArray), .int .i64 0, .string (⟨#[]⟩ : ByteArray)]) (t := 74) ?hr ?_; (case hd => rfl); (case hg => rfl); (case hr => first | (go_simp; done) | (go_simp; rfl)); intro gb119 hg w8 hbox hb; have n0_ := AM (below_step (by repeat (first | (with_reducible first | exact HB.out | apply Wa | apply Wn | apply Wd) | exact HB.out)) hb); have n1_ := AM (hbox); have n2_ := AM ((by rw [hg]; exact (below_size (by repeat (first | (with_reducible first | exact HB.out | apply Wa | apply Wn | apply Wd) | exact HB.out))) : w.heap.size ≤ gb119)); have n3_ := AM ((by rw [hg]; exact (below_size (by repeat (first | (with_reducible first | exact HB.out | apply Wa | apply Wn | apply Wd) | exact HB.out))) : w.heap.size ≤ gb119)); clear HB; have HB := n0_; have BK119 := n1_; have GW119 := n2_; have GE119 := n3_; clear n0_ n1_ n2_ n3_; clear hb hbox hg) | ((with_reducible refine gate_dst (N := 9) rfl ?_); (try (refine gate_guard (by rfl) ?_; dsimp only)); refine box_event ?hg (N := 9) ?hd (cs := #[.string a0, .int .i64 0, .bool false]) (t := 149) ?hr ?_; (case hd => rfl); (case hg => rfl); (case hr => first | (go_simp; done) | (go_simp; rfl)); intro gb120 hg w9 hbox hb; have n0_ := AM (blk_below (g := gb119) (o := .cells #[.string (⟨#[]⟩ : ByteArray), .int .i64 0, .string (⟨#[]⟩ : ByteArray)] 74 (0, 0)) (by (with_reducible repeat (first | refine Gn ?_ _ | refine Gd ?_ | refine Ga ?_ _)); exact BK119.out) hb); have n1_ := AM (below_step (by repeat (first | (with_reducible first | exact HB.out | apply Wa | apply Wn | apply Wd | refine Ws ?_ GE119.out) | exact HB.out)) hb); have n2_ := AM ((by rw [hg]; exact Nat.ne_of_lt (blk_lt (g := gb119) (o := .cells #[.string (⟨#[]⟩ : ByteArray), .int .i64 0, .string (⟨#[]⟩ : ByteArray)] 74 (0, 0)) (by (with_reducible repeat (first | refine Gn ?_ _ | refine Gd ?_ | refine Ga ?_ _)); exact BK119.out)) : gb119 ≠ gb120)); have n3_ := AM ((by rw [hg]; exact Nat.ne_of_gt (blk_lt (g := gb119) (o := .cells #[.string (⟨#[]⟩ : ByteArray), .int .i64 0, .string (⟨#[]⟩ : ByteArray)] 74 (0, 0)) (by (with_reducible repeat (first | refine Gn ?_ _ | refine Gd ?_ | refine Ga ?_ _)); exact BK119.out)) : gb120 ≠ gb119)); have n4_ := AM ((⟨hbox, (by rw [hg]; exact (below_size (by repeat (first | (with_reducible first | exact HB.out | apply Wa | apply Wn | apply Wd | refine Ws ?_ GE119.out) | exact HB.out))) : w.heap.size ≤ gb120)⟩ : IsS149 w w9 gb120 a0 0 false)); clear BK119; clear HB; have BK119 := n0_; have HB := n1_; have NB119_120 := n2_; have NB120_119 := n3_; have HI120 := n4_; clear n0_ n1_ n2_ n3_ n4_; clear hb hbox hg) | ((with_reducible refine gate_callee (f := 135) rfl ?_); refine goesL_ (some 11) rfl rfl Try.func135 (by kernel_rfl) rfl #[.pointer (some ⟨gb120, 0, none⟩), .int .i64 1] rfl (by (try simp only [List.map_toArray, List.map_cons, List.map_nil]); first | done | rfl | (simp only [List.length_drop, List.length_take]; rfl)) ?_; (with_reducible refine (spec_l10Reader_bytes.calls gb120 a0 0 false 1 t121 t122 t123 t124 w _ ?side1 ?side2 A2.out).mono ?_); (case side1 => repeat (first | (with_reducible first | exact HI120.out | apply IsS149.alloc | apply IsS149.drewN | apply IsS149.drew | apply IsS149.set_0 | apply IsS149.set_1 | apply IsS149.set_2 | refine IsS149.far ?_ NB120_119.out _) | exact HI120.out)); (case side2 => repeat (first | (with_reducible first | exact HB.out | apply Wa | apply Wn | apply Wd | refine Ws ?_ (IsS149.ge HI120.out) | refine Ws ?_ GE119.out) | exact HB.out)); rintro e w10 ⟨rfl, hi, hb, hk⟩; refine ⟨_, rfl, ?_⟩; have n0_ := AM (KeepBut.blk hk (g' := gb119) (o := .cells #[.string (⟨#[]⟩ : ByteArray), .int .i64 0, .string (⟨#[]⟩ : ByteArray)] 74 (0, 0)) (by (with_reducible repeat (first | refine Gn ?_ _ | refine Gd ?_ | refine Ga ?_ _)); exact BK119.out) NB119_120.out (by simp)); have n1_ := AM (hb); have n2_ := AM (hi); clear BK119; clear HB; clear HI120; have BK119 := n0_; have HB := n1_; have HI120 := n2_; clear n0_ n1_ n2_; (try clear hb); (try clear hb2); (try clear hk); (try clear hi)) | ((with_reducible refine gate_dst (N := 6) rfl ?_); (try (refine gate_guard (by rfl) ?_; dsimp only)); refine box_event ?hg (N := 6) ?hd (cs := #[.string (⟨#[]⟩ : ByteArray), .int .i64 0, .string (⟨#[]⟩ : ByteArray)]) (t := 74) ?hr ?_; (case hd => rfl); (case hg => rfl); (case hr => first | (go_simp; done) | (go_simp; rfl)); intro gb125 hg w11 hbox hb; have n0_ := AM (blk_below (g := gb119) (o := .cells #[.string (⟨#[]⟩ : ByteArray), .int .i64 0, .string (⟨#[]⟩ : ByteArray)] 74 (0, 0)) (by (with_reducible repeat (first | refine Gn ?_ _ | refine Gd ?_ | refine Ga ?_ _)); exact BK119.out) hb); have n1_ := AM (IsS149.below (by repeat (first | (with_reducible first | exact HI120.out | apply IsS149.alloc | apply IsS149.drewN | apply IsS149.drew | apply IsS149.set_0 | apply IsS149.set_1 | apply IsS149.set_2 | refine IsS149.far ?_ NB120_119.out _) | exact HI120.out)) hb); have n2_ := AM (below_step (by repeat (first | (with_reducible first | exact HB.out | apply Wa | apply Wn | apply Wd | refine Ws ?_ (IsS149.ge HI120.out) | refine Ws ?_ GE119.out) | exact HB.out)) hb); have n3_ := AM (hbox); have n4_ := AM ((by rw [hg]; exact (below_size (by repeat (first | (with_reducible first | exact HB.out | apply Wa | apply Wn | apply Wd | refine Ws ?_ (IsS149.ge HI120.out) | refine Ws ?_ GE119.out) | exact HB.out))) : w.heap.size ≤ gb125)); have n5_ := AM ((by rw [hg]; exact (below_size (by repeat (first | (with_reducible first | exact HB.out | apply Wa | apply Wn | apply Wd | refine Ws ?_ (IsS149.ge HI120.out) | refine Ws ?_ GE119.out) | exact HB.out))) : w.heap.size ≤ gb125)); have n6_ := AM ((by rw [hg]; exact Nat.ne_of_lt (blk_lt (g := gb119) (o := .cells #[.string (⟨#[]⟩ : ByteArray), .int .i64 0, .string (⟨#[]⟩ : ByteArray)] 74 (0, 0)) (by (with_reducible repeat (first | refine Gn ?_ _ | refine Gd ?_ | refine Ga ?_ _)); exact BK119.out)) : gb119 ≠ gb125)); have n7_ := AM ((by rw [hg]; exact Nat.ne_of_gt (blk_lt (g := gb119) (o := .cells #[.string (⟨#[]⟩ : ByteArray), .int .i64 0, .string (⟨#[]⟩ : ByteArray)] 74 (0, 0)) (by (with_reducible repeat (first | refine Gn ?_ _ | refine Gd ?_ | refine Ga ?_ _)); exact BK119.out)) : gb125 ≠ gb119)); have n8_ := AM ((by rw [hg]; exact Nat.ne_of_lt (IsS149.lt (show IsS149 w _ gb120 t122 t123 t124 from by repeat (first | (with_reducible first | exact HI120.out | apply IsS149.alloc | apply IsS149.drewN | apply IsS149.drew | apply IsS149.set_0 | apply IsS149.set_1 | apply IsS149.set_2 | refine IsS149.far ?_ NB120_119.out _) | exact HI120.out))) : gb120 ≠ gb125)); have n9_ := AM ((by rw [hg]; exact Nat.ne_of_gt (IsS149.lt (show IsS149 w _ gb120 t122 t123 t124 from by repeat (first | (with_reducible first | exact HI120.out | apply IsS149.alloc | apply IsS149.drewN | apply IsS149.drew | apply IsS149.set_0 | apply IsS149.set_1 | apply IsS149.set_2 | refine IsS149.far ?_ NB120_119.out _) | exact HI120.out))) : gb125 ≠ gb120)); clear BK119; clear HI120; clear HB; have BK119 := n0_; have HI120 := n1_; have HB := n2_; have BK125 := n3_; have GW125 := n4_; have GE125 := n5_; have NB119_125 := n6_; have NB125_119 := n7_; have NB120_125 := n8_; have NB125_120 := n9_; clear n0_ n1_ n2_ n3_ n4_ n5_ n6_ n7_ n8_ n9_; clear hb hbox hg; have hnb12 := NB125_119.out; have hnc12 := NB119_125.out; have hnb13 := NB125_120.out; have hnc13 := NB120_125.out; have hcz14_0 : w11.cell? ⟨gb125, 0, none⟩ = some (.string (⟨#[]⟩ : ByteArray)) := (blk_cell BK125.out 0).trans rfl; have hcz14_1 : w11.cell? ⟨gb125, 1, none⟩ = some (.int .i64 0) := (blk_cell BK125.out 1).trans rfl; have hcz14_2 : w11.cell? ⟨gb125, 2, none⟩ = some (.string (⟨#[]⟩ : ByteArray)) := (blk_cell BK125.out 2).trans rfl; have hfz14_0 := blk_frozen BK125.out 0; have hfz14_1 := blk_frozen BK125.out 1; have hfz14_2 := blk_frozen BK125.out 2) | ((with_reducible refine gate_callee (f := 136) rfl ?_); refine goesL_ (some 14) rfl rfl Try.func136 (by kernel_rfl) rfl #[.pointer (some ⟨gb120, 0, none⟩)] rfl (by (try simp only [List.map_toArray, List.map_cons, List.map_nil]); first | done | rfl | (simp only [List.length_drop, List.length_take]; rfl)) ?_; (with_reducible refine (spec_l10Reader_text.calls k gb120 t122 t123 t124 t126 t127 t128 t129 w _ ?side1 ?side2 A3.out).mono ?_); (case side1 => repeat (first | (with_reducible first | exact HI120.out | apply IsS149.alloc | apply IsS149.drewN | apply IsS149.drew | apply IsS149.set_0 | apply IsS149.set_1 | apply IsS149.set_2 | refine IsS149.far ?_ NB120_119.out _ | refine IsS149.far ?_ NB120_125.out _) | exact HI120.out)); (case side2 => repeat (first | (with_reducible first | exact HB.out | apply Wa | apply Wn | apply Wd | refine Ws ?_ (IsS149.ge HI120.out) | refine Ws ?_ GE119.out | refine Ws ?_ GE125.out) | exact HB.out)); rintro e w15 ⟨rfl, hi, hb, hk⟩; refine ⟨_, rfl, ?_⟩; have n0_ := AM (KeepBut.blk hk (g' := gb119) (o := .cells #[.string (⟨#[]⟩ : ByteArray), .int .i64 0, .string (⟨#[]⟩ : ByteArray)] 74 (0, 0)) (by (with_reducible repeat (first | refine Gn ?_ _ | refine Gd ?_ | refine Ga ?_ _)); refine blk_far ?_ NB119_125.out _; (with_reducible repeat (first | refine Gn ?_ _ | refine Gd ?_ | refine Ga ?_ _)); refine blk_far ?_ NB119_125.out _; (with_reducible repeat (first | refine Gn ?_ _ | refine Gd ?_ | refine Ga ?_ _)); refine blk_far ?_ NB119_125.out _; (with_reducible repeat (first | refine Gn ?_ _ | refine Gd ?_ | refine Ga ?_ _)); exact BK119.out) NB119_120.out (by simp)); have n1_ := AM (KeepBut.blk hk (g' := gb125) (o := .cells #[.string (⟨#[]⟩ : ByteArray), .int .i64 0, .string (⟨#[]⟩ : ByteArray)] 74 (0, 0)) (by (with_reducible repeat (first | refine Gn ?_ _ | refine Gd ?_ | refine Ga ?_ _)); refine blk_put (cs := #[.string (⟨#[]⟩ : ByteArray), .int .i64 0, .string (⟨#[]⟩ : ByteArray)]) ?_ 2 _ rfl; (with_reducible repeat (first | refine Gn ?_ _ | refine Gd ?_ | refine Ga ?_ _)); refine blk_put (cs := #[.string (⟨#[]⟩ : ByteArray), .int .i64 0, .string (⟨#[]⟩ : ByteArray)]) ?_ 1 _ rfl; (with_reducible repeat (first | refine Gn ?_ _ | refine Gd ?_ | refine Ga ?_ _)); refine blk_put (cs := #[.string (⟨#[]⟩ : ByteArray), .int .i64 0, .string (⟨#[]⟩ : ByteArray)]) ?_ 0 _ rfl; (with_reducible repeat (first | refine Gn ?_ _ | refine Gd ?_ | refine Ga ?_ _)); exact BK125.out) NB125_120.out (by simp)); have n2_ := AM (hb); have n3_ := AM (hi); clear BK119; clear BK125; clear HB; clear HI120; have BK119 := n0_; have BK125 := n1_; have HB := n2_; have HI120 := n3_; clear n0_ n1_ n2_ n3_; (try clear hb); (try clear hb2); (try clear hk); (try clear hi); have hcz16_0 : w15.cell? ⟨gb125, 0, none⟩ = some (.string (⟨#[]⟩ : ByteArray)) := (blk_cell BK125.out 0).trans rfl; have hcz16_1 : w15.cell? ⟨gb125, 1, none⟩ = some (.int .i64 0) := (blk_cell BK125.out 1).trans rfl; have hcz16_2 : w15.cell? ⟨gb125, 2, none⟩ = some (.string (⟨#[]⟩ : ByteArray)) := (blk_cell BK125.out 2).trans rfl; have hfz16_0 := blk_frozen BK125.out 0; have hfz16_1 := blk_frozen BK125.out 1; have hfz16_2 := blk_frozen BK125.out 2) | ((with_reducible refine gate_callee (f := 134) rfl ?_); refine goesL_ (some 17) rfl rfl Try.func134 (by kernel_rfl) rfl #[.pointer (some ⟨gb120, 0, none⟩)] rfl (by (try simp only [List.map_toArray, List.map_cons, List.map_nil]); first | done | rfl | (simp only [List.length_drop, List.length_take]; rfl)) ?_; (with_reducible refine (spec_l10Reader_num.calls k gb120 t127 t128 t129 t130 t131 t132 t133 w _ ?side1 ?side2 A4.out).mono ?_); (case side1 => repeat (first | (with_reducible first | exact HI120.out | apply IsS149.alloc | apply IsS149.drewN | apply IsS149.drew | apply IsS149.set_0 | apply IsS149.set_1 | apply IsS149.set_2 | refine IsS149.far ?_ NB120_119.out _ | refine IsS149.far ?_ NB120_125.out _) | exact HI120.out)); (case side2 => repeat (first | (with_reducible first | exact HB.out | apply Wa | apply Wn | apply Wd | refine Ws ?_ (IsS149.ge HI120.out) | refine Ws ?_ GE119.out | refine Ws ?_ GE125.out) | exact HB.out)); rintro e w17 ⟨rfl, hi, hb, hk⟩; refine ⟨_, rfl, ?_⟩; have n0_ := AM (KeepBut.blk hk (g' := gb119) (o := .cells #[.string (⟨#[]⟩ : ByteArray), .int .i64 0, .string (⟨#[]⟩ : ByteArray)] 74 (0, 0)) (by (with_reducible repeat (first | refine Gn ?_ _ | refine Gd ?_ | refine Ga ?_ _)); refine blk_far ?_ NB119_125.out _; (with_reducible repeat (first | refine Gn ?_ _ | refine Gd ?_ | refine Ga ?_ _)); exact BK119.out) NB119_120.out (by simp)); have n1_ := AM (KeepBut.blk hk (g' := gb125) (o := .cells #[.string t126, .int .i64 0, .string (⟨#[]⟩ : ByteArray)] 74 (0, 0)) (by (with_reducible repeat (first | refine Gn ?_ _ | refine Gd ?_ | refine Ga ?_ _)); refine blk_put (cs := #[.string (⟨#[]⟩ : ByteArray), .int .i64 0, .string (⟨#[]⟩ : ByteArray)]) ?_ 0 _ rfl; (with_reducible repeat (first | refine Gn ?_ _ | refine Gd ?_ | refine Ga ?_ _)); exact BK125.out) NB125_120.out (by simp)); have n2_ := AM (hb); have n3_ := AM (hi); clear BK119; clear BK125; clear HB; clear HI120; have BK119 := n0_; have BK125 := n1_; have HB := n2_; have HI120 := n3_; clear n0_ n1_ n2_ n3_; (try clear hb); (try clear hb2); (try clear hk); (try clear hi); have hcz18_0 : w17.cell? ⟨gb125, 0, none⟩ = some (.string t126) := (blk_cell BK125.out 0).trans rfl; have hcz18_1 : w17.cell? ⟨gb125, 1, none⟩ = some (.int .i64 0) := (blk_cell BK125.out 1).trans rfl; have hcz18_2 : w17.cell? ⟨gb125, 2, none⟩ = some (.string (⟨#[]⟩ : ByteArray)) := (blk_cell BK125.out 2).trans rfl; have hfz18_0 := blk_frozen BK125.out 0; have hfz18_1 := blk_frozen BK125.out 1; have hfz18_2 := blk_frozen BK125.out 2) | ((with_reducible refine gate_callee (f := 135) rfl ?_); refine goesL_ (some 20) rfl rfl Try.func135 (by kernel_rfl) rfl #[.pointer (some ⟨gb120, 0, none⟩), .int .i64 32] rfl (by (try simp only [List.map_toArray, List.map_cons, List.map_nil]); first | done | rfl | (simp only [List.length_drop, List.length_take]; rfl)) ?_; (with_reducible refine (spec_l10Reader_bytes.calls gb120 t131 t132 t133 32 t134 t135 t136 true w _ ?side1 ?side2 A5.out).mono ?_); (case side1 => repeat (first | (with_reducible first | exact HI120.out | apply IsS149.alloc | apply IsS149.drewN | apply IsS149.drew | apply IsS149.set_0 | apply IsS149.set_1 | apply IsS149.set_2 | refine IsS149.far ?_ NB120_119.out _ | refine IsS149.far ?_ NB120_125.out _) | exact HI120.out)); (case side2 => repeat (first | (with_reducible first | exact HB.out | apply Wa | apply Wn | apply Wd | refine Ws ?_ (IsS149.ge HI120.out) | refine Ws ?_ GE119.out | refine Ws ?_ GE125.out) | exact HB.out)); rintro e w19 ⟨rfl, hi, hb, hk⟩; refine ⟨_, rfl, ?_⟩; have n0_ := AM (KeepBut.blk hk (g' := gb119) (o := .cells #[.string (⟨#[]⟩ : ByteArray), .int .i64 0, .string (⟨#[]⟩ : ByteArray)] 74 (0, 0)) (by (with_reducible repeat (first | refine Gn ?_ _ | refine Gd ?_ | refine Ga ?_ _)); refine blk_far ?_ NB119_125.out _; (with_reducible repeat (first | refine Gn ?_ _ | refine Gd ?_ | refine Ga ?_ _)); exact BK119.out) NB119_120.out (by simp)); have n1_ := AM (KeepBut.blk hk (g' := gb125) (o := .cells #[.string t126, .int .i64 t130, .string (⟨#[]⟩ : ByteArray)] 74 (0, 0)) (by (with_reducible repeat (first | refine Gn ?_ _ | refine Gd ?_ | refine Ga ?_ _)); refine blk_put (cs := #[.string t126, .int .i64 0, .string (⟨#[]⟩ : ByteArray)]) ?_ 1 _ rfl; (with_reducible repeat (first | refine Gn ?_ _ | refine Gd ?_ | refine Ga ?_ _)); exact BK125.out) NB125_120.out (by simp)); have n2_ := AM (hb); have n3_ := AM (hi); clear BK119; clear BK125; clear HB; clear HI120; have BK119 := n0_; have BK125 := n1_; have HB := n2_; have HI120 := n3_; clear n0_ n1_ n2_ n3_; (try clear hb); (try clear hb2); (try clear hk); (try clear hi); have hcz20_0 : w19.cell? ⟨gb125, 0, none⟩ = some (.string t126) := (blk_cell BK125.out 0).trans rfl; have hcz20_1 : w19.cell? ⟨gb125, 1, none⟩ = some (.int .i64 t130) := (blk_cell BK125.out 1).trans rfl; have hcz20_2 : w19.cell? ⟨gb125, 2, none⟩ = some (.string (⟨#[]⟩ : ByteArray)) := (blk_cell BK125.out 2).trans rfl; have hfz20_0 := blk_frozen BK125.out 0; have hfz20_1 := blk_frozen BK125.out 1; have hfz20_2 := blk_frozen BK125.out 2))
   have n0_ : Aside0 ((w19.setCell ⟨gb125, 2, none⟩ (.string t134)).heap[gb119]? = some (.cells #[.string (⟨#[]⟩ : ByteArray), .int .i64 0, .string (⟨#[]⟩ : ByteArray)] 74 (0, 0))) := ⟨by (with_reducible repeat (first | refine Gn ?_ _ | refine Gd ?_ | refine Ga ?_ _)); refine blk_far ?_ NB119_125.out _; (with_reducible repeat (first | refine Gn ?_ _ | refine Gd ?_ | refine Ga ?_ _)); exact BK119.out⟩
   have n1_ : Aside0 ((w19.setCell ⟨gb125, 2, none⟩ (.string t134)).heap[gb125]? = some (.cells #[.string t126, .int .i64 t130, .string t134] 74 (0, 0))) := ⟨by (with_reducible repeat (first | refine Gn ?_ _ | refine Gd ?_ | refine Ga ?_ _)); refine blk_put (cs := #[.string t126, .int .i64 t130, .string (⟨#[]⟩ : ByteArray)]) ?_ 2 _ rfl; (with_reducible repeat (first | refine Gn ?_ _ | refine Gd ?_ | refine Ga ?_ _)); exact BK125.out⟩
   have n2_ : Aside0 (IsS149 w (w19.setCell ⟨gb125, 2, none⟩ (.string t134)) gb120 t135 t136 true) := ⟨by repeat (first | (with_reducible first | exact HI120.out | apply IsS149.alloc | apply IsS149.drewN | apply IsS149.drew | apply IsS149.set_0 | apply IsS149.set_1 | apply IsS149.set_2 | refine IsS149.far ?_ NB120_119.out _ | refine IsS149.far ?_ NB120_125.out _) | exact HI120.out)⟩
   have n3_ : Aside0 (Below w.heap.size w (w19.setCell ⟨gb125, 2, none⟩ (.string t134))) := ⟨by repeat (first | (with_reducible first | exact HB.out | apply Wa | apply Wn | apply Wd | refine Ws ?_ (IsS149.ge HI120.out) | refine Ws ?_ GE119.out | refine Ws ?_ GE125.out) | exact HB.out)⟩
   (try clear BK119)
   (try clear BK125)
   (try clear HI120)
   (try clear HB)
   generalize (w19.setCell ⟨gb125, 2, none⟩ (.string t134)) = w21 at n0_ n1_ n2_ n3_ ⊢
   have BK119 := n0_
   have BK125 := n1_
   have HI120 := n2_
   have HB := n3_
   clear n0_ n1_ n2_ n3_
   have n0_ := AM (Gd BK119.out)
   have n1_ := AM (Gd BK125.out)
   have n2_ := AM (IsS149.drew HI120.out)
   have n3_ := AM (Wd HB.out)
   clear BK119
   clear BK125
   clear HI120
   clear HB
   have BK119 := n0_
   have BK125 := n1_
   have HI120 := n2_
   have HB := n3_
   clear n0_ n1_ n2_ n3_
   refine start_ (n := 25) (S := fun w' => w'.cell? ⟨gb125, 0, none⟩ = some (.string t126) ∧ w'.cell? ⟨gb125, 1, none⟩ = some (.int .i64 t130) ∧ w'.cell? ⟨gb125, 2, none⟩ = some (.string t134) ∧ w'.cell? ⟨gb120, 0, none⟩ = some (.string t135) ∧ w'.cell? ⟨gb120, 1, none⟩ = some (.int .i64 t136) ∧ w'.cell? ⟨gb120, 2, none⟩ = some (.bool true)) (ds := []) #[O,O,O,O,O,O,O,O,O,O,O,O,O,O,O,O,O,O,O,O,O,O,O,O,O] (by kernel_rfl) rfl rfl ⟨(blk_cell BK125.out 0).trans rfl, (blk_cell BK125.out 1).trans rfl, (blk_cell BK125.out 2).trans rfl, (cellS149_0 HI120.out.1), (cellS149_1 HI120.out.1), (cellS149_2 HI120.out.1)⟩ (fun hHeld => ?_); refine with_tabW spec_l12Snap.tab7 spec_l12Snap.bits7 (fun HT_ HW_ => ?_)
   generalize w21.drew = w22 at BK119 BK125 HI120 HB hHeld ⊢
   refine pure_ (i := 1) (N := some 23) (v := ?_) (a' := ?_) #[O,I,O,O,O,O,O,O,O,O,O,O,O,O,O,O,O,O,O,O,O,O,O,O,O] rfl rfl (any_of HT_.out (by kernel_rfl)) (fun _ _ _ h => h) (Or.inl ⟨by rfl, ?_⟩) ?_ ?_
   rotate_left
   ·intro w'
    go_simp
    with_reducible rfl
   rotate_left
   ·simp only [Act.put, Pa, List.set_cons_zero, List.set_cons_succ, i64_w, i32_w]
    rfl
   refine pure_ (i := 2) (N := some 24) (v := ?_) (a' := ?_) #[O,I,I,O,O,O,O,O,O,O,O,O,O,O,O,O,O,O,O,O,O,O,O,O,O] rfl rfl (any_of HT_.out (by kernel_rfl)) (fun _ _ _ h => h) (Or.inl ⟨by rfl, ?_⟩) ?_ ?_
   rotate_left
   ·intro w'
    go_simp
    with_reducible rfl
   rotate_left
   ·simp only [Act.put, Pa, List.set_cons_zero, List.set_cons_succ, i64_w, i32_w]
    rfl
   refine pure_ (i := 3) (N := some 25) (v := ?_) (a' := ?_) #[O,I,I,I,O,O,O,O,O,O,O,O,O,O,O,O,O,O,O,O,O,O,O,O,O] rfl rfl (any_of HT_.out (by kernel_rfl)) (fun _ _ _ h => h) (Or.inl ⟨by rfl, ?_⟩) ?_ ?_
   rotate_left
   ·intro w'
    go_simp
    with_reducible rfl
   rotate_left
   ·simp only [Act.put, Pa, List.set_cons_zero, List.set_cons_succ, i64_w, i32_w]
    rfl
   refine pure_ (i := 4) (N := some 26) (v := ?_) (a' := ?_) #[O,I,I,I,I,O,O,O,O,O,O,O,O,O,O,O,O,O,O,O,O,O,O,O,O] rfl rfl (any_of HT_.out (by kernel_rfl)) (fun _ _ _ h => h) (Or.inl ⟨by rfl, ?_⟩) ?_ ?_
   rotate_left
   ·intro w'
    go_simp
    with_reducible rfl
   rotate_left
   ·simp only [Act.put, Pa, List.set_cons_zero, List.set_cons_succ, i64_w, i32_w]
    rfl
   refine pure_ (i := 5) (N := some 27) (v := ?_) (a' := ?_) #[O,I,I,I,I,I,O,O,O,O,O,O,O,O,O,O,O,O,O,O,O,O,O,O,O] rfl rfl (any_of HT_.out (by kernel_rfl)) (fun _ _ _ h => h) (Or.inl ⟨by rfl, ?_⟩) ?_ ?_
   rotate_left
   ·intro w'
    go_simp
    with_reducible rfl
   rotate_left
   ·simp only [Act.put, Pa, List.set_cons_zero, List.set_cons_succ, i64_w, i32_w]
    rfl
   refine pure_ (i := 6) (N := some 28) (v := ?_) (a' := ?_) #[O,I,I,I,I,I,I,O,O,O,O,O,O,O,O,O,O,O,O,O,O,O,O,O,O] rfl rfl (any_of HT_.out (by kernel_rfl)) (fun _ _ _ h => h) (Or.inl ⟨by rfl, ?_⟩) ?_ ?_
   rotate_left
   ·intro w'
    go_simp
    with_reducible rfl
   rotate_left
   ·simp only [Act.put, Pa, List.set_cons_zero, List.set_cons_succ, i64_w, i32_w]
    rfl
   refine take_ (i := 0) (N := some 22) (v := ?_) (a' := ?_) #[I,I,I,I,I,I,I,O,O,O,O,O,O,O,O,O,O,O,O,O,O,O,O,O,O] rfl rfl (take_ofW HT_.out HW_.out (by kernel_rfl)) (fun _ _ _ h => h) (Or.inl ⟨by rfl, ?_⟩) hHeld ?_ ?_
   rotate_left
   ·rintro w' ⟨s0, s1, s2, s3, s4, s5⟩
    go_simp
    with_reducible rfl
   rotate_left
   ·simp only [Act.put, Pa, List.set_cons_zero, List.set_cons_succ, i64_w, i32_w]
    rfl
   refine take_ (i := 7) (N := some 29) (v := ?_) (a' := ?_) #[I,I,I,I,I,I,I,I,O,O,O,O,O,O,O,O,O,O,O,O,O,O,O,O,O] rfl rfl (take_ofW HT_.out HW_.out (by kernel_rfl)) (fun _ _ _ h => h) (Or.inl ⟨by rfl, ?_⟩) hHeld ?_ ?_
   rotate_left
   ·rintro w' ⟨s0, s1, s2, s3, s4, s5⟩
    go_simp
    with_reducible rfl
   rotate_left
   ·simp only [Act.put, Pa, List.set_cons_zero, List.set_cons_succ, i64_w, i32_w]
    rfl
   refine pure_ (i := 8) (N := some 30) (v := ?_) (a' := ?_) #[I,I,I,I,I,I,I,I,I,O,O,O,O,O,O,O,O,O,O,O,O,O,O,O,O] rfl rfl (any_of HT_.out (by kernel_rfl)) (fun _ _ _ h => h) (Or.inl ⟨by rfl, ?_⟩) ?_ ?_
   rotate_left
   ·intro w'
    go_simp
    with_reducible rfl
   rotate_left
   ·simp only [Act.put, Pa, List.set_cons_zero, List.set_cons_succ, i64_w, i32_w]
    rfl
   refine pure_ (i := 9) (N := some 31) (v := ?_) (a' := ?_) #[I,I,I,I,I,I,I,I,I,I,O,O,O,O,O,O,O,O,O,O,O,O,O,O,O] rfl rfl (any_of HT_.out (by kernel_rfl)) (fun _ _ _ h => h) (Or.inl ⟨by rfl, ?_⟩) ?_ ?_
   rotate_left
   ·intro w'
    go_simp
    with_reducible rfl
   rotate_left
   ·simp only [Act.put, Pa, List.set_cons_zero, List.set_cons_succ, i64_w, i32_w]
    rfl
   refine pure_ (i := 10) (N := some 32) (v := ?_) (a' := ?_) #[I,I,I,I,I,I,I,I,I,I,I,O,O,O,O,O,O,O,O,O,O,O,O,O,O] rfl rfl (any_of HT_.out (by kernel_rfl)) (fun _ _ _ h => h) (Or.inl ⟨by rfl, ?_⟩) ?_ ?_
   rotate_left
   ·intro w'
    go_simp
    with_reducible rfl
   rotate_left
   ·simp only [Act.put, Pa, List.set_cons_zero, List.set_cons_succ, i64_w, i32_w]
    rfl
   refine pure_ (i := 11) (N := some 33) (v := undef) (a' := ?_) #[I,I,I,I,I,I,I,I,I,I,I,I,O,O,O,O,O,O,O,O,O,O,O,O,O] rfl rfl (any_of HT_.out (by kernel_rfl)) (fun _ _ _ h => h) (Or.inr ⟨by rfl, rfl⟩) ?_ ?_
   rotate_left
   ·simp only [Act.put, Pa, List.set_cons_zero, List.set_cons_succ, i64_w, i32_w]
    rfl
   refine pure_ (i := 12) (N := some 34) (v := undef) (a' := ?_) #[I,I,I,I,I,I,I,I,I,I,I,I,I,O,O,O,O,O,O,O,O,O,O,O,O] rfl rfl (any_of HT_.out (by kernel_rfl)) (fun _ _ _ h => h) (Or.inr ⟨by rfl, rfl⟩) ?_ ?_
   rotate_left
   ·simp only [Act.put, Pa, List.set_cons_zero, List.set_cons_succ, i64_w, i32_w]
    rfl
   refine pure_ (i := 13) (N := some 35) (v := undef) (a' := ?_) #[I,I,I,I,I,I,I,I,I,I,I,I,I,I,O,O,O,O,O,O,O,O,O,O,O] rfl rfl (any_of HT_.out (by kernel_rfl)) (fun _ _ _ h => h) (Or.inr ⟨by rfl, rfl⟩) ?_ ?_
   rotate_left
   ·simp only [Act.put, Pa, List.set_cons_zero, List.set_cons_succ, i64_w, i32_w]
    rfl
   refine pure_ (i := 14) (N := some 36) (v := undef) (a' := ?_) #[I,I,I,I,I,I,I,I,I,I,I,I,I,I,I,O,O,O,O,O,O,O,O,O,O] rfl rfl (any_of HT_.out (by kernel_rfl)) (fun _ _ _ h => h) (Or.inr ⟨by rfl, rfl⟩) ?_ ?_
   rotate_left
   ·simp only [Act.put, Pa, List.set_cons_zero, List.set_cons_succ, i64_w, i32_w]
    rfl
   refine pure_ (i := 15) (N := some 37) (v := undef) (a' := ?_) #[I,I,I,I,I,I,I,I,I,I,I,I,I,I,I,I,O,O,O,O,O,O,O,O,O] rfl rfl (any_of HT_.out (by kernel_rfl)) (fun _ _ _ h => h) (Or.inr ⟨by rfl, rfl⟩) ?_ ?_
   rotate_left
   ·simp only [Act.put, Pa, List.set_cons_zero, List.set_cons_succ, i64_w, i32_w]
    rfl
   refine pure_ (i := 16) (N := some 38) (v := undef) (a' := ?_) #[I,I,I,I,I,I,I,I,I,I,I,I,I,I,I,I,I,O,O,O,O,O,O,O,O] rfl rfl (any_of HT_.out (by kernel_rfl)) (fun _ _ _ h => h) (Or.inr ⟨by rfl, rfl⟩) ?_ ?_
   rotate_left
   ·simp only [Act.put, Pa, List.set_cons_zero, List.set_cons_succ, i64_w, i32_w]
    rfl
   refine pure_ (i := 17) (N := some 39) (v := undef) (a' := ?_) #[I,I,I,I,I,I,I,I,I,I,I,I,I,I,I,I,I,I,O,O,O,O,O,O,O] rfl rfl (any_of HT_.out (by kernel_rfl)) (fun _ _ _ h => h) (Or.inr ⟨by rfl, rfl⟩) ?_ ?_
   rotate_left
   ·simp only [Act.put, Pa, List.set_cons_zero, List.set_cons_succ, i64_w, i32_w]
    rfl
   refine pure_ (i := 18) (N := some 40) (v := ?_) (a' := ?_) #[I,I,I,I,I,I,I,I,I,I,I,I,I,I,I,I,I,I,I,O,O,O,O,O,O] rfl rfl (any_of HT_.out (by kernel_rfl)) (fun _ _ _ h => h) (Or.inl ⟨by rfl, ?_⟩) ?_ ?_
   rotate_left
   ·intro w'
    go_simp
    with_reducible rfl
   rotate_left
   ·simp only [Act.put, Pa, List.set_cons_zero, List.set_cons_succ, i64_w, i32_w]
    rfl
   refine pure_ (i := 19) (N := some 41) (v := ?_) (a' := ?_) #[I,I,I,I,I,I,I,I,I,I,I,I,I,I,I,I,I,I,I,I,O,O,O,O,O] rfl rfl (any_of HT_.out (by kernel_rfl)) (fun _ _ _ h => h) (Or.inl ⟨by rfl, ?_⟩) ?_ ?_
   rotate_left
   ·intro w'
    go_simp
    with_reducible rfl
   rotate_left
   ·simp only [Act.put, Pa, List.set_cons_zero, List.set_cons_succ, i64_w, i32_w]
    rfl
   refine pure_ (i := 20) (N := some 42) (v := undef) (a' := ?_) #[I,I,I,I,I,I,I,I,I,I,I,I,I,I,I,I,I,I,I,I,I,O,O,O,O] rfl rfl (any_of HT_.out (by kernel_rfl)) (fun _ _ _ h => h) (Or.inr ⟨by rfl, rfl⟩) ?_ ?_
   rotate_left
   ·simp only [Act.put, Pa, List.set_cons_zero, List.set_cons_succ, i64_w, i32_w]
    rfl
   refine pure_ (i := 21) (N := some 43) (v := undef) (a' := ?_) #[I,I,I,I,I,I,I,I,I,I,I,I,I,I,I,I,I,I,I,I,I,I,O,O,O] rfl rfl (any_of HT_.out (by kernel_rfl)) (fun _ _ _ h => h) (Or.inr ⟨by rfl, rfl⟩) ?_ ?_
   rotate_left
   ·simp only [Act.put, Pa, List.set_cons_zero, List.set_cons_succ, i64_w, i32_w]
    rfl
   refine pure_ (i := 22) (N := some 44) (v := ?_) (a' := ?_) #[I,I,I,I,I,I,I,I,I,I,I,I,I,I,I,I,I,I,I,I,I,I,I,O,O] rfl rfl (any_of HT_.out (by kernel_rfl)) (fun _ _ _ h => h) (Or.inl ⟨by rfl, ?_⟩) ?_ ?_
   rotate_left
   ·intro w'
    go_simp
    with_reducible rfl
   rotate_left
   ·simp only [Act.put, Pa, List.set_cons_zero, List.set_cons_succ, i64_w, i32_w]
    rfl
   refine one_ (i := 23) (N := none) #[true, true, true, true, true, true, true, true, true, true, true, true, true, true, true, true, true, true, true, true, true, true, true, true, false] rfl rfl (one_of HT_.out (by kernel_rfl)) (by decide) (fun K hK => ?_)
   have hs23 : w22.cell? ⟨gb119, 0, none⟩ = some (.string (⟨#[]⟩ : ByteArray)) := (blk_cell BK119.out 0).trans rfl
   have hfs23 := blk_frozen BK119.out 0
   have hns23_1 := NB125_119.out
   have hms23_1 := NB119_125.out
   have hs24 : w22.cell? ⟨gb119, 1, none⟩ = some (.int .i64 0) := (blk_cell BK119.out 1).trans rfl
   have hfs24 := blk_frozen BK119.out 1
   have hns24_1 := NB125_119.out
   have hms24_1 := NB119_125.out
   have hs25 : w22.cell? ⟨gb119, 2, none⟩ = some (.string (⟨#[]⟩ : ByteArray)) := (blk_cell BK119.out 2).trans rfl
   have hfs25 := blk_frozen BK119.out 2
   have hns25_1 := NB125_119.out
   have hms25_1 := NB119_125.out
   refine skip_ (w1 := ?_) (by rfl) rfl ?_ ?_
   rotate_left
   ·go_simp
    rfl
   refine hK.out _ _ ⟨((cell_far (p := ⟨gb119, _, none⟩) NB125_119.out _).trans (((cell_far (p := ⟨gb119, _, none⟩) NB125_119.out _).trans (((cell_far (p := ⟨gb119, _, none⟩) NB125_119.out _).trans (hHeld.1)))))), ((cell_far (p := ⟨gb119, _, none⟩) NB125_119.out _).trans (((cell_far (p := ⟨gb119, _, none⟩) NB125_119.out _).trans (((cell_far (p := ⟨gb119, _, none⟩) NB125_119.out _).trans (hHeld.2.1)))))), ((cell_far (p := ⟨gb119, _, none⟩) NB125_119.out _).trans (((cell_far (p := ⟨gb119, _, none⟩) NB125_119.out _).trans (((cell_far (p := ⟨gb119, _, none⟩) NB125_119.out _).trans (hHeld.2.2.1)))))), ((cell_far (p := ⟨gb119, _, none⟩) NB120_119.out _).trans (((cell_far (p := ⟨gb119, _, none⟩) NB120_119.out _).trans (((cell_far (p := ⟨gb119, _, none⟩) NB120_119.out _).trans (hHeld.2.2.2.1)))))), ((cell_far (p := ⟨gb119, _, none⟩) NB120_119.out _).trans (((cell_far (p := ⟨gb119, _, none⟩) NB120_119.out _).trans (((cell_far (p := ⟨gb119, _, none⟩) NB120_119.out _).trans (hHeld.2.2.2.2.1)))))), ((cell_far (p := ⟨gb119, _, none⟩) NB120_119.out _).trans (((cell_far (p := ⟨gb119, _, none⟩) NB120_119.out _).trans (((cell_far (p := ⟨gb119, _, none⟩) NB120_119.out _).trans (hHeld.2.2.2.2.2))))))⟩ (fun hHeld => ?_)
   clear hK K
   refine pure_ (i := 24) (N := some 3) (v := ?_) (a' := ?_) #[I,I,I,I,I,I,I,I,I,I,I,I,I,I,I,I,I,I,I,I,I,I,I,I,I] rfl rfl (any_of HT_.out (by kernel_rfl)) (fun _ _ _ h => h) (Or.inl ⟨by rfl, ?_⟩) ?_ ?_
   rotate_left
   ·intro w'
    go_simp
    with_reducible rfl
   rotate_left
   ·simp only [Act.put, Pa, List.set_cons_zero, List.set_cons_succ, i64_w, i32_w]
    rfl
   refine done_ (done_of HT_.out (by kernel_rfl)) ?_
   try go_wp2
   refine bodyPost_ret (results_ct rfl _ _ gb119 74 #[.string t126, .int .i64 t130, .string t134] (0, 0) _ rfl (by (with_reducible repeat (first | refine Gn ?_ _ | refine Gd ?_ | refine Ga ?_ _)); refine blk_put (cs := #[.string t126, .int .i64 t130, .string (⟨#[]⟩ : ByteArray)]) ?_ 2 _ rfl; (with_reducible repeat (first | refine Gn ?_ _ | refine Gd ?_ | refine Ga ?_ _)); refine blk_put (cs := #[.string t126, .int .i64 0, .string (⟨#[]⟩ : ByteArray)]) ?_ 1 _ rfl; (with_reducible repeat (first | refine Gn ?_ _ | refine Gd ?_ | refine Ga ?_ _)); refine blk_put (cs := #[.string (⟨#[]⟩ : ByteArray), .int .i64 0, .string (⟨#[]⟩ : ByteArray)]) ?_ 0 _ rfl; (with_reducible repeat (first | refine Gn ?_ _ | refine Gd ?_ | refine Ga ?_ _)); exact BK119.out) Try.underlying74 rfl (by kernel_rfl)) rfl ?_
   exact ⟨by first | rfl | (simp [errW_none, errW_some] <;> rfl) | (simp [*, errW_none, errW_some] <;> rfl), by repeat (first | (with_reducible first | exact HB.out | apply Wa | apply Wn | apply Wd | refine Ws ?_ (IsS149.ge HI120.out) | refine Ws ?_ GE119.out | refine Ws ?_ GE125.out) | exact HB.out)⟩
  ·replace c7 := Bool.eq_false_iff.mpr c7
   subst c7
   have H1 : (if t136 = (a0.size : Int) then ((spec_SnapRight.f k t126 t130 t134).bind fun t138 => (some (t126, t130, t134, t138))) else (some (t126, t130, t134, false))) = some (r1, r2, r3, r4) := by rw [if_neg (show ¬ (false = true) by decide)] at H; exact H
   clear H
   have H := H1
   clear H1
   by_cases c26 : t136 = (a0.size : Int)
   ·rw [if_pos c26] at H
    have c26b0 : (t136 == (a0.size : Int)) = true := beq_iff_eq.mpr c26
    have c26b1 : (t136 != (a0.size : Int)) = false := bne_eq_false_iff_eq.mpr c26
    clear c26
    replace H := Option.bind_eq_some_iff.mp H
    obtain ⟨t138, A270, H⟩ := H
    replace H : (some (t126, t130, t134, t138)) = some (r1, r2, r3, r4) := H
    have A27 := AM A270
    clear A270
    simp only [Option.some.injEq, Prod.mk.injEq] at H
    obtain ⟨rfl, rfl, rfl, rfl⟩ := H
    go_enter Try.func116, Try.ntmps116
    try go_wp2_with (first | ((with_reducible refine gate_dst (N := 2) rfl ?_); (try (refine gate_guard (by rfl) ?_; dsimp only)); refine box_event ?hg (N := 2) ?hd (cs := #[.string (⟨#[]⟩ : ByteArray), .int .i64 0, .string (⟨#[]⟩ : ByteArray)]) (t := 74) ?hr ?_; (case hd => rfl); (case hg => rfl); (case hr => first | (go_simp; done) | (go_simp; rfl)); intro gb119 hg w28 hbox hb; have n0_ := AM (below_step (by repeat (first | (with_reducible first | exact HB.out | apply Wa | apply Wn | apply Wd) | exact HB.out)) hb); have n1_ := AM (hbox); have n2_ := AM ((by rw [hg]; exact (below_size (by repeat (first | (with_reducible first | exact HB.out | apply Wa | apply Wn | apply Wd) | exact HB.out))) : w.heap.size ≤ gb119)); have n3_ := AM ((by rw [hg]; exact (below_size (by repeat (first | (with_reducible first | exact HB.out | apply Wa | apply Wn | apply Wd) | exact HB.out))) : w.heap.size ≤ gb119)); clear HB; have HB := n0_; have BK119 := n1_; have GW119 := n2_; have GE119 := n3_; clear n0_ n1_ n2_ n3_; clear hb hbox hg) | ((with_reducible refine gate_dst (N := 9) rfl ?_); (try (refine gate_guard (by rfl) ?_; dsimp only)); refine box_event ?hg (N := 9) ?hd (cs := #[.string a0, .int .i64 0, .bool false]) (t := 149) ?hr ?_; (case hd => rfl); (case hg => rfl); (case hr => first | (go_simp; done) | (go_simp; rfl)); intro gb120 hg w29 hbox hb; have n0_ := AM (blk_below (g := gb119) (o := .cells #[.string (⟨#[]⟩ : ByteArray), .int .i64 0, .string (⟨#[]⟩ : ByteArray)] 74 (0, 0)) (by (with_reducible repeat (first | refine Gn ?_ _ | refine Gd ?_ | refine Ga ?_ _)); exact BK119.out) hb); have n1_ := AM (below_step (by repeat (first | (with_reducible first | exact HB.out | apply Wa | apply Wn | apply Wd | refine Ws ?_ GE119.out) | exact HB.out)) hb); have n2_ := AM ((by rw [hg]; exact Nat.ne_of_lt (blk_lt (g := gb119) (o := .cells #[.string (⟨#[]⟩ : ByteArray), .int .i64 0, .string (⟨#[]⟩ : ByteArray)] 74 (0, 0)) (by (with_reducible repeat (first | refine Gn ?_ _ | refine Gd ?_ | refine Ga ?_ _)); exact BK119.out)) : gb119 ≠ gb120)); have n3_ := AM ((by rw [hg]; exact Nat.ne_of_gt (blk_lt (g := gb119) (o := .cells #[.string (⟨#[]⟩ : ByteArray), .int .i64 0, .string (⟨#[]⟩ : ByteArray)] 74 (0, 0)) (by (with_reducible repeat (first | refine Gn ?_ _ | refine Gd ?_ | refine Ga ?_ _)); exact BK119.out)) : gb120 ≠ gb119)); have n4_ := AM ((⟨hbox, (by rw [hg]; exact (below_size (by repeat (first | (with_reducible first | exact HB.out | apply Wa | apply Wn | apply Wd | refine Ws ?_ GE119.out) | exact HB.out))) : w.heap.size ≤ gb120)⟩ : IsS149 w w29 gb120 a0 0 false)); clear BK119; clear HB; have BK119 := n0_; have HB := n1_; have NB119_120 := n2_; have NB120_119 := n3_; have HI120 := n4_; clear n0_ n1_ n2_ n3_ n4_; clear hb hbox hg) | ((with_reducible refine gate_callee (f := 135) rfl ?_); refine goesL_ (some 11) rfl rfl Try.func135 (by kernel_rfl) rfl #[.pointer (some ⟨gb120, 0, none⟩), .int .i64 1] rfl (by (try simp only [List.map_toArray, List.map_cons, List.map_nil]); first | done | rfl | (simp only [List.length_drop, List.length_take]; rfl)) ?_; (with_reducible refine (spec_l10Reader_bytes.calls gb120 a0 0 false 1 t121 t122 t123 t124 w _ ?side1 ?side2 A2.out).mono ?_); (case side1 => repeat (first | (with_reducible first | exact HI120.out | apply IsS149.alloc | apply IsS149.drewN | apply IsS149.drew | apply IsS149.set_0 | apply IsS149.set_1 | apply IsS149.set_2 | refine IsS149.far ?_ NB120_119.out _) | exact HI120.out)); (case side2 => repeat (first | (with_reducible first | exact HB.out | apply Wa | apply Wn | apply Wd | refine Ws ?_ (IsS149.ge HI120.out) | refine Ws ?_ GE119.out) | exact HB.out)); rintro e w30 ⟨rfl, hi, hb, hk⟩; refine ⟨_, rfl, ?_⟩; have n0_ := AM (KeepBut.blk hk (g' := gb119) (o := .cells #[.string (⟨#[]⟩ : ByteArray), .int .i64 0, .string (⟨#[]⟩ : ByteArray)] 74 (0, 0)) (by (with_reducible repeat (first | refine Gn ?_ _ | refine Gd ?_ | refine Ga ?_ _)); exact BK119.out) NB119_120.out (by simp)); have n1_ := AM (hb); have n2_ := AM (hi); clear BK119; clear HB; clear HI120; have BK119 := n0_; have HB := n1_; have HI120 := n2_; clear n0_ n1_ n2_; (try clear hb); (try clear hb2); (try clear hk); (try clear hi)) | ((with_reducible refine gate_dst (N := 6) rfl ?_); (try (refine gate_guard (by rfl) ?_; dsimp only)); refine box_event ?hg (N := 6) ?hd (cs := #[.string (⟨#[]⟩ : ByteArray), .int .i64 0, .string (⟨#[]⟩ : ByteArray)]) (t := 74) ?hr ?_; (case hd => rfl); (case hg => rfl); (case hr => first | (go_simp; done) | (go_simp; rfl)); intro gb125 hg w31 hbox hb; have n0_ := AM (blk_below (g := gb119) (o := .cells #[.string (⟨#[]⟩ : ByteArray), .int .i64 0, .string (⟨#[]⟩ : ByteArray)] 74 (0, 0)) (by (with_reducible repeat (first | refine Gn ?_ _ | refine Gd ?_ | refine Ga ?_ _)); exact BK119.out) hb); have n1_ := AM (IsS149.below (by repeat (first | (with_reducible first | exact HI120.out | apply IsS149.alloc | apply IsS149.drewN | apply IsS149.drew | apply IsS149.set_0 | apply IsS149.set_1 | apply IsS149.set_2 | refine IsS149.far ?_ NB120_119.out _) | exact HI120.out)) hb); have n2_ := AM (below_step (by repeat (first | (with_reducible first | exact HB.out | apply Wa | apply Wn | apply Wd | refine Ws ?_ (IsS149.ge HI120.out) | refine Ws ?_ GE119.out) | exact HB.out)) hb); have n3_ := AM (hbox); have n4_ := AM ((by rw [hg]; exact (below_size (by repeat (first | (with_reducible first | exact HB.out | apply Wa | apply Wn | apply Wd | refine Ws ?_ (IsS149.ge HI120.out) | refine Ws ?_ GE119.out) | exact HB.out))) : w.heap.size ≤ gb125)); have n5_ := AM ((by rw [hg]; exact (below_size (by repeat (first | (with_reducible first | exact HB.out | apply Wa | apply Wn | apply Wd | refine Ws ?_ (IsS149.ge HI120.out) | refine Ws ?_ GE119.out) | exact HB.out))) : w.heap.size ≤ gb125)); have n6_ := AM ((by rw [hg]; exact Nat.ne_of_lt (blk_lt (g := gb119) (o := .cells #[.string (⟨#[]⟩ : ByteArray), .int .i64 0, .string (⟨#[]⟩ : ByteArray)] 74 (0, 0)) (by (with_reducible repeat (first | refine Gn ?_ _ | refine Gd ?_ | refine Ga ?_ _)); exact BK119.out)) : gb119 ≠ gb125)); have n7_ := AM ((by rw [hg]; exact Nat.ne_of_gt (blk_lt (g := gb119) (o := .cells #[.string (⟨#[]⟩ : ByteArray), .int .i64 0, .string (⟨#[]⟩ : ByteArray)] 74 (0, 0)) (by (with_reducible repeat (first | refine Gn ?_ _ | refine Gd ?_ | refine Ga ?_ _)); exact BK119.out)) : gb125 ≠ gb119)); have n8_ := AM ((by rw [hg]; exact Nat.ne_of_lt (IsS149.lt (show IsS149 w _ gb120 t122 t123 t124 from by repeat (first | (with_reducible first | exact HI120.out | apply IsS149.alloc | apply IsS149.drewN | apply IsS149.drew | apply IsS149.set_0 | apply IsS149.set_1 | apply IsS149.set_2 | refine IsS149.far ?_ NB120_119.out _) | exact HI120.out))) : gb120 ≠ gb125)); have n9_ := AM ((by rw [hg]; exact Nat.ne_of_gt (IsS149.lt (show IsS149 w _ gb120 t122 t123 t124 from by repeat (first | (with_reducible first | exact HI120.out | apply IsS149.alloc | apply IsS149.drewN | apply IsS149.drew | apply IsS149.set_0 | apply IsS149.set_1 | apply IsS149.set_2 | refine IsS149.far ?_ NB120_119.out _) | exact HI120.out))) : gb125 ≠ gb120)); clear BK119; clear HI120; clear HB; have BK119 := n0_; have HI120 := n1_; have HB := n2_; have BK125 := n3_; have GW125 := n4_; have GE125 := n5_; have NB119_125 := n6_; have NB125_119 := n7_; have NB120_125 := n8_; have NB125_120 := n9_; clear n0_ n1_ n2_ n3_ n4_ n5_ n6_ n7_ n8_ n9_; clear hb hbox hg; have hnb32 := NB125_119.out; have hnc32 := NB119_125.out; have hnb33 := NB125_120.out; have hnc33 := NB120_125.out; have hcz34_0 : w31.cell? ⟨gb125, 0, none⟩ = some (.string (⟨#[]⟩ : ByteArray)) := (blk_cell BK125.out 0).trans rfl; have hcz34_1 : w31.cell? ⟨gb125, 1, none⟩ = some (.int .i64 0) := (blk_cell BK125.out 1).trans rfl; have hcz34_2 : w31.cell? ⟨gb125, 2, none⟩ = some (.string (⟨#[]⟩ : ByteArray)) := (blk_cell BK125.out 2).trans rfl; have hfz34_0 := blk_frozen BK125.out 0; have hfz34_1 := blk_frozen BK125.out 1; have hfz34_2 := blk_frozen BK125.out 2) | ((with_reducible refine gate_callee (f := 136) rfl ?_); refine goesL_ (some 14) rfl rfl Try.func136 (by kernel_rfl) rfl #[.pointer (some ⟨gb120, 0, none⟩)] rfl (by (try simp only [List.map_toArray, List.map_cons, List.map_nil]); first | done | rfl | (simp only [List.length_drop, List.length_take]; rfl)) ?_; (with_reducible refine (spec_l10Reader_text.calls k gb120 t122 t123 t124 t126 t127 t128 t129 w _ ?side1 ?side2 A3.out).mono ?_); (case side1 => repeat (first | (with_reducible first | exact HI120.out | apply IsS149.alloc | apply IsS149.drewN | apply IsS149.drew | apply IsS149.set_0 | apply IsS149.set_1 | apply IsS149.set_2 | refine IsS149.far ?_ NB120_119.out _ | refine IsS149.far ?_ NB120_125.out _) | exact HI120.out)); (case side2 => repeat (first | (with_reducible first | exact HB.out | apply Wa | apply Wn | apply Wd | refine Ws ?_ (IsS149.ge HI120.out) | refine Ws ?_ GE119.out | refine Ws ?_ GE125.out) | exact HB.out)); rintro e w35 ⟨rfl, hi, hb, hk⟩; refine ⟨_, rfl, ?_⟩; have n0_ := AM (KeepBut.blk hk (g' := gb119) (o := .cells #[.string (⟨#[]⟩ : ByteArray), .int .i64 0, .string (⟨#[]⟩ : ByteArray)] 74 (0, 0)) (by (with_reducible repeat (first | refine Gn ?_ _ | refine Gd ?_ | refine Ga ?_ _)); refine blk_far ?_ NB119_125.out _; (with_reducible repeat (first | refine Gn ?_ _ | refine Gd ?_ | refine Ga ?_ _)); refine blk_far ?_ NB119_125.out _; (with_reducible repeat (first | refine Gn ?_ _ | refine Gd ?_ | refine Ga ?_ _)); refine blk_far ?_ NB119_125.out _; (with_reducible repeat (first | refine Gn ?_ _ | refine Gd ?_ | refine Ga ?_ _)); exact BK119.out) NB119_120.out (by simp)); have n1_ := AM (KeepBut.blk hk (g' := gb125) (o := .cells #[.string (⟨#[]⟩ : ByteArray), .int .i64 0, .string (⟨#[]⟩ : ByteArray)] 74 (0, 0)) (by (with_reducible repeat (first | refine Gn ?_ _ | refine Gd ?_ | refine Ga ?_ _)); refine blk_put (cs := #[.string (⟨#[]⟩ : ByteArray), .int .i64 0, .string (⟨#[]⟩ : ByteArray)]) ?_ 2 _ rfl; (with_reducible repeat (first | refine Gn ?_ _ | refine Gd ?_ | refine Ga ?_ _)); refine blk_put (cs := #[.string (⟨#[]⟩ : ByteArray), .int .i64 0, .string (⟨#[]⟩ : ByteArray)]) ?_ 1 _ rfl; (with_reducible repeat (first | refine Gn ?_ _ | refine Gd ?_ | refine Ga ?_ _)); refine blk_put (cs := #[.string (⟨#[]⟩ : ByteArray), .int .i64 0, .string (⟨#[]⟩ : ByteArray)]) ?_ 0 _ rfl; (with_reducible repeat (first | refine Gn ?_ _ | refine Gd ?_ | refine Ga ?_ _)); exact BK125.out) NB125_120.out (by simp)); have n2_ := AM (hb); have n3_ := AM (hi); clear BK119; clear BK125; clear HB; clear HI120; have BK119 := n0_; have BK125 := n1_; have HB := n2_; have HI120 := n3_; clear n0_ n1_ n2_ n3_; (try clear hb); (try clear hb2); (try clear hk); (try clear hi); have hcz36_0 : w35.cell? ⟨gb125, 0, none⟩ = some (.string (⟨#[]⟩ : ByteArray)) := (blk_cell BK125.out 0).trans rfl; have hcz36_1 : w35.cell? ⟨gb125, 1, none⟩ = some (.int .i64 0) := (blk_cell BK125.out 1).trans rfl; have hcz36_2 : w35.cell? ⟨gb125, 2, none⟩ = some (.string (⟨#[]⟩ : ByteArray)) := (blk_cell BK125.out 2).trans rfl; have hfz36_0 := blk_frozen BK125.out 0; have hfz36_1 := blk_frozen BK125.out 1; have hfz36_2 := blk_frozen BK125.out 2) | ((with_reducible refine gate_callee (f := 134) rfl ?_); refine goesL_ (some 17) rfl rfl Try.func134 (by kernel_rfl) rfl #[.pointer (some ⟨gb120, 0, none⟩)] rfl (by (try simp only [List.map_toArray, List.map_cons, List.map_nil]); first | done | rfl | (simp only [List.length_drop, List.length_take]; rfl)) ?_; (with_reducible refine (spec_l10Reader_num.calls k gb120 t127 t128 t129 t130 t131 t132 t133 w _ ?side1 ?side2 A4.out).mono ?_); (case side1 => repeat (first | (with_reducible first | exact HI120.out | apply IsS149.alloc | apply IsS149.drewN | apply IsS149.drew | apply IsS149.set_0 | apply IsS149.set_1 | apply IsS149.set_2 | refine IsS149.far ?_ NB120_119.out _ | refine IsS149.far ?_ NB120_125.out _) | exact HI120.out)); (case side2 => repeat (first | (with_reducible first | exact HB.out | apply Wa | apply Wn | apply Wd | refine Ws ?_ (IsS149.ge HI120.out) | refine Ws ?_ GE119.out | refine Ws ?_ GE125.out) | exact HB.out)); rintro e w37 ⟨rfl, hi, hb, hk⟩; refine ⟨_, rfl, ?_⟩; have n0_ := AM (KeepBut.blk hk (g' := gb119) (o := .cells #[.string (⟨#[]⟩ : ByteArray), .int .i64 0, .string (⟨#[]⟩ : ByteArray)] 74 (0, 0)) (by (with_reducible repeat (first | refine Gn ?_ _ | refine Gd ?_ | refine Ga ?_ _)); refine blk_far ?_ NB119_125.out _; (with_reducible repeat (first | refine Gn ?_ _ | refine Gd ?_ | refine Ga ?_ _)); exact BK119.out) NB119_120.out (by simp)); have n1_ := AM (KeepBut.blk hk (g' := gb125) (o := .cells #[.string t126, .int .i64 0, .string (⟨#[]⟩ : ByteArray)] 74 (0, 0)) (by (with_reducible repeat (first | refine Gn ?_ _ | refine Gd ?_ | refine Ga ?_ _)); refine blk_put (cs := #[.string (⟨#[]⟩ : ByteArray), .int .i64 0, .string (⟨#[]⟩ : ByteArray)]) ?_ 0 _ rfl; (with_reducible repeat (first | refine Gn ?_ _ | refine Gd ?_ | refine Ga ?_ _)); exact BK125.out) NB125_120.out (by simp)); have n2_ := AM (hb); have n3_ := AM (hi); clear BK119; clear BK125; clear HB; clear HI120; have BK119 := n0_; have BK125 := n1_; have HB := n2_; have HI120 := n3_; clear n0_ n1_ n2_ n3_; (try clear hb); (try clear hb2); (try clear hk); (try clear hi); have hcz38_0 : w37.cell? ⟨gb125, 0, none⟩ = some (.string t126) := (blk_cell BK125.out 0).trans rfl; have hcz38_1 : w37.cell? ⟨gb125, 1, none⟩ = some (.int .i64 0) := (blk_cell BK125.out 1).trans rfl; have hcz38_2 : w37.cell? ⟨gb125, 2, none⟩ = some (.string (⟨#[]⟩ : ByteArray)) := (blk_cell BK125.out 2).trans rfl; have hfz38_0 := blk_frozen BK125.out 0; have hfz38_1 := blk_frozen BK125.out 1; have hfz38_2 := blk_frozen BK125.out 2) | ((with_reducible refine gate_callee (f := 135) rfl ?_); refine goesL_ (some 20) rfl rfl Try.func135 (by kernel_rfl) rfl #[.pointer (some ⟨gb120, 0, none⟩), .int .i64 32] rfl (by (try simp only [List.map_toArray, List.map_cons, List.map_nil]); first | done | rfl | (simp only [List.length_drop, List.length_take]; rfl)) ?_; (with_reducible refine (spec_l10Reader_bytes.calls gb120 t131 t132 t133 32 t134 t135 t136 false w _ ?side1 ?side2 A5.out).mono ?_); (case side1 => repeat (first | (with_reducible first | exact HI120.out | apply IsS149.alloc | apply IsS149.drewN | apply IsS149.drew | apply IsS149.set_0 | apply IsS149.set_1 | apply IsS149.set_2 | refine IsS149.far ?_ NB120_119.out _ | refine IsS149.far ?_ NB120_125.out _) | exact HI120.out)); (case side2 => repeat (first | (with_reducible first | exact HB.out | apply Wa | apply Wn | apply Wd | refine Ws ?_ (IsS149.ge HI120.out) | refine Ws ?_ GE119.out | refine Ws ?_ GE125.out) | exact HB.out)); rintro e w39 ⟨rfl, hi, hb, hk⟩; refine ⟨_, rfl, ?_⟩; have n0_ := AM (KeepBut.blk hk (g' := gb119) (o := .cells #[.string (⟨#[]⟩ : ByteArray), .int .i64 0, .string (⟨#[]⟩ : ByteArray)] 74 (0, 0)) (by (with_reducible repeat (first | refine Gn ?_ _ | refine Gd ?_ | refine Ga ?_ _)); refine blk_far ?_ NB119_125.out _; (with_reducible repeat (first | refine Gn ?_ _ | refine Gd ?_ | refine Ga ?_ _)); exact BK119.out) NB119_120.out (by simp)); have n1_ := AM (KeepBut.blk hk (g' := gb125) (o := .cells #[.string t126, .int .i64 t130, .string (⟨#[]⟩ : ByteArray)] 74 (0, 0)) (by (with_reducible repeat (first | refine Gn ?_ _ | refine Gd ?_ | refine Ga ?_ _)); refine blk_put (cs := #[.string t126, .int .i64 0, .string (⟨#[]⟩ : ByteArray)]) ?_ 1 _ rfl; (with_reducible repeat (first | refine Gn ?_ _ | refine Gd ?_ | refine Ga ?_ _)); exact BK125.out) NB125_120.out (by simp)); have n2_ := AM (hb); have n3_ := AM (hi); clear BK119; clear BK125; clear HB; clear HI120; have BK119 := n0_; have BK125 := n1_; have HB := n2_; have HI120 := n3_; clear n0_ n1_ n2_ n3_; (try clear hb); (try clear hb2); (try clear hk); (try clear hi); have hcz40_0 : w39.cell? ⟨gb125, 0, none⟩ = some (.string t126) := (blk_cell BK125.out 0).trans rfl; have hcz40_1 : w39.cell? ⟨gb125, 1, none⟩ = some (.int .i64 t130) := (blk_cell BK125.out 1).trans rfl; have hcz40_2 : w39.cell? ⟨gb125, 2, none⟩ = some (.string (⟨#[]⟩ : ByteArray)) := (blk_cell BK125.out 2).trans rfl; have hfz40_0 := blk_frozen BK125.out 0; have hfz40_1 := blk_frozen BK125.out 1; have hfz40_2 := blk_frozen BK125.out 2))
    have n0_ : Aside0 ((w39.setCell ⟨gb125, 2, none⟩ (.string t134)).heap[gb119]? = some (.cells #[.string (⟨#[]⟩ : ByteArray), .int .i64 0, .string (⟨#[]⟩ : ByteArray)] 74 (0, 0))) := ⟨by (with_reducible repeat (first | refine Gn ?_ _ | refine Gd ?_ | refine Ga ?_ _)); refine blk_far ?_ NB119_125.out _; (with_reducible repeat (first | refine Gn ?_ _ | refine Gd ?_ | refine Ga ?_ _)); exact BK119.out⟩
    have n1_ : Aside0 ((w39.setCell ⟨gb125, 2, none⟩ (.string t134)).heap[gb125]? = some (.cells #[.string t126, .int .i64 t130, .string t134] 74 (0, 0))) := ⟨by (with_reducible repeat (first | refine Gn ?_ _ | refine Gd ?_ | refine Ga ?_ _)); refine blk_put (cs := #[.string t126, .int .i64 t130, .string (⟨#[]⟩ : ByteArray)]) ?_ 2 _ rfl; (with_reducible repeat (first | refine Gn ?_ _ | refine Gd ?_ | refine Ga ?_ _)); exact BK125.out⟩
    have n2_ : Aside0 (IsS149 w (w39.setCell ⟨gb125, 2, none⟩ (.string t134)) gb120 t135 t136 false) := ⟨by repeat (first | (with_reducible first | exact HI120.out | apply IsS149.alloc | apply IsS149.drewN | apply IsS149.drew | apply IsS149.set_0 | apply IsS149.set_1 | apply IsS149.set_2 | refine IsS149.far ?_ NB120_119.out _ | refine IsS149.far ?_ NB120_125.out _) | exact HI120.out)⟩
    have n3_ : Aside0 (Below w.heap.size w (w39.setCell ⟨gb125, 2, none⟩ (.string t134))) := ⟨by repeat (first | (with_reducible first | exact HB.out | apply Wa | apply Wn | apply Wd | refine Ws ?_ (IsS149.ge HI120.out) | refine Ws ?_ GE119.out | refine Ws ?_ GE125.out) | exact HB.out)⟩
    (try clear BK119)
    (try clear BK125)
    (try clear HI120)
    (try clear HB)
    generalize (w39.setCell ⟨gb125, 2, none⟩ (.string t134)) = w41 at n0_ n1_ n2_ n3_ ⊢
    have BK119 := n0_
    have BK125 := n1_
    have HI120 := n2_
    have HB := n3_
    clear n0_ n1_ n2_ n3_
    have n0_ := AM (Gd BK119.out)
    have n1_ := AM (Gd BK125.out)
    have n2_ := AM (IsS149.drew HI120.out)
    have n3_ := AM (Wd HB.out)
    clear BK119
    clear BK125
    clear HI120
    clear HB
    have BK119 := n0_
    have BK125 := n1_
    have HI120 := n2_
    have HB := n3_
    clear n0_ n1_ n2_ n3_
    refine start_ (n := 25) (S := fun w' => w'.cell? ⟨gb125, 0, none⟩ = some (.string t126) ∧ w'.cell? ⟨gb125, 1, none⟩ = some (.int .i64 t130) ∧ w'.cell? ⟨gb125, 2, none⟩ = some (.string t134) ∧ w'.cell? ⟨gb120, 0, none⟩ = some (.string t135) ∧ w'.cell? ⟨gb120, 1, none⟩ = some (.int .i64 t136) ∧ w'.cell? ⟨gb120, 2, none⟩ = some (.bool false)) (ds := []) #[O,O,O,O,O,O,O,O,O,O,O,O,O,O,O,O,O,O,O,O,O,O,O,O,O] (by kernel_rfl) rfl rfl ⟨(blk_cell BK125.out 0).trans rfl, (blk_cell BK125.out 1).trans rfl, (blk_cell BK125.out 2).trans rfl, (cellS149_0 HI120.out.1), (cellS149_1 HI120.out.1), (cellS149_2 HI120.out.1)⟩ (fun hHeld => ?_); refine with_tabW spec_l12Snap.tab7 spec_l12Snap.bits7 (fun HT_ HW_ => ?_)
    generalize w41.drew = w42 at BK119 BK125 HI120 HB hHeld ⊢
    refine pure_ (i := 1) (N := some 23) (v := ?_) (a' := ?_) #[O,I,O,O,O,O,O,O,O,O,O,O,O,O,O,O,O,O,O,O,O,O,O,O,O] rfl rfl (any_of HT_.out (by kernel_rfl)) (fun _ _ _ h => h) (Or.inl ⟨by rfl, ?_⟩) ?_ ?_
    rotate_left
    ·intro w'
     go_simp
     with_reducible rfl
    rotate_left
    ·simp only [Act.put, Pa, List.set_cons_zero, List.set_cons_succ, i64_w, i32_w]
     rfl
    refine pure_ (i := 2) (N := some 24) (v := ?_) (a' := ?_) #[O,I,I,O,O,O,O,O,O,O,O,O,O,O,O,O,O,O,O,O,O,O,O,O,O] rfl rfl (any_of HT_.out (by kernel_rfl)) (fun _ _ _ h => h) (Or.inl ⟨by rfl, ?_⟩) ?_ ?_
    rotate_left
    ·intro w'
     go_simp
     with_reducible rfl
    rotate_left
    ·simp only [Act.put, Pa, List.set_cons_zero, List.set_cons_succ, i64_w, i32_w]
     rfl
    refine pure_ (i := 3) (N := some 25) (v := ?_) (a' := ?_) #[O,I,I,I,O,O,O,O,O,O,O,O,O,O,O,O,O,O,O,O,O,O,O,O,O] rfl rfl (any_of HT_.out (by kernel_rfl)) (fun _ _ _ h => h) (Or.inl ⟨by rfl, ?_⟩) ?_ ?_
    rotate_left
    ·intro w'
     go_simp
     with_reducible rfl
    rotate_left
    ·simp only [Act.put, Pa, List.set_cons_zero, List.set_cons_succ, i64_w, i32_w]
     rfl
    refine pure_ (i := 4) (N := some 26) (v := ?_) (a' := ?_) #[O,I,I,I,I,O,O,O,O,O,O,O,O,O,O,O,O,O,O,O,O,O,O,O,O] rfl rfl (any_of HT_.out (by kernel_rfl)) (fun _ _ _ h => h) (Or.inl ⟨by rfl, ?_⟩) ?_ ?_
    rotate_left
    ·intro w'
     go_simp
     with_reducible rfl
    rotate_left
    ·simp only [Act.put, Pa, List.set_cons_zero, List.set_cons_succ, i64_w, i32_w]
     rfl
    refine pure_ (i := 5) (N := some 27) (v := ?_) (a' := ?_) #[O,I,I,I,I,I,O,O,O,O,O,O,O,O,O,O,O,O,O,O,O,O,O,O,O] rfl rfl (any_of HT_.out (by kernel_rfl)) (fun _ _ _ h => h) (Or.inl ⟨by rfl, ?_⟩) ?_ ?_
    rotate_left
    ·intro w'
     go_simp
     with_reducible rfl
    rotate_left
    ·simp only [Act.put, Pa, List.set_cons_zero, List.set_cons_succ, i64_w, i32_w]
     rfl
    refine pure_ (i := 6) (N := some 28) (v := ?_) (a' := ?_) #[O,I,I,I,I,I,I,O,O,O,O,O,O,O,O,O,O,O,O,O,O,O,O,O,O] rfl rfl (any_of HT_.out (by kernel_rfl)) (fun _ _ _ h => h) (Or.inl ⟨by rfl, ?_⟩) ?_ ?_
    rotate_left
    ·intro w'
     go_simp
     with_reducible rfl
    rotate_left
    ·simp only [Act.put, Pa, List.set_cons_zero, List.set_cons_succ, i64_w, i32_w]
     rfl
    refine take_ (i := 0) (N := some 22) (v := ?_) (a' := ?_) #[I,I,I,I,I,I,I,O,O,O,O,O,O,O,O,O,O,O,O,O,O,O,O,O,O] rfl rfl (take_ofW HT_.out HW_.out (by kernel_rfl)) (fun _ _ _ h => h) (Or.inl ⟨by rfl, ?_⟩) hHeld ?_ ?_
    rotate_left
    ·rintro w' ⟨s0, s1, s2, s3, s4, s5⟩
     go_simp
     with_reducible rfl
    rotate_left
    ·simp only [Act.put, Pa, List.set_cons_zero, List.set_cons_succ, i64_w, i32_w]
     rfl
    refine take_ (i := 7) (N := some 29) (v := ?_) (a' := ?_) #[I,I,I,I,I,I,I,I,O,O,O,O,O,O,O,O,O,O,O,O,O,O,O,O,O] rfl rfl (take_ofW HT_.out HW_.out (by kernel_rfl)) (fun _ _ _ h => h) (Or.inl ⟨by rfl, ?_⟩) hHeld ?_ ?_
    rotate_left
    ·rintro w' ⟨s0, s1, s2, s3, s4, s5⟩
     go_simp
     with_reducible rfl
    rotate_left
    ·simp only [Act.put, Pa, List.set_cons_zero, List.set_cons_succ, i64_w, i32_w]
     rfl
    refine pure_ (i := 8) (N := some 30) (v := ?_) (a' := ?_) #[I,I,I,I,I,I,I,I,I,O,O,O,O,O,O,O,O,O,O,O,O,O,O,O,O] rfl rfl (any_of HT_.out (by kernel_rfl)) (fun _ _ _ h => h) (Or.inl ⟨by rfl, ?_⟩) ?_ ?_
    rotate_left
    ·intro w'
     go_simp
     with_reducible rfl
    rotate_left
    ·simp only [Act.put, Pa, List.set_cons_zero, List.set_cons_succ, i64_w, i32_w]
     rfl
    refine pure_ (i := 9) (N := some 31) (v := ?_) (a' := ?_) #[I,I,I,I,I,I,I,I,I,I,O,O,O,O,O,O,O,O,O,O,O,O,O,O,O] rfl rfl (any_of HT_.out (by kernel_rfl)) (fun _ _ _ h => h) (Or.inl ⟨by rfl, ?_⟩) ?_ ?_
    rotate_left
    ·intro w'
     go_simp
     with_reducible rfl
    rotate_left
    ·simp only [Act.put, Pa, List.set_cons_zero, List.set_cons_succ, i64_w, i32_w]
     rfl
    refine pure_ (i := 10) (N := some 32) (v := ?_) (a' := ?_) #[I,I,I,I,I,I,I,I,I,I,I,O,O,O,O,O,O,O,O,O,O,O,O,O,O] rfl rfl (any_of HT_.out (by kernel_rfl)) (fun _ _ _ h => h) (Or.inl ⟨by rfl, ?_⟩) ?_ ?_
    rotate_left
    ·intro w'
     go_simp
     with_reducible rfl
    rotate_left
    ·simp only [Act.put, Pa, List.set_cons_zero, List.set_cons_succ, i64_w, i32_w]
     rfl
    refine pure_ (i := 11) (N := some 33) (v := ?_) (a' := ?_) #[I,I,I,I,I,I,I,I,I,I,I,I,O,O,O,O,O,O,O,O,O,O,O,O,O] rfl rfl (any_of HT_.out (by kernel_rfl)) (fun _ _ _ h => h) (Or.inl ⟨by rfl, ?_⟩) ?_ ?_
    rotate_left
    ·intro w'
     go_simp
     with_reducible rfl
    rotate_left
    ·simp only [Act.put, Pa, List.set_cons_zero, List.set_cons_succ, i64_w, i32_w]
     rfl
    refine pure_ (i := 12) (N := some 34) (v := ?_) (a' := ?_) #[I,I,I,I,I,I,I,I,I,I,I,I,I,O,O,O,O,O,O,O,O,O,O,O,O] rfl rfl (any_of HT_.out (by kernel_rfl)) (fun _ _ _ h => h) (Or.inl ⟨by rfl, ?_⟩) ?_ ?_
    rotate_left
    ·intro w'
     go_simp
     with_reducible rfl
    rotate_left
    ·simp only [Act.put, Pa, List.set_cons_zero, List.set_cons_succ, i64_w, i32_w]
     rfl
    refine pure_ (i := 13) (N := some 35) (v := ?_) (a' := ?_) #[I,I,I,I,I,I,I,I,I,I,I,I,I,I,O,O,O,O,O,O,O,O,O,O,O] rfl rfl (any_of HT_.out (by kernel_rfl)) (fun _ _ _ h => h) (Or.inl ⟨by rfl, ?_⟩) ?_ ?_
    rotate_left
    ·intro w'
     go_simp
     with_reducible rfl
    rotate_left
    ·simp only [Act.put, Pa, List.set_cons_zero, List.set_cons_succ, i64_w, i32_w]
     rfl
    refine pure_ (i := 15) (N := some 37) (v := ?_) (a' := ?_) #[I,I,I,I,I,I,I,I,I,I,I,I,I,I,O,I,O,O,O,O,O,O,O,O,O] rfl rfl (any_of HT_.out (by kernel_rfl)) (fun _ _ _ h => h) (Or.inl ⟨by rfl, ?_⟩) ?_ ?_
    rotate_left
    ·intro w'
     go_simp
     with_reducible rfl
    rotate_left
    ·simp only [Act.put, Pa, List.set_cons_zero, List.set_cons_succ, i64_w, i32_w]
     rfl
    refine pure_ (i := 16) (N := some 38) (v := ?_) (a' := ?_) #[I,I,I,I,I,I,I,I,I,I,I,I,I,I,O,I,I,O,O,O,O,O,O,O,O] rfl rfl (any_of HT_.out (by kernel_rfl)) (fun _ _ _ h => h) (Or.inl ⟨by rfl, ?_⟩) ?_ ?_
    rotate_left
    ·intro w'
     go_simp
     with_reducible rfl
    rotate_left
    ·simp only [Act.put, Pa, List.set_cons_zero, List.set_cons_succ, i64_w, i32_w]
     rfl
    refine take_ (i := 14) (N := some 36) (v := ?_) (a' := ?_) #[I,I,I,I,I,I,I,I,I,I,I,I,I,I,I,I,I,O,O,O,O,O,O,O,O] rfl rfl (take_ofW HT_.out HW_.out (by kernel_rfl)) (fun _ _ _ h => h) (Or.inl ⟨by rfl, ?_⟩) hHeld ?_ ?_
    rotate_left
    ·rintro w' ⟨s0, s1, s2, s3, s4, s5⟩
     go_simp
     with_reducible rfl
    rotate_left
    ·simp only [Act.put, Pa, List.set_cons_zero, List.set_cons_succ, i64_w, i32_w]
     rfl
    refine pure_ (i := 17) (N := some 39) (v := ?_) (a' := ?_) #[I,I,I,I,I,I,I,I,I,I,I,I,I,I,I,I,I,I,O,O,O,O,O,O,O] rfl rfl (any_of HT_.out (by kernel_rfl)) (fun _ _ _ h => h) (Or.inl ⟨by rfl, ?_⟩) ?_ ?_
    rotate_left
    ·intro w'
     go_simp
     with_reducible rfl
    rotate_left
    ·simp only [Act.put, Pa, List.set_cons_zero, List.set_cons_succ, i64_w, i32_w]
     rfl
    refine pure_ (i := 18) (N := some 40) (v := ?_) (a' := ?_) #[I,I,I,I,I,I,I,I,I,I,I,I,I,I,I,I,I,I,I,O,O,O,O,O,O] rfl rfl (any_of HT_.out (by kernel_rfl)) (fun _ _ _ h => h) (Or.inl ⟨by rfl, ?_⟩) ?_ ?_
    rotate_left
    ·intro w'
     go_simp
     with_reducible rfl
    rotate_left
    ·simp only [Act.put, Pa, List.set_cons_zero, List.set_cons_succ, i64_w, i32_w]
     rfl
    refine pure_ (i := 19) (N := some 41) (v := ?_) (a' := ?_) #[I,I,I,I,I,I,I,I,I,I,I,I,I,I,I,I,I,I,I,I,O,O,O,O,O] rfl rfl (any_of HT_.out (by kernel_rfl)) (fun _ _ _ h => h) (Or.inl ⟨by rfl, ?_⟩) ?_ ?_
    rotate_left
    ·intro w'
     go_simp
     with_reducible rfl
    rotate_left
    ·simp only [Act.put, Pa, List.set_cons_zero, List.set_cons_succ, i64_w, i32_w]
     rfl
    refine take_ (i := 20) (N := some 42) (v := ?_) (a' := ?_) #[I,I,I,I,I,I,I,I,I,I,I,I,I,I,I,I,I,I,I,I,I,O,O,O,O] rfl rfl (take_ofW HT_.out HW_.out (by kernel_rfl)) (fun _ _ _ h => h) (Or.inl ⟨by rfl, ?_⟩) hHeld ?_ ?_
    rotate_left
    ·rintro w' ⟨s0, s1, s2, s3, s4, s5⟩
     go_simp
     with_reducible rfl
    rotate_left
    ·simp only [Act.put, Pa, List.set_cons_zero, List.set_cons_succ, i64_w, i32_w]
     rfl
    refine one_ (i := 21) (N := some 43) #[true, true, true, true, true, true, true, true, true, true, true, true, true, true, true, true, true, true, true, true, true, true, false, false, false] rfl rfl (one_of HT_.out (by kernel_rfl)) (by decide) (fun K hK => ?_)
    refine goes_ Try.func167 (by kernel_rfl) rfl #[.agg #[.string t126, .int .i64 t130, .string t134]] (by rfl) rfl rfl (by (try simp only [List.map_toArray, List.map_cons, List.map_nil]); first | done | rfl | (simp only [List.length_drop, List.length_take]; rfl)) ?_
    with_reducible refine (spec_SnapRight.calls k t126 t130 t134 t138 _ A27.out).mono ?_
    rintro e w43 ⟨rfl, hb⟩
    refine ⟨_, rfl, ?_⟩
    have n0_ := AM (blk_below (g := gb119) (o := .cells #[.string (⟨#[]⟩ : ByteArray), .int .i64 0, .string (⟨#[]⟩ : ByteArray)] 74 (0, 0)) (by (with_reducible repeat (first | refine Gn ?_ _ | refine Gd ?_ | refine Ga ?_ _)); exact BK119.out) hb)
    have n1_ := AM (IsS149.below (by repeat (first | (with_reducible first | exact HI120.out | apply IsS149.alloc | apply IsS149.drewN | apply IsS149.drew | apply IsS149.set_0 | apply IsS149.set_1 | apply IsS149.set_2 | refine IsS149.far ?_ NB120_119.out _ | refine IsS149.far ?_ NB120_125.out _) | exact HI120.out)) hb)
    have n2_ := AM (blk_below (g := gb125) (o := .cells #[.string t126, .int .i64 t130, .string t134] 74 (0, 0)) (by (with_reducible repeat (first | refine Gn ?_ _ | refine Gd ?_ | refine Ga ?_ _)); exact BK125.out) hb)
    have n3_ := AM (below_step (by repeat (first | (with_reducible first | exact HB.out | apply Wa | apply Wn | apply Wd | refine Ws ?_ (IsS149.ge HI120.out) | refine Ws ?_ GE119.out | refine Ws ?_ GE125.out) | exact HB.out)) hb)
    clear BK119
    clear HI120
    clear BK125
    clear HB
    have BK119 := n0_
    have HI120 := n1_
    have BK125 := n2_
    have HB := n3_
    clear n0_ n1_ n2_ n3_
    (try clear hb)
    (try clear hb2)
    (try clear hk)
    (try clear hi)
    refine hK.out _ _ ⟨(blk_cell BK125.out 0).trans rfl, (blk_cell BK125.out 1).trans rfl, (blk_cell BK125.out 2).trans rfl, (cellS149_0 HI120.out.1), (cellS149_1 HI120.out.1), (cellS149_2 HI120.out.1)⟩ (fun hHeld => ?_)
    clear hK K
    refine norm_ (a' := ?_) ?_ ?_
    rotate_left
    ·show Act.put _ (some 43) _ = _
     simp only [Act.put, Pa, List.set_cons_zero, List.set_cons_succ, i64_w, i32_w]
     rfl
    refine pure_ (i := 22) (N := some 44) (v := ?_) (a' := ?_) #[I,I,I,I,I,I,I,I,I,I,I,I,I,I,I,I,I,I,I,I,I,I,I,O,O] rfl rfl (any_of HT_.out (by kernel_rfl)) (fun _ _ _ h => h) (Or.inl ⟨by rfl, ?_⟩) ?_ ?_
    rotate_left
    ·intro w'
     go_simp
     with_reducible rfl
    rotate_left
    ·simp only [Act.put, Pa, List.set_cons_zero, List.set_cons_succ, i64_w, i32_w]
     rfl
    refine one_ (i := 23) (N := none) #[true, true, true, true, true, true, true, true, true, true, true, true, true, true, true, true, true, true, true, true, true, true, true, true, false] rfl rfl (one_of HT_.out (by kernel_rfl)) (by decide) (fun K hK => ?_)
    have hs44 : w43.cell? ⟨gb119, 0, none⟩ = some (.string (⟨#[]⟩ : ByteArray)) := (blk_cell BK119.out 0).trans rfl
    have hfs44 := blk_frozen BK119.out 0
    have hns44_1 := NB125_119.out
    have hms44_1 := NB119_125.out
    have hs45 : w43.cell? ⟨gb119, 1, none⟩ = some (.int .i64 0) := (blk_cell BK119.out 1).trans rfl
    have hfs45 := blk_frozen BK119.out 1
    have hns45_1 := NB125_119.out
    have hms45_1 := NB119_125.out
    have hs46 : w43.cell? ⟨gb119, 2, none⟩ = some (.string (⟨#[]⟩ : ByteArray)) := (blk_cell BK119.out 2).trans rfl
    have hfs46 := blk_frozen BK119.out 2
    have hns46_1 := NB125_119.out
    have hms46_1 := NB119_125.out
    refine skip_ (w1 := ?_) (by rfl) rfl ?_ ?_
    rotate_left
    ·go_simp
     rfl
    refine hK.out _ _ ⟨((cell_far (p := ⟨gb119, _, none⟩) NB125_119.out _).trans (((cell_far (p := ⟨gb119, _, none⟩) NB125_119.out _).trans (((cell_far (p := ⟨gb119, _, none⟩) NB125_119.out _).trans (hHeld.1)))))), ((cell_far (p := ⟨gb119, _, none⟩) NB125_119.out _).trans (((cell_far (p := ⟨gb119, _, none⟩) NB125_119.out _).trans (((cell_far (p := ⟨gb119, _, none⟩) NB125_119.out _).trans (hHeld.2.1)))))), ((cell_far (p := ⟨gb119, _, none⟩) NB125_119.out _).trans (((cell_far (p := ⟨gb119, _, none⟩) NB125_119.out _).trans (((cell_far (p := ⟨gb119, _, none⟩) NB125_119.out _).trans (hHeld.2.2.1)))))), ((cell_far (p := ⟨gb119, _, none⟩) NB120_119.out _).trans (((cell_far (p := ⟨gb119, _, none⟩) NB120_119.out _).trans (((cell_far (p := ⟨gb119, _, none⟩) NB120_119.out _).trans (hHeld.2.2.2.1)))))), ((cell_far (p := ⟨gb119, _, none⟩) NB120_119.out _).trans (((cell_far (p := ⟨gb119, _, none⟩) NB120_119.out _).trans (((cell_far (p := ⟨gb119, _, none⟩) NB120_119.out _).trans (hHeld.2.2.2.2.1)))))), ((cell_far (p := ⟨gb119, _, none⟩) NB120_119.out _).trans (((cell_far (p := ⟨gb119, _, none⟩) NB120_119.out _).trans (((cell_far (p := ⟨gb119, _, none⟩) NB120_119.out _).trans (hHeld.2.2.2.2.2))))))⟩ (fun hHeld => ?_)
    clear hK K
    refine pure_ (i := 24) (N := some 3) (v := ?_) (a' := ?_) #[I,I,I,I,I,I,I,I,I,I,I,I,I,I,I,I,I,I,I,I,I,I,I,I,I] rfl rfl (any_of HT_.out (by kernel_rfl)) (fun _ _ _ h => h) (Or.inl ⟨by rfl, ?_⟩) ?_ ?_
    rotate_left
    ·intro w'
     go_simp
     with_reducible rfl
    rotate_left
    ·simp only [Act.put, Pa, List.set_cons_zero, List.set_cons_succ, i64_w, i32_w]
     rfl
    refine done_ (done_of HT_.out (by kernel_rfl)) ?_
    try go_wp2
    refine bodyPost_ret (results_ct rfl _ _ gb119 74 #[.string t126, .int .i64 t130, .string t134] (0, 0) _ rfl (by (with_reducible repeat (first | refine Gn ?_ _ | refine Gd ?_ | refine Ga ?_ _)); refine blk_put (cs := #[.string t126, .int .i64 t130, .string (⟨#[]⟩ : ByteArray)]) ?_ 2 _ rfl; (with_reducible repeat (first | refine Gn ?_ _ | refine Gd ?_ | refine Ga ?_ _)); refine blk_put (cs := #[.string t126, .int .i64 0, .string (⟨#[]⟩ : ByteArray)]) ?_ 1 _ rfl; (with_reducible repeat (first | refine Gn ?_ _ | refine Gd ?_ | refine Ga ?_ _)); refine blk_put (cs := #[.string (⟨#[]⟩ : ByteArray), .int .i64 0, .string (⟨#[]⟩ : ByteArray)]) ?_ 0 _ rfl; (with_reducible repeat (first | refine Gn ?_ _ | refine Gd ?_ | refine Ga ?_ _)); exact BK119.out) Try.underlying74 rfl (by kernel_rfl)) rfl ?_
    exact ⟨by first | rfl | (simp [errW_none, errW_some] <;> rfl) | (simp [*, errW_none, errW_some] <;> rfl), by repeat (first | (with_reducible first | exact HB.out | apply Wa | apply Wn | apply Wd | refine Ws ?_ (IsS149.ge HI120.out) | refine Ws ?_ GE119.out | refine Ws ?_ GE125.out) | exact HB.out)⟩
   ·rw [if_neg c26] at H
    have c26b0 : (t136 == (a0.size : Int)) = false := beq_eq_false_iff_ne.mpr c26
    have c26b1 : (t136 != (a0.size : Int)) = true := bne_iff_ne.mpr c26
    simp only [Option.some.injEq, Prod.mk.injEq] at H
    obtain ⟨rfl, rfl, rfl, rfl⟩ := H
    go_enter Try.func116, Try.ntmps116
    try go_wp2_with (first | ((with_reducible refine gate_dst (N := 2) rfl ?_); (try (refine gate_guard (by rfl) ?_; dsimp only)); refine box_event ?hg (N := 2) ?hd (cs := #[.string (⟨#[]⟩ : ByteArray), .int .i64 0, .string (⟨#[]⟩ : ByteArray)]) (t := 74) ?hr ?_; (case hd => rfl); (case hg => rfl); (case hr => first | (go_simp; done) | (go_simp; rfl)); intro gb119 hg w47 hbox hb; have n0_ := AM (below_step (by repeat (first | (with_reducible first | exact HB.out | apply Wa | apply Wn | apply Wd) | exact HB.out)) hb); have n1_ := AM (hbox); have n2_ := AM ((by rw [hg]; exact (below_size (by repeat (first | (with_reducible first | exact HB.out | apply Wa | apply Wn | apply Wd) | exact HB.out))) : w.heap.size ≤ gb119)); have n3_ := AM ((by rw [hg]; exact (below_size (by repeat (first | (with_reducible first | exact HB.out | apply Wa | apply Wn | apply Wd) | exact HB.out))) : w.heap.size ≤ gb119)); clear HB; have HB := n0_; have BK119 := n1_; have GW119 := n2_; have GE119 := n3_; clear n0_ n1_ n2_ n3_; clear hb hbox hg) | ((with_reducible refine gate_dst (N := 9) rfl ?_); (try (refine gate_guard (by rfl) ?_; dsimp only)); refine box_event ?hg (N := 9) ?hd (cs := #[.string a0, .int .i64 0, .bool false]) (t := 149) ?hr ?_; (case hd => rfl); (case hg => rfl); (case hr => first | (go_simp; done) | (go_simp; rfl)); intro gb120 hg w48 hbox hb; have n0_ := AM (blk_below (g := gb119) (o := .cells #[.string (⟨#[]⟩ : ByteArray), .int .i64 0, .string (⟨#[]⟩ : ByteArray)] 74 (0, 0)) (by (with_reducible repeat (first | refine Gn ?_ _ | refine Gd ?_ | refine Ga ?_ _)); exact BK119.out) hb); have n1_ := AM (below_step (by repeat (first | (with_reducible first | exact HB.out | apply Wa | apply Wn | apply Wd | refine Ws ?_ GE119.out) | exact HB.out)) hb); have n2_ := AM ((by rw [hg]; exact Nat.ne_of_lt (blk_lt (g := gb119) (o := .cells #[.string (⟨#[]⟩ : ByteArray), .int .i64 0, .string (⟨#[]⟩ : ByteArray)] 74 (0, 0)) (by (with_reducible repeat (first | refine Gn ?_ _ | refine Gd ?_ | refine Ga ?_ _)); exact BK119.out)) : gb119 ≠ gb120)); have n3_ := AM ((by rw [hg]; exact Nat.ne_of_gt (blk_lt (g := gb119) (o := .cells #[.string (⟨#[]⟩ : ByteArray), .int .i64 0, .string (⟨#[]⟩ : ByteArray)] 74 (0, 0)) (by (with_reducible repeat (first | refine Gn ?_ _ | refine Gd ?_ | refine Ga ?_ _)); exact BK119.out)) : gb120 ≠ gb119)); have n4_ := AM ((⟨hbox, (by rw [hg]; exact (below_size (by repeat (first | (with_reducible first | exact HB.out | apply Wa | apply Wn | apply Wd | refine Ws ?_ GE119.out) | exact HB.out))) : w.heap.size ≤ gb120)⟩ : IsS149 w w48 gb120 a0 0 false)); clear BK119; clear HB; have BK119 := n0_; have HB := n1_; have NB119_120 := n2_; have NB120_119 := n3_; have HI120 := n4_; clear n0_ n1_ n2_ n3_ n4_; clear hb hbox hg) | ((with_reducible refine gate_callee (f := 135) rfl ?_); refine goesL_ (some 11) rfl rfl Try.func135 (by kernel_rfl) rfl #[.pointer (some ⟨gb120, 0, none⟩), .int .i64 1] rfl (by (try simp only [List.map_toArray, List.map_cons, List.map_nil]); first | done | rfl | (simp only [List.length_drop, List.length_take]; rfl)) ?_; (with_reducible refine (spec_l10Reader_bytes.calls gb120 a0 0 false 1 t121 t122 t123 t124 w _ ?side1 ?side2 A2.out).mono ?_); (case side1 => repeat (first | (with_reducible first | exact HI120.out | apply IsS149.alloc | apply IsS149.drewN | apply IsS149.drew | apply IsS149.set_0 | apply IsS149.set_1 | apply IsS149.set_2 | refine IsS149.far ?_ NB120_119.out _) | exact HI120.out)); (case side2 => repeat (first | (with_reducible first | exact HB.out | apply Wa | apply Wn | apply Wd | refine Ws ?_ (IsS149.ge HI120.out) | refine Ws ?_ GE119.out) | exact HB.out)); rintro e w49 ⟨rfl, hi, hb, hk⟩; refine ⟨_, rfl, ?_⟩; have n0_ := AM (KeepBut.blk hk (g' := gb119) (o := .cells #[.string (⟨#[]⟩ : ByteArray), .int .i64 0, .string (⟨#[]⟩ : ByteArray)] 74 (0, 0)) (by (with_reducible repeat (first | refine Gn ?_ _ | refine Gd ?_ | refine Ga ?_ _)); exact BK119.out) NB119_120.out (by simp)); have n1_ := AM (hb); have n2_ := AM (hi); clear BK119; clear HB; clear HI120; have BK119 := n0_; have HB := n1_; have HI120 := n2_; clear n0_ n1_ n2_; (try clear hb); (try clear hb2); (try clear hk); (try clear hi)) | ((with_reducible refine gate_dst (N := 6) rfl ?_); (try (refine gate_guard (by rfl) ?_; dsimp only)); refine box_event ?hg (N := 6) ?hd (cs := #[.string (⟨#[]⟩ : ByteArray), .int .i64 0, .string (⟨#[]⟩ : ByteArray)]) (t := 74) ?hr ?_; (case hd => rfl); (case hg => rfl); (case hr => first | (go_simp; done) | (go_simp; rfl)); intro gb125 hg w50 hbox hb; have n0_ := AM (blk_below (g := gb119) (o := .cells #[.string (⟨#[]⟩ : ByteArray), .int .i64 0, .string (⟨#[]⟩ : ByteArray)] 74 (0, 0)) (by (with_reducible repeat (first | refine Gn ?_ _ | refine Gd ?_ | refine Ga ?_ _)); exact BK119.out) hb); have n1_ := AM (IsS149.below (by repeat (first | (with_reducible first | exact HI120.out | apply IsS149.alloc | apply IsS149.drewN | apply IsS149.drew | apply IsS149.set_0 | apply IsS149.set_1 | apply IsS149.set_2 | refine IsS149.far ?_ NB120_119.out _) | exact HI120.out)) hb); have n2_ := AM (below_step (by repeat (first | (with_reducible first | exact HB.out | apply Wa | apply Wn | apply Wd | refine Ws ?_ (IsS149.ge HI120.out) | refine Ws ?_ GE119.out) | exact HB.out)) hb); have n3_ := AM (hbox); have n4_ := AM ((by rw [hg]; exact (below_size (by repeat (first | (with_reducible first | exact HB.out | apply Wa | apply Wn | apply Wd | refine Ws ?_ (IsS149.ge HI120.out) | refine Ws ?_ GE119.out) | exact HB.out))) : w.heap.size ≤ gb125)); have n5_ := AM ((by rw [hg]; exact (below_size (by repeat (first | (with_reducible first | exact HB.out | apply Wa | apply Wn | apply Wd | refine Ws ?_ (IsS149.ge HI120.out) | refine Ws ?_ GE119.out) | exact HB.out))) : w.heap.size ≤ gb125)); have n6_ := AM ((by rw [hg]; exact Nat.ne_of_lt (blk_lt (g := gb119) (o := .cells #[.string (⟨#[]⟩ : ByteArray), .int .i64 0, .string (⟨#[]⟩ : ByteArray)] 74 (0, 0)) (by (with_reducible repeat (first | refine Gn ?_ _ | refine Gd ?_ | refine Ga ?_ _)); exact BK119.out)) : gb119 ≠ gb125)); have n7_ := AM ((by rw [hg]; exact Nat.ne_of_gt (blk_lt (g := gb119) (o := .cells #[.string (⟨#[]⟩ : ByteArray), .int .i64 0, .string (⟨#[]⟩ : ByteArray)] 74 (0, 0)) (by (with_reducible repeat (first | refine Gn ?_ _ | refine Gd ?_ | refine Ga ?_ _)); exact BK119.out)) : gb125 ≠ gb119)); have n8_ := AM ((by rw [hg]; exact Nat.ne_of_lt (IsS149.lt (show IsS149 w _ gb120 t122 t123 t124 from by repeat (first | (with_reducible first | exact HI120.out | apply IsS149.alloc | apply IsS149.drewN | apply IsS149.drew | apply IsS149.set_0 | apply IsS149.set_1 | apply IsS149.set_2 | refine IsS149.far ?_ NB120_119.out _) | exact HI120.out))) : gb120 ≠ gb125)); have n9_ := AM ((by rw [hg]; exact Nat.ne_of_gt (IsS149.lt (show IsS149 w _ gb120 t122 t123 t124 from by repeat (first | (with_reducible first | exact HI120.out | apply IsS149.alloc | apply IsS149.drewN | apply IsS149.drew | apply IsS149.set_0 | apply IsS149.set_1 | apply IsS149.set_2 | refine IsS149.far ?_ NB120_119.out _) | exact HI120.out))) : gb125 ≠ gb120)); clear BK119; clear HI120; clear HB; have BK119 := n0_; have HI120 := n1_; have HB := n2_; have BK125 := n3_; have GW125 := n4_; have GE125 := n5_; have NB119_125 := n6_; have NB125_119 := n7_; have NB120_125 := n8_; have NB125_120 := n9_; clear n0_ n1_ n2_ n3_ n4_ n5_ n6_ n7_ n8_ n9_; clear hb hbox hg; have hnb51 := NB125_119.out; have hnc51 := NB119_125.out; have hnb52 := NB125_120.out; have hnc52 := NB120_125.out; have hcz53_0 : w50.cell? ⟨gb125, 0, none⟩ = some (.string (⟨#[]⟩ : ByteArray)) := (blk_cell BK125.out 0).trans rfl; have hcz53_1 : w50.cell? ⟨gb125, 1, none⟩ = some (.int .i64 0) := (blk_cell BK125.out 1).trans rfl; have hcz53_2 : w50.cell? ⟨gb125, 2, none⟩ = some (.string (⟨#[]⟩ : ByteArray)) := (blk_cell BK125.out 2).trans rfl; have hfz53_0 := blk_frozen BK125.out 0; have hfz53_1 := blk_frozen BK125.out 1; have hfz53_2 := blk_frozen BK125.out 2) | ((with_reducible refine gate_callee (f := 136) rfl ?_); refine goesL_ (some 14) rfl rfl Try.func136 (by kernel_rfl) rfl #[.pointer (some ⟨gb120, 0, none⟩)] rfl (by (try simp only [List.map_toArray, List.map_cons, List.map_nil]); first | done | rfl | (simp only [List.length_drop, List.length_take]; rfl)) ?_; (with_reducible refine (spec_l10Reader_text.calls k gb120 t122 t123 t124 t126 t127 t128 t129 w _ ?side1 ?side2 A3.out).mono ?_); (case side1 => repeat (first | (with_reducible first | exact HI120.out | apply IsS149.alloc | apply IsS149.drewN | apply IsS149.drew | apply IsS149.set_0 | apply IsS149.set_1 | apply IsS149.set_2 | refine IsS149.far ?_ NB120_119.out _ | refine IsS149.far ?_ NB120_125.out _) | exact HI120.out)); (case side2 => repeat (first | (with_reducible first | exact HB.out | apply Wa | apply Wn | apply Wd | refine Ws ?_ (IsS149.ge HI120.out) | refine Ws ?_ GE119.out | refine Ws ?_ GE125.out) | exact HB.out)); rintro e w54 ⟨rfl, hi, hb, hk⟩; refine ⟨_, rfl, ?_⟩; have n0_ := AM (KeepBut.blk hk (g' := gb119) (o := .cells #[.string (⟨#[]⟩ : ByteArray), .int .i64 0, .string (⟨#[]⟩ : ByteArray)] 74 (0, 0)) (by (with_reducible repeat (first | refine Gn ?_ _ | refine Gd ?_ | refine Ga ?_ _)); refine blk_far ?_ NB119_125.out _; (with_reducible repeat (first | refine Gn ?_ _ | refine Gd ?_ | refine Ga ?_ _)); refine blk_far ?_ NB119_125.out _; (with_reducible repeat (first | refine Gn ?_ _ | refine Gd ?_ | refine Ga ?_ _)); refine blk_far ?_ NB119_125.out _; (with_reducible repeat (first | refine Gn ?_ _ | refine Gd ?_ | refine Ga ?_ _)); exact BK119.out) NB119_120.out (by simp)); have n1_ := AM (KeepBut.blk hk (g' := gb125) (o := .cells #[.string (⟨#[]⟩ : ByteArray), .int .i64 0, .string (⟨#[]⟩ : ByteArray)] 74 (0, 0)) (by (with_reducible repeat (first | refine Gn ?_ _ | refine Gd ?_ | refine Ga ?_ _)); refine blk_put (cs := #[.string (⟨#[]⟩ : ByteArray), .int .i64 0, .string (⟨#[]⟩ : ByteArray)]) ?_ 2 _ rfl; (with_reducible repeat (first | refine Gn ?_ _ | refine Gd ?_ | refine Ga ?_ _)); refine blk_put (cs := #[.string (⟨#[]⟩ : ByteArray), .int .i64 0, .string (⟨#[]⟩ : ByteArray)]) ?_ 1 _ rfl; (with_reducible repeat (first | refine Gn ?_ _ | refine Gd ?_ | refine Ga ?_ _)); refine blk_put (cs := #[.string (⟨#[]⟩ : ByteArray), .int .i64 0, .string (⟨#[]⟩ : ByteArray)]) ?_ 0 _ rfl; (with_reducible repeat (first | refine Gn ?_ _ | refine Gd ?_ | refine Ga ?_ _)); exact BK125.out) NB125_120.out (by simp)); have n2_ := AM (hb); have n3_ := AM (hi); clear BK119; clear BK125; clear HB; clear HI120; have BK119 := n0_; have BK125 := n1_; have HB := n2_; have HI120 := n3_; clear n0_ n1_ n2_ n3_; (try clear hb); (try clear hb2); (try clear hk); (try clear hi); have hcz55_0 : w54.cell? ⟨gb125, 0, none⟩ = some (.string (⟨#[]⟩ : ByteArray)) := (blk_cell BK125.out 0).trans rfl; have hcz55_1 : w54.cell? ⟨gb125, 1, none⟩ = some (.int .i64 0) := (blk_cell BK125.out 1).trans rfl; have hcz55_2 : w54.cell? ⟨gb125, 2, none⟩ = some (.string (⟨#[]⟩ : ByteArray)) := (blk_cell BK125.out 2).trans rfl; have hfz55_0 := blk_frozen BK125.out 0; have hfz55_1 := blk_frozen BK125.out 1; have hfz55_2 := blk_frozen BK125.out 2) | ((with_reducible refine gate_callee (f := 134) rfl ?_); refine goesL_ (some 17) rfl rfl Try.func134 (by kernel_rfl) rfl #[.pointer (some ⟨gb120, 0, none⟩)] rfl (by (try simp only [List.map_toArray, List.map_cons, List.map_nil]); first | done | rfl | (simp only [List.length_drop, List.length_take]; rfl)) ?_; (with_reducible refine (spec_l10Reader_num.calls k gb120 t127 t128 t129 t130 t131 t132 t133 w _ ?side1 ?side2 A4.out).mono ?_); (case side1 => repeat (first | (with_reducible first | exact HI120.out | apply IsS149.alloc | apply IsS149.drewN | apply IsS149.drew | apply IsS149.set_0 | apply IsS149.set_1 | apply IsS149.set_2 | refine IsS149.far ?_ NB120_119.out _ | refine IsS149.far ?_ NB120_125.out _) | exact HI120.out)); (case side2 => repeat (first | (with_reducible first | exact HB.out | apply Wa | apply Wn | apply Wd | refine Ws ?_ (IsS149.ge HI120.out) | refine Ws ?_ GE119.out | refine Ws ?_ GE125.out) | exact HB.out)); rintro e w56 ⟨rfl, hi, hb, hk⟩; refine ⟨_, rfl, ?_⟩; have n0_ := AM (KeepBut.blk hk (g' := gb119) (o := .cells #[.string (⟨#[]⟩ : ByteArray), .int .i64 0, .string (⟨#[]⟩ : ByteArray)] 74 (0, 0)) (by (with_reducible repeat (first | refine Gn ?_ _ | refine Gd ?_ | refine Ga ?_ _)); refine blk_far ?_ NB119_125.out _; (with_reducible repeat (first | refine Gn ?_ _ | refine Gd ?_ | refine Ga ?_ _)); exact BK119.out) NB119_120.out (by simp)); have n1_ := AM (KeepBut.blk hk (g' := gb125) (o := .cells #[.string t126, .int .i64 0, .string (⟨#[]⟩ : ByteArray)] 74 (0, 0)) (by (with_reducible repeat (first | refine Gn ?_ _ | refine Gd ?_ | refine Ga ?_ _)); refine blk_put (cs := #[.string (⟨#[]⟩ : ByteArray), .int .i64 0, .string (⟨#[]⟩ : ByteArray)]) ?_ 0 _ rfl; (with_reducible repeat (first | refine Gn ?_ _ | refine Gd ?_ | refine Ga ?_ _)); exact BK125.out) NB125_120.out (by simp)); have n2_ := AM (hb); have n3_ := AM (hi); clear BK119; clear BK125; clear HB; clear HI120; have BK119 := n0_; have BK125 := n1_; have HB := n2_; have HI120 := n3_; clear n0_ n1_ n2_ n3_; (try clear hb); (try clear hb2); (try clear hk); (try clear hi); have hcz57_0 : w56.cell? ⟨gb125, 0, none⟩ = some (.string t126) := (blk_cell BK125.out 0).trans rfl; have hcz57_1 : w56.cell? ⟨gb125, 1, none⟩ = some (.int .i64 0) := (blk_cell BK125.out 1).trans rfl; have hcz57_2 : w56.cell? ⟨gb125, 2, none⟩ = some (.string (⟨#[]⟩ : ByteArray)) := (blk_cell BK125.out 2).trans rfl; have hfz57_0 := blk_frozen BK125.out 0; have hfz57_1 := blk_frozen BK125.out 1; have hfz57_2 := blk_frozen BK125.out 2) | ((with_reducible refine gate_callee (f := 135) rfl ?_); refine goesL_ (some 20) rfl rfl Try.func135 (by kernel_rfl) rfl #[.pointer (some ⟨gb120, 0, none⟩), .int .i64 32] rfl (by (try simp only [List.map_toArray, List.map_cons, List.map_nil]); first | done | rfl | (simp only [List.length_drop, List.length_take]; rfl)) ?_; (with_reducible refine (spec_l10Reader_bytes.calls gb120 t131 t132 t133 32 t134 t135 t136 false w _ ?side1 ?side2 A5.out).mono ?_); (case side1 => repeat (first | (with_reducible first | exact HI120.out | apply IsS149.alloc | apply IsS149.drewN | apply IsS149.drew | apply IsS149.set_0 | apply IsS149.set_1 | apply IsS149.set_2 | refine IsS149.far ?_ NB120_119.out _ | refine IsS149.far ?_ NB120_125.out _) | exact HI120.out)); (case side2 => repeat (first | (with_reducible first | exact HB.out | apply Wa | apply Wn | apply Wd | refine Ws ?_ (IsS149.ge HI120.out) | refine Ws ?_ GE119.out | refine Ws ?_ GE125.out) | exact HB.out)); rintro e w58 ⟨rfl, hi, hb, hk⟩; refine ⟨_, rfl, ?_⟩; have n0_ := AM (KeepBut.blk hk (g' := gb119) (o := .cells #[.string (⟨#[]⟩ : ByteArray), .int .i64 0, .string (⟨#[]⟩ : ByteArray)] 74 (0, 0)) (by (with_reducible repeat (first | refine Gn ?_ _ | refine Gd ?_ | refine Ga ?_ _)); refine blk_far ?_ NB119_125.out _; (with_reducible repeat (first | refine Gn ?_ _ | refine Gd ?_ | refine Ga ?_ _)); exact BK119.out) NB119_120.out (by simp)); have n1_ := AM (KeepBut.blk hk (g' := gb125) (o := .cells #[.string t126, .int .i64 t130, .string (⟨#[]⟩ : ByteArray)] 74 (0, 0)) (by (with_reducible repeat (first | refine Gn ?_ _ | refine Gd ?_ | refine Ga ?_ _)); refine blk_put (cs := #[.string t126, .int .i64 0, .string (⟨#[]⟩ : ByteArray)]) ?_ 1 _ rfl; (with_reducible repeat (first | refine Gn ?_ _ | refine Gd ?_ | refine Ga ?_ _)); exact BK125.out) NB125_120.out (by simp)); have n2_ := AM (hb); have n3_ := AM (hi); clear BK119; clear BK125; clear HB; clear HI120; have BK119 := n0_; have BK125 := n1_; have HB := n2_; have HI120 := n3_; clear n0_ n1_ n2_ n3_; (try clear hb); (try clear hb2); (try clear hk); (try clear hi); have hcz59_0 : w58.cell? ⟨gb125, 0, none⟩ = some (.string t126) := (blk_cell BK125.out 0).trans rfl; have hcz59_1 : w58.cell? ⟨gb125, 1, none⟩ = some (.int .i64 t130) := (blk_cell BK125.out 1).trans rfl; have hcz59_2 : w58.cell? ⟨gb125, 2, none⟩ = some (.string (⟨#[]⟩ : ByteArray)) := (blk_cell BK125.out 2).trans rfl; have hfz59_0 := blk_frozen BK125.out 0; have hfz59_1 := blk_frozen BK125.out 1; have hfz59_2 := blk_frozen BK125.out 2))
    have n0_ : Aside0 ((w58.setCell ⟨gb125, 2, none⟩ (.string t134)).heap[gb119]? = some (.cells #[.string (⟨#[]⟩ : ByteArray), .int .i64 0, .string (⟨#[]⟩ : ByteArray)] 74 (0, 0))) := ⟨by (with_reducible repeat (first | refine Gn ?_ _ | refine Gd ?_ | refine Ga ?_ _)); refine blk_far ?_ NB119_125.out _; (with_reducible repeat (first | refine Gn ?_ _ | refine Gd ?_ | refine Ga ?_ _)); exact BK119.out⟩
    have n1_ : Aside0 ((w58.setCell ⟨gb125, 2, none⟩ (.string t134)).heap[gb125]? = some (.cells #[.string t126, .int .i64 t130, .string t134] 74 (0, 0))) := ⟨by (with_reducible repeat (first | refine Gn ?_ _ | refine Gd ?_ | refine Ga ?_ _)); refine blk_put (cs := #[.string t126, .int .i64 t130, .string (⟨#[]⟩ : ByteArray)]) ?_ 2 _ rfl; (with_reducible repeat (first | refine Gn ?_ _ | refine Gd ?_ | refine Ga ?_ _)); exact BK125.out⟩
    have n2_ : Aside0 (IsS149 w (w58.setCell ⟨gb125, 2, none⟩ (.string t134)) gb120 t135 t136 false) := ⟨by repeat (first | (with_reducible first | exact HI120.out | apply IsS149.alloc | apply IsS149.drewN | apply IsS149.drew | apply IsS149.set_0 | apply IsS149.set_1 | apply IsS149.set_2 | refine IsS149.far ?_ NB120_119.out _ | refine IsS149.far ?_ NB120_125.out _) | exact HI120.out)⟩
    have n3_ : Aside0 (Below w.heap.size w (w58.setCell ⟨gb125, 2, none⟩ (.string t134))) := ⟨by repeat (first | (with_reducible first | exact HB.out | apply Wa | apply Wn | apply Wd | refine Ws ?_ (IsS149.ge HI120.out) | refine Ws ?_ GE119.out | refine Ws ?_ GE125.out) | exact HB.out)⟩
    (try clear BK119)
    (try clear BK125)
    (try clear HI120)
    (try clear HB)
    generalize (w58.setCell ⟨gb125, 2, none⟩ (.string t134)) = w60 at n0_ n1_ n2_ n3_ ⊢
    have BK119 := n0_
    have BK125 := n1_
    have HI120 := n2_
    have HB := n3_
    clear n0_ n1_ n2_ n3_
    have n0_ := AM (Gd BK119.out)
    have n1_ := AM (Gd BK125.out)
    have n2_ := AM (IsS149.drew HI120.out)
    have n3_ := AM (Wd HB.out)
    clear BK119
    clear BK125
    clear HI120
    clear HB
    have BK119 := n0_
    have BK125 := n1_
    have HI120 := n2_
    have HB := n3_
    clear n0_ n1_ n2_ n3_
    refine start_ (n := 25) (S := fun w' => w'.cell? ⟨gb125, 0, none⟩ = some (.string t126) ∧ w'.cell? ⟨gb125, 1, none⟩ = some (.int .i64 t130) ∧ w'.cell? ⟨gb125, 2, none⟩ = some (.string t134) ∧ w'.cell? ⟨gb120, 0, none⟩ = some (.string t135) ∧ w'.cell? ⟨gb120, 1, none⟩ = some (.int .i64 t136) ∧ w'.cell? ⟨gb120, 2, none⟩ = some (.bool false)) (ds := []) #[O,O,O,O,O,O,O,O,O,O,O,O,O,O,O,O,O,O,O,O,O,O,O,O,O] (by kernel_rfl) rfl rfl ⟨(blk_cell BK125.out 0).trans rfl, (blk_cell BK125.out 1).trans rfl, (blk_cell BK125.out 2).trans rfl, (cellS149_0 HI120.out.1), (cellS149_1 HI120.out.1), (cellS149_2 HI120.out.1)⟩ (fun hHeld => ?_); refine with_tabW spec_l12Snap.tab7 spec_l12Snap.bits7 (fun HT_ HW_ => ?_)
    generalize w60.drew = w61 at BK119 BK125 HI120 HB hHeld ⊢
    refine pure_ (i := 1) (N := some 23) (v := ?_) (a' := ?_) #[O,I,O,O,O,O,O,O,O,O,O,O,O,O,O,O,O,O,O,O,O,O,O,O,O] rfl rfl (any_of HT_.out (by kernel_rfl)) (fun _ _ _ h => h) (Or.inl ⟨by rfl, ?_⟩) ?_ ?_
    rotate_left
    ·intro w'
     go_simp
     with_reducible rfl
    rotate_left
    ·simp only [Act.put, Pa, List.set_cons_zero, List.set_cons_succ, i64_w, i32_w]
     rfl
    refine pure_ (i := 2) (N := some 24) (v := ?_) (a' := ?_) #[O,I,I,O,O,O,O,O,O,O,O,O,O,O,O,O,O,O,O,O,O,O,O,O,O] rfl rfl (any_of HT_.out (by kernel_rfl)) (fun _ _ _ h => h) (Or.inl ⟨by rfl, ?_⟩) ?_ ?_
    rotate_left
    ·intro w'
     go_simp
     with_reducible rfl
    rotate_left
    ·simp only [Act.put, Pa, List.set_cons_zero, List.set_cons_succ, i64_w, i32_w]
     rfl
    refine pure_ (i := 3) (N := some 25) (v := ?_) (a' := ?_) #[O,I,I,I,O,O,O,O,O,O,O,O,O,O,O,O,O,O,O,O,O,O,O,O,O] rfl rfl (any_of HT_.out (by kernel_rfl)) (fun _ _ _ h => h) (Or.inl ⟨by rfl, ?_⟩) ?_ ?_
    rotate_left
    ·intro w'
     go_simp
     with_reducible rfl
    rotate_left
    ·simp only [Act.put, Pa, List.set_cons_zero, List.set_cons_succ, i64_w, i32_w]
     rfl
    refine pure_ (i := 4) (N := some 26) (v := ?_) (a' := ?_) #[O,I,I,I,I,O,O,O,O,O,O,O,O,O,O,O,O,O,O,O,O,O,O,O,O] rfl rfl (any_of HT_.out (by kernel_rfl)) (fun _ _ _ h => h) (Or.inl ⟨by rfl, ?_⟩) ?_ ?_
    rotate_left
    ·intro w'
     go_simp
     with_reducible rfl
    rotate_left
    ·simp only [Act.put, Pa, List.set_cons_zero, List.set_cons_succ, i64_w, i32_w]
     rfl
    refine pure_ (i := 5) (N := some 27) (v := ?_) (a' := ?_) #[O,I,I,I,I,I,O,O,O,O,O,O,O,O,O,O,O,O,O,O,O,O,O,O,O] rfl rfl (any_of HT_.out (by kernel_rfl)) (fun _ _ _ h => h) (Or.inl ⟨by rfl, ?_⟩) ?_ ?_
    rotate_left
    ·intro w'
     go_simp
     with_reducible rfl
    rotate_left
    ·simp only [Act.put, Pa, List.set_cons_zero, List.set_cons_succ, i64_w, i32_w]
     rfl
    refine pure_ (i := 6) (N := some 28) (v := ?_) (a' := ?_) #[O,I,I,I,I,I,I,O,O,O,O,O,O,O,O,O,O,O,O,O,O,O,O,O,O] rfl rfl (any_of HT_.out (by kernel_rfl)) (fun _ _ _ h => h) (Or.inl ⟨by rfl, ?_⟩) ?_ ?_
    rotate_left
    ·intro w'
     go_simp
     with_reducible rfl
    rotate_left
    ·simp only [Act.put, Pa, List.set_cons_zero, List.set_cons_succ, i64_w, i32_w]
     rfl
    refine take_ (i := 0) (N := some 22) (v := ?_) (a' := ?_) #[I,I,I,I,I,I,I,O,O,O,O,O,O,O,O,O,O,O,O,O,O,O,O,O,O] rfl rfl (take_ofW HT_.out HW_.out (by kernel_rfl)) (fun _ _ _ h => h) (Or.inl ⟨by rfl, ?_⟩) hHeld ?_ ?_
    rotate_left
    ·rintro w' ⟨s0, s1, s2, s3, s4, s5⟩
     go_simp
     with_reducible rfl
    rotate_left
    ·simp only [Act.put, Pa, List.set_cons_zero, List.set_cons_succ, i64_w, i32_w]
     rfl
    refine take_ (i := 7) (N := some 29) (v := ?_) (a' := ?_) #[I,I,I,I,I,I,I,I,O,O,O,O,O,O,O,O,O,O,O,O,O,O,O,O,O] rfl rfl (take_ofW HT_.out HW_.out (by kernel_rfl)) (fun _ _ _ h => h) (Or.inl ⟨by rfl, ?_⟩) hHeld ?_ ?_
    rotate_left
    ·rintro w' ⟨s0, s1, s2, s3, s4, s5⟩
     go_simp
     with_reducible rfl
    rotate_left
    ·simp only [Act.put, Pa, List.set_cons_zero, List.set_cons_succ, i64_w, i32_w]
     rfl
    refine pure_ (i := 8) (N := some 30) (v := ?_) (a' := ?_) #[I,I,I,I,I,I,I,I,I,O,O,O,O,O,O,O,O,O,O,O,O,O,O,O,O] rfl rfl (any_of HT_.out (by kernel_rfl)) (fun _ _ _ h => h) (Or.inl ⟨by rfl, ?_⟩) ?_ ?_
    rotate_left
    ·intro w'
     go_simp
     with_reducible rfl
    rotate_left
    ·simp only [Act.put, Pa, List.set_cons_zero, List.set_cons_succ, i64_w, i32_w]
     rfl
    refine pure_ (i := 9) (N := some 31) (v := ?_) (a' := ?_) #[I,I,I,I,I,I,I,I,I,I,O,O,O,O,O,O,O,O,O,O,O,O,O,O,O] rfl rfl (any_of HT_.out (by kernel_rfl)) (fun _ _ _ h => h) (Or.inl ⟨by rfl, ?_⟩) ?_ ?_
    rotate_left
    ·intro w'
     go_simp
     with_reducible rfl
    rotate_left
    ·simp only [Act.put, Pa, List.set_cons_zero, List.set_cons_succ, i64_w, i32_w]
     rfl
    refine pure_ (i := 10) (N := some 32) (v := ?_) (a' := ?_) #[I,I,I,I,I,I,I,I,I,I,I,O,O,O,O,O,O,O,O,O,O,O,O,O,O] rfl rfl (any_of HT_.out (by kernel_rfl)) (fun _ _ _ h => h) (Or.inl ⟨by rfl, ?_⟩) ?_ ?_
    rotate_left
    ·intro w'
     go_simp
     with_reducible rfl
    rotate_left
    ·simp only [Act.put, Pa, List.set_cons_zero, List.set_cons_succ, i64_w, i32_w]
     rfl
    refine pure_ (i := 11) (N := some 33) (v := ?_) (a' := ?_) #[I,I,I,I,I,I,I,I,I,I,I,I,O,O,O,O,O,O,O,O,O,O,O,O,O] rfl rfl (any_of HT_.out (by kernel_rfl)) (fun _ _ _ h => h) (Or.inl ⟨by rfl, ?_⟩) ?_ ?_
    rotate_left
    ·intro w'
     go_simp
     with_reducible rfl
    rotate_left
    ·simp only [Act.put, Pa, List.set_cons_zero, List.set_cons_succ, i64_w, i32_w]
     rfl
    refine pure_ (i := 12) (N := some 34) (v := ?_) (a' := ?_) #[I,I,I,I,I,I,I,I,I,I,I,I,I,O,O,O,O,O,O,O,O,O,O,O,O] rfl rfl (any_of HT_.out (by kernel_rfl)) (fun _ _ _ h => h) (Or.inl ⟨by rfl, ?_⟩) ?_ ?_
    rotate_left
    ·intro w'
     go_simp
     with_reducible rfl
    rotate_left
    ·simp only [Act.put, Pa, List.set_cons_zero, List.set_cons_succ, i64_w, i32_w]
     rfl
    refine pure_ (i := 13) (N := some 35) (v := ?_) (a' := ?_) #[I,I,I,I,I,I,I,I,I,I,I,I,I,I,O,O,O,O,O,O,O,O,O,O,O] rfl rfl (any_of HT_.out (by kernel_rfl)) (fun _ _ _ h => h) (Or.inl ⟨by rfl, ?_⟩) ?_ ?_
    rotate_left
    ·intro w'
     go_simp
     with_reducible rfl
    rotate_left
    ·simp only [Act.put, Pa, List.set_cons_zero, List.set_cons_succ, i64_w, i32_w]
     rfl
    refine pure_ (i := 15) (N := some 37) (v := ?_) (a' := ?_) #[I,I,I,I,I,I,I,I,I,I,I,I,I,I,O,I,O,O,O,O,O,O,O,O,O] rfl rfl (any_of HT_.out (by kernel_rfl)) (fun _ _ _ h => h) (Or.inl ⟨by rfl, ?_⟩) ?_ ?_
    rotate_left
    ·intro w'
     go_simp
     with_reducible rfl
    rotate_left
    ·simp only [Act.put, Pa, List.set_cons_zero, List.set_cons_succ, i64_w, i32_w]
     rfl
    refine pure_ (i := 16) (N := some 38) (v := ?_) (a' := ?_) #[I,I,I,I,I,I,I,I,I,I,I,I,I,I,O,I,I,O,O,O,O,O,O,O,O] rfl rfl (any_of HT_.out (by kernel_rfl)) (fun _ _ _ h => h) (Or.inl ⟨by rfl, ?_⟩) ?_ ?_
    rotate_left
    ·intro w'
     go_simp
     with_reducible rfl
    rotate_left
    ·simp only [Act.put, Pa, List.set_cons_zero, List.set_cons_succ, i64_w, i32_w]
     rfl
    refine take_ (i := 14) (N := some 36) (v := ?_) (a' := ?_) #[I,I,I,I,I,I,I,I,I,I,I,I,I,I,I,I,I,O,O,O,O,O,O,O,O] rfl rfl (take_ofW HT_.out HW_.out (by kernel_rfl)) (fun _ _ _ h => h) (Or.inl ⟨by rfl, ?_⟩) hHeld ?_ ?_
    rotate_left
    ·rintro w' ⟨s0, s1, s2, s3, s4, s5⟩
     go_simp
     with_reducible rfl
    rotate_left
    ·simp only [Act.put, Pa, List.set_cons_zero, List.set_cons_succ, i64_w, i32_w]
     rfl
    refine pure_ (i := 17) (N := some 39) (v := ?_) (a' := ?_) #[I,I,I,I,I,I,I,I,I,I,I,I,I,I,I,I,I,I,O,O,O,O,O,O,O] rfl rfl (any_of HT_.out (by kernel_rfl)) (fun _ _ _ h => h) (Or.inl ⟨by rfl, ?_⟩) ?_ ?_
    rotate_left
    ·intro w'
     go_simp
     with_reducible rfl
    rotate_left
    ·simp only [Act.put, Pa, List.set_cons_zero, List.set_cons_succ, i64_w, i32_w]
     rfl
    refine pure_ (i := 18) (N := some 40) (v := ?_) (a' := ?_) #[I,I,I,I,I,I,I,I,I,I,I,I,I,I,I,I,I,I,I,O,O,O,O,O,O] rfl rfl (any_of HT_.out (by kernel_rfl)) (fun _ _ _ h => h) (Or.inl ⟨by rfl, ?_⟩) ?_ ?_
    rotate_left
    ·intro w'
     go_simp
     with_reducible rfl
    rotate_left
    ·simp only [Act.put, Pa, List.set_cons_zero, List.set_cons_succ, i64_w, i32_w]
     rfl
    refine pure_ (i := 19) (N := some 41) (v := ?_) (a' := ?_) #[I,I,I,I,I,I,I,I,I,I,I,I,I,I,I,I,I,I,I,I,O,O,O,O,O] rfl rfl (any_of HT_.out (by kernel_rfl)) (fun _ _ _ h => h) (Or.inl ⟨by rfl, ?_⟩) ?_ ?_
    rotate_left
    ·intro w'
     go_simp
     with_reducible rfl
    rotate_left
    ·simp only [Act.put, Pa, List.set_cons_zero, List.set_cons_succ, i64_w, i32_w]
     rfl
    refine pure_ (i := 20) (N := some 42) (v := undef) (a' := ?_) #[I,I,I,I,I,I,I,I,I,I,I,I,I,I,I,I,I,I,I,I,I,O,O,O,O] rfl rfl (any_of HT_.out (by kernel_rfl)) (fun _ _ _ h => h) (Or.inr ⟨by rfl, rfl⟩) ?_ ?_
    rotate_left
    ·simp only [Act.put, Pa, List.set_cons_zero, List.set_cons_succ, i64_w, i32_w]
     rfl
    refine pure_ (i := 21) (N := some 43) (v := undef) (a' := ?_) #[I,I,I,I,I,I,I,I,I,I,I,I,I,I,I,I,I,I,I,I,I,I,O,O,O] rfl rfl (any_of HT_.out (by kernel_rfl)) (fun _ _ _ h => h) (Or.inr ⟨by rfl, rfl⟩) ?_ ?_
    rotate_left
    ·simp only [Act.put, Pa, List.set_cons_zero, List.set_cons_succ, i64_w, i32_w]
     rfl
    refine pure_ (i := 22) (N := some 44) (v := ?_) (a' := ?_) #[I,I,I,I,I,I,I,I,I,I,I,I,I,I,I,I,I,I,I,I,I,I,I,O,O] rfl rfl (any_of HT_.out (by kernel_rfl)) (fun _ _ _ h => h) (Or.inl ⟨by rfl, ?_⟩) ?_ ?_
    rotate_left
    ·intro w'
     go_simp
     with_reducible rfl
    rotate_left
    ·simp only [Act.put, Pa, List.set_cons_zero, List.set_cons_succ, i64_w, i32_w]
     rfl
    refine one_ (i := 23) (N := none) #[true, true, true, true, true, true, true, true, true, true, true, true, true, true, true, true, true, true, true, true, true, true, true, true, false] rfl rfl (one_of HT_.out (by kernel_rfl)) (by decide) (fun K hK => ?_)
    have hs62 : w61.cell? ⟨gb119, 0, none⟩ = some (.string (⟨#[]⟩ : ByteArray)) := (blk_cell BK119.out 0).trans rfl
    have hfs62 := blk_frozen BK119.out 0
    have hns62_1 := NB125_119.out
    have hms62_1 := NB119_125.out
    have hs63 : w61.cell? ⟨gb119, 1, none⟩ = some (.int .i64 0) := (blk_cell BK119.out 1).trans rfl
    have hfs63 := blk_frozen BK119.out 1
    have hns63_1 := NB125_119.out
    have hms63_1 := NB119_125.out
    have hs64 : w61.cell? ⟨gb119, 2, none⟩ = some (.string (⟨#[]⟩ : ByteArray)) := (blk_cell BK119.out 2).trans rfl
    have hfs64 := blk_frozen BK119.out 2
    have hns64_1 := NB125_119.out
    have hms64_1 := NB119_125.out
    refine skip_ (w1 := ?_) (by rfl) rfl ?_ ?_
    rotate_left
    ·go_simp
     rfl
    refine hK.out _ _ ⟨((cell_far (p := ⟨gb119, _, none⟩) NB125_119.out _).trans (((cell_far (p := ⟨gb119, _, none⟩) NB125_119.out _).trans (((cell_far (p := ⟨gb119, _, none⟩) NB125_119.out _).trans (hHeld.1)))))), ((cell_far (p := ⟨gb119, _, none⟩) NB125_119.out _).trans (((cell_far (p := ⟨gb119, _, none⟩) NB125_119.out _).trans (((cell_far (p := ⟨gb119, _, none⟩) NB125_119.out _).trans (hHeld.2.1)))))), ((cell_far (p := ⟨gb119, _, none⟩) NB125_119.out _).trans (((cell_far (p := ⟨gb119, _, none⟩) NB125_119.out _).trans (((cell_far (p := ⟨gb119, _, none⟩) NB125_119.out _).trans (hHeld.2.2.1)))))), ((cell_far (p := ⟨gb119, _, none⟩) NB120_119.out _).trans (((cell_far (p := ⟨gb119, _, none⟩) NB120_119.out _).trans (((cell_far (p := ⟨gb119, _, none⟩) NB120_119.out _).trans (hHeld.2.2.2.1)))))), ((cell_far (p := ⟨gb119, _, none⟩) NB120_119.out _).trans (((cell_far (p := ⟨gb119, _, none⟩) NB120_119.out _).trans (((cell_far (p := ⟨gb119, _, none⟩) NB120_119.out _).trans (hHeld.2.2.2.2.1)))))), ((cell_far (p := ⟨gb119, _, none⟩) NB120_119.out _).trans (((cell_far (p := ⟨gb119, _, none⟩) NB120_119.out _).trans (((cell_far (p := ⟨gb119, _, none⟩) NB120_119.out _).trans (hHeld.2.2.2.2.2))))))⟩ (fun hHeld => ?_)
    clear hK K
    refine pure_ (i := 24) (N := some 3) (v := ?_) (a' := ?_) #[I,I,I,I,I,I,I,I,I,I,I,I,I,I,I,I,I,I,I,I,I,I,I,I,I] rfl rfl (any_of HT_.out (by kernel_rfl)) (fun _ _ _ h => h) (Or.inl ⟨by rfl, ?_⟩) ?_ ?_
    rotate_left
    ·intro w'
     go_simp
     with_reducible rfl
    rotate_left
    ·simp only [Act.put, Pa, List.set_cons_zero, List.set_cons_succ, i64_w, i32_w]
     rfl
    refine done_ (done_of HT_.out (by kernel_rfl)) ?_
    try go_wp2
    refine bodyPost_ret (results_ct rfl _ _ gb119 74 #[.string t126, .int .i64 t130, .string t134] (0, 0) _ rfl (by (with_reducible repeat (first | refine Gn ?_ _ | refine Gd ?_ | refine Ga ?_ _)); refine blk_put (cs := #[.string t126, .int .i64 t130, .string (⟨#[]⟩ : ByteArray)]) ?_ 2 _ rfl; (with_reducible repeat (first | refine Gn ?_ _ | refine Gd ?_ | refine Ga ?_ _)); refine blk_put (cs := #[.string t126, .int .i64 0, .string (⟨#[]⟩ : ByteArray)]) ?_ 1 _ rfl; (with_reducible repeat (first | refine Gn ?_ _ | refine Gd ?_ | refine Ga ?_ _)); refine blk_put (cs := #[.string (⟨#[]⟩ : ByteArray), .int .i64 0, .string (⟨#[]⟩ : ByteArray)]) ?_ 0 _ rfl; (with_reducible repeat (first | refine Gn ?_ _ | refine Gd ?_ | refine Ga ?_ _)); exact BK119.out) Try.underlying74 rfl (by kernel_rfl)) rfl ?_
    exact ⟨by first | rfl | (simp [errW_none, errW_some] <;> rfl) | (simp [*, errW_none, errW_some] <;> rfl), by repeat (first | (with_reducible first | exact HB.out | apply Wa | apply Wn | apply Wd | refine Ws ?_ (IsS149.ge HI120.out) | refine Ws ?_ GE119.out | refine Ws ?_ GE125.out) | exact HB.out)⟩
 ·rw [if_neg c6] at H
  have c6b0 : (t121.toList == ([83] : List UInt8)) = false := beq_eq_false_iff_ne.mpr c6
  have c6b1 : (t121.toList != ([83] : List UInt8)) = true := bne_iff_ne.mpr c6
  simp only [Option.some.injEq, Prod.mk.injEq] at H
  obtain ⟨rfl, rfl, rfl, rfl⟩ := H
  go_enter Try.func116, Try.ntmps116
  try go_wp2_with (first | ((with_reducible refine gate_dst (N := 2) rfl ?_); (try (refine gate_guard (by rfl) ?_; dsimp only)); refine box_event ?hg (N := 2) ?hd (cs := #[.string (⟨#[]⟩ : ByteArray), .int .i64 0, .string (⟨#[]⟩ : ByteArray)]) (t := 74) ?hr ?_; (case hd => rfl); (case hg => rfl); (case hr => first | (go_simp; done) | (go_simp; rfl)); intro gb119 hg w65 hbox hb; have n0_ := AM (below_step (by repeat (first | (with_reducible first | exact HB.out | apply Wa | apply Wn | apply Wd) | exact HB.out)) hb); have n1_ := AM (hbox); have n2_ := AM ((by rw [hg]; exact (below_size (by repeat (first | (with_reducible first | exact HB.out | apply Wa | apply Wn | apply Wd) | exact HB.out))) : w.heap.size ≤ gb119)); have n3_ := AM ((by rw [hg]; exact (below_size (by repeat (first | (with_reducible first | exact HB.out | apply Wa | apply Wn | apply Wd) | exact HB.out))) : w.heap.size ≤ gb119)); clear HB; have HB := n0_; have BK119 := n1_; have GW119 := n2_; have GE119 := n3_; clear n0_ n1_ n2_ n3_; clear hb hbox hg) | ((with_reducible refine gate_dst (N := 9) rfl ?_); (try (refine gate_guard (by rfl) ?_; dsimp only)); refine box_event ?hg (N := 9) ?hd (cs := #[.string a0, .int .i64 0, .bool false]) (t := 149) ?hr ?_; (case hd => rfl); (case hg => rfl); (case hr => first | (go_simp; done) | (go_simp; rfl)); intro gb120 hg w66 hbox hb; have n0_ := AM (blk_below (g := gb119) (o := .cells #[.string (⟨#[]⟩ : ByteArray), .int .i64 0, .string (⟨#[]⟩ : ByteArray)] 74 (0, 0)) (by (with_reducible repeat (first | refine Gn ?_ _ | refine Gd ?_ | refine Ga ?_ _)); exact BK119.out) hb); have n1_ := AM (below_step (by repeat (first | (with_reducible first | exact HB.out | apply Wa | apply Wn | apply Wd | refine Ws ?_ GE119.out) | exact HB.out)) hb); have n2_ := AM ((by rw [hg]; exact Nat.ne_of_lt (blk_lt (g := gb119) (o := .cells #[.string (⟨#[]⟩ : ByteArray), .int .i64 0, .string (⟨#[]⟩ : ByteArray)] 74 (0, 0)) (by (with_reducible repeat (first | refine Gn ?_ _ | refine Gd ?_ | refine Ga ?_ _)); exact BK119.out)) : gb119 ≠ gb120)); have n3_ := AM ((by rw [hg]; exact Nat.ne_of_gt (blk_lt (g := gb119) (o := .cells #[.string (⟨#[]⟩ : ByteArray), .int .i64 0, .string (⟨#[]⟩ : ByteArray)] 74 (0, 0)) (by (with_reducible repeat (first | refine Gn ?_ _ | refine Gd ?_ | refine Ga ?_ _)); exact BK119.out)) : gb120 ≠ gb119)); have n4_ := AM ((⟨hbox, (by rw [hg]; exact (below_size (by repeat (first | (with_reducible first | exact HB.out | apply Wa | apply Wn | apply Wd | refine Ws ?_ GE119.out) | exact HB.out))) : w.heap.size ≤ gb120)⟩ : IsS149 w w66 gb120 a0 0 false)); clear BK119; clear HB; have BK119 := n0_; have HB := n1_; have NB119_120 := n2_; have NB120_119 := n3_; have HI120 := n4_; clear n0_ n1_ n2_ n3_ n4_; clear hb hbox hg) | ((with_reducible refine gate_callee (f := 135) rfl ?_); refine goesL_ (some 11) rfl rfl Try.func135 (by kernel_rfl) rfl #[.pointer (some ⟨gb120, 0, none⟩), .int .i64 1] rfl (by (try simp only [List.map_toArray, List.map_cons, List.map_nil]); first | done | rfl | (simp only [List.length_drop, List.length_take]; rfl)) ?_; (with_reducible refine (spec_l10Reader_bytes.calls gb120 a0 0 false 1 t121 t122 t123 t124 w _ ?side1 ?side2 A2.out).mono ?_); (case side1 => repeat (first | (with_reducible first | exact HI120.out | apply IsS149.alloc | apply IsS149.drewN | apply IsS149.drew | apply IsS149.set_0 | apply IsS149.set_1 | apply IsS149.set_2 | refine IsS149.far ?_ NB120_119.out _) | exact HI120.out)); (case side2 => repeat (first | (with_reducible first | exact HB.out | apply Wa | apply Wn | apply Wd | refine Ws ?_ (IsS149.ge HI120.out) | refine Ws ?_ GE119.out) | exact HB.out)); rintro e w67 ⟨rfl, hi, hb, hk⟩; refine ⟨_, rfl, ?_⟩; have n0_ := AM (KeepBut.blk hk (g' := gb119) (o := .cells #[.string (⟨#[]⟩ : ByteArray), .int .i64 0, .string (⟨#[]⟩ : ByteArray)] 74 (0, 0)) (by (with_reducible repeat (first | refine Gn ?_ _ | refine Gd ?_ | refine Ga ?_ _)); exact BK119.out) NB119_120.out (by simp)); have n1_ := AM (hb); have n2_ := AM (hi); clear BK119; clear HB; clear HI120; have BK119 := n0_; have HB := n1_; have HI120 := n2_; clear n0_ n1_ n2_; (try clear hb); (try clear hb2); (try clear hk); (try clear hi)) | ((with_reducible refine gate_dst (N := 6) rfl ?_); (try (refine gate_guard (by rfl) ?_; dsimp only)); refine box_event ?hg (N := 6) ?hd (cs := #[.string (⟨#[]⟩ : ByteArray), .int .i64 0, .string (⟨#[]⟩ : ByteArray)]) (t := 74) ?hr ?_; (case hd => rfl); (case hg => rfl); (case hr => first | (go_simp; done) | (go_simp; rfl)); intro gb125 hg w68 hbox hb; have n0_ := AM (blk_below (g := gb119) (o := .cells #[.string (⟨#[]⟩ : ByteArray), .int .i64 0, .string (⟨#[]⟩ : ByteArray)] 74 (0, 0)) (by (with_reducible repeat (first | refine Gn ?_ _ | refine Gd ?_ | refine Ga ?_ _)); exact BK119.out) hb); have n1_ := AM (IsS149.below (by repeat (first | (with_reducible first | exact HI120.out | apply IsS149.alloc | apply IsS149.drewN | apply IsS149.drew | apply IsS149.set_0 | apply IsS149.set_1 | apply IsS149.set_2 | refine IsS149.far ?_ NB120_119.out _) | exact HI120.out)) hb); have n2_ := AM (below_step (by repeat (first | (with_reducible first | exact HB.out | apply Wa | apply Wn | apply Wd | refine Ws ?_ (IsS149.ge HI120.out) | refine Ws ?_ GE119.out) | exact HB.out)) hb); have n3_ := AM (hbox); have n4_ := AM ((by rw [hg]; exact (below_size (by repeat (first | (with_reducible first | exact HB.out | apply Wa | apply Wn | apply Wd | refine Ws ?_ (IsS149.ge HI120.out) | refine Ws ?_ GE119.out) | exact HB.out))) : w.heap.size ≤ gb125)); have n5_ := AM ((by rw [hg]; exact (below_size (by repeat (first | (with_reducible first | exact HB.out | apply Wa | apply Wn | apply Wd | refine Ws ?_ (IsS149.ge HI120.out) | refine Ws ?_ GE119.out) | exact HB.out))) : w.heap.size ≤ gb125)); have n6_ := AM ((by rw [hg]; exact Nat.ne_of_lt (blk_lt (g := gb119) (o := .cells #[.string (⟨#[]⟩ : ByteArray), .int .i64 0, .string (⟨#[]⟩ : ByteArray)] 74 (0, 0)) (by (with_reducible repeat (first | refine Gn ?_ _ | refine Gd ?_ | refine Ga ?_ _)); exact BK119.out)) : gb119 ≠ gb125)); have n7_ := AM ((by rw [hg]; exact Nat.ne_of_gt (blk_lt (g := gb119) (o := .cells #[.string (⟨#[]⟩ : ByteArray), .int .i64 0, .string (⟨#[]⟩ : ByteArray)] 74 (0, 0)) (by (with_reducible repeat (first | refine Gn ?_ _ | refine Gd ?_ | refine Ga ?_ _)); exact BK119.out)) : gb125 ≠ gb119)); have n8_ := AM ((by rw [hg]; exact Nat.ne_of_lt (IsS149.lt (show IsS149 w _ gb120 t122 t123 t124 from by repeat (first | (with_reducible first | exact HI120.out | apply IsS149.alloc | apply IsS149.drewN | apply IsS149.drew | apply IsS149.set_0 | apply IsS149.set_1 | apply IsS149.set_2 | refine IsS149.far ?_ NB120_119.out _) | exact HI120.out))) : gb120 ≠ gb125)); have n9_ := AM ((by rw [hg]; exact Nat.ne_of_gt (IsS149.lt (show IsS149 w _ gb120 t122 t123 t124 from by repeat (first | (with_reducible first | exact HI120.out | apply IsS149.alloc | apply IsS149.drewN | apply IsS149.drew | apply IsS149.set_0 | apply IsS149.set_1 | apply IsS149.set_2 | refine IsS149.far ?_ NB120_119.out _) | exact HI120.out))) : gb125 ≠ gb120)); clear BK119; clear HI120; clear HB; have BK119 := n0_; have HI120 := n1_; have HB := n2_; have BK125 := n3_; have GW125 := n4_; have GE125 := n5_; have NB119_125 := n6_; have NB125_119 := n7_; have NB120_125 := n8_; have NB125_120 := n9_; clear n0_ n1_ n2_ n3_ n4_ n5_ n6_ n7_ n8_ n9_; clear hb hbox hg; have hnb69 := NB125_119.out; have hnc69 := NB119_125.out; have hnb70 := NB125_120.out; have hnc70 := NB120_125.out; have hcz71_0 : w68.cell? ⟨gb125, 0, none⟩ = some (.string (⟨#[]⟩ : ByteArray)) := (blk_cell BK125.out 0).trans rfl; have hcz71_1 : w68.cell? ⟨gb125, 1, none⟩ = some (.int .i64 0) := (blk_cell BK125.out 1).trans rfl; have hcz71_2 : w68.cell? ⟨gb125, 2, none⟩ = some (.string (⟨#[]⟩ : ByteArray)) := (blk_cell BK125.out 2).trans rfl; have hfz71_0 := blk_frozen BK125.out 0; have hfz71_1 := blk_frozen BK125.out 1; have hfz71_2 := blk_frozen BK125.out 2) | ((with_reducible refine gate_callee (f := 136) rfl ?_); refine goesL_ (some 14) rfl rfl Try.func136 (by kernel_rfl) rfl #[.pointer (some ⟨gb120, 0, none⟩)] rfl (by (try simp only [List.map_toArray, List.map_cons, List.map_nil]); first | done | rfl | (simp only [List.length_drop, List.length_take]; rfl)) ?_; (with_reducible refine (spec_l10Reader_text.calls k gb120 t122 t123 t124 t126 t127 t128 t129 w _ ?side1 ?side2 A3.out).mono ?_); (case side1 => repeat (first | (with_reducible first | exact HI120.out | apply IsS149.alloc | apply IsS149.drewN | apply IsS149.drew | apply IsS149.set_0 | apply IsS149.set_1 | apply IsS149.set_2 | refine IsS149.far ?_ NB120_119.out _ | refine IsS149.far ?_ NB120_125.out _) | exact HI120.out)); (case side2 => repeat (first | (with_reducible first | exact HB.out | apply Wa | apply Wn | apply Wd | refine Ws ?_ (IsS149.ge HI120.out) | refine Ws ?_ GE119.out | refine Ws ?_ GE125.out) | exact HB.out)); rintro e w72 ⟨rfl, hi, hb, hk⟩; refine ⟨_, rfl, ?_⟩; have n0_ := AM (KeepBut.blk hk (g' := gb119) (o := .cells #[.string (⟨#[]⟩ : ByteArray), .int .i64 0, .string (⟨#[]⟩ : ByteArray)] 74 (0, 0)) (by (with_reducible repeat (first | refine Gn ?_ _ | refine Gd ?_ | refine Ga ?_ _)); refine blk_far ?_ NB119_125.out _; (with_reducible repeat (first | refine Gn ?_ _ | refine Gd ?_ | refine Ga ?_ _)); refine blk_far ?_ NB119_125.out _; (with_reducible repeat (first | refine Gn ?_ _ | refine Gd ?_ | refine Ga ?_ _)); refine blk_far ?_ NB119_125.out _; (with_reducible repeat (first | refine Gn ?_ _ | refine Gd ?_ | refine Ga ?_ _)); exact BK119.out) NB119_120.out (by simp)); have n1_ := AM (KeepBut.blk hk (g' := gb125) (o := .cells #[.string (⟨#[]⟩ : ByteArray), .int .i64 0, .string (⟨#[]⟩ : ByteArray)] 74 (0, 0)) (by (with_reducible repeat (first | refine Gn ?_ _ | refine Gd ?_ | refine Ga ?_ _)); refine blk_put (cs := #[.string (⟨#[]⟩ : ByteArray), .int .i64 0, .string (⟨#[]⟩ : ByteArray)]) ?_ 2 _ rfl; (with_reducible repeat (first | refine Gn ?_ _ | refine Gd ?_ | refine Ga ?_ _)); refine blk_put (cs := #[.string (⟨#[]⟩ : ByteArray), .int .i64 0, .string (⟨#[]⟩ : ByteArray)]) ?_ 1 _ rfl; (with_reducible repeat (first | refine Gn ?_ _ | refine Gd ?_ | refine Ga ?_ _)); refine blk_put (cs := #[.string (⟨#[]⟩ : ByteArray), .int .i64 0, .string (⟨#[]⟩ : ByteArray)]) ?_ 0 _ rfl; (with_reducible repeat (first | refine Gn ?_ _ | refine Gd ?_ | refine Ga ?_ _)); exact BK125.out) NB125_120.out (by simp)); have n2_ := AM (hb); have n3_ := AM (hi); clear BK119; clear BK125; clear HB; clear HI120; have BK119 := n0_; have BK125 := n1_; have HB := n2_; have HI120 := n3_; clear n0_ n1_ n2_ n3_; (try clear hb); (try clear hb2); (try clear hk); (try clear hi); have hcz73_0 : w72.cell? ⟨gb125, 0, none⟩ = some (.string (⟨#[]⟩ : ByteArray)) := (blk_cell BK125.out 0).trans rfl; have hcz73_1 : w72.cell? ⟨gb125, 1, none⟩ = some (.int .i64 0) := (blk_cell BK125.out 1).trans rfl; have hcz73_2 : w72.cell? ⟨gb125, 2, none⟩ = some (.string (⟨#[]⟩ : ByteArray)) := (blk_cell BK125.out 2).trans rfl; have hfz73_0 := blk_frozen BK125.out 0; have hfz73_1 := blk_frozen BK125.out 1; have hfz73_2 := blk_frozen BK125.out 2) | ((with_reducible refine gate_callee (f := 134) rfl ?_); refine goesL_ (some 17) rfl rfl Try.func134 (by kernel_rfl) rfl #[.pointer (some ⟨gb120, 0, none⟩)] rfl (by (try simp only [List.map_toArray, List.map_cons, List.map_nil]); first | done | rfl | (simp only [List.length_drop, List.length_take]; rfl)) ?_; (with_reducible refine (spec_l10Reader_num.calls k gb120 t127 t128 t129 t130 t131 t132 t133 w _ ?side1 ?side2 A4.out).mono ?_); (case side1 => repeat (first | (with_reducible first | exact HI120.out | apply IsS149.alloc | apply IsS149.drewN | apply IsS149.drew | apply IsS149.set_0 | apply IsS149.set_1 | apply IsS149.set_2 | refine IsS149.far ?_ NB120_119.out _ | refine IsS149.far ?_ NB120_125.out _) | exact HI120.out)); (case side2 => repeat (first | (with_reducible first | exact HB.out | apply Wa | apply Wn | apply Wd | refine Ws ?_ (IsS149.ge HI120.out) | refine Ws ?_ GE119.out | refine Ws ?_ GE125.out) | exact HB.out)); rintro e w74 ⟨rfl, hi, hb, hk⟩; refine ⟨_, rfl, ?_⟩; have n0_ := AM (KeepBut.blk hk (g' := gb119) (o := .cells #[.string (⟨#[]⟩ : ByteArray), .int .i64 0, .string (⟨#[]⟩ : ByteArray)] 74 (0, 0)) (by (with_reducible repeat (first | refine Gn ?_ _ | refine Gd ?_ | refine Ga ?_ _)); refine blk_far ?_ NB119_125.out _; (with_reducible repeat (first | refine Gn ?_ _ | refine Gd ?_ | refine Ga ?_ _)); exact BK119.out) NB119_120.out (by simp)); have n1_ := AM (KeepBut.blk hk (g' := gb125) (o := .cells #[.string t126, .int .i64 0, .string (⟨#[]⟩ : ByteArray)] 74 (0, 0)) (by (with_reducible repeat (first | refine Gn ?_ _ | refine Gd ?_ | refine Ga ?_ _)); refine blk_put (cs := #[.string (⟨#[]⟩ : ByteArray), .int .i64 0, .string (⟨#[]⟩ : ByteArray)]) ?_ 0 _ rfl; (with_reducible repeat (first | refine Gn ?_ _ | refine Gd ?_ | refine Ga ?_ _)); exact BK125.out) NB125_120.out (by simp)); have n2_ := AM (hb); have n3_ := AM (hi); clear BK119; clear BK125; clear HB; clear HI120; have BK119 := n0_; have BK125 := n1_; have HB := n2_; have HI120 := n3_; clear n0_ n1_ n2_ n3_; (try clear hb); (try clear hb2); (try clear hk); (try clear hi); have hcz75_0 : w74.cell? ⟨gb125, 0, none⟩ = some (.string t126) := (blk_cell BK125.out 0).trans rfl; have hcz75_1 : w74.cell? ⟨gb125, 1, none⟩ = some (.int .i64 0) := (blk_cell BK125.out 1).trans rfl; have hcz75_2 : w74.cell? ⟨gb125, 2, none⟩ = some (.string (⟨#[]⟩ : ByteArray)) := (blk_cell BK125.out 2).trans rfl; have hfz75_0 := blk_frozen BK125.out 0; have hfz75_1 := blk_frozen BK125.out 1; have hfz75_2 := blk_frozen BK125.out 2) | ((with_reducible refine gate_callee (f := 135) rfl ?_); refine goesL_ (some 20) rfl rfl Try.func135 (by kernel_rfl) rfl #[.pointer (some ⟨gb120, 0, none⟩), .int .i64 32] rfl (by (try simp only [List.map_toArray, List.map_cons, List.map_nil]); first | done | rfl | (simp only [List.length_drop, List.length_take]; rfl)) ?_; (with_reducible refine (spec_l10Reader_bytes.calls gb120 t131 t132 t133 32 t134 t135 t136 t137 w _ ?side1 ?side2 A5.out).mono ?_); (case side1 => repeat (first | (with_reducible first | exact HI120.out | apply IsS149.alloc | apply IsS149.drewN | apply IsS149.drew | apply IsS149.set_0 | apply IsS149.set_1 | apply IsS149.set_2 | refine IsS149.far ?_ NB120_119.out _ | refine IsS149.far ?_ NB120_125.out _) | exact HI120.out)); (case side2 => repeat (first | (with_reducible first | exact HB.out | apply Wa | apply Wn | apply Wd | refine Ws ?_ (IsS149.ge HI120.out) | refine Ws ?_ GE119.out | refine Ws ?_ GE125.out) | exact HB.out)); rintro e w76 ⟨rfl, hi, hb, hk⟩; refine ⟨_, rfl, ?_⟩; have n0_ := AM (KeepBut.blk hk (g' := gb119) (o := .cells #[.string (⟨#[]⟩ : ByteArray), .int .i64 0, .string (⟨#[]⟩ : ByteArray)] 74 (0, 0)) (by (with_reducible repeat (first | refine Gn ?_ _ | refine Gd ?_ | refine Ga ?_ _)); refine blk_far ?_ NB119_125.out _; (with_reducible repeat (first | refine Gn ?_ _ | refine Gd ?_ | refine Ga ?_ _)); exact BK119.out) NB119_120.out (by simp)); have n1_ := AM (KeepBut.blk hk (g' := gb125) (o := .cells #[.string t126, .int .i64 t130, .string (⟨#[]⟩ : ByteArray)] 74 (0, 0)) (by (with_reducible repeat (first | refine Gn ?_ _ | refine Gd ?_ | refine Ga ?_ _)); refine blk_put (cs := #[.string t126, .int .i64 0, .string (⟨#[]⟩ : ByteArray)]) ?_ 1 _ rfl; (with_reducible repeat (first | refine Gn ?_ _ | refine Gd ?_ | refine Ga ?_ _)); exact BK125.out) NB125_120.out (by simp)); have n2_ := AM (hb); have n3_ := AM (hi); clear BK119; clear BK125; clear HB; clear HI120; have BK119 := n0_; have BK125 := n1_; have HB := n2_; have HI120 := n3_; clear n0_ n1_ n2_ n3_; (try clear hb); (try clear hb2); (try clear hk); (try clear hi); have hcz77_0 : w76.cell? ⟨gb125, 0, none⟩ = some (.string t126) := (blk_cell BK125.out 0).trans rfl; have hcz77_1 : w76.cell? ⟨gb125, 1, none⟩ = some (.int .i64 t130) := (blk_cell BK125.out 1).trans rfl; have hcz77_2 : w76.cell? ⟨gb125, 2, none⟩ = some (.string (⟨#[]⟩ : ByteArray)) := (blk_cell BK125.out 2).trans rfl; have hfz77_0 := blk_frozen BK125.out 0; have hfz77_1 := blk_frozen BK125.out 1; have hfz77_2 := blk_frozen BK125.out 2))
  have n0_ : Aside0 ((w76.setCell ⟨gb125, 2, none⟩ (.string t134)).heap[gb119]? = some (.cells #[.string (⟨#[]⟩ : ByteArray), .int .i64 0, .string (⟨#[]⟩ : ByteArray)] 74 (0, 0))) := ⟨by (with_reducible repeat (first | refine Gn ?_ _ | refine Gd ?_ | refine Ga ?_ _)); refine blk_far ?_ NB119_125.out _; (with_reducible repeat (first | refine Gn ?_ _ | refine Gd ?_ | refine Ga ?_ _)); exact BK119.out⟩
  have n1_ : Aside0 ((w76.setCell ⟨gb125, 2, none⟩ (.string t134)).heap[gb125]? = some (.cells #[.string t126, .int .i64 t130, .string t134] 74 (0, 0))) := ⟨by (with_reducible repeat (first | refine Gn ?_ _ | refine Gd ?_ | refine Ga ?_ _)); refine blk_put (cs := #[.string t126, .int .i64 t130, .string (⟨#[]⟩ : ByteArray)]) ?_ 2 _ rfl; (with_reducible repeat (first | refine Gn ?_ _ | refine Gd ?_ | refine Ga ?_ _)); exact BK125.out⟩
  have n2_ : Aside0 (IsS149 w (w76.setCell ⟨gb125, 2, none⟩ (.string t134)) gb120 t135 t136 t137) := ⟨by repeat (first | (with_reducible first | exact HI120.out | apply IsS149.alloc | apply IsS149.drewN | apply IsS149.drew | apply IsS149.set_0 | apply IsS149.set_1 | apply IsS149.set_2 | refine IsS149.far ?_ NB120_119.out _ | refine IsS149.far ?_ NB120_125.out _) | exact HI120.out)⟩
  have n3_ : Aside0 (Below w.heap.size w (w76.setCell ⟨gb125, 2, none⟩ (.string t134))) := ⟨by repeat (first | (with_reducible first | exact HB.out | apply Wa | apply Wn | apply Wd | refine Ws ?_ (IsS149.ge HI120.out) | refine Ws ?_ GE119.out | refine Ws ?_ GE125.out) | exact HB.out)⟩
  (try clear BK119)
  (try clear BK125)
  (try clear HI120)
  (try clear HB)
  generalize (w76.setCell ⟨gb125, 2, none⟩ (.string t134)) = w78 at n0_ n1_ n2_ n3_ ⊢
  have BK119 := n0_
  have BK125 := n1_
  have HI120 := n2_
  have HB := n3_
  clear n0_ n1_ n2_ n3_
  have n0_ := AM (Gd BK119.out)
  have n1_ := AM (Gd BK125.out)
  have n2_ := AM (IsS149.drew HI120.out)
  have n3_ := AM (Wd HB.out)
  clear BK119
  clear BK125
  clear HI120
  clear HB
  have BK119 := n0_
  have BK125 := n1_
  have HI120 := n2_
  have HB := n3_
  clear n0_ n1_ n2_ n3_
  refine start_ (n := 25) (S := fun w' => w'.cell? ⟨gb125, 0, none⟩ = some (.string t126) ∧ w'.cell? ⟨gb125, 1, none⟩ = some (.int .i64 t130) ∧ w'.cell? ⟨gb125, 2, none⟩ = some (.string t134)) (ds := []) #[O,O,O,O,O,O,O,O,O,O,O,O,O,O,O,O,O,O,O,O,O,O,O,O,O] (by kernel_rfl) rfl rfl ⟨(blk_cell BK125.out 0).trans rfl, (blk_cell BK125.out 1).trans rfl, (blk_cell BK125.out 2).trans rfl⟩ (fun hHeld => ?_); refine with_tabW spec_l12Snap.tab7 spec_l12Snap.bits7 (fun HT_ HW_ => ?_)
  generalize w78.drew = w79 at BK119 BK125 HI120 HB hHeld ⊢
  refine pure_ (i := 1) (N := some 23) (v := ?_) (a' := ?_) #[O,I,O,O,O,O,O,O,O,O,O,O,O,O,O,O,O,O,O,O,O,O,O,O,O] rfl rfl (any_of HT_.out (by kernel_rfl)) (fun _ _ _ h => h) (Or.inl ⟨by rfl, ?_⟩) ?_ ?_
  rotate_left
  ·intro w'
   go_simp
   with_reducible rfl
  rotate_left
  ·simp only [Act.put, Pa, List.set_cons_zero, List.set_cons_succ, i64_w, i32_w]
   rfl
  refine pure_ (i := 2) (N := some 24) (v := ?_) (a' := ?_) #[O,I,I,O,O,O,O,O,O,O,O,O,O,O,O,O,O,O,O,O,O,O,O,O,O] rfl rfl (any_of HT_.out (by kernel_rfl)) (fun _ _ _ h => h) (Or.inl ⟨by rfl, ?_⟩) ?_ ?_
  rotate_left
  ·intro w'
   go_simp
   with_reducible rfl
  rotate_left
  ·simp only [Act.put, Pa, List.set_cons_zero, List.set_cons_succ, i64_w, i32_w]
   rfl
  refine pure_ (i := 3) (N := some 25) (v := ?_) (a' := ?_) #[O,I,I,I,O,O,O,O,O,O,O,O,O,O,O,O,O,O,O,O,O,O,O,O,O] rfl rfl (any_of HT_.out (by kernel_rfl)) (fun _ _ _ h => h) (Or.inl ⟨by rfl, ?_⟩) ?_ ?_
  rotate_left
  ·intro w'
   go_simp
   with_reducible rfl
  rotate_left
  ·simp only [Act.put, Pa, List.set_cons_zero, List.set_cons_succ, i64_w, i32_w]
   rfl
  refine pure_ (i := 4) (N := some 26) (v := undef) (a' := ?_) #[O,I,I,I,I,O,O,O,O,O,O,O,O,O,O,O,O,O,O,O,O,O,O,O,O] rfl rfl (any_of HT_.out (by kernel_rfl)) (fun _ _ _ h => h) (Or.inr ⟨by rfl, rfl⟩) ?_ ?_
  rotate_left
  ·simp only [Act.put, Pa, List.set_cons_zero, List.set_cons_succ, i64_w, i32_w]
   rfl
  refine pure_ (i := 5) (N := some 27) (v := undef) (a' := ?_) #[O,I,I,I,I,I,O,O,O,O,O,O,O,O,O,O,O,O,O,O,O,O,O,O,O] rfl rfl (any_of HT_.out (by kernel_rfl)) (fun _ _ _ h => h) (Or.inr ⟨by rfl, rfl⟩) ?_ ?_
  rotate_left
  ·simp only [Act.put, Pa, List.set_cons_zero, List.set_cons_succ, i64_w, i32_w]
   rfl
  refine pure_ (i := 6) (N := some 28) (v := undef) (a' := ?_) #[O,I,I,I,I,I,I,O,O,O,O,O,O,O,O,O,O,O,O,O,O,O,O,O,O] rfl rfl (any_of HT_.out (by kernel_rfl)) (fun _ _ _ h => h) (Or.inr ⟨by rfl, rfl⟩) ?_ ?_
  rotate_left
  ·simp only [Act.put, Pa, List.set_cons_zero, List.set_cons_succ, i64_w, i32_w]
   rfl
  refine pure_ (i := 7) (N := some 29) (v := undef) (a' := ?_) #[O,I,I,I,I,I,I,I,O,O,O,O,O,O,O,O,O,O,O,O,O,O,O,O,O] rfl rfl (any_of HT_.out (by kernel_rfl)) (fun _ _ _ h => h) (Or.inr ⟨by rfl, rfl⟩) ?_ ?_
  rotate_left
  ·simp only [Act.put, Pa, List.set_cons_zero, List.set_cons_succ, i64_w, i32_w]
   rfl
  refine pure_ (i := 8) (N := some 30) (v := undef) (a' := ?_) #[O,I,I,I,I,I,I,I,I,O,O,O,O,O,O,O,O,O,O,O,O,O,O,O,O] rfl rfl (any_of HT_.out (by kernel_rfl)) (fun _ _ _ h => h) (Or.inr ⟨by rfl, rfl⟩) ?_ ?_
  rotate_left
  ·simp only [Act.put, Pa, List.set_cons_zero, List.set_cons_succ, i64_w, i32_w]
   rfl
  refine pure_ (i := 9) (N := some 31) (v := ?_) (a' := ?_) #[O,I,I,I,I,I,I,I,I,I,O,O,O,O,O,O,O,O,O,O,O,O,O,O,O] rfl rfl (any_of HT_.out (by kernel_rfl)) (fun _ _ _ h => h) (Or.inl ⟨by rfl, ?_⟩) ?_ ?_
  rotate_left
  ·intro w'
   go_simp
   with_reducible rfl
  rotate_left
  ·simp only [Act.put, Pa, List.set_cons_zero, List.set_cons_succ, i64_w, i32_w]
   rfl
  refine pure_ (i := 10) (N := some 32) (v := ?_) (a' := ?_) #[O,I,I,I,I,I,I,I,I,I,I,O,O,O,O,O,O,O,O,O,O,O,O,O,O] rfl rfl (any_of HT_.out (by kernel_rfl)) (fun _ _ _ h => h) (Or.inl ⟨by rfl, ?_⟩) ?_ ?_
  rotate_left
  ·intro w'
   go_simp
   with_reducible rfl
  rotate_left
  ·simp only [Act.put, Pa, List.set_cons_zero, List.set_cons_succ, i64_w, i32_w]
   rfl
  refine pure_ (i := 11) (N := some 33) (v := undef) (a' := ?_) #[O,I,I,I,I,I,I,I,I,I,I,I,O,O,O,O,O,O,O,O,O,O,O,O,O] rfl rfl (any_of HT_.out (by kernel_rfl)) (fun _ _ _ h => h) (Or.inr ⟨by rfl, rfl⟩) ?_ ?_
  rotate_left
  ·simp only [Act.put, Pa, List.set_cons_zero, List.set_cons_succ, i64_w, i32_w]
   rfl
  refine pure_ (i := 12) (N := some 34) (v := undef) (a' := ?_) #[O,I,I,I,I,I,I,I,I,I,I,I,I,O,O,O,O,O,O,O,O,O,O,O,O] rfl rfl (any_of HT_.out (by kernel_rfl)) (fun _ _ _ h => h) (Or.inr ⟨by rfl, rfl⟩) ?_ ?_
  rotate_left
  ·simp only [Act.put, Pa, List.set_cons_zero, List.set_cons_succ, i64_w, i32_w]
   rfl
  refine pure_ (i := 13) (N := some 35) (v := undef) (a' := ?_) #[O,I,I,I,I,I,I,I,I,I,I,I,I,I,O,O,O,O,O,O,O,O,O,O,O] rfl rfl (any_of HT_.out (by kernel_rfl)) (fun _ _ _ h => h) (Or.inr ⟨by rfl, rfl⟩) ?_ ?_
  rotate_left
  ·simp only [Act.put, Pa, List.set_cons_zero, List.set_cons_succ, i64_w, i32_w]
   rfl
  refine pure_ (i := 14) (N := some 36) (v := undef) (a' := ?_) #[O,I,I,I,I,I,I,I,I,I,I,I,I,I,I,O,O,O,O,O,O,O,O,O,O] rfl rfl (any_of HT_.out (by kernel_rfl)) (fun _ _ _ h => h) (Or.inr ⟨by rfl, rfl⟩) ?_ ?_
  rotate_left
  ·simp only [Act.put, Pa, List.set_cons_zero, List.set_cons_succ, i64_w, i32_w]
   rfl
  refine pure_ (i := 15) (N := some 37) (v := undef) (a' := ?_) #[O,I,I,I,I,I,I,I,I,I,I,I,I,I,I,I,O,O,O,O,O,O,O,O,O] rfl rfl (any_of HT_.out (by kernel_rfl)) (fun _ _ _ h => h) (Or.inr ⟨by rfl, rfl⟩) ?_ ?_
  rotate_left
  ·simp only [Act.put, Pa, List.set_cons_zero, List.set_cons_succ, i64_w, i32_w]
   rfl
  refine pure_ (i := 16) (N := some 38) (v := undef) (a' := ?_) #[O,I,I,I,I,I,I,I,I,I,I,I,I,I,I,I,I,O,O,O,O,O,O,O,O] rfl rfl (any_of HT_.out (by kernel_rfl)) (fun _ _ _ h => h) (Or.inr ⟨by rfl, rfl⟩) ?_ ?_
  rotate_left
  ·simp only [Act.put, Pa, List.set_cons_zero, List.set_cons_succ, i64_w, i32_w]
   rfl
  refine pure_ (i := 17) (N := some 39) (v := undef) (a' := ?_) #[O,I,I,I,I,I,I,I,I,I,I,I,I,I,I,I,I,I,O,O,O,O,O,O,O] rfl rfl (any_of HT_.out (by kernel_rfl)) (fun _ _ _ h => h) (Or.inr ⟨by rfl, rfl⟩) ?_ ?_
  rotate_left
  ·simp only [Act.put, Pa, List.set_cons_zero, List.set_cons_succ, i64_w, i32_w]
   rfl
  refine pure_ (i := 18) (N := some 40) (v := ?_) (a' := ?_) #[O,I,I,I,I,I,I,I,I,I,I,I,I,I,I,I,I,I,I,O,O,O,O,O,O] rfl rfl (any_of HT_.out (by kernel_rfl)) (fun _ _ _ h => h) (Or.inl ⟨by rfl, ?_⟩) ?_ ?_
  rotate_left
  ·intro w'
   go_simp
   with_reducible rfl
  rotate_left
  ·simp only [Act.put, Pa, List.set_cons_zero, List.set_cons_succ, i64_w, i32_w]
   rfl
  refine pure_ (i := 19) (N := some 41) (v := ?_) (a' := ?_) #[O,I,I,I,I,I,I,I,I,I,I,I,I,I,I,I,I,I,I,I,O,O,O,O,O] rfl rfl (any_of HT_.out (by kernel_rfl)) (fun _ _ _ h => h) (Or.inl ⟨by rfl, ?_⟩) ?_ ?_
  rotate_left
  ·intro w'
   go_simp
   with_reducible rfl
  rotate_left
  ·simp only [Act.put, Pa, List.set_cons_zero, List.set_cons_succ, i64_w, i32_w]
   rfl
  refine pure_ (i := 20) (N := some 42) (v := undef) (a' := ?_) #[O,I,I,I,I,I,I,I,I,I,I,I,I,I,I,I,I,I,I,I,I,O,O,O,O] rfl rfl (any_of HT_.out (by kernel_rfl)) (fun _ _ _ h => h) (Or.inr ⟨by rfl, rfl⟩) ?_ ?_
  rotate_left
  ·simp only [Act.put, Pa, List.set_cons_zero, List.set_cons_succ, i64_w, i32_w]
   rfl
  refine pure_ (i := 21) (N := some 43) (v := undef) (a' := ?_) #[O,I,I,I,I,I,I,I,I,I,I,I,I,I,I,I,I,I,I,I,I,I,O,O,O] rfl rfl (any_of HT_.out (by kernel_rfl)) (fun _ _ _ h => h) (Or.inr ⟨by rfl, rfl⟩) ?_ ?_
  rotate_left
  ·simp only [Act.put, Pa, List.set_cons_zero, List.set_cons_succ, i64_w, i32_w]
   rfl
  refine pure_ (i := 22) (N := some 44) (v := ?_) (a' := ?_) #[O,I,I,I,I,I,I,I,I,I,I,I,I,I,I,I,I,I,I,I,I,I,I,O,O] rfl rfl (any_of HT_.out (by kernel_rfl)) (fun _ _ _ h => h) (Or.inl ⟨by rfl, ?_⟩) ?_ ?_
  rotate_left
  ·intro w'
   go_simp
   with_reducible rfl
  rotate_left
  ·simp only [Act.put, Pa, List.set_cons_zero, List.set_cons_succ, i64_w, i32_w]
   rfl
  refine take_ (i := 0) (N := some 22) (v := ?_) (a' := ?_) #[I,I,I,I,I,I,I,I,I,I,I,I,I,I,I,I,I,I,I,I,I,I,I,O,O] rfl rfl (take_ofW HT_.out HW_.out (by kernel_rfl)) (fun _ _ _ h => h) (Or.inl ⟨by rfl, ?_⟩) hHeld ?_ ?_
  rotate_left
  ·rintro w' ⟨s0, s1, s2⟩
   go_simp
   with_reducible rfl
  rotate_left
  ·simp only [Act.put, Pa, List.set_cons_zero, List.set_cons_succ, i64_w, i32_w]
   rfl
  refine one_ (i := 23) (N := none) #[true, true, true, true, true, true, true, true, true, true, true, true, true, true, true, true, true, true, true, true, true, true, true, true, false] rfl rfl (one_of HT_.out (by kernel_rfl)) (by decide) (fun K hK => ?_)
  have hs80 : w79.cell? ⟨gb119, 0, none⟩ = some (.string (⟨#[]⟩ : ByteArray)) := (blk_cell BK119.out 0).trans rfl
  have hfs80 := blk_frozen BK119.out 0
  have hns80_1 := NB125_119.out
  have hms80_1 := NB119_125.out
  have hs81 : w79.cell? ⟨gb119, 1, none⟩ = some (.int .i64 0) := (blk_cell BK119.out 1).trans rfl
  have hfs81 := blk_frozen BK119.out 1
  have hns81_1 := NB125_119.out
  have hms81_1 := NB119_125.out
  have hs82 : w79.cell? ⟨gb119, 2, none⟩ = some (.string (⟨#[]⟩ : ByteArray)) := (blk_cell BK119.out 2).trans rfl
  have hfs82 := blk_frozen BK119.out 2
  have hns82_1 := NB125_119.out
  have hms82_1 := NB119_125.out
  refine skip_ (w1 := ?_) (by rfl) rfl ?_ ?_
  rotate_left
  ·go_simp
   rfl
  refine hK.out _ _ ⟨((cell_far (p := ⟨gb119, _, none⟩) NB125_119.out _).trans (((cell_far (p := ⟨gb119, _, none⟩) NB125_119.out _).trans (((cell_far (p := ⟨gb119, _, none⟩) NB125_119.out _).trans (hHeld.1)))))), ((cell_far (p := ⟨gb119, _, none⟩) NB125_119.out _).trans (((cell_far (p := ⟨gb119, _, none⟩) NB125_119.out _).trans (((cell_far (p := ⟨gb119, _, none⟩) NB125_119.out _).trans (hHeld.2.1)))))), ((cell_far (p := ⟨gb119, _, none⟩) NB125_119.out _).trans (((cell_far (p := ⟨gb119, _, none⟩) NB125_119.out _).trans (((cell_far (p := ⟨gb119, _, none⟩) NB125_119.out _).trans (hHeld.2.2))))))⟩ (fun hHeld => ?_)
  clear hK K
  refine pure_ (i := 24) (N := some 3) (v := ?_) (a' := ?_) #[I,I,I,I,I,I,I,I,I,I,I,I,I,I,I,I,I,I,I,I,I,I,I,I,I] rfl rfl (any_of HT_.out (by kernel_rfl)) (fun _ _ _ h => h) (Or.inl ⟨by rfl, ?_⟩) ?_ ?_
  rotate_left
  ·intro w'
   go_simp
   with_reducible rfl
  rotate_left
  ·simp only [Act.put, Pa, List.set_cons_zero, List.set_cons_succ, i64_w, i32_w]
   rfl
  refine done_ (done_of HT_.out (by kernel_rfl)) ?_
  try go_wp2
  refine bodyPost_ret (results_ct rfl _ _ gb119 74 #[.string t126, .int .i64 t130, .string t134] (0, 0) _ rfl (by (with_reducible repeat (first | refine Gn ?_ _ | refine Gd ?_ | refine Ga ?_ _)); refine blk_put (cs := #[.string t126, .int .i64 t130, .string (⟨#[]⟩ : ByteArray)]) ?_ 2 _ rfl; (with_reducible repeat (first | refine Gn ?_ _ | refine Gd ?_ | refine Ga ?_ _)); refine blk_put (cs := #[.string t126, .int .i64 0, .string (⟨#[]⟩ : ByteArray)]) ?_ 1 _ rfl; (with_reducible repeat (first | refine Gn ?_ _ | refine Gd ?_ | refine Ga ?_ _)); refine blk_put (cs := #[.string (⟨#[]⟩ : ByteArray), .int .i64 0, .string (⟨#[]⟩ : ByteArray)]) ?_ 0 _ rfl; (with_reducible repeat (first | refine Gn ?_ _ | refine Gd ?_ | refine Ga ?_ _)); exact BK119.out) Try.underlying74 rfl (by kernel_rfl)) rfl ?_
  exact ⟨by first | rfl | (simp [errW_none, errW_some] <;> rfl) | (simp [*, errW_none, errW_some] <;> rfl), by repeat (first | (with_reducible first | exact HB.out | apply Wa | apply Wn | apply Wd | refine Ws ?_ (IsS149.ge HI120.out) | refine Ws ?_ GE119.out | refine Ws ?_ GE125.out) | exact HB.out)⟩

end Go.Proofs.Yteljfdhjbnlgoaa.PFnExactSnapRead
