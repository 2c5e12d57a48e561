/- The digest's functions of the program, walked by hand. No statement is proved here. -/
import Derived.Test.YtfffdndeccipnaaDoorHFFnHash
namespace Go.Proofs.YtfffdndeccipnaaDoor.Hand
open Go.RowKit Go.Proofs.YtfffdndeccipnaaDoorW.PrintWords Go.Proofs.YtfffdndeccipnaaDoorW.PrintLast Go.Proofs.YtfffdndeccipnaaDoorW.PrintMore Go.Proofs.YtfffdndeccipnaaDoor.Reg Go.Proofs.YtfffdndeccipnaaDoor.Aut
set_option linter.unusedVariables false
set_option linter.unusedSimpArgs false
theorem hix_0 (s0 s1 s2 s3 s4 s5 s6 s7 : Int) (w : World) : Sem.run Tryd.prog (Instr.index 77 (.agg #[.int .u32 s0, .int .u32 s1, .int .u32 s2, .int .u32 s3, .int .u32 s4, .int .u32 s5, .int .u32 s6, .int .u32 s7]) (.int .i64 0)) w = .ok (.int .u32 s0) w := by
  have hu := Tryd.underlying77
  unfold Instr.index
  go_simp
  try rfl
theorem hix_1 (s0 s1 s2 s3 s4 s5 s6 s7 : Int) (w : World) : Sem.run Tryd.prog (Instr.index 77 (.agg #[.int .u32 s0, .int .u32 s1, .int .u32 s2, .int .u32 s3, .int .u32 s4, .int .u32 s5, .int .u32 s6, .int .u32 s7]) (.int .i64 1)) w = .ok (.int .u32 s1) w := by
  have hu := Tryd.underlying77
  unfold Instr.index
  go_simp
  try rfl
theorem hix_2 (s0 s1 s2 s3 s4 s5 s6 s7 : Int) (w : World) : Sem.run Tryd.prog (Instr.index 77 (.agg #[.int .u32 s0, .int .u32 s1, .int .u32 s2, .int .u32 s3, .int .u32 s4, .int .u32 s5, .int .u32 s6, .int .u32 s7]) (.int .i64 2)) w = .ok (.int .u32 s2) w := by
  have hu := Tryd.underlying77
  unfold Instr.index
  go_simp
  try rfl
theorem hix_3 (s0 s1 s2 s3 s4 s5 s6 s7 : Int) (w : World) : Sem.run Tryd.prog (Instr.index 77 (.agg #[.int .u32 s0, .int .u32 s1, .int .u32 s2, .int .u32 s3, .int .u32 s4, .int .u32 s5, .int .u32 s6, .int .u32 s7]) (.int .i64 3)) w = .ok (.int .u32 s3) w := by
  have hu := Tryd.underlying77
  unfold Instr.index
  go_simp
  try rfl
theorem hix_4 (s0 s1 s2 s3 s4 s5 s6 s7 : Int) (w : World) : Sem.run Tryd.prog (Instr.index 77 (.agg #[.int .u32 s0, .int .u32 s1, .int .u32 s2, .int .u32 s3, .int .u32 s4, .int .u32 s5, .int .u32 s6, .int .u32 s7]) (.int .i64 4)) w = .ok (.int .u32 s4) w := by
  have hu := Tryd.underlying77
  unfold Instr.index
  go_simp
  try rfl
theorem hix_5 (s0 s1 s2 s3 s4 s5 s6 s7 : Int) (w : World) : Sem.run Tryd.prog (Instr.index 77 (.agg #[.int .u32 s0, .int .u32 s1, .int .u32 s2, .int .u32 s3, .int .u32 s4, .int .u32 s5, .int .u32 s6, .int .u32 s7]) (.int .i64 5)) w = .ok (.int .u32 s5) w := by
  have hu := Tryd.underlying77
  unfold Instr.index
  go_simp
  try rfl
theorem hix_6 (s0 s1 s2 s3 s4 s5 s6 s7 : Int) (w : World) : Sem.run Tryd.prog (Instr.index 77 (.agg #[.int .u32 s0, .int .u32 s1, .int .u32 s2, .int .u32 s3, .int .u32 s4, .int .u32 s5, .int .u32 s6, .int .u32 s7]) (.int .i64 6)) w = .ok (.int .u32 s6) w := by
  have hu := Tryd.underlying77
  unfold Instr.index
  go_simp
  try rfl
theorem hix_7 (s0 s1 s2 s3 s4 s5 s6 s7 : Int) (w : World) : Sem.run Tryd.prog (Instr.index 77 (.agg #[.int .u32 s0, .int .u32 s1, .int .u32 s2, .int .u32 s3, .int .u32 s4, .int .u32 s5, .int .u32 s6, .int .u32 s7]) (.int .i64 7)) w = .ok (.int .u32 s7) w := by
  have hu := Tryd.underlying77
  unfold Instr.index
  go_simp
  try rfl
theorem hix (s0 s1 s2 s3 s4 s5 s6 s7 : Int) (i : Nat) (hi : i < 8) (x : Int) (hx : x = (i : Int)) (w : World) : Sem.run Tryd.prog (Instr.index 77 (.agg #[.int .u32 s0, .int .u32 s1, .int .u32 s2, .int .u32 s3, .int .u32 s4, .int .u32 s5, .int .u32 s6, .int .u32 s7]) (.int .i64 x)) w = .ok (.int .u32 ([s0, s1, s2, s3, s4, s5, s6, s7].getD i 0)) w := by
  subst hx
  rcases i with _ | _ | _ | _ | _ | _ | _ | _ | i
  · exact hix_0 s0 s1 s2 s3 s4 s5 s6 s7 w
  · exact hix_1 s0 s1 s2 s3 s4 s5 s6 s7 w
  · exact hix_2 s0 s1 s2 s3 s4 s5 s6 s7 w
  · exact hix_3 s0 s1 s2 s3 s4 s5 s6 s7 w
  · exact hix_4 s0 s1 s2 s3 s4 s5 s6 s7 w
  · exact hix_5 s0 s1 s2 s3 s4 s5 s6 s7 w
  · exact hix_6 s0 s1 s2 s3 s4 s5 s6 s7 w
  · exact hix_7 s0 s1 s2 s3 s4 s5 s6 s7 w
  · omega
set_option maxHeartbeats 4000000 in
set_option maxRecDepth 100000 in
theorem numbers_x (s0 s1 s2 s3 s4 s5 s6 s7 : Int) (h8 : Ok8 [s0, s1, s2, s3, s4, s5, s6, s7]) (w : World) :
    Calls Tryd.prog 58 #[.agg #[.int .u32 s0, .int .u32 s1, .int .u32 s2, .int .u32 s3, .int .u32 s4, .int .u32 s5, .int .u32 s6, .int .u32 s7]] w fun e w' => ∃ v, e = .returned v ∧ Kd.R (Kd.int .i64) 2 w' w.heap.size (fun _ => True) v [s0, s1, s2, s3, s4, s5, s6, s7] ∧ Below w.heap.size w w' := by
  have HOK := AM h8
  clear h8
  go_enter Tryd.func58, Tryd.ntmps58
  go_wp2_with (((with_reducible refine gate_dst (N := 1) rfl ?_); refine be_ 1 #[.int .u32 s0, .int .u32 s1, .int .u32 s2, .int .u32 s3, .int .u32 s4, .int .u32 s5, .int .u32 s6, .int .u32 s7] 77 ?_; intro g hg w1 hbox hb; have BK : Aside0 (Blk w1 g 77 [s0, s1, s2, s3, s4, s5, s6, s7]) := ⟨hbox⟩; have HB := AM hb; clear hb hbox hg; have d0 : w1.cell? ⟨g, 0, none⟩ = some (.int .u32 s0) := BK.out.cell 0 (by simp); have d1 : w1.cell? ⟨g, 1, none⟩ = some (.int .u32 s1) := BK.out.cell 1 (by simp); have d2 : w1.cell? ⟨g, 2, none⟩ = some (.int .u32 s2) := BK.out.cell 2 (by simp); have d3 : w1.cell? ⟨g, 3, none⟩ = some (.int .u32 s3) := BK.out.cell 3 (by simp); have d4 : w1.cell? ⟨g, 4, none⟩ = some (.int .u32 s4) := BK.out.cell 4 (by simp); have d5 : w1.cell? ⟨g, 5, none⟩ = some (.int .u32 s5) := BK.out.cell 5 (by simp); have d6 : w1.cell? ⟨g, 6, none⟩ = some (.int .u32 s6) := BK.out.cell 6 (by simp); have d7 : w1.cell? ⟨g, 7, none⟩ = some (.int .u32 s7) := BK.out.cell 7 (by simp)))
  have HO0 : Aside0 (Kd.R (Kd.int .i64) 2 w1 w.heap.size (fun _ => True) (.slice none 0 0) ([] : List Int)) := ⟨Kd.R_nil _ _ _ _ _⟩
  clear BK d0 d1 d2 d3 d4 d5 d6 d7
  go_loopg [3, 7] (8 : Nat) (fun (q : Nat) v3 v7 w' => ∃ (u3 : Value) (xs : List Int) (x : Int) (i : Nat), i + q = 8 ∧ v3 = u3 ∧ v7 = .int .i64 x ∧ Aside0 (x = (i : Int)) ∧ Aside0 (xs = [s0, s1, s2, s3, s4, s5, s6, s7].take i) ∧ Aside0 (Kd.R (Kd.int .i64) 2 w' w.heap.size (fun _ => True) u3 xs) ∧ Aside0 (Below w.heap.size w w'))
  case atStart => exact ⟨_, [], 0, 0, by omega, rfl, rfl, ⟨rfl⟩, ⟨rfl⟩, HO0, HB⟩
  case round =>
    clear HO0 HB
    obtain ⟨u3, xs, x, i, hi, rfl, rfl, HX, HXS, HO, HB⟩ := hrel
    have HI := AM hi
    clear hi
    by_cases c1 : i < 8
    · have x1 : decide (x < 8) = true := decide_eq_true (by have := HX.out; omega)
      have C1 := AM c1
      clear c1
      have hx := fun w => hix s0 s1 s2 s3 s4 s5 s6 s7 i C1.out x HX.out w
      have HQ := AM (HOK.out.2 i C1.out)
      have HT : Aside0 ([s0, s1, s2, s3, s4, s5, s6, s7].take (i + 1) = [s0, s1, s2, s3, s4, s5, s6, s7].take i ++ [[s0, s1, s2, s3, s4, s5, s6, s7].getD i 0]) := ⟨by
        have h1 := C1.out
        rw [List.take_add_one, List.getD_eq_getElem?_getD]
        have : [s0, s1, s2, s3, s4, s5, s6, s7][i]? = some ([s0, s1, s2, s3, s4, s5, s6, s7][i]'(by simpa using h1)) := List.getElem?_eq_getElem _
        rw [this]
        rfl⟩
      have HXl : Aside0 (xs.length ≤ 8) := ⟨by rw [HXS.out, List.length_take]; exact Nat.le_trans (Nat.min_le_right _ _) (Nat.le_refl 8)⟩
      generalize [s0, s1, s2, s3, s4, s5, s6, s7].getD i 0 = y at hx HQ HT
      have hy1 : wrap64 y = y := by have := HQ.out; unfold wrap64; omega
      have hy2 : IntKind.i64.wrap y = y := (i64_w _).trans hy1
      obtain ⟨Y, eY⟩ : ∃ Y : List Int, Y = [y] := ⟨_, rfl⟩
      have HY := AM eY
      have HYl : Aside0 (Y.length = 1) := ⟨by rw [eY]; rfl⟩
      clear eY
      go_wp2_with (first | ((with_reducible refine gate_dst (N := 13) rfl ?_); refine Kd.R_lit (Kd.int .i64) _ 2 ?hg (N := 13) ?hd (xs := [y]) (inner := [.int .i64 y]) (ok := fun _ => True) (okp := fun _ => True) ?hr ?hp (fun _ hk => hk) trivial (Below.refl _ _) (Nat.le_refl _) (by simp) ?_; (case hd => rfl); (case hg => rfl); (case hr => first | (go_simp; done) | (go_simp; rfl)); (case hp => exact (Reps.one (show Kd.M (Kd.int .i64) _ _ _ y [.int .i64 y] from rfl) (Reps.none _ _))); intro u w5 ho hb hg_ hnew_; clear hg_ hnew_; rw [← HY.out] at ho; have HO1 := AM (Kd.R_lower (Kd.R_new' ho (Kd.R_lt (ro_ HO.out))) (below_size HB.out)); replace HO := AM (Kd.R_elder' (ro_ HO.out) (Kd.R_base ho) hb); replace HB := AM (below_step HB.out hb); obtain ⟨Ao, co, eo⟩ := Kd.R_slice HO1.out; subst eo; clear hb ho) | ((with_reducible refine gate_builtin (b := .append) (xs := #[.tmp 10, .tmp 13]) rfl ?_); at_builtin; refine Kd.R_append_rows (Kd.int .i64) (w0 := w) w.heap.size rfl (.tmp 10) (.tmp 13) 37 2 (.int .i64 0) 8 rfl Tryd.underlying37 info2 rfl (by decide) (by omega) u3 xs Y _ _ _ (fun k_ => some k_ ≠ (.slice Ao Y.length co : Value).ownBlock) (fun _ => False) rfl rfl ?aO ?aR (fun _ _ h => h) (fun _ h => h.elim) ?aF ?aB ?aS ?aL ?_; (case aR => repeat (first | exact (Kd.R_reads' HO1.out).2.2 | (with_reducible refine Kd.C_alloc ?_ _) | (with_reducible refine Kd.C_drewN ?_ _) | (with_reducible refine Kd.C_drew ?_))); (case aB => exact bel_); (case aF => exact (fun k_ hk => Kd.fresh' (Kd.R_lt (ro_ HO1.out)) k_ hk)); (case aO => exact (ro_ (Kd.R_mono HO.out (fun _ hk => hk.2)))); (case aS => exact (below_size bel_)); (case aL => have := HYl.out; have := HXl.out; omega); intro v1 w6 ho hb hg hat; replace HB := AM hb; replace HO := AM (Kd.R_mono ho (fun _ _ => trivial)); clear HO1 ho hb hg hat))
      go_roundg (7 - i)
      case measure => have := HI.out; have := C1.out; omega
      case rel => exact ⟨_, xs ++ Y, _, i + 1, (by have := HI.out; have := C1.out; omega), rfl, rfl, ⟨by first | exact nxtw x i HX.out (by have := C1.out; omega) | exact nxt x i HX.out (by have := C1.out; omega)⟩, ⟨by rw [HXS.out, HY.out, HT.out]⟩, HO, HB⟩
    · have x1 : decide (x < 8) = false := decide_eq_false (by have := HX.out; omega)
      obtain rfl : i = 8 := by have := HI.out; omega
      clear c1
      go_wp2
      go_ret
      refine ⟨_, rfl, ?_, HB.out⟩
      have h := HO.out
      rw [HXS.out] at h
      exact h
def stL (l : List Int) : Nat → List Int
  | 0 => [0, 0, 0, 0, 0, 0, 0, 0]
  | i + 1 => (stL l i).set i (l.getD i 0)
theorem stL_length (l : List Int) : ∀ i, (stL l i).length = 8
  | 0 => rfl
  | i + 1 => by rw [stL, List.length_set, stL_length l i]
theorem stL_all (s0 s1 s2 s3 s4 s5 s6 s7 : Int) : stL [s0, s1, s2, s3, s4, s5, s6, s7] 8 = [s0, s1, s2, s3, s4, s5, s6, s7] := by rfl
set_option maxHeartbeats 4000000 in
set_option maxRecDepth 100000 in
theorem state_x (A : Option Addr) (c : Nat) (r : ByteArray) (n : Int) (s0 s1 s2 s3 s4 s5 s6 s7 : Int) (h8 : Ok8 [s0, s1, s2, s3, s4, s5, s6, s7]) (w : World) (hr0 : Kd.C (Kd.int .i64) w A 8 [s0, s1, s2, s3, s4, s5, s6, s7]) :
    Calls Tryd.prog 60 #[.agg #[.slice A 8 c, .string r, .int .i64 n]] w fun e w' => e = .returned (.agg #[.int .u32 s0, .int .u32 s1, .int .u32 s2, .int .u32 s3, .int .u32 s4, .int .u32 s5, .int .u32 s6, .int .u32 s7]) ∧ Below w.heap.size w w' := by
  obtain ⟨l, hl⟩ : ∃ l : List Int, [s0, s1, s2, s3, s4, s5, s6, s7] = l := ⟨_, rfl⟩
  have EL := AM hl
  have hr : Kd.C (Kd.int .i64) w A 8 l := by rw [← hl]; exact hr0
  clear hr0
  obtain ⟨ad, rfl, hz_⟩ := Kd.at_int hr 0 (by omega) (by omega)
  have SRC : Aside0 (Src w ad l) := ⟨by
    intro i hi
    obtain ⟨ad', e, h⟩ := Kd.at_int hr (i : Int) (by omega) (by omega)
    injection e with e
    subst e
    exact h⟩
  have HOK : Aside0 (Ok8 l) := ⟨by rw [← hl]; exact h8⟩
  clear hr h8 hz_ hl
  go_enter Tryd.func60, Tryd.ntmps60
  go_wp2_with (first | ((with_reducible refine gate_dst (N := 1) rfl ?_); refine be_ 1 #[.slice (some ad) 8 c, .string r, .int .i64 n] 39 ?_; intro g0 hg w1 hbox hb; have HB := AM hb; have p0 : w1.cell? ⟨g0, 0, none⟩ = some (.slice (some ad) 8 c) := (blk_cell hbox 0).trans rfl; clear hb hbox hg) | ((with_reducible refine gate_dst (N := 2) rfl ?_); refine be_ 2 #[.int .u32 0, .int .u32 0, .int .u32 0, .int .u32 0, .int .u32 0, .int .u32 0, .int .u32 0, .int .u32 0] 77 ?_; intro g2 hg w2 hbox hb; have K2 : Aside0 (Blk w2 g2 77 [0, 0, 0, 0, 0, 0, 0, 0]) := ⟨hbox⟩; have G2 : Aside0 (w.heap.size ≤ g2) := ⟨by rw [hg]; exact below_size bel_⟩; have p1 : w2.cell? ⟨g0, 0, none⟩ = some (.slice (some ad) 8 c) := (hb.cell (World.block_lt_of_cell? w1 _ p0)).trans p0; replace HB := AM (below_step HB.out hb); clear hb hbox hg p0) | ((with_reducible refine gate_dst (N := 3) rfl ?_); refine be_ 3 #[.int .u32 0, .int .u32 0, .int .u32 0, .int .u32 0, .int .u32 0, .int .u32 0, .int .u32 0, .int .u32 0] 77 ?_; intro g3 hg w3 hbox hb; have K3 : Aside0 (Blk w3 g3 77 (stL l 0)) := ⟨hbox⟩; have G3 : Aside0 (w.heap.size ≤ g3) := ⟨by rw [hg]; exact below_size bel_⟩; have NE : Aside0 (g2 ≠ g3) := ⟨by rw [hg]; exact Nat.ne_of_lt K2.out.lt⟩; replace K2 := AM (K2.out.below hb); have p2 : w3.cell? ⟨g0, 0, none⟩ = some (.slice (some ad) 8 c) := (hb.cell (World.block_lt_of_cell? w2 _ p1)).trans p1; replace HB := AM (below_step HB.out hb); clear hb hbox hg p1))
  clear p2
  go_loopg [9] (8 : Nat) (fun (q : Nat) v9 w' => ∃ (x : Int) (i : Nat), i + q = 8 ∧ v9 = .int .i64 x ∧ Aside0 (x = (i : Int)) ∧ Aside0 (Blk w' g3 77 (stL l i)) ∧ Aside0 (Blk w' g2 77 [0, 0, 0, 0, 0, 0, 0, 0]) ∧ Aside0 (Below w.heap.size w w'))
  case atStart => exact ⟨0, 0, by omega, rfl, ⟨rfl⟩, K3, K2, HB⟩
  case round =>
    clear K2 K3 HB
    obtain ⟨x, i, hi, rfl, HX, K3, K2, HB⟩ := hrel
    have HI := AM hi
    clear hi
    by_cases c1 : i < 8
    · have x1 : decide (x < 8) = true := decide_eq_true (by have := HX.out; omega)
      have C1 := AM c1
      clear c1
      have p2 : (0 ≤ x) = True := eq_true (by rw [HX.out]; omega)
      have q2 : (x < 8) = True := eq_true (by rw [HX.out]; have := C1.out; omega)
      have ca : wr.cell? (ad.add x.toNat) = some (.int .i64 (l.getD i 0)) := by
        rw [HX.out, Int.toNat_natCast]; exact (SRC.out.below HB.out) i C1.out
      have hx : wr.cell? ⟨g3, x.toNat, none⟩ = some (.int .u32 ((stL l i).getD i 0)) := by
        rw [HX.out, Int.toNat_natCast]; exact K3.out.cell i (by rw [stL_length]; exact C1.out)
      have hf : wr.frozen? ⟨g3, x.toNat, none⟩ = false := by
        rw [HX.out, Int.toNat_natCast]; exact K3.out.frozen i
      have HQ := AM (HOK.out.2 i C1.out)
      obtain ⟨y, hy⟩ : ∃ y, l.getD i 0 = y := ⟨_, rfl⟩
      rw [hy] at ca HQ
      have HYV := AM hy
      have hy1 : y % 4294967296 = y := by have := HQ.out; omega
      have hy2 : IntKind.u32.wrap y = y := by rw [IntKind.wrap_u32]; exact hy1
      clear hy
      go_wp2
      go_roundg (7 - i)
      case measure => have := HI.out; have := C1.out; omega
      case rel =>
        refine ⟨_, i + 1, (by have := HI.out; have := C1.out; omega), rfl, ⟨by first | exact nxtw x i HX.out (by have := C1.out; omega) | exact nxt x i HX.out (by have := C1.out; omega)⟩, ?_, ?_, ?_⟩
        · constructor
          have hxi : x.toNat = i := by rw [HX.out]; rfl
          rw [hxi, stL, HYV.out]
          exact K3.out.put i _
        · exact ⟨K2.out.far (p := ⟨g3, _, none⟩) NE.out _⟩
        · exact ⟨below_set HB.out G3.out⟩
    · have x1 : decide (x < 8) = false := decide_eq_false (by rw [HX.out]; have := HI.out; omega)
      obtain rfl : i = 8 := by have := HI.out; omega
      clear c1
      have L3 := K3.out
      rw [← EL.out, stL_all] at L3
      have K3' := AM L3
      clear L3
      have d0 : wr.cell? ⟨g3, 0, none⟩ = some (.int .u32 s0) := K3'.out.cell 0 (by simp)
      have d1 : wr.cell? ⟨g3, 1, none⟩ = some (.int .u32 s1) := K3'.out.cell 1 (by simp)
      have d2 : wr.cell? ⟨g3, 2, none⟩ = some (.int .u32 s2) := K3'.out.cell 2 (by simp)
      have d3 : wr.cell? ⟨g3, 3, none⟩ = some (.int .u32 s3) := K3'.out.cell 3 (by simp)
      have d4 : wr.cell? ⟨g3, 4, none⟩ = some (.int .u32 s4) := K3'.out.cell 4 (by simp)
      have d5 : wr.cell? ⟨g3, 5, none⟩ = some (.int .u32 s5) := K3'.out.cell 5 (by simp)
      have d6 : wr.cell? ⟨g3, 6, none⟩ = some (.int .u32 s6) := K3'.out.cell 6 (by simp)
      have d7 : wr.cell? ⟨g3, 7, none⟩ = some (.int .u32 s7) := K3'.out.cell 7 (by simp)
      have z0 : wr.cell? ⟨g2, 0, none⟩ = some (.int .u32 0) := K2.out.cell 0 (by simp)
      have f0 := K2.out.frozen 0
      have z1 : wr.cell? ⟨g2, 1, none⟩ = some (.int .u32 0) := K2.out.cell 1 (by simp)
      have f1 := K2.out.frozen 1
      have z2 : wr.cell? ⟨g2, 2, none⟩ = some (.int .u32 0) := K2.out.cell 2 (by simp)
      have f2 := K2.out.frozen 2
      have z3 : wr.cell? ⟨g2, 3, none⟩ = some (.int .u32 0) := K2.out.cell 3 (by simp)
      have f3 := K2.out.frozen 3
      have z4 : wr.cell? ⟨g2, 4, none⟩ = some (.int .u32 0) := K2.out.cell 4 (by simp)
      have f4 := K2.out.frozen 4
      have z5 : wr.cell? ⟨g2, 5, none⟩ = some (.int .u32 0) := K2.out.cell 5 (by simp)
      have f5 := K2.out.frozen 5
      have z6 : wr.cell? ⟨g2, 6, none⟩ = some (.int .u32 0) := K2.out.cell 6 (by simp)
      have f6 := K2.out.frozen 6
      have z7 : wr.cell? ⟨g2, 7, none⟩ = some (.int .u32 0) := K2.out.cell 7 (by simp)
      have f7 := K2.out.frozen 7
      go_wp2
      generalize hq : World.setCell _ _ _ = w6
      have KF : Aside0 (Blk w6 g2 77 [s0, s1, s2, s3, s4, s5, s6, s7]) := ⟨by
        rw [← hq]
        have h := (((((((K2.out.put 0 s0).put 1 s1).put 2 s2).put 3 s3).put 4 s4).put 5 s5).put 6 s6).put 7 s7
        simp only [List.set_cons_zero, List.set_cons_succ] at h
        exact h⟩
      have HF : Aside0 (Below w.heap.size w w6) := ⟨by rw [← hq]; (iterate 8 (with_reducible refine below_set ?_ G2.out)); (have hh := HB.out); exact hh⟩
      clear hq d0 z0 f0 d1 z1 f1 d2 z2 f2 d3 z3 f3 d4 z4 f4 d5 z5 f5 d6 z6 f6 d7 z7 f7
      refine bodyPost_ret (results_cell_row rfl _ _ g2 77 #[.int .u32 s0, .int .u32 s1, .int .u32 s2, .int .u32 s3, .int .u32 s4, .int .u32 s5, .int .u32 s6, .int .u32 s7] (0, 0) _ rfl (show w6.heap[g2]? = some (.cells #[.int .u32 s0, .int .u32 s1, .int .u32 s2, .int .u32 s3, .int .u32 s4, .int .u32 s5, .int .u32 s6, .int .u32 s7] 77 (0, 0)) from KF.out) Tryd.underlying77 rfl (by kernel_rfl)) rfl ⟨rfl, HF.out⟩

end Go.Proofs.YtfffdndeccipnaaDoor.Hand
