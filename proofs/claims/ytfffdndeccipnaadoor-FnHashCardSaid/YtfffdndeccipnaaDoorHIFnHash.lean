/- The digest's functions of the program, walked by hand. No statement is proved here. -/
import Derived.Test.YtfffdndeccipnaaDoorHGFnHash
namespace Go.Proofs.YtfffdndeccipnaaDoor.Hand
open Go.RowKit Go.Proofs.YtfffdndeccipnaaDoorW.PrintWords Go.Proofs.YtfffdndeccipnaaDoorW.PrintLast Go.Proofs.YtfffdndeccipnaaDoorW.PrintMore Go.Proofs.YtfffdndeccipnaaDoor.Reg Go.Proofs.YtfffdndeccipnaaDoor.Aut
set_option linter.unusedVariables false
set_option linter.unusedSimpArgs false
def hm3.T : Bool × List (List Nat × List Nat) := (true, [([], []), ([0], [0]), ([1], [1]), ([2, 1], [2]), ([3], [3]), ([4, 3], [3, 4]), ([3], [3]), ([6, 3, 3], [3, 6]), ([5, 7, 3], [3, 5, 7]), ([8, 3], [3, 8]), ([3, 9], [3, 9])])
def hm3.B : List Nat := [0, 1, 3, 7, 15, 31, 15, 79, 255, 511, 1023]
theorem hm3.tab : rtab .any (opsOf Tryd.f24 3) = hm3.T := by kernel_rfl
theorem hm3.bits : waitsOk hm3.T.2 hm3.B = true := by kernel_rfl
def hm5.T : Bool × List (List Nat × List Nat) := (true, [([], []), ([0], [0]), ([], []), ([2], [2]), ([], []), ([3, 4], [3, 4]), ([], []), ([6, 1, 1, 0, 1, 6], [1, 6]), ([5, 7, 0, 1, 2, 3, 4, 5, 6, 7], [5])])
def hm5.B : List Nat := [0, 1, 0, 4, 0, 28, 0, 67, 255]
theorem hm5.tab : rtab .any (opsOf Tryd.f24 5) = hm5.T := by kernel_rfl
theorem hm5.bits : waitsOk hm5.T.2 hm5.B = true := by kernel_rfl
def hm9.T : Bool × List (List Nat × List Nat) := (true, [([], []), ([0], [0]), ([], []), ([], []), ([3], [3]), ([], []), ([5, 1], [5]), ([4, 6], [4, 6]), ([1, 2, 7], [1, 2, 7]), ([8, 6, 0, 1, 2, 3, 4, 5, 6, 7, 8], [8])])
def hm9.B : List Nat := [0, 1, 0, 0, 8, 0, 35, 123, 255, 511]
theorem hm9.tab : rtab .any (opsOf Tryd.f24 9) = hm9.T := by kernel_rfl
theorem hm9.bits : waitsOk hm9.T.2 hm9.B = true := by kernel_rfl
def he3.T : Bool × List (List Nat × List Nat) := (true, [([], []), ([0], [0]), ([], []), ([2], [2]), ([], []), ([4], [4]), ([1, 3, 5, 1], [1, 3, 5]), ([6, 6, 0, 1, 2, 3, 4, 5, 6], [6])])
def he3.B : List Nat := [0, 1, 0, 4, 0, 16, 63, 127]
theorem he3.tab : rtab .any (opsOf Tryd.f26 3) = he3.T := by kernel_rfl
theorem he3.bits : waitsOk he3.T.2 he3.B = true := by kernel_rfl
theorem addAll_ok (s t : List Int) (hs : s.length = 8) : ∀ i, i ≤ 8 → ∀ j, j < i → 0 ≤ (addAll s t i).getD j 0 ∧ (addAll s t i).getD j 0 < 4294967296
  | 0, _, j, hj => by omega
  | i + 1, hi, j, hj => by
    have hl : (addAll s t i).length = 8 := by rw [addAll_length]; exact hs
    rw [addAll, List.getD_eq_getElem?_getD, List.getElem?_set]
    by_cases h : i = j
    · rw [if_pos h, if_pos (by rw [hl]; omega)]
      simp only [Option.getD_some]
      omega
    · rw [if_neg h, ← List.getD_eq_getElem?_getD]
      exact addAll_ok s t hs i (by omega) j (by omega)
theorem taken_ok (s : List Int) (b : ByteArray) (hs : s.length = 8) : Ok8 (takenL s b) := ⟨by rw [takenL_length]; exact hs, fun i hi => addAll_ok s _ hs 8 (Nat.le_refl _) i hi⟩
theorem eat_ok (s : List Int) (r : ByteArray) (hs : Ok8 s) : ∀ n, Ok8 (eat s r n)
  | 0 => hs
  | n + 1 => taken_ok _ _ (by rw [eat_length]; exact hs.1)
theorem first_ok : Ok8 firstL := ⟨rfl, by decide⟩
set_option maxHeartbeats 4000000 in
set_option maxRecDepth 100000 in
theorem hmore_q (A : Option Addr) (c : Nat) (r : ByteArray) (n : Int) (t : ByteArray) (s0 s1 s2 s3 s4 s5 s6 s7 : Int) (l : List Int) (hl : [s0, s1, s2, s3, s4, s5, s6, s7] = l) (Q : ByteArray) (hQ : r ++ t = Q) (n2 : Int) (hn2 : n + (t.size : Int) = n2) (h : HOk l r n) (ht : t.size ≤ 20000) (hn : n2 ≤ 1099511627776) (w : World) (hL : LaidG w) (hr : Kd.C (Kd.int .i64) w A 8 l) :
    Calls Tryd.prog 24 #[.agg #[.slice A 8 c, .string r, .int .i64 n], .string t] w fun e w' => ∃ v, e = .returned (.agg #[v, .string (Q.extract (64 * (Q.size / 64)) Q.size), .int .i64 n2]) ∧ Kd.R (Kd.int .i64) 2 w' w.heap.size (fun _ => True) v (eat l Q (Q.size / 64)) ∧ Below w.heap.size w w' := by
  have HR := AM hr
  have HO := AM h
  have EL := AM hl
  have HL := AM hL
  have HTS := AM ht
  have m1 : wrap64 (n + (t.size : Int)) = n2 := by have h1 := h.2.1; unfold wrap64; omega
  have m2 : IntKind.i64.wrap (n + (t.size : Int)) = n2 := (i64_w _).trans m1
  have m3 : decide (1099511627776 < n2) = false := decide_eq_false (by omega)
  have hrs : r.size < 64 := by have h1 := h.2.2.2; omega
  have m4 : (9223372036854775807 < r.size + t.size) = False := eq_false (by omega)
  clear hr h hl hL ht hn hn2 hrs
  go_enter Tryd.func24, Tryd.ntmps24
  go_wp2_with (first | ((with_reducible refine gate_dst (N := 2) rfl ?_); refine be_ 2 #[.slice A 8 c, .string r, .int .i64 n] 39 ?_; intro g2 hg w1 hbox hb; have BK2 := AM hbox; have HB := AM hb; clear hb hbox hg) | ((with_reducible refine gate_dst (N := 4) rfl ?_); refine be_ 4 #[.slice none 0 0, .string (⟨#[]⟩ : ByteArray), .int .i64 0] 39 ?_; intro g4 hg w2 hbox hb; have BK4 := AM hbox; have G4 := AM ((by rw [hg]; exact below_size HB.out : w.heap.size ≤ g4)); replace BK2 := AM (blk_below BK2.out hb); replace HB := AM (below_step HB.out hb); clear hb hbox hg) | (go_at_call 41; refine (islong_s t HTS.out _).mono ?_; rintro e w_ ⟨rfl, hw_⟩; rw [hw_]; clear hw_ w_))
  replace BK2 := AM (blk_drew BK2.out)
  replace BK4 := AM (blk_drew BK4.out)
  replace HB := AM (below_drew1 HB.out)
  refine start_ (n := 11) (S := fun w' => w'.cell? ⟨g2, 0, none⟩ = some (.slice A 8 c) ∧ w'.cell? ⟨g2, 1, none⟩ = some (.string r) ∧ w'.cell? ⟨g2, 2, none⟩ = some (.int .i64 n)) (ds := []) #[false, false, false, false, false, false, false, false, false, false, false] (by kernel_rfl) rfl rfl ⟨(blk_cell BK2.out 0).trans rfl, (blk_cell BK2.out 1).trans rfl, (blk_cell BK2.out 2).trans rfl⟩ (fun hHeld => ?_)
  refine with_tabW hm3.tab hm3.bits (fun HT_ HW_ => ?_)
  generalize w2.drew = w3 at BK2 BK4 HB hHeld ⊢
  refine ta_ HT_ HW_ 0 (some 10) #[true, false, false, false, false, false, false, false, false, false, false] hHeld ?_
  refine on_ HT_ 1 (some 11) #[true, true, false, false, false, false, false, false, false, false, false] (fun K hK => ?_)
  refine go1_ Tryd.func25 #[.agg #[.slice A 8 c, .string r, .int .i64 n]] ?_
  refine (hright_x A c l r n HO.out _ (Kd.C_below HR.out HB.out)).mono ?_
  rintro e w4 ⟨rfl, hb⟩
  refine ⟨_, rfl, ?_⟩
  replace BK2 := AM (blk_below BK2.out hb)
  replace BK4 := AM (blk_below BK4.out hb)
  replace HB := AM (below_step HB.out hb)
  clear hb
  refine hK.out _ _ ⟨(blk_cell BK2.out 0).trans rfl, (blk_cell BK2.out 1).trans rfl, (blk_cell BK2.out 2).trans rfl⟩ (fun hHeld => ?_)
  clear hK K
  refine nm_ ?_
  refine pu_ HT_ 2 (some 12) #[true, true, true, false, false, false, false, false, false, false, false] ?_
  refine pu_ HT_ 3 (some 13) #[true, true, true, true, false, false, false, false, false, false, false] ?_
  refine pu_ HT_ 4 (some 14) #[true, true, true, true, true, false, false, false, false, false, false] ?_
  refine ta_ HT_ HW_ 5 (some 15) #[true, true, true, true, true, true, false, false, false, false, false] hHeld ?_
  refine pu_ HT_ 6 (some 16) #[true, true, true, true, true, true, true, false, false, false, false] ?_
  refine on_ HT_ 7 (some 17) #[true, true, true, true, true, true, true, true, false, false, false] (fun K hK => ?_)
  refine go1_ Tryd.func42 #[.string t] ?_
  refine (long_s t _).mono ?_
  rintro e w_ ⟨rfl, hw_⟩
  rw [hw_]
  clear hw_ w_
  refine ⟨_, rfl, ?_⟩
  refine hK.out _ _ hHeld (fun hHeld => ?_)
  clear hK K
  refine nm_ ?_
  refine pu_ HT_ 8 (some 18) #[true, true, true, true, true, true, true, true, true, false, false] ?_
  refine pu_ HT_ 9 (some 19) #[true, true, true, true, true, true, true, true, true, true, false] ?_
  refine pu_ HT_ 10 (some 20) #[true, true, true, true, true, true, true, true, true, true, true] ?_
  refine dn_ HT_ ?_
  try go_wp2
  replace BK2 := AM (blk_drew BK2.out)
  replace BK4 := AM (blk_drew BK4.out)
  replace HB := AM (below_drew1 HB.out)
  refine start_ (n := 9) (S := fun w' => w'.cell? ⟨g2, 0, none⟩ = some (.slice A 8 c) ∧ w'.cell? ⟨g2, 1, none⟩ = some (.string r) ∧ w'.cell? ⟨g2, 2, none⟩ = some (.int .i64 n)) (ds := []) #[false, false, false, false, false, false, false, false, false] (by kernel_rfl) rfl rfl ⟨(blk_cell BK2.out 0).trans rfl, (blk_cell BK2.out 1).trans rfl, (blk_cell BK2.out 2).trans rfl⟩ (fun hHeld => ?_)
  refine with_tabW hm5.tab hm5.bits (fun HT_ HW_ => ?_)
  generalize w4.drew = w5 at BK2 BK4 HB hHeld ⊢
  refine pu_ HT_ 2 (some 31) #[false, false, true, false, false, false, false, false, false] ?_
  refine pu_ HT_ 4 (some 33) #[false, false, true, false, true, false, false, false, false] ?_
  refine ta_ HT_ HW_ 0 (some 29) #[true, false, true, false, true, false, false, false, false] hHeld ?_
  refine ta_ HT_ HW_ 3 (some 32) #[true, false, true, true, true, false, false, false, false] hHeld ?_
  refine pu_ HT_ 5 (some 34) #[true, false, true, true, true, true, false, false, false] ?_
  refine join_ (σ := Nat) 2 #[true, true, true, true, true, true, true, false, false] (fun s_ => [(30, .agg #[.int .u32 s0, .int .u32 s1, .int .u32 s2, .int .u32 s3, .int .u32 s4, .int .u32 s5, .int .u32 s6, .int .u32 s7]), (5, .pointer (some ⟨s_, 0, none⟩))]) (fun s_ w' => (w'.cell? ⟨g2, 0, none⟩ = some (.slice A 8 c) ∧ w'.cell? ⟨g2, 1, none⟩ = some (.string r) ∧ w'.cell? ⟨g2, 2, none⟩ = some (.int .i64 n)) ∧ (w'.heap[g2]? = some (.cells #[.slice A 8 c, .string r, .int .i64 n] 39 (0, 0))) ∧ (w'.heap[g4]? = some (.cells #[.slice none 0 0, .string (⟨#[]⟩ : ByteArray), .int .i64 0] 39 (0, 0))) ∧ (w'.heap[s_]? = some (.cells #[.int .u32 0, .int .u32 0, .int .u32 0, .int .u32 0, .int .u32 0, .int .u32 0, .int .u32 0, .int .u32 0] 77 (0, 0))) ∧ (w.heap.size ≤ s_) ∧ (g2 ≠ s_) ∧ (g4 ≠ s_) ∧ (Below w.heap.size w w')) ?_ ?_
  rotate_left
  · intro hCont
    refine tw_ HT_ 1 6 (some 30) (some 5) #[true, true, true, true, true, true, false, false, false] #[true, false, true, true, true, true, true, false, false] (fun K hK => ?_) (fun K hK => ?_)
    · skip
      refine go1_ Tryd.func60 #[.agg #[.slice A 8 c, .string r, .int .i64 n]] ?_
      refine (state_x A c r n s0 s1 s2 s3 s4 s5 s6 s7 (EL.out ▸ HO.out.1) _ (EL.out ▸ Kd.C_below HR.out HB.out)).mono ?_
      rintro e w6 ⟨rfl, hb⟩
      refine ⟨_, rfl, ?_⟩
      replace BK2 := AM (blk_below BK2.out hb)
      replace BK4 := AM (blk_below BK4.out hb)
      replace HB := AM (below_step HB.out hb)
      clear hb
      refine hK.out _ _ ⟨(blk_cell BK2.out 0).trans rfl, (blk_cell BK2.out 1).trans rfl, (blk_cell BK2.out 2).trans rfl⟩ (fun hHeld => ?_)
      clear hK K
      refine nm_ ?_
      refine on_ HT_ 6 (some 5) #[true, true, true, true, true, true, true, false, false] (fun K hK => ?_)
      refine bs_ 5 #[.int .u32 0, .int .u32 0, .int .u32 0, .int .u32 0, .int .u32 0, .int .u32 0, .int .u32 0, .int .u32 0] 77 ?_
      intro g5 hg w7 hbox hb
      have BK5 := AM hbox
      have G5 := AM ((by rw [hg]; exact below_size HB.out : w.heap.size ≤ g5))
      have NE25 := AM ((by rw [hg]; exact Nat.ne_of_lt (blk_lt BK2.out) : g2 ≠ g5))
      have NE45 := AM ((by rw [hg]; exact Nat.ne_of_lt (blk_lt BK4.out) : g4 ≠ g5))
      replace BK2 := AM (blk_below BK2.out hb)
      replace BK4 := AM (blk_below BK4.out hb)
      replace HB := AM (below_step HB.out hb)
      clear hb
      clear hbox hg
      refine hK.out _ _ ⟨(blk_cell BK2.out 0).trans rfl, (blk_cell BK2.out 1).trans rfl, (blk_cell BK2.out 2).trans rfl⟩ (fun hHeld => ?_)
      clear hK K
      refine nm_ ?_
      exact nmE_ (hCont g5 _ ⟨hHeld, BK2.out, BK4.out, BK5.out, G5.out, NE25.out, NE45.out, HB.out⟩)
    · skip
      refine bs_ 5 #[.int .u32 0, .int .u32 0, .int .u32 0, .int .u32 0, .int .u32 0, .int .u32 0, .int .u32 0, .int .u32 0] 77 ?_
      intro g5 hg w6 hbox hb
      have BK5 := AM hbox
      have G5 := AM ((by rw [hg]; exact below_size HB.out : w.heap.size ≤ g5))
      have NE25 := AM ((by rw [hg]; exact Nat.ne_of_lt (blk_lt BK2.out) : g2 ≠ g5))
      have NE45 := AM ((by rw [hg]; exact Nat.ne_of_lt (blk_lt BK4.out) : g4 ≠ g5))
      replace BK2 := AM (blk_below BK2.out hb)
      replace BK4 := AM (blk_below BK4.out hb)
      replace HB := AM (below_step HB.out hb)
      clear hb
      clear hbox hg
      refine hK.out _ _ ⟨(blk_cell BK2.out 0).trans rfl, (blk_cell BK2.out 1).trans rfl, (blk_cell BK2.out 2).trans rfl⟩ (fun hHeld => ?_)
      clear hK K
      refine nm_ ?_
      refine on_ HT_ 1 (some 30) #[true, true, true, true, true, true, true, false, false] (fun K hK => ?_)
      refine go1_ Tryd.func60 #[.agg #[.slice A 8 c, .string r, .int .i64 n]] ?_
      refine (state_x A c r n s0 s1 s2 s3 s4 s5 s6 s7 (EL.out ▸ HO.out.1) _ (EL.out ▸ Kd.C_below HR.out HB.out)).mono ?_
      rintro e w7 ⟨rfl, hb⟩
      refine ⟨_, rfl, ?_⟩
      replace BK2 := AM (blk_below BK2.out hb)
      replace BK4 := AM (blk_below BK4.out hb)
      replace BK5 := AM (blk_below BK5.out hb)
      replace HB := AM (below_step HB.out hb)
      clear hb
      refine hK.out _ _ ⟨(blk_cell BK2.out 0).trans rfl, (blk_cell BK2.out 1).trans rfl, (blk_cell BK2.out 2).trans rfl⟩ (fun hHeld => ?_)
      clear hK K
      refine nm_ ?_
      exact nmE_ (hCont g5 _ ⟨hHeld, BK2.out, BK4.out, BK5.out, G5.out, NE25.out, NE45.out, HB.out⟩)
  rintro g5 w6 ⟨hS_, h0_, h1_, h2_, h3_, h4_, h5_, h6_⟩
  replace BK2 : Aside0 (w6.heap[g2]? = some (.cells #[.slice A 8 c, .string r, .int .i64 n] 39 (0, 0))) := ⟨h0_⟩
  replace BK4 : Aside0 (w6.heap[g4]? = some (.cells #[.slice none 0 0, .string (⟨#[]⟩ : ByteArray), .int .i64 0] 39 (0, 0))) := ⟨h1_⟩
  have BK5 : Aside0 (w6.heap[g5]? = some (.cells #[.int .u32 0, .int .u32 0, .int .u32 0, .int .u32 0, .int .u32 0, .int .u32 0, .int .u32 0, .int .u32 0] 77 (0, 0))) := ⟨h2_⟩
  have G5 := AM h3_
  have NE25 := AM h4_
  have NE45 := AM h5_
  replace HB := AM h6_
  clear h0_ h1_ h2_ h3_ h4_ h5_ h6_ hS_ hHeld
  refine nmA_ ?_
  have z0 : w6.cell? ⟨g5, 0, none⟩ = some (.int .u32 0) := (blk_cell BK5.out 0).trans rfl
  have f0 := blk_frozen BK5.out 0
  have z1 : w6.cell? ⟨g5, 1, none⟩ = some (.int .u32 0) := (blk_cell BK5.out 1).trans rfl
  have f1 := blk_frozen BK5.out 1
  have z2 : w6.cell? ⟨g5, 2, none⟩ = some (.int .u32 0) := (blk_cell BK5.out 2).trans rfl
  have f2 := blk_frozen BK5.out 2
  have z3 : w6.cell? ⟨g5, 3, none⟩ = some (.int .u32 0) := (blk_cell BK5.out 3).trans rfl
  have f3 := blk_frozen BK5.out 3
  have z4 : w6.cell? ⟨g5, 4, none⟩ = some (.int .u32 0) := (blk_cell BK5.out 4).trans rfl
  have f4 := blk_frozen BK5.out 4
  have z5 : w6.cell? ⟨g5, 5, none⟩ = some (.int .u32 0) := (blk_cell BK5.out 5).trans rfl
  have f5 := blk_frozen BK5.out 5
  have z6 : w6.cell? ⟨g5, 6, none⟩ = some (.int .u32 0) := (blk_cell BK5.out 6).trans rfl
  have f6 := blk_frozen BK5.out 6
  have z7 : w6.cell? ⟨g5, 7, none⟩ = some (.int .u32 0) := (blk_cell BK5.out 7).trans rfl
  have f7 := blk_frozen BK5.out 7
  refine on_ HT_ 7 none #[true, true, true, true, true, true, true, true, false] (fun K hK => ?_)
  refine sk_ ?_
  generalize hq : World.setCell _ _ _ = w7
  have L5 : Aside0 (Blk w7 g5 77 (eat l Q 0)) := ⟨by
    rw [← hq]
    have h5 : Blk w6 g5 77 [0, 0, 0, 0, 0, 0, 0, 0] := BK5.out
    have h := (((((((h5.put 0 s0).put 1 s1).put 2 s2).put 3 s3).put 4 s4).put 5 s5).put 6 s6).put 7 s7
    simp only [List.set_cons_zero, List.set_cons_succ] at h
    rw [← EL.out]
    exact h⟩
  have B2 : Aside0 (w7.heap[g2]? = some (.cells #[.slice A 8 c, .string r, .int .i64 n] 39 (0, 0))) := ⟨by rw [← hq]; (iterate 8 (refine blk_farA NE25 ?_)); (have hh := BK2.out); exact hh⟩
  have B4 : Aside0 (w7.heap[g4]? = some (.cells #[.slice none 0 0, .string (⟨#[]⟩ : ByteArray), .int .i64 0] 39 (0, 0))) := ⟨by rw [← hq]; (iterate 8 (refine blk_farA NE45 ?_)); (have hh := BK4.out); exact hh⟩
  have B : Aside0 (Below w.heap.size w w7) := ⟨by rw [← hq]; (iterate 8 (with_reducible refine below_set ?_ G5.out)); (have hh := HB.out); exact hh⟩
  clear hq z0 f0 z1 f1 z2 f2 z3 f3 z4 f4 z5 f5 z6 f6 z7 f7 BK2 BK4 BK5 HB
  refine hK.out _ _ ⟨(blk_cell B2.out 0).trans rfl, (blk_cell B2.out 1).trans rfl, (blk_cell B2.out 2).trans rfl⟩ (fun hHeld => ?_)
  clear hK K
  refine pu_ HT_ 8 (some 6) #[true, true, true, true, true, true, true, true, true] ?_
  refine dn_ HT_ ?_
  try rw [hQ]
  clear m4
  try go_wp2
  go_loopg [6] (Q.size : Nat) (fun (q : Nat) v6 w' => ∃ (p : ByteArray) (k : Nat), 64 * k ≤ Q.size ∧ q = Q.size - 64 * k ∧ v6 = .string p ∧ Aside0 (p = Q.extract (64 * k) Q.size) ∧ Aside0 (Blk w' g5 77 (eat l Q k)) ∧ Aside0 (w'.heap[g2]? = some (.cells #[.slice A 8 c, .string r, .int .i64 n] 39 (0, 0))) ∧ Aside0 (w'.heap[g4]? = some (.cells #[.slice none 0 0, .string (⟨#[]⟩ : ByteArray), .int .i64 0] 39 (0, 0))) ∧ Aside0 (Below w.heap.size w w'))
  case atStart => exact ⟨Q, 0, by omega, by omega, rfl, ⟨by apply ByteArray.ext; simp⟩, L5, B2, B4, B⟩
  case round =>
    clear L5 B2 B4 B
    obtain ⟨p, k, hk, hq, rfl, HP, L5, B2, B4, B⟩ := hrel
    have HPS : Aside0 (p.size = Q.size - 64 * k) := ⟨by rw [HP.out]; simp⟩
    have HK := AM (And.intro hk hq)
    have HOK := eat_ok l Q HO.out.1 k
    obtain ⟨a0, a1, a2, a3, a4, a5, a6, a7, eA⟩ := eight (eat l Q k) HOK.1
    have EA := AM eA
    rw [eA] at HOK
    have HOA := AM HOK
    clear eA HOK
    have L0 := L5.out
    rw [EA.out] at L0
    have L1 := AM L0
    clear L0
    have d0 : wr.cell? ⟨g5, 0, none⟩ = some (.int .u32 a0) := L1.out.cell 0 (by simp)
    have d1 : wr.cell? ⟨g5, 1, none⟩ = some (.int .u32 a1) := L1.out.cell 1 (by simp)
    have d2 : wr.cell? ⟨g5, 2, none⟩ = some (.int .u32 a2) := L1.out.cell 2 (by simp)
    have d3 : wr.cell? ⟨g5, 3, none⟩ = some (.int .u32 a3) := L1.out.cell 3 (by simp)
    have d4 : wr.cell? ⟨g5, 4, none⟩ = some (.int .u32 a4) := L1.out.cell 4 (by simp)
    have d5 : wr.cell? ⟨g5, 5, none⟩ = some (.int .u32 a5) := L1.out.cell 5 (by simp)
    have d6 : wr.cell? ⟨g5, 6, none⟩ = some (.int .u32 a6) := L1.out.cell 6 (by simp)
    have d7 : wr.cell? ⟨g5, 7, none⟩ = some (.int .u32 a7) := L1.out.cell 7 (by simp)
    by_cases c1 : 64 ≤ p.size
    · have x1 : decide ((64 : Int) ≤ (p.size : Int)) = true := decide_eq_true (by omega)
      have x2 : decide (64 ≤ p.size) = true := decide_eq_true c1
      have p1 : ((64 : Int) ≤ (p.size : Int)) = True := eq_true (by omega)
      have p2 : (64 ≤ p.size) = True := eq_true c1
      have C1 := AM c1
      clear c1 hk hq
      go_wp2
      refine wp_region_still_tail 3 (by kernel_rfl) (by kernel_rfl) ?_
      simp only [List.take_succ_cons, List.take_zero, List.drop_succ_cons, List.drop_zero]
      repeat still_step
      try refine wpStill_nil ?_
      change wpList _ _ _ _ _ wr.drew
      generalize hq : wr.drew = w8
      have L2 : Aside0 (Blk w8 g5 77 [a0, a1, a2, a3, a4, a5, a6, a7]) := ⟨by rw [← hq]; exact L1.out.drew⟩
      have C2 : Aside0 (w8.heap[g2]? = some (.cells #[.slice A 8 c, .string r, .int .i64 n] 39 (0, 0))) := ⟨by rw [← hq]; exact blk_drew B2.out⟩
      have C4 : Aside0 (w8.heap[g4]? = some (.cells #[.slice none 0 0, .string (⟨#[]⟩ : ByteArray), .int .i64 0] 39 (0, 0))) := ⟨by rw [← hq]; exact blk_drew B4.out⟩
      have KB : Aside0 (Below w.heap.size w w8) := ⟨by rw [← hq]; exact below_drew1 B.out⟩
      clear hq d0 d1 d2 d3 d4 d5 d6 d7 L1 B B2 B4 L5
      have HE : Aside0 (p.extract 0 64 = Q.extract (64 * k) (64 * k + 64)) := ⟨by rw [HP.out]; exact ext0 Q _ (by have := HPS.out; have := C1.out; omega)⟩
      have HEs : Aside0 ((p.extract 0 64).size = 64) := ⟨by have := C1.out; simp; omega⟩
      obtain ⟨t0, t1, t2, t3, t4, t5, t6, t7, eT⟩ := eight (takenL [a0, a1, a2, a3, a4, a5, a6, a7] (p.extract 0 64)) (takenL_length _ _)
      have ET := AM eT
      clear eT
      go_wp2_with (go_at_call 61; refine (taken_x a0 a1 a2 a3 a4 a5 a6 a7 t0 t1 t2 t3 t4 t5 t6 t7 _ HEs.out _ (HL.out.below KB.out) ET.out).mono ?_; rintro e w9 ⟨rfl, hb⟩; have L3 := AM (L2.out.below hb); have D2 := AM (blk_below C2.out hb); have D4 := AM (blk_below C4.out hb); have KB2 := AM (KB.out.trans (hb.mono KB.out.size)); clear hb L2 KB C2 C4; have f0 : ∀ j, w9.frozen? ⟨g5, j, none⟩ = false := L3.out.frozen; have d0 : w9.cell? ⟨g5, 0, none⟩ = some (.int .u32 a0) := L3.out.cell 0 (by simp); have d1 : w9.cell? ⟨g5, 1, none⟩ = some (.int .u32 a1) := L3.out.cell 1 (by simp); have d2 : w9.cell? ⟨g5, 2, none⟩ = some (.int .u32 a2) := L3.out.cell 2 (by simp); have d3 : w9.cell? ⟨g5, 3, none⟩ = some (.int .u32 a3) := L3.out.cell 3 (by simp); have d4 : w9.cell? ⟨g5, 4, none⟩ = some (.int .u32 a4) := L3.out.cell 4 (by simp); have d5 : w9.cell? ⟨g5, 5, none⟩ = some (.int .u32 a5) := L3.out.cell 5 (by simp); have d6 : w9.cell? ⟨g5, 6, none⟩ = some (.int .u32 a6) := L3.out.cell 6 (by simp); have d7 : w9.cell? ⟨g5, 7, none⟩ = some (.int .u32 a7) := L3.out.cell 7 (by simp))
      go_roundg (Q.size - 64 * (k + 1))
      case measure => have := HK.out; have := HPS.out; have := C1.out; omega
      case rel =>
        refine ⟨_, k + 1, (by have := HK.out; have := HPS.out; have := C1.out; omega), rfl, rfl, ?_, ?_, ?_, ?_, ?_⟩
        · constructor
          rw [HP.out]
          exact ext64 Q _ (by have := HPS.out; have := C1.out; omega)
        · constructor
          rw [eat, EA.out, ← HE.out, ET.out]
          exact (((((((L3.out.put 0 _).put 1 _).put 2 _).put 3 _).put 4 _).put 5 _).put 6 _).put 7 _
        · constructor
          (iterate 8 (refine blk_farA NE25 ?_))
          have hh := D2.out
          exact hh
        · constructor
          (iterate 8 (refine blk_farA NE45 ?_))
          have hh := D4.out
          exact hh
        · constructor
          (iterate 8 (with_reducible refine below_set ?_ G5.out))
          have hh := KB2.out
          exact hh
    · have x1 : decide ((64 : Int) ≤ (p.size : Int)) = false := decide_eq_false (by omega)
      have x2 : decide (64 ≤ p.size) = false := decide_eq_false c1
      obtain rfl : k = Q.size / 64 := by have := HPS.out; omega
      clear c1 hk hq
      go_wp2
      clear d0 d1 d2 d3 d4 d5 d6 d7
      replace L1 := AM L1.out.drew
      replace B2 := AM (blk_drew B2.out)
      replace B4 := AM (blk_drew B4.out)
      replace B := AM (below_drew1 B.out)
      clear L5
      refine start_ (n := 10) (S := fun w' => w'.cell? ⟨g5, 0, none⟩ = some (.int .u32 a0) ∧ w'.cell? ⟨g5, 1, none⟩ = some (.int .u32 a1) ∧ w'.cell? ⟨g5, 2, none⟩ = some (.int .u32 a2) ∧ w'.cell? ⟨g5, 3, none⟩ = some (.int .u32 a3) ∧ w'.cell? ⟨g5, 4, none⟩ = some (.int .u32 a4) ∧ w'.cell? ⟨g5, 5, none⟩ = some (.int .u32 a5) ∧ w'.cell? ⟨g5, 6, none⟩ = some (.int .u32 a6) ∧ w'.cell? ⟨g5, 7, none⟩ = some (.int .u32 a7) ∧ w'.cell? ⟨g2, 2, none⟩ = some (.int .i64 n)) (ds := [9]) #[false, false, false, false, false, false, false, false, false, false] (by kernel_rfl) rfl rfl ⟨L1.out.cell 0 (by simp), L1.out.cell 1 (by simp), L1.out.cell 2 (by simp), L1.out.cell 3 (by simp), L1.out.cell 4 (by simp), L1.out.cell 5 (by simp), L1.out.cell 6 (by simp), L1.out.cell 7 (by simp), (blk_cell B2.out 2).trans rfl⟩ (fun hHeld => ?_)
      refine with_tabW hm9.tab hm9.bits (fun HT_ HW_ => ?_)
      generalize wr.drew = w8 at L1 B2 B4 B hHeld ⊢
      refine pu_ HT_ 2 (some 46) #[false, false, true, false, false, false, false, false, false, false] ?_
      refine pu_ HT_ 3 (some 47) #[false, false, true, true, false, false, false, false, false, false] ?_
      refine pu_ HT_ 5 (some 49) #[false, false, true, true, false, true, false, false, false, false] ?_
      refine ta_ HT_ HW_ 0 (some 44) #[true, false, true, true, false, true, false, false, false, false] hHeld ?_
      refine ta_ HT_ HW_ 4 (some 48) #[true, false, true, true, true, true, false, false, false, false] hHeld ?_
      refine on_ HT_ 1 (some 45) #[true, true, true, true, true, true, false, false, false, false] (fun K hK => ?_)
      refine go1_ Tryd.func58 #[.agg #[.int .u32 a0, .int .u32 a1, .int .u32 a2, .int .u32 a3, .int .u32 a4, .int .u32 a5, .int .u32 a6, .int .u32 a7]] ?_
      refine (numbers_x a0 a1 a2 a3 a4 a5 a6 a7 HOA.out _).mono ?_
      rintro e w9 ⟨v, rfl, ho, hb⟩
      refine ⟨_, rfl, ?_⟩
      have HV := AM (Kd.R_lower ho (below_size B.out))
      replace L1 := AM (L1.out.below hb)
      replace B2 := AM (blk_below B2.out hb)
      replace B4 := AM (blk_below B4.out hb)
      replace B := AM (below_step B.out hb)
      clear hb ho
      obtain ⟨Ao, co, eo⟩ := Kd.R_slice HV.out
      subst eo
      refine hK.out _ _ ⟨L1.out.cell 0 (by simp), L1.out.cell 1 (by simp), L1.out.cell 2 (by simp), L1.out.cell 3 (by simp), L1.out.cell 4 (by simp), L1.out.cell 5 (by simp), L1.out.cell 6 (by simp), L1.out.cell 7 (by simp), (blk_cell B2.out 2).trans rfl⟩ (fun hHeld => ?_)
      clear hK K
      refine nm_ ?_
      refine on_ HT_ 6 (some 50) #[true, true, true, true, true, true, true, false, false, false] (fun K hK => ?_)
      refine go1_ Tryd.func42 #[.string t] ?_
      refine (long_s t _).mono ?_
      rintro e w_ ⟨rfl, hw_⟩
      rw [hw_]
      clear hw_ w_
      refine ⟨_, rfl, ?_⟩
      refine hK.out _ _ hHeld (fun hHeld => ?_)
      clear hK K
      refine nm_ ?_
      refine pu_ HT_ 7 (some 51) #[true, true, true, true, true, true, true, true, false, false] ?_
      refine pu_ HT_ 8 (some 52) #[true, true, true, true, true, true, true, true, true, false] ?_
      have z0 : w9.cell? ⟨g4, 0, none⟩ = some (.slice none 0 0) := (blk_cell B4.out 0).trans rfl
      have f0 := blk_frozen B4.out 0
      have z1 : w9.cell? ⟨g4, 1, none⟩ = some (.string (⟨#[]⟩ : ByteArray)) := (blk_cell B4.out 1).trans rfl
      have f1 := blk_frozen B4.out 1
      have z2 : w9.cell? ⟨g4, 2, none⟩ = some (.int .i64 0) := (blk_cell B4.out 2).trans rfl
      have f2 := blk_frozen B4.out 2
      refine last_ (i := 9) (N := none) #[true, true, true, true, true, true, true, true, true, true] rfl rfl (one_of HT_.out (by kernel_rfl)) (by decide) (fun K hK => ?_)
      refine sk_ ?_
      refine hK.out _ _ ?_
      clear hK K
      refine dn_ HT_ ?_
      try go_wp2
      generalize hq : World.setCell _ _ _ = w10
      have BF : Aside0 (w10.heap[g4]? = some (.cells #[.slice Ao [a0, a1, a2, a3, a4, a5, a6, a7].length co, .string p, .int .i64 n2] 39 (0, 0))) := ⟨by rw [← hq]; exact blk_put1 (blk_put1 (blk_put1 B4.out rfl) rfl) rfl⟩
      have HV2 : Aside0 (Kd.R (Kd.int .i64) 2 w10 w.heap.size (fun _ => True) (.slice Ao [a0, a1, a2, a3, a4, a5, a6, a7].length co) [a0, a1, a2, a3, a4, a5, a6, a7]) := ⟨by rw [← hq]; exact Kd.R_mono (Kd.R_far (p := ⟨g4, 2, none⟩) (Kd.R_far (p := ⟨g4, 1, none⟩) (Kd.R_far (p := ⟨g4, 0, none⟩) (Kd.R_types HV.out B4.out (by decide)) (fun _ hk => hk.2) _) (fun _ hk => hk.2) _) (fun _ hk => hk.2) _) (fun _ _ => trivial)⟩
      have BB : Aside0 (Below w.heap.size w w10) := ⟨by rw [← hq]; (iterate 3 (with_reducible refine below_set ?_ G4.out)); (have hh := B.out); exact hh⟩
      clear hq z0 f0 z1 f1 z2 f2
      refine bodyPost_ret (results_cell_row rfl _ _ g4 39 #[.slice Ao [a0, a1, a2, a3, a4, a5, a6, a7].length co, .string p, .int .i64 n2] (0, 0) _ rfl BF.out Tryd.underlying39 rfl (by kernel_rfl)) rfl ?_
      refine ⟨.slice Ao [a0, a1, a2, a3, a4, a5, a6, a7].length co, ?_, (by rw [EA.out]; exact HV2.out), BB.out⟩
      rw [← HP.out]
set_option maxHeartbeats 4000000 in
set_option maxRecDepth 100000 in
theorem hend_x (A : Option Addr) (c : Nat) (r : ByteArray) (n : Int) (s0 s1 s2 s3 s4 s5 s6 s7 : Int) (l : List Int) (hl : [s0, s1, s2, s3, s4, s5, s6, s7] = l) (h : HOk l r n) (w : World) (hL : LaidG w) (hr : Kd.C (Kd.int .i64) w A 8 l) :
    Calls Tryd.prog 26 #[.agg #[.slice A 8 c, .string r, .int .i64 n]] w fun e w' => e = .returned (.string (summedL l r n)) ∧ Below w.heap.size w w' := by
  have HR := AM hr
  have HO := AM h
  have EL := AM hl
  have HL := AM hL
  have HS : Aside0 (r.size < 64) := ⟨by have h1 := h.2.2.2; omega⟩
  clear hr h hl hL
  go_enter Tryd.func26, Tryd.ntmps26
  go_wp2_with (first | ((with_reducible refine gate_dst (N := 1) rfl ?_); refine be_ 1 #[.slice A 8 c, .string r, .int .i64 n] 39 ?_; intro g1 hg w1 hbox hb; have BK := AM hbox; have HB := AM hb; clear hb hbox hg; have p0 : w1.cell? ⟨g1, 0, none⟩ = some (.slice A 8 c) := (blk_cell BK.out 0).trans rfl; have p1 : w1.cell? ⟨g1, 1, none⟩ = some (.string r) := (blk_cell BK.out 1).trans rfl; have p2 : w1.cell? ⟨g1, 2, none⟩ = some (.int .i64 n) := (blk_cell BK.out 2).trans rfl) | (go_at_call 25; refine (hright_x A c l r n HO.out _ (Kd.C_below HR.out HB.out)).mono ?_; rintro e w2 ⟨rfl, hb⟩; clear p0 p1 p2; replace BK := AM (blk_below BK.out hb); replace HB := AM (below_step HB.out hb); clear hb; have p0 : w2.cell? ⟨g1, 0, none⟩ = some (.slice A 8 c) := (blk_cell BK.out 0).trans rfl; have p1 : w2.cell? ⟨g1, 1, none⟩ = some (.string r) := (blk_cell BK.out 1).trans rfl; have p2 : w2.cell? ⟨g1, 2, none⟩ = some (.int .i64 n) := (blk_cell BK.out 2).trans rfl))
  clear p0 p1 p2
  replace BK := AM (blk_drew BK.out)
  replace HB := AM (below_drew1 HB.out)
  refine start_ (n := 8) (S := fun w' => w'.cell? ⟨g1, 0, none⟩ = some (.slice A 8 c) ∧ w'.cell? ⟨g1, 1, none⟩ = some (.string r) ∧ w'.cell? ⟨g1, 2, none⟩ = some (.int .i64 n)) (ds := []) #[false, false, false, false, false, false, false, false] (by kernel_rfl) rfl rfl ⟨(blk_cell BK.out 0).trans rfl, (blk_cell BK.out 1).trans rfl, (blk_cell BK.out 2).trans rfl⟩ (fun hHeld => ?_)
  refine with_tabW he3.tab he3.bits (fun HT_ HW_ => ?_)
  generalize w2.drew = w3 at BK HB hHeld ⊢
  refine pu_ HT_ 2 (some 8) #[false, false, true, false, false, false, false, false] ?_
  refine pu_ HT_ 4 (some 10) #[false, false, true, false, true, false, false, false] ?_
  refine ta_ HT_ HW_ 0 (some 6) #[true, false, true, false, true, false, false, false] hHeld ?_
  refine ta_ HT_ HW_ 3 (some 9) #[true, false, true, true, true, false, false, false] hHeld ?_
  refine ta_ HT_ HW_ 5 (some 11) #[true, false, true, true, true, true, false, false] hHeld ?_
  refine on_ HT_ 1 (some 7) #[true, true, true, true, true, true, false, false] (fun K hK => ?_)
  refine go1_ Tryd.func60 #[.agg #[.slice A 8 c, .string r, .int .i64 n]] ?_
  refine (state_x A c r n s0 s1 s2 s3 s4 s5 s6 s7 (EL.out ▸ HO.out.1) _ (EL.out ▸ Kd.C_below HR.out HB.out)).mono ?_
  rintro e w4 ⟨rfl, hb⟩
  refine ⟨_, rfl, ?_⟩
  replace BK := AM (blk_below BK.out hb)
  replace HB := AM (below_step HB.out hb)
  clear hb
  refine hK.out _ _ ⟨(blk_cell BK.out 0).trans rfl, (blk_cell BK.out 1).trans rfl, (blk_cell BK.out 2).trans rfl⟩ (fun hHeld => ?_)
  clear hK K
  refine nm_ ?_
  refine on_ HT_ 6 (some 12) #[true, true, true, true, true, true, true, false] (fun K hK => ?_)
  refine go1_ Tryd.func66 #[.agg #[.int .u32 s0, .int .u32 s1, .int .u32 s2, .int .u32 s3, .int .u32 s4, .int .u32 s5, .int .u32 s6, .int .u32 s7], .string r, .int .i64 n] ?_
  refine (summed_calls s0 s1 s2 s3 s4 s5 s6 s7 r n HS.out ⟨HO.out.2.1, HO.out.2.2.1⟩ _ (HL.out.below HB.out)).mono ?_
  rintro e w5 ⟨rfl, hb⟩
  refine ⟨_, rfl, ?_⟩
  replace BK := AM (blk_below BK.out hb)
  replace HB := AM (below_step HB.out hb)
  clear hb
  refine hK.out _ _ ⟨(blk_cell BK.out 0).trans rfl, (blk_cell BK.out 1).trans rfl, (blk_cell BK.out 2).trans rfl⟩ (fun hHeld => ?_)
  clear hK K
  refine nm_ ?_
  refine pu_ HT_ 7 (some 2) #[true, true, true, true, true, true, true, true] ?_
  refine dn_ HT_ ?_
  try go_wp2
  go_ret
  exact ⟨by rw [EL.out]; rfl, HB.out⟩
set_option maxHeartbeats 4000000 in
set_option maxRecDepth 100000 in
theorem hbegin_x (w : World) (hL : LaidG w) :
    Calls Tryd.prog 22 #[] w fun e w' => ∃ v, e = .returned (.agg #[v, .string (⟨#[]⟩ : ByteArray), .int .i64 0]) ∧ Kd.R (Kd.int .i64) 2 w' w.heap.size (fun _ => True) v firstL ∧ Below w.heap.size w w' := by
  have HL := AM hL
  clear hL
  go_enter Tryd.func22, Tryd.ntmps22
  go_wp2_with (first | ((with_reducible refine gate_dst (N := 0) rfl ?_); refine be_ 0 #[.slice none 0 0, .string (⟨#[]⟩ : ByteArray), .int .i64 0] 39 ?_; intro g0 hg w1 hbox hb; have BK := AM hbox; have HB := AM hb; have G0 := AM ((by rw [hg]; exact Nat.le_refl _ : w.heap.size ≤ g0)); have L1 := HL.out.below hb; clear hb hbox hg; have c0 : w1.cell? ⟨0, 0, none⟩ = some (.int .u32 1779033703) := L1.1 0 (by omega); have c1 : w1.cell? ⟨0, 1, none⟩ = some (.int .u32 3144134277) := L1.1 1 (by omega); have c2 : w1.cell? ⟨0, 2, none⟩ = some (.int .u32 1013904242) := L1.1 2 (by omega); have c3 : w1.cell? ⟨0, 3, none⟩ = some (.int .u32 2773480762) := L1.1 3 (by omega); have c4 : w1.cell? ⟨0, 4, none⟩ = some (.int .u32 1359893119) := L1.1 4 (by omega); have c5 : w1.cell? ⟨0, 5, none⟩ = some (.int .u32 2600822924) := L1.1 5 (by omega); have c6 : w1.cell? ⟨0, 6, none⟩ = some (.int .u32 528734635) := L1.1 6 (by omega); have c7 : w1.cell? ⟨0, 7, none⟩ = some (.int .u32 1541459225) := L1.1 7 (by omega)) | (go_at_call 58; refine (numbers_x 1779033703 3144134277 1013904242 2773480762 1359893119 2600822924 528734635 1541459225 first_ok _).mono ?_; rintro e w2 ⟨v, rfl, ho, hb⟩; have HV := AM (Kd.R_lower ho (below_size HB.out)); clear c0 c1 c2 c3 c4 c5 c6 c7 L1; replace BK := AM (blk_below BK.out hb); replace HB := AM (below_step HB.out hb); clear hb ho; obtain ⟨Ao, co, eo⟩ := Kd.R_slice HV.out; subst eo; have z0 : w2.cell? ⟨g0, 0, none⟩ = some (.slice none 0 0) := (blk_cell BK.out 0).trans rfl; have f0 := blk_frozen BK.out 0; have z1 : w2.cell? ⟨g0, 1, none⟩ = some (.string (⟨#[]⟩ : ByteArray)) := (blk_cell BK.out 1).trans rfl; have f1 := blk_frozen BK.out 1; have z2 : w2.cell? ⟨g0, 2, none⟩ = some (.int .i64 0) := (blk_cell BK.out 2).trans rfl; have f2 := blk_frozen BK.out 2))
  generalize hq : World.setCell _ _ _ = w10
  have BF : Aside0 (w10.heap[g0]? = some (.cells #[.slice Ao [1779033703, 3144134277, 1013904242, 2773480762, 1359893119, 2600822924, 528734635, 1541459225].length co, .string (⟨#[]⟩ : ByteArray), .int .i64 0] 39 (0, 0))) := ⟨by rw [← hq]; exact blk_put1 (blk_put1 (blk_put1 BK.out rfl) rfl) rfl⟩
  have HV2 : Aside0 (Kd.R (Kd.int .i64) 2 w10 w.heap.size (fun _ => True) (.slice Ao [1779033703, 3144134277, 1013904242, 2773480762, 1359893119, 2600822924, 528734635, 1541459225].length co) [1779033703, 3144134277, 1013904242, 2773480762, 1359893119, 2600822924, 528734635, 1541459225]) := ⟨by rw [← hq]; exact Kd.R_mono (Kd.R_far (p := ⟨g0, 2, none⟩) (Kd.R_far (p := ⟨g0, 1, none⟩) (Kd.R_far (p := ⟨g0, 0, none⟩) (Kd.R_types HV.out BK.out (by decide)) (fun _ hk => hk.2) _) (fun _ hk => hk.2) _) (fun _ hk => hk.2) _) (fun _ _ => trivial)⟩
  have BB : Aside0 (Below w.heap.size w w10) := ⟨by rw [← hq]; (iterate 3 (with_reducible refine below_set ?_ G0.out)); (have hh := HB.out); exact hh⟩
  clear hq z0 f0 z1 f1 z2 f2
  refine bodyPost_ret (results_cell_row rfl _ _ g0 39 #[.slice Ao [1779033703, 3144134277, 1013904242, 2773480762, 1359893119, 2600822924, 528734635, 1541459225].length co, .string (⟨#[]⟩ : ByteArray), .int .i64 0] (0, 0) _ rfl BF.out Tryd.underlying39 rfl (by kernel_rfl)) rfl ?_
  exact ⟨_, rfl, HV2.out, BB.out⟩

end Go.Proofs.YtfffdndeccipnaaDoor.Hand
