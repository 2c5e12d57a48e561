/- Functions of the law FnWhole: the print's, with walks of this session's own. No statement is proved here. -/
import Derived.Carry
import Derived.Test.YtdbnajnelbebfaaHSFnWhole
import Derived.WalkLawsBesides
import Derived.Test.YtdbnajnelbebfaaVRegFnWhole
-- A program of this session wrote this text: a changed copy of the kit print, with given functions.
import Derived.Test.YtdbnajnelbebfaaPFnWholex0
import Derived.Test.YtdbnajnelbebfaaPFnWholex5
import Derived.Test.YtdbnajnelbebfaaPFnWholex6
namespace Go.Proofs.Ytdbnajnelbebfaa.PFnWhole
open Go.RowKit Go.Proofs.YtdbnajnelbebfaaW.PrintWords Go.Proofs.YtdbnajnelbebfaaW.PrintLast Go.Proofs.YtdbnajnelbebfaaW.PrintMore Go.Proofs.Ytdbnajnelbebfaa.Reg Go.Proofs.Ytdbnajnelbebfaa.Aut
attribute [local go_sem] max2_int min2_int max_two min_two max_three min_three max_four min_four   -- for this text's walks alone
set_option linter.unusedVariables false
set_option linter.unusedSimpArgs false

/-! ### impl_matrixOf: function 128 -/
section mo
open Go.Shelf
open Go.Lib
theorem cc_at {α : Type} {E : Nat} {d : Kd α} {w : World} {A : Option Addr} {n : Nat} {xs : List (List α)} (h : Kd.C (Kd.slice E d) w A n xs) (i : Int) (h0 : 0 ≤ i) (h1 : i < n) :
    ∃ ad A0 c0, A = some ad ∧ w.cell? (ad.add i.toNat) = some (.slice A0 (xs.getD i.toNat []).length c0) ∧ (xs.getD i.toNat []).length ≤ c0 ∧ Kd.C d w A0 (xs.getD i.toNat []).length (xs.getD i.toNat []) := by
  obtain ⟨ad, c, e, hl, hK, hc⟩ := Kd.C_get h [] i h0 h1
  obtain ⟨A0, c0, rfl, hle, hC⟩ := hK
  have h2 := hc 0 _ rfl
  rw [show i.toNat * (Kd.slice E d).sz + 0 = i.toNat by show i.toNat * 1 + 0 = i.toNat; omega] at h2
  exact ⟨ad, A0, c0, e, h2, hle, hC⟩
theorem cc_w {n : Int} (h0 : -9223372036854775808 ≤ n) (h1 : n ≤ 9223372036854775807) : wrap64 n = n := by
  unfold wrap64
  omega
theorem cc_nxt (x : Int) (i : Nat) (hx : x = (i : Int)) (hi : i < 1000000) : wrap64 (x + 1) = ((i + 1 : Nat) : Int) := by
  subst hx
  unfold wrap64
  omega
theorem cc_take {α : Type} (rows : List (List α)) (i : Nat) (hi : i < rows.length) : (rows.take (i + 1)).flatten = (rows.take i).flatten ++ rows.getD i [] := by
  rw [List.take_add_one, List.getElem?_eq_getElem hi, List.flatten_append, List.getD_eq_getElem?_getD, List.getElem?_eq_getElem hi]
  simp
theorem cc_len {α : Type} (rows : List (List α)) (i : Nat) : (rows.take i).flatten.length ≤ rows.flatten.length := by
  conv => rhs; rw [← List.take_append_drop i rows, List.flatten_append, List.length_append]
  omega
set_option maxHeartbeats 4000000 in
set_option maxRecDepth 100000 in
theorem ci_grow (n : Nat) (hn : n ≤ 1000000) (w : World) : Calls Try.prog 199 #[.slice none 0 0, .int .i64 n] w fun e w' => ∃ v, e = .returned v ∧ Kd.R (Kd.int .i64) 2 w' w.heap.size (fun _ => True) v [] ∧ Below w.heap.size w w' := by
  by_cases h0 : n = 0
  · subst h0
    refine (Any8.slices_Grow_room Try.laysGI none 0 0 0 w (Nat.le_refl _) (by decide) (by decide) (by decide)).mono ?_
    rintro e w' ⟨rfl, rfl⟩
    exact ⟨_, rfl, Kd.R_nil _ _ _ _ _, Below.refl _ _⟩
  · obtain ⟨i0, hi, hz0, hz1, hz2⟩ := info_parts info2
    have hbig : (0 + n) * i0.bytes ≤ 140737488355328 := by rw [hz2]; omega
    refine (Any8.slices_Grow_grow Try.laysGI i0 (.int .i64 0) hi hz0 (by rw [hz1]; decide) none 0 0 n [] w (Nat.le_refl _) (by omega) hbig (by omega) (by simp) (fun _ => rfl) (fun a h => by cases h)).mono ?_
    rintro e w' ⟨rfl, rfl⟩
    have hcap := grownCap_ge w (0 + n) 0 2
    have hmax := grownCap_le_maxLen w (0 + n) 0 2 (by unfold maxLen; omega)
    have hd : (w.drew).heap.size = w.heap.size := rfl
    refine ⟨_, rfl, ⟨fun _ _ => trivial, [], ⟨by simp, .inr ⟨w.heap.size, grownCap w (0 + n) 0 2, ([] : List Value).toArray ++ Builtin.zeroCells (.int .i64 0 : Value).cells (0 + n - 0) ++ Builtin.zeroCells (.int .i64 0 : Value).cells (grownCap w (0 + n) 0 2 - (0 + n)), rfl, Nat.le_refl _, ?_, Nat.zero_le _, hmax, ?_, by simp⟩⟩, Reps.none _ _⟩, (below_drew1 (Below.refl _ _)).alloc (Nat.le_refl _) _⟩
    · exact blk_new w.drew _
    · have hs : (.int .i64 0 : Value).cells.size = 1 := by rfl
      show (([] : List Value).toArray ++ Builtin.zeroCells (.int .i64 0 : Value).cells (0 + n - 0) ++ Builtin.zeroCells (.int .i64 0 : Value).cells (grownCap w (0 + n) 0 2 - (0 + n))).size = grownCap w (0 + n) 0 2 * 1
      rw [Array.size_append, Array.size_append, size_zeroCells, size_zeroCells, hs]
      show 0 + (0 + n - 0) * 1 + (grownCap w (0 + n) 0 2 - (0 + n)) * 1 = _
      rw [Nat.zero_add, ← Nat.add_mul]
      congr 1
      omega
set_option maxHeartbeats 4000000 in
set_option maxRecDepth 100000 in
theorem ci_concat (A : Option Addr) (c : Nat) (rows : List (List Int)) (hl : rows.length ≤ 1000) (hs : rows.flatten.length ≤ 1000000) (w : World) (hr : Kd.C (Kd.slice 2 (Kd.int .i64)) w A rows.length rows) :
    Calls Try.prog 174 #[.slice A rows.length c] w fun e w' => ∃ v, e = .returned v ∧ Kd.R (Kd.int .i64) 2 w' w.heap.size (fun _ => True) v rows.flatten ∧ Below w.heap.size w w' := by
  have HR := AM hr
  have HL := AM hl
  have HS := AM hs
  clear hr hl hs
  go_enter Try.func174, Try.ntmps174
  go_wp2
  go_loopg [3, 11] (rows.length : Nat) (fun (q : Nat) v3 v11 w' => ∃ (s x : Int) (i : Nat), i + q = rows.length ∧ v3 = .int .i64 s ∧ v11 = .int .i64 x ∧ Aside0 (x = (i : Int)) ∧ Aside0 (s = ((rows.take i).flatten.length : Int)) ∧ Aside0 (w' = w))
  case atStart => exact ⟨0, 0, 0, by omega, rfl, rfl, ⟨rfl⟩, ⟨by simp⟩, ⟨rfl⟩⟩
  case round =>
    obtain ⟨s, x, i, hi, rfl, rfl, HX, HSX, HW⟩ := hrel
    have HI := AM hi
    clear hi
    by_cases c1 : i < rows.length
    · have x1 : decide (x < (rows.length : Int)) = true := decide_eq_true (by rw [HX.out]; omega)
      have C1 := AM c1
      have p2 : (0 ≤ x) = True := eq_true (by rw [HX.out]; omega)
      have q2 : (x < (rows.length : Int)) = True := eq_true (by rw [HX.out]; omega)
      obtain ⟨ad, A0, c0, e1, hx0, hlc, hC⟩ := cc_at (by rw [← HW.out] at HR; exact HR.out : Kd.C (Kd.slice 2 (Kd.int .i64)) wr A rows.length rows) x (by rw [HX.out]; omega) (by rw [HX.out]; omega)
      subst e1
      have HT : Aside0 ((rows.take (i + 1)).flatten.length = (rows.take i).flatten.length + (rows.getD x.toNat []).length) := ⟨by rw [cc_take rows i c1, List.length_append, HX.out, Int.toNat_natCast]⟩
      clear c1 hlc hC
      generalize rows.getD x.toNat [] = row at hx0 HT
      have HLE := AM (cc_len rows (i + 1))
      obtain ⟨s2, hs2⟩ : ∃ s2, wrap64 (s + (row.length : Int)) = s2 := ⟨_, rfl⟩
      have HS2 : Aside0 (s2 = (((rows.take (i + 1)).flatten.length : Nat) : Int)) := ⟨by have := HSX.out; have := HT.out; have := HLE.out; have := HS.out; rw [← hs2, cc_w (by omega) (by omega)]; omega⟩
      have hs2w : IntKind.i64.wrap (s + (row.length : Int)) = s2 := (i64_w _).trans hs2
      have y1 : decide (s2 < 0) = false := decide_eq_false (by rw [HS2.out]; omega)
      clear hs2
      go_wp2
      clear hs2w y1
      go_roundg (rows.length - (i + 1))
      case measure => have := HI.out; have := C1.out; omega
      case rel => exact ⟨_, _, i + 1, (by have := HI.out; have := C1.out; omega), rfl, rfl, ⟨cc_nxt x i HX.out (by have := C1.out; have := HL.out; omega)⟩, HS2, HW⟩
    · have x1 : decide (x < (rows.length : Int)) = false := decide_eq_false (by rw [HX.out]; omega)
      have hi2 : i = rows.length := by have := HI.out; omega
      obtain ⟨m, hm⟩ : ∃ m : Nat, rows.flatten.length = m := ⟨_, rfl⟩
      have HM := AM hm
      have hs2 : s = (m : Int) := by rw [HSX.out, hi2, List.take_length, hm]
      subst hs2
      clear hm
      obtain rfl := HW.out.symm
      clear c1 hi2 HSX HX HI HW
      go_wp2_with (go_at_call 199; with_reducible refine (ci_grow m (by rw [← HM.out]; exact HS.out) _).mono ?_; rintro e w2 ⟨v2, rfl, ho, hb⟩; have HO := AM ho; have HB := AM hb; clear ho hb)
      clear x1
      go_loopg [6, 27] (rows.length : Nat) (fun (q : Nat) v6 v27 w' => ∃ (u : Value) (xs : List Int) (x : Int) (i : Nat), i + q = rows.length ∧ v6 = u ∧ v27 = .int .i64 x ∧ Aside0 (x = (i : Int)) ∧ Aside0 (xs = (rows.take i).flatten) ∧ Aside0 (Kd.R (Kd.int .i64) 2 w' w.heap.size (fun _ => True) u xs) ∧ Aside0 (Below w.heap.size w w'))
      case atStart => exact ⟨_, [], 0, 0, by omega, rfl, rfl, ⟨rfl⟩, ⟨by simp⟩, HO, HB⟩
      case round =>
        clear HO HB
        obtain ⟨u_, xs, x, i, hi, rfl, rfl, HX, HXS, HO, HB⟩ := hrel
        have HI := AM hi
        clear hi
        obtain ⟨Au, cu, eu⟩ := Kd.R_slice HO.out
        subst eu
        by_cases c1 : i < rows.length
        · have x1 : decide (x < (rows.length : Int)) = true := decide_eq_true (by rw [HX.out]; omega)
          have C1 := AM c1
          have p2 : (0 ≤ x) = True := eq_true (by rw [HX.out]; omega)
          have q2 : (x < (rows.length : Int)) = True := eq_true (by rw [HX.out]; omega)
          obtain ⟨ad, A0, c0, e1, hx0, hlc, hC⟩ := cc_at HR.out x (by rw [HX.out]; omega) (by rw [HX.out]; omega)
          subst e1
          replace hx0 := (HB.out.cell (World.block_lt_of_cell? _ _ hx0)).trans hx0
          have HT : Aside0 ((rows.take (i + 1)).flatten = (rows.take i).flatten ++ rows.getD x.toNat []) := ⟨by rw [cc_take rows i c1, HX.out, Int.toNat_natCast]⟩
          have HROW := AM (Kd.C_below hC HB.out)
          have HLX : Aside0 (xs.length + (rows.getD x.toNat []).length ≤ rows.flatten.length) := ⟨by have h1 := cc_len rows (i + 1); rw [HT.out, List.length_append, ← HXS.out] at h1; exact h1⟩
          clear c1 hlc hC
          generalize rows.getD x.toNat [] = row at hx0 HT HROW HLX
          go_wp2_with (first | ((with_reducible refine gate_builtin (b := .append) (xs := #[.tmp 31, .tmp 32]) rfl ?_); at_builtin; refine Kd.R_append_rows (Kd.int .i64) (w0 := w) w.heap.size rfl (.tmp 31) (.tmp 32) 71 2 (.int .i64 0) 8 rfl Try.underlying71 info2 rfl (by decide) (by decide) (.slice Au xs.length cu) xs row _ _ _ (fun _ => True) (fun _ => False) rfl rfl ?aO ?aR (fun _ _ h => h) (fun _ h => h.elim) ?aF ?aB ?aS ?aL ?_; (case aR => exact HROW.out); (case aB => exact HB.out); (case aF => exact (fun _ _ => trivial)); (case aO => exact HO.out); (case aS => exact (below_size HB.out)); (case aL => have := HLX.out; have := HS.out; omega); intro v33 w12 ho hb hg hat; replace HB := AM hb; replace HO := AM ho; clear ho hb hg hat hx0))
          go_roundg (rows.length - (i + 1))
          case measure => have := HI.out; have := C1.out; omega
          case rel => exact ⟨_, xs ++ row, _, i + 1, (by have := HI.out; have := C1.out; omega), rfl, rfl, ⟨cc_nxt x i HX.out (by have := C1.out; have := HL.out; omega)⟩, ⟨by rw [HT.out, HXS.out]⟩, HO, HB⟩
        · have x1 : decide (x < (rows.length : Int)) = false := decide_eq_false (by rw [HX.out]; omega)
          have HE : Aside0 (xs = rows.flatten) := ⟨by rw [HXS.out, show i = rows.length by have := HI.out; omega, List.take_length]⟩
          clear c1
          go_wp2
          go_ret
          exact ⟨_, rfl, (by rw [← HE.out]; exact HO.out), HB.out⟩
theorem mo_size1 (A : Option Addr) (n c : Nat) (w : World) : Calls Try.prog 173 #[.slice A n c] w fun e w' => e = .returned (.int .i64 (n : Int)) ∧ w' = w := by
  go_enter Try.func173, Try.ntmps173
  go_wp2
  go_ret
  exact ⟨rfl, rfl⟩
theorem mo_size2 (A : Option Addr) (n c : Nat) (w : World) : Calls Try.prog 166 #[.slice A n c] w fun e w' => e = .returned (.int .i64 (n : Int)) ∧ w' = w := by
  go_enter Try.func166, Try.ntmps166
  go_wp2
  go_ret
  exact ⟨rfl, rfl⟩
def mo1.T : Bool × List (List Nat × List Nat) := (true, [([], []), ([0], [0]), ([], []), ([2], [2]), ([3], [3]), ([4, 1], [4]), ([], []), ([6, 5], [6]), ([1, 5, 7], [1, 5, 7]), ([8, 7, 0, 1, 2, 3, 4, 5, 6, 7, 8], [8])])
def mo1.B : List Nat := [0, 1, 0, 4, 12, 31, 0, 127, 255, 511]
theorem mo1.tab : rtab .any (opsOf Try.f128 1) = mo1.T := by kernel_rfl
theorem mo1.bits : waitsOk mo1.T.2 mo1.B = true := by kernel_rfl
set_option maxHeartbeats 4000000 in
set_option maxRecDepth 100000 in
theorem mo_walk (ad : Addr) (c : Nat) (rows : List (List Int)) (A0 : Option Addr) (c0 : Nat) (w : World) (hx0 : w.cell? ad = some (.slice A0 (rows.getD 0 []).length c0)) (hr : Kd.C (Kd.slice 2 (Kd.int .i64)) w (some ad) rows.length rows) (hl : rows.length ≤ 1000) (hs : rows.flatten.length ≤ 1000000) (q0 : (0 < rows.length) = True) (q1 : ((0 : Int) < (rows.length : Int)) = True) :
    Calls Try.prog 128 #[.slice (some ad) rows.length c] w fun e w' => ∃ v2_ : Value, e = .returned (.agg #[.int .i64 (rows.length : Int), .int .i64 ((rows.getD 0 []).length : Int), v2_]) ∧ Kd.R (Kd.int .i64) 2 w' w.heap.size (fun _ => True) v2_ rows.flatten ∧ Below w.heap.size w w' := by
  have HR := AM hr
  have HL := AM hl
  have HS := AM hs
  have HB := AM (Below.refl w.heap.size w)
  clear hr hl hs
  generalize rows.getD 0 [] = row at hx0 ⊢
  obtain ⟨fl, hfl⟩ : ∃ fl, rows.flatten = fl := ⟨_, rfl⟩
  rw [hfl]
  have HF := AM hfl
  clear hfl
  go_enter Try.func128, Try.ntmps128
  go_wp2_with ((with_reducible refine gate_dst (N := 2) rfl ?_); refine be_ 2 #[.int .i64 0, .int .i64 0, .slice none 0 0] 89 ?_; intro g2 hg w1 hbox hb; have BK := AM hbox; have GK := AM ((by rw [hg]; exact Nat.le_refl _ : w.heap.size ≤ g2)); replace hx0 := (hb.cell (World.block_lt_of_cell? _ _ hx0)).trans hx0; replace HB := AM (below_step HB.out hb); clear hb hbox hg)
  replace BK := AM (blk_drew BK.out)
  replace HB := AM (below_drew1 HB.out)
  refine start_ (n := 10) (S := fun w' => w'.cell? ad = some (.slice A0 row.length c0)) (ds := [9]) #[false, false, false, false, false, false, false, false, false, false] (by kernel_rfl) rfl rfl hx0 (fun hHeld => ?_)
  refine with_tabW mo1.tab mo1.bits (fun HT_ HW_ => ?_)
  generalize w1.drew = w2 at BK HB hx0 hHeld ⊢
  refine pu_ HT_ 0 (some 3) #[true, false, false, false, false, false, false, false, false, false] ?_
  refine pu_ HT_ 2 (some 5) #[true, false, true, false, false, false, false, false, false, false] ?_
  refine pu_ HT_ 3 (some 6) #[true, false, true, true, false, false, false, false, false, false] ?_
  refine pu_ HT_ 6 (some 9) #[true, false, true, true, false, false, true, false, false, false] ?_
  refine ta_ HT_ HW_ 4 (some 7) #[true, false, true, true, true, false, true, false, false, false] hHeld ?_
  refine on_ HT_ 1 (some 4) #[true, true, true, true, true, false, true, false, false, false] (fun K hK => ?_)
  refine go1_ Try.func173 #[.slice (some ad) rows.length c] ?_
  refine (mo_size1 (some ad) rows.length c _).mono ?_
  rintro e w_ ⟨rfl, hw_⟩
  rw [hw_]
  clear hw_ w_
  refine ⟨_, rfl, ?_⟩
  refine hK.out _ _ hHeld (fun hHeld => ?_)
  clear hK K
  refine nm_ ?_
  refine on_ HT_ 5 (some 8) #[true, true, true, true, true, true, true, false, false, false] (fun K hK => ?_)
  refine go1_ Try.func166 #[.slice A0 row.length c0] ?_
  refine (mo_size2 A0 row.length c0 _).mono ?_
  rintro e w_ ⟨rfl, hw_⟩
  rw [hw_]
  clear hw_ w_
  refine ⟨_, rfl, ?_⟩
  refine hK.out _ _ hHeld (fun hHeld => ?_)
  clear hK K
  refine nm_ ?_
  refine on_ HT_ 7 (some 10) #[true, true, true, true, true, true, true, true, false, false] (fun K hK => ?_)
  refine go1_ Try.func174 #[.slice (some ad) rows.length c] ?_
  refine (ci_concat (some ad) c rows HL.out HS.out _ (Kd.C_below HR.out HB.out)).mono ?_
  rintro e w3 ⟨v3, rfl, ho, hb⟩
  rw [HF.out] at ho
  have HO := AM (Kd.R_lower ho (below_size HB.out))
  obtain ⟨Ac, cc, ec⟩ := Kd.R_slice ho
  subst ec
  replace BK := AM (blk_below BK.out hb)
  replace HB := AM (below_step HB.out hb)
  replace hx0 := (hb.cell (World.block_lt_of_cell? _ _ hHeld)).trans hHeld
  refine ⟨_, rfl, ?_⟩
  refine hK.out _ _ hx0 (fun hHeld => ?_)
  clear hK K
  refine nm_ ?_
  refine pu_ HT_ 8 (some 11) #[true, true, true, true, true, true, true, true, true, false] ?_
  have hfz0 := blk_frozen BK.out 0
  have hfz1 := blk_frozen BK.out 1
  have hfz2 := blk_frozen BK.out 2
  have hcz0 : w3.cell? ⟨g2, 0, none⟩ = some (.int .i64 0) := (blk_cell BK.out 0).trans rfl
  have hcz1 : w3.cell? ⟨g2, 1, none⟩ = some (.int .i64 0) := (blk_cell BK.out 1).trans rfl
  have hcz2 : w3.cell? ⟨g2, 2, none⟩ = some (.slice none 0 0) := (blk_cell BK.out 2).trans rfl
  refine last_ (i := 9) (N := none) #[true, true, true, true, true, true, true, true, true, true] rfl rfl (one_of HT_.out (by kernel_rfl)) (by decide) (fun K hK => ?_)
  refine sk_ ?_
  refine hK.out _ _ ?_
  clear hK K
  refine dn_ HT_ ?_
  try go_wp2
  refine bodyPost_ret (results_cell_row rfl _ _ g2 89 #[.int .i64 (rows.length : Int), .int .i64 (row.length : Int), .slice Ac fl.length cc] (0, 0) _ rfl bka_ Try.underlying89 rfl (by kernel_rfl)) rfl ?_
  exact ⟨_, rfl, Kd.R_mono (Kd.R_far (p := ⟨g2, 2, none⟩) (Kd.R_far (p := ⟨g2, 1, none⟩) (Kd.R_far (p := ⟨g2, 0, none⟩) (Kd.R_types HO.out BK.out (by decide)) (fun _ hk => hk.2) (.int .i64 (rows.length : Int))) (fun _ hk => hk.2) (.int .i64 (row.length : Int))) (fun _ hk => hk.2) (.slice Ac fl.length cc)) (fun _ hk => trivial), ((HB.out.setCell (p := ⟨g2, 0, none⟩) GK.out _).setCell (p := ⟨g2, 1, none⟩) GK.out _).setCell (p := ⟨g2, 2, none⟩) GK.out _⟩
def impl_matrixOf.f (l0 : List (List Int)) : Option (Int × Int × List Int) := if 0 < l0.length ∧ l0.length ≤ 1000 ∧ l0.flatten.length ≤ 1000000 then some ((l0.length : Int), ((l0.getD 0 []).length : Int), l0.flatten) else none
set_option maxHeartbeats 4000000 in
set_option maxRecDepth 100000 in
theorem impl_matrixOf.calls (A0 : Option Addr) (c0 : Nat) (l0 : List (List Int)) (r1 : Int) (r2 : Int) (r3 : List Int) (w : World) (hr0 : Kd.C (Kd.slice 2 (Kd.int .i64)) w A0 l0.length l0) (hc0 : l0.length ≤ c0) (h : impl_matrixOf.f l0 = some (r1, r2, r3)) :
    Calls Try.prog 128 #[.slice A0 l0.length c0] w fun e w' => ∃ v2_ : Value, e = .returned (.agg #[.int .i64 r1, .int .i64 r2, v2_]) ∧ Kd.R (Kd.int .i64) 2 w' w.heap.size (fun _ => True) v2_ r3 ∧ Below w.heap.size w w' := by
  have hu := Try.underlying89
  unfold impl_matrixOf.f at h
  split at h
  case isFalse => cases h
  case isTrue q =>
    obtain ⟨h1, h2, h3⟩ := q
    obtain ⟨rfl, rfl, rfl⟩ : (l0.length : Int) = r1 ∧ ((l0.getD 0 []).length : Int) = r2 ∧ l0.flatten = r3 := by
      injection h with h
      injection h with e1 h
      injection h with e2 e3
      exact ⟨e1, e2, e3⟩
    obtain ⟨ad, A1, c1, e1, hx0, hlc, hC⟩ := cc_at hr0 0 (by omega) (by omega)
    subst e1
    rw [show ((0 : Int)).toNat = 0 from rfl, Addr.add_zero'] at hx0
    rw [show ((0 : Int)).toNat = 0 from rfl] at hlc hC
    have HR := AM hr0
    have HL := AM h2
    have HS := AM h3
    have q0 : (0 < l0.length) = True := eq_true h1
    have q1 : ((0 : Int) < (l0.length : Int)) = True := eq_true (by omega)
    have HB := AM (Below.refl w.heap.size w)
    clear h hr0 h1 h2 h3 hlc hC hc0
    exact mo_walk ad c0 l0 A1 c1 w hx0 HR.out HL.out HS.out q0 q1
end mo

/-! ### impl_cauchy: function 63 -/
mutual
def impl_cauchy.l0 : Nat → Int → Int → List (List Int) → Int → Int → Option (Int × Int × List Int)
  | 0, _, _, _, _, _ => none
  | k + 1, x0, x1, x5, x10, x11 => if x11 < x10 then ((impl_unit.f x11 x0).bind fun t227 => (if x5.length < 5864062014805 then (impl_cauchy.l0 k x0 x1 (x5 ++ [t227]) x10 (wrap64 (x11 + 1))) else (none))) else (impl_cauchy.l1 k x0 x5 x1 0)
def impl_cauchy.l1 : Nat → Int → List (List Int) → Int → Int → Option (Int × Int × List Int)
  | 0, _, _, _, _ => none
  | k + 1, x0, x5, x21, x22 => if x22 < x21 then (impl_cauchy.l2 k x0 x5 x22 ([] : List Int) x21 x22 x0 0) else ((impl_matrixOf.f x5).bind fun bt233 => (some (bt233.1, bt233.2.1, bt233.2.2)))
def impl_cauchy.l2 : Nat → Int → List (List Int) → Int → List Int → Int → Int → Int → Int → Option (Int × Int × List Int)
  | 0, _, _, _, _, _, _, _, _ => none
  | k + 1, x0, x5, x7, x8, x21, x22, x25, x26 => if x26 < x25 then ((impl_inv.f k (Go.bits .xor .i64 (wrap64 (x0 + x7)) x26)).bind fun t238 => (if x8.length < 17592186044416 then (impl_cauchy.l2 k x0 x5 x7 (x8 ++ [t238]) x21 x22 x25 (wrap64 (x26 + 1))) else (none))) else (if x5.length < 5864062014805 then (impl_cauchy.l1 k x0 (x5 ++ [x8]) x21 (wrap64 (x22 + 1))) else (none))
end
def impl_cauchy.f (k : Nat) (a0 : Int) (a1 : Int) : Option (Int × Int × List Int) := impl_cauchy.l0 k a0 a1 ([] : List (List Int)) a0 0
theorem impl_cauchy.mono_l : ∀ k, (∀ y0 y1 y2 y3 y4, LeO (impl_cauchy.l0 k y0 y1 y2 y3 y4) (impl_cauchy.l0 (k + 1) y0 y1 y2 y3 y4)) ∧ (∀ y0 y1 y2 y3, LeO (impl_cauchy.l1 k y0 y1 y2 y3) (impl_cauchy.l1 (k + 1) y0 y1 y2 y3)) ∧ (∀ y0 y1 y2 y3 y4 y5 y6 y7, LeO (impl_cauchy.l2 k y0 y1 y2 y3 y4 y5 y6 y7) (impl_cauchy.l2 (k + 1) y0 y1 y2 y3 y4 y5 y6 y7))
  | 0 => ⟨fun _ _ _ _ _ r h => by simp [impl_cauchy.l0] at h, fun _ _ _ _ r h => by simp [impl_cauchy.l1] at h, fun _ _ _ _ _ _ _ _ r h => by simp [impl_cauchy.l2] at h⟩
  | k + 1 => by
    obtain ⟨ih0, ih1, ih2⟩ := impl_cauchy.mono_l k
    refine ⟨?_, ?_, ?_⟩
    · intro y0 y1 y2 y3 y4
      unfold impl_cauchy.l0
      repeat' first
      | (with_reducible exact ih0 _ _ _ _ _)
      | (with_reducible exact ih1 _ _ _ _)
      | (with_reducible exact ih2 _ _ _ _ _ _ _ _)
      | (with_reducible exact impl_inv.mono _ _)
      | (with_reducible exact LeO.refl _)
      | (with_reducible exact LeO.none _)
      | (with_reducible refine LeO.ite ?_ ?_)
      | (with_reducible refine LeO.bind ?_ (fun _ => ?_))
      | exact ih0 _ _ _ _ _
      | exact ih1 _ _ _ _
      | exact ih2 _ _ _ _ _ _ _ _
      | exact impl_inv.mono _ _
      | exact LeO.none _
      | refine LeO.ite ?_ ?_
      | refine LeO.bind ?_ (fun _ => ?_)
    · intro y0 y1 y2 y3
      unfold impl_cauchy.l1
      repeat' first
      | (with_reducible exact ih0 _ _ _ _ _)
      | (with_reducible exact ih1 _ _ _ _)
      | (with_reducible exact ih2 _ _ _ _ _ _ _ _)
      | (with_reducible exact impl_inv.mono _ _)
      | (with_reducible exact LeO.refl _)
      | (with_reducible exact LeO.none _)
      | (with_reducible refine LeO.ite ?_ ?_)
      | (with_reducible refine LeO.bind ?_ (fun _ => ?_))
      | exact ih0 _ _ _ _ _
      | exact ih1 _ _ _ _
      | exact ih2 _ _ _ _ _ _ _ _
      | exact impl_inv.mono _ _
      | exact LeO.none _
      | refine LeO.ite ?_ ?_
      | refine LeO.bind ?_ (fun _ => ?_)
    · intro y0 y1 y2 y3 y4 y5 y6 y7
      unfold impl_cauchy.l2
      repeat' first
      | (with_reducible exact ih0 _ _ _ _ _)
      | (with_reducible exact ih1 _ _ _ _)
      | (with_reducible exact ih2 _ _ _ _ _ _ _ _)
      | (with_reducible exact impl_inv.mono _ _)
      | (with_reducible exact LeO.refl _)
      | (with_reducible exact LeO.none _)
      | (with_reducible refine LeO.ite ?_ ?_)
      | (with_reducible refine LeO.bind ?_ (fun _ => ?_))
      | exact ih0 _ _ _ _ _
      | exact ih1 _ _ _ _
      | exact ih2 _ _ _ _ _ _ _ _
      | exact impl_inv.mono _ _
      | exact LeO.none _
      | refine LeO.ite ?_ ?_
      | refine LeO.bind ?_ (fun _ => ?_)
theorem impl_cauchy.mono : ∀ a0 a1 k, LeO (impl_cauchy.f k a0 a1) (impl_cauchy.f (k + 1) a0 a1) := by
  intro a0 a1 k
  obtain ⟨ih0, ih1, ih2⟩ := impl_cauchy.mono_l k
  unfold impl_cauchy.f
  repeat' first
      | (with_reducible exact ih0 _ _ _ _ _)
      | (with_reducible exact ih1 _ _ _ _)
      | (with_reducible exact ih2 _ _ _ _ _ _ _ _)
      | (with_reducible exact impl_inv.mono _ _)
      | (with_reducible exact LeO.refl _)
      | (with_reducible exact LeO.none _)
      | (with_reducible refine LeO.ite ?_ ?_)
      | (with_reducible refine LeO.bind ?_ (fun _ => ?_))
      | exact ih0 _ _ _ _ _
      | exact ih1 _ _ _ _
      | exact ih2 _ _ _ _ _ _ _ _
      | exact impl_inv.mono _ _
      | exact LeO.none _
      | refine LeO.ite ?_ ?_
      | refine LeO.bind ?_ (fun _ => ?_)
set_option maxHeartbeats 8000000 in
set_option maxRecDepth 100000 in
theorem impl_cauchy.calls (k : Nat) (a0 : Int) (a1 : Int) (r1 : Int) (r2 : Int) (r3 : List Int) (w : World) (h : impl_cauchy.f k a0 a1 = some (r1, r2, r3)) :
    Calls Try.prog 63 #[.int .i64 a0, .int .i64 a1] w fun e w' => ∃ v2_ : Value, e = .returned (.agg #[.int .i64 r1, .int .i64 r2, v2_]) ∧ Kd.R (Kd.int .i64) 2 w' w.heap.size (fun _ => True) v2_ r3 ∧ Below w.heap.size w w' := by
  have hu89 := Try.underlying89
  have HB := AM (Below.refl w.heap.size w)
  have H : (impl_cauchy.l0 k a0 a1 ([] : List (List Int)) a0 0) = some (r1, r2, r3) := h
  clear h
  have H' := AM H
  clear H
  go_enter Try.func63, Try.ntmps63
  go_wp2_with (first | ((with_reducible refine gate_dst (N := 4) rfl ?_); refine be_ 4 #[.int .i64 0, .int .i64 0, .slice none 0 0] 89 ?_; intro gb226 hg w3 hbox hb; have BK226 := AM hbox; have GW226 := AM ((by rw [hg]; exact (below_size bel_) : w.heap.size ≤ gb226)); have GE226 := AM ((by rw [hg]; exact (below_size bel_) : w.heap.size ≤ gb226)); replace HB := AM (below_step bel_ hb); clear hb hbox hg))
  go_loopg [5, 11] k (fun kq v5 v11 w' => ∃ (x5_1 : List (List Int)) (x11_1 : Int), v11 = .int .i64 x11_1 ∧ Aside0 (impl_cauchy.l0 kq a0 a1 x5_1 a0 x11_1 = some (r1, r2, r3)) ∧ Aside0 (kq ≤ k) ∧ Aside0 (Kd.S (Kd.slice 2 (Kd.int .i64)) 71 w' w.heap.size (fun _ => True) v5 x5_1) ∧ Aside0 (w'.heap[gb226]? = some (.cells #[.int .i64 0, .int .i64 0, (.slice none 0 0)] 89 (0, 0))) ∧ Aside0 (Below w.heap.size w w'))
  case atStart => exact ⟨(([] : List (List Int))), (0), (by first | rfl | (simp; done) | (simp [*]; done)), H', ⟨Nat.le_refl _⟩, ⟨by first | exact Kd.S_nil _ _ _ _ _ | exact Kd.N_nil _ _ _ _ _ | exact Kd.V_nil _ _ _ _ _ | exact Kd.Q_nil _ _ _ _ _ | exact Kd.R_nil _ _ _ _ _⟩, ⟨bk_ BK226.out⟩, ⟨bel_⟩⟩
  case round =>
    clear H'
    try clear p2
    obtain ⟨x5_1, x11_1, rfl, HA, HK1, HO_5, BK226, HB⟩ := hrel
    cases gk with
    | zero => exact absurd HA.out (by simp [impl_cauchy.l0])
    | succ k1 =>
      have H := HA.out
      clear HA
      simp only [impl_cauchy.l0] at H
      by_cases c4 : x11_1 < a0
      · rw [if_pos c4] at H
        have c4b0 : decide (x11_1 < a0) = true := decide_eq_true c4
        clear c4
        obtain ⟨t227, A5, H⟩ := OB H
        try dsimp only at H
        replace A5 := AM A5
        by_cases c6 : x5_1.length < 5864062014805
        · rw [if_pos c6] at H
          have LMc6 := AM c6
          clear c6
          obtain ⟨y230, hy230⟩ : ∃ y_ : List (List Int), y_ = (x5_1 ++ [t227]) := ⟨_, rfl⟩
          replace H : (impl_cauchy.l0 k1 a0 a1 y230 a0 (wrap64 (x11_1 + 1))) = some (r1, r2, r3) := by first | (rw [hy230]; with_reducible exact H) | (have H2_ := (Option.bind_some _ _).symm.trans H; rw [hy230]; with_reducible exact H2_) | (have H2_ := (Option.bind_some _ _).symm.trans H; with_reducible exact H2_) | with_reducible exact H | (rw [hy230]; exact H) | exact H
          have Ny230 := AM hy230
          clear hy230
          have H' := AM H
          clear H
          go_wp2_with (first | ((with_reducible refine gate_callee (f := 126) rfl ?_); refine gl_ (some 17) Try.func126 #[.int .i64 x11_1, .int .i64 a0] ?_; (with_reducible refine (impl_unit.calls x11_1 a0 t227 _ A5.out).mono ?_); rintro e w7 ⟨v228, rfl, ho0, hb⟩; refine ⟨_, rfl, ?_⟩; replace HO_5 := AM (Kd.S_elder' (by (with_reducible repeat (first | apply Kd.S_alloc | apply Kd.S_drewN | apply Kd.S_drew)); exact HO_5.out) (Kd.R_base ho0) hb); have HO229 := AM (Kd.R_lower ho0 (below_size bel_)); replace BK226 := AM (blk_below (g := gb226) (o := .cells #[.int .i64 0, .int .i64 0, .slice none 0 0] 89 (0, 0)) (bk_ BK226.out) hb); replace HB := AM (below_step bel_ hb); (try clear hb); (try clear hb2); (try clear hk); (try clear hi); (try clear ho0); obtain ⟨Ao9, co9, eo9⟩ := Kd.R_slice HO229.out; subst eo9) | ((with_reducible refine gate_builtin (b := .append) (xs := #[.tmp 14, .tmp 18]) rfl ?_); at_builtin; refine Kd.S_append (Kd.slice 2 (Kd.int .i64)) (w0 := w) w.heap.size rfl (.tmp 14) (.tmp 18) 149 71 (.slice none 0 0) 24 rfl Try.underlying149 info71 rfl (by decide) (by omega) u5 x5_1 t227 [.slice Ao9 t227.length co9] (fun _ => True) (fun k_ => some k_ = (.slice Ao9 t227.length co9 : Value).ownBlock) rfl rfl ?aP (fun k_ hk_ => ((Kd.R_mono (ok' := fun k_ => ((fun _ => True)) k_ ∧ some k_ ≠ (u5 : Value).ownBlock) (Kd.R_apart' (HO229.out) (Kd.S_typed HO_5.out) (by decide)) (fun k_ hk => ⟨trivial, hk.2⟩))).1 k_ hk_.symm) ?aF ?aO ?aB ?aS ?aL ?_; (case aP => exact Kd.M_row (Kd.R_mono (Kd.R_tight rfl (Kd.R_mono (ok' := fun k_ => ((fun _ => True)) k_ ∧ some k_ ≠ (u5 : Value).ownBlock) (Kd.R_apart' (HO229.out) (Kd.S_typed HO_5.out) (by decide)) (fun k_ hk => ⟨trivial, hk.2⟩))) (fun _ h_ => h_))); (case aB => exact bel_); (case aF => exact (fun _ _ => trivial)); (case aO => exact (by (with_reducible repeat (first | apply Kd.S_alloc | apply Kd.S_drewN | apply Kd.S_drew)); exact Kd.S_mono HO_5.out (fun k_ hk => ⟨trivial, fun e_ => hk.2 e_⟩))); (case aS => exact (below_size bel_)); (case aL => have := LMc6.out; omega); intro v231 w8 ho hb hg hat; rw [← Ny230.out] at ho; have n0_ := AM (blk_grown (g := gb226) (o := .cells #[.int .i64 0, .int .i64 0, .slice none 0 0] 89 (0, 0)) (bk_ BK226.out) hg (Kd.S_ne HO_5.out BK226.out (by decide))); have n1_ := AM hb; have n2_ := AM ho; clear BK226; clear HB; clear HO_5; clear HO229; have BK226 := n0_; have HB := n1_; have HO232 := n2_; clear n0_ n1_ n2_; clear ho hb hg hat))
          go_roundg k1
          case measure => have := HK1.out; omega
          case rel => exact ⟨(y230), (wrap64 (x11_1 + 1)), (by first | rfl | (simp; done) | (simp [*]; done)), H', ⟨by have := HK1.out; omega⟩, ⟨by (with_reducible repeat (first | apply Kd.S_alloc | apply Kd.S_drewN | apply Kd.S_drew)); exact HO232.out⟩, ⟨bk_ BK226.out⟩, ⟨bel_⟩⟩
        · rw [if_neg c6] at H
          exact absurd H (by simp)
      · rw [if_neg c4] at H
        have c4b0 : decide (x11_1 < a0) = false := decide_eq_false c4
        clear c4
        have H' := AM H
        clear H
        go_wp2
        go_loopg [5, 22] k1 (fun kq v5 v22 w' => ∃ (x5_2 : List (List Int)) (x22_2 : Int), v22 = .int .i64 x22_2 ∧ Aside0 (impl_cauchy.l1 kq a0 x5_2 a1 x22_2 = some (r1, r2, r3)) ∧ Aside0 (kq ≤ k1) ∧ Aside0 (Kd.S (Kd.slice 2 (Kd.int .i64)) 71 w' w.heap.size (fun _ => True) v5 x5_2) ∧ Aside0 (w'.heap[gb226]? = some (.cells #[.int .i64 0, .int .i64 0, (.slice none 0 0)] 89 (0, 0))) ∧ Aside0 (Below w.heap.size w w'))
        case atStart => exact ⟨(x5_1), (0), (by first | rfl | (simp; done) | (simp [*]; done)), H', ⟨Nat.le_refl _⟩, ⟨by (with_reducible repeat (first | apply Kd.S_alloc | apply Kd.S_drewN | apply Kd.S_drew)); exact HO_5.out⟩, ⟨bk_ BK226.out⟩, ⟨bel_⟩⟩
        case round =>
          clear H'
          try clear c1
          try clear p2
          try clear c4
          try clear c4b0
          try clear c6
          try clear p6
          try clear p2
          obtain ⟨x5_2, x22_2, rfl, HA, HK2, HO_5, BK226, HB⟩ := hrel
          cases gk with
          | zero => exact absurd HA.out (by simp [impl_cauchy.l1])
          | succ k2 =>
            have H := HA.out
            clear HA
            simp only [impl_cauchy.l1] at H
            by_cases c10 : x22_2 < a1
            · rw [if_pos c10] at H
              have c10b0 : decide (x22_2 < a1) = true := decide_eq_true c10
              clear c10
              have H' := AM H
              clear H
              go_wp2
              go_loopg [8, 26] k2 (fun kq v8 v26 w' => ∃ (x8_3 : List Int) (x26_3 : Int), v26 = .int .i64 x26_3 ∧ Aside0 (impl_cauchy.l2 kq a0 x5_2 x22_2 x8_3 a1 x22_2 a0 x26_3 = some (r1, r2, r3)) ∧ Aside0 (kq ≤ k2) ∧ Aside0 (Kd.S (Kd.slice 2 (Kd.int .i64)) 71 w' w.heap.size (fun k_ => some k_ ≠ (v8 : Value).ownBlock) u5 x5_2) ∧ Aside0 (Kd.R (Kd.int .i64) 2 w' w.heap.size (fun _ => True) v8 x8_3) ∧ Aside0 (w'.heap[gb226]? = some (.cells #[.int .i64 0, .int .i64 0, (.slice none 0 0)] 89 (0, 0))) ∧ Aside0 (Below w.heap.size w w'))
              case atStart => exact ⟨(([] : List Int)), (0), (by first | rfl | (simp; done) | (simp [*]; done)), H', ⟨Nat.le_refl _⟩, ⟨by (with_reducible repeat (first | apply Kd.S_alloc | apply Kd.S_drewN | apply Kd.S_drew)); exact Kd.S_mono HO_5.out (fun _ hk => (by simp [Value.ownBlock]))⟩, ⟨by first | exact Kd.R_nil _ _ _ _ _ | exact Kd.N_nil _ _ _ _ _ | exact Kd.V_nil _ _ _ _ _ | exact Kd.Q_nil _ _ _ _ _ | exact Kd.S_nil _ _ _ _ _⟩, ⟨bk_ BK226.out⟩, ⟨bel_⟩⟩
              case round =>
                clear H'
                try clear c1
                try clear p2
                try clear c4
                try clear c4b0
                try clear c6
                try clear p6
                try clear c10
                try clear c10b0
                try clear p2
                try clear p6
                obtain ⟨x8_3, x26_3, rfl, HA, HK3, HO_5, HO_8, BK226, HB⟩ := hrel
                cases gk with
                | zero => exact absurd HA.out (by simp [impl_cauchy.l2])
                | succ k3 =>
                  have H := HA.out
                  clear HA
                  simp only [impl_cauchy.l2] at H
                  by_cases c11 : x26_3 < a0
                  · rw [if_pos c11] at H
                    have c11b0 : decide (x26_3 < a0) = true := decide_eq_true c11
                    clear c11
                    obtain ⟨t238, A12, H⟩ := OB H
                    try dsimp only at H
                    replace A12 := AM A12
                    by_cases c13 : x8_3.length < 17592186044416
                    · rw [if_pos c13] at H
                      have LMc13 := AM c13
                      clear c13
                      obtain ⟨y239, hy239⟩ : ∃ y_ : List Int, y_ = (x8_3 ++ [t238]) := ⟨_, rfl⟩
                      replace H : (impl_cauchy.l2 k3 a0 x5_2 x22_2 y239 a1 x22_2 a0 (wrap64 (x26_3 + 1))) = some (r1, r2, r3) := by first | (rw [hy239]; with_reducible exact H) | (have H2_ := (Option.bind_some _ _).symm.trans H; rw [hy239]; with_reducible exact H2_) | (have H2_ := (Option.bind_some _ _).symm.trans H; with_reducible exact H2_) | with_reducible exact H | (rw [hy239]; exact H) | exact H
                      have Ny239 := AM hy239
                      clear hy239
                      have H' := AM H
                      clear H
                      go_wp2_with (first | ((with_reducible refine gate_callee (f := 127) rfl ?_); refine gl_ (some 35) Try.func127 #[.int .i64 (Go.bits .xor .i64 (wrap64 (a0 + x22_2)) x26_3)] ?_; (with_reducible refine (impl_inv.calls k3 (Go.bits .xor .i64 (wrap64 (a0 + x22_2)) x26_3) t238 _ A12.out).mono ?_); rintro e w' ⟨rfl, ⟨nd, rfl⟩⟩; refine ⟨_, rfl, ?_⟩) | ((with_reducible refine gate_builtin (b := .append) (xs := #[.tmp 29, .tmp 36]) rfl ?_); at_builtin; refine Kd.R_append (Kd.int .i64) (w0 := w) w.heap.size rfl (.tmp 29) (.tmp 36) 71 2 (.int .i64 0) 8 rfl Try.underlying71 info2 rfl (by decide) (by omega) u8 x8_3 t238 [.int .i64 t238] (fun _ => True) (fun _ => False) rfl rfl ?aP (fun _ hk => hk.elim) ?aF ?aO ?aB ?aS ?aL ?_; (case aP => exact rfl); (case aB => exact bel_); (case aF => exact (fun _ _ => trivial)); (case aO => exact (ro_ HO_8.out)); (case aS => exact (below_size bel_)); (case aL => have := LMc13.out; omega); intro v240 w14 ho hb hg hat; rw [← Ny239.out] at ho; have n0_ := AM (Kd.S_after (ok := (fun _ => True)) (by (with_reducible repeat (first | apply Kd.S_alloc | apply Kd.S_drewN | apply Kd.S_drew)); exact Kd.S_mono HO_5.out (fun _ hk => ⟨trivial, hk⟩)) hg hat); have n1_ := AM (blk_grown (g := gb226) (o := .cells #[.int .i64 0, .int .i64 0, .slice none 0 0] 89 (0, 0)) (bk_ BK226.out) hg (Kd.R_ne HO_8.out BK226.out (by decide))); have n2_ := AM hb; have n3_ := AM ho; clear HO_5; clear BK226; clear HB; clear HO_8; have HO_5 := n0_; have BK226 := n1_; have HB := n2_; have HO241 := n3_; clear n0_ n1_ n2_ n3_; clear ho hb hg hat))
                      go_roundg k3
                      case measure => have := HK1.out; have := HK2.out; have := HK3.out; omega
                      case rel => exact ⟨(y239), (wrap64 (x26_3 + 1)), (by first | rfl | (simp; done) | (simp [*]; done)), H', ⟨by have := HK1.out; have := HK2.out; have := HK3.out; omega⟩, ⟨by (with_reducible repeat (first | apply Kd.S_alloc | apply Kd.S_drewN | apply Kd.S_drew)); exact Kd.S_mono HO_5.out (fun _ hk => hk.2)⟩, ⟨ro_ HO241.out⟩, ⟨bk_ BK226.out⟩, ⟨bel_⟩⟩
                    · rw [if_neg c13] at H
                      exact absurd H (by simp)
                  · rw [if_neg c11] at H
                    have c11b0 : decide (x26_3 < a0) = false := decide_eq_false c11
                    clear c11
                    by_cases c15 : x5_2.length < 5864062014805
                    · rw [if_pos c15] at H
                      have LMc15 := AM c15
                      clear c15
                      obtain ⟨y242, hy242⟩ : ∃ y_ : List (List Int), y_ = (x5_2 ++ [x8_3]) := ⟨_, rfl⟩
                      replace H : (impl_cauchy.l1 k3 a0 y242 a1 (wrap64 (x22_2 + 1))) = some (r1, r2, r3) := by first | (rw [hy242]; with_reducible exact H) | (have H2_ := (Option.bind_some _ _).symm.trans H; rw [hy242]; with_reducible exact H2_) | (have H2_ := (Option.bind_some _ _).symm.trans H; with_reducible exact H2_) | with_reducible exact H | (rw [hy242]; exact H) | exact H
                      have Ny242 := AM hy242
                      clear hy242
                      have H' := AM H
                      clear H
                      obtain ⟨Ao17, co17, eo17⟩ := Kd.R_slice HO_8.out
                      subst eo17
                      go_wp2_with (first | ((with_reducible refine gate_builtin (b := .append) (xs := #[.tmp 39, .tmp 41]) rfl ?_); at_builtin; refine Kd.S_append (Kd.slice 2 (Kd.int .i64)) (w0 := w) w.heap.size rfl (.tmp 39) (.tmp 41) 149 71 (.slice none 0 0) 24 rfl Try.underlying149 info71 rfl (by decide) (by omega) u5 x5_2 x8_3 [.slice Ao17 x8_3.length co17] (fun _ => True) (fun k_ => some k_ = (.slice Ao17 x8_3.length co17 : Value).ownBlock) rfl rfl ?aP (fun k_ hk_ => ((Kd.R_mono (ok' := fun k_ => ((fun _ => True)) k_ ∧ some k_ ≠ (u5 : Value).ownBlock) (Kd.R_apart' (HO_8.out) (Kd.S_typed HO_5.out) (by decide)) (fun k_ hk => ⟨trivial, hk.2⟩))).1 k_ hk_.symm) ?aF ?aO ?aB ?aS ?aL ?_; (case aP => exact Kd.M_row (Kd.R_mono (Kd.R_tight rfl (Kd.R_mono (ok' := fun k_ => ((fun _ => True)) k_ ∧ some k_ ≠ (u5 : Value).ownBlock) (Kd.R_apart' (HO_8.out) (Kd.S_typed HO_5.out) (by decide)) (fun k_ hk => ⟨trivial, hk.2⟩))) (fun _ h_ => h_))); (case aB => exact bel_); (case aF => exact (fun _ _ => trivial)); (case aO => exact (by (with_reducible repeat (first | apply Kd.S_alloc | apply Kd.S_drewN | apply Kd.S_drew)); exact Kd.S_mono HO_5.out (fun k_ hk => ⟨trivial, fun e_ => hk e_⟩))); (case aS => exact (below_size bel_)); (case aL => have := LMc15.out; omega); intro v243 w16 ho hb hg hat; rw [← Ny242.out] at ho; have n0_ := AM (blk_grown (g := gb226) (o := .cells #[.int .i64 0, .int .i64 0, .slice none 0 0] 89 (0, 0)) (bk_ BK226.out) hg (Kd.S_ne HO_5.out BK226.out (by decide))); have n1_ := AM hb; have n2_ := AM ho; clear BK226; clear HB; clear HO_5; clear HO_8; have BK226 := n0_; have HB := n1_; have HO244 := n2_; clear n0_ n1_ n2_; clear ho hb hg hat))
                      go_roundg k3
                      case measure => have := HK1.out; have := HK2.out; have := HK3.out; omega
                      case rel => exact ⟨(y242), (wrap64 (x22_2 + 1)), (by first | rfl | (simp; done) | (simp [*]; done)), H', ⟨by have := HK1.out; have := HK2.out; have := HK3.out; omega⟩, ⟨by (with_reducible repeat (first | apply Kd.S_alloc | apply Kd.S_drewN | apply Kd.S_drew)); exact HO244.out⟩, ⟨bk_ BK226.out⟩, ⟨bel_⟩⟩
                    · rw [if_neg c15] at H
                      exact absurd H (by simp)
            · rw [if_neg c10] at H
              have c10b0 : decide (x22_2 < a1) = false := decide_eq_false c10
              clear c10
              obtain ⟨⟨t233, t234, t235⟩, A18, H⟩ := OB H
              try dsimp only at H
              replace A18 := AM A18
              simp only [Option.some.injEq, Prod.mk.injEq] at H
              obtain ⟨rfl, rfl, rfl⟩ := H
              obtain ⟨Ao19, co19, eo19⟩ := Kd.S_slice HO_5.out
              subst eo19
              go_wp2_with (first | ((with_reducible refine gate_callee (f := 128) rfl ?_); refine gl_ (some 45) Try.func128 #[.slice Ao19 x5_2.length co19] ?_; (with_reducible refine (impl_matrixOf.calls _ _ x5_2 t233 t234 t235 _ ?side1 ?side2 A18.out).mono ?_); (case side1 => repeat (first | exact (Kd.S_reads' HO_5.out).2.2 | (with_reducible refine Kd.C_alloc ?_ _) | (with_reducible refine Kd.C_drewN ?_ _) | (with_reducible refine Kd.C_drew ?_))); (case side2 => exact (Kd.S_reads' HO_5.out).2.1); rintro e w20 ⟨v236, rfl, ho0, hb⟩; refine ⟨_, rfl, ?_⟩; replace HO_5 := AM (Kd.S_elder' (by (with_reducible repeat (first | apply Kd.S_alloc | apply Kd.S_drewN | apply Kd.S_drew)); exact HO_5.out) (Kd.R_base ho0) hb); have HO237 := AM (Kd.R_lower ho0 (below_size bel_)); replace BK226 := AM (blk_below (g := gb226) (o := .cells #[.int .i64 0, .int .i64 0, .slice none 0 0] 89 (0, 0)) (bk_ BK226.out) hb); replace HB := AM (below_step bel_ hb); (try clear hb); (try clear hb2); (try clear hk); (try clear hi); (try clear ho0); have hcz21_0 : w20.cell? ⟨gb226, 0, none⟩ = some (.int .i64 0) := (blk_cell BK226.out 0).trans rfl; have hcz21_1 : w20.cell? ⟨gb226, 1, none⟩ = some (.int .i64 0) := (blk_cell BK226.out 1).trans rfl; have hcz21_2 : w20.cell? ⟨gb226, 2, none⟩ = some (.slice none 0 0) := (blk_cell BK226.out 2).trans rfl; have hfz21_0 := blk_frozen BK226.out 0; have hfz21_1 := blk_frozen BK226.out 1; have hfz21_2 := blk_frozen BK226.out 2; obtain ⟨Ao22, co22, eo22⟩ := Kd.R_slice HO237.out; subst eo22))
              refine bodyPost_ret (results_cell_row rfl _ _ gb226 89 #[.int .i64 t233, .int .i64 t234, .slice Ao22 t235.length co22] (0, 0) _ rfl bka_ Try.underlying89 rfl (by kernel_rfl)) rfl ?_
              exact ⟨_, ri_, by (with_reducible repeat (first | apply Kd.R_alloc | apply Kd.R_drewN | apply Kd.R_drew)); exact Kd.R_mono (Kd.R_far (p := ⟨gb226, 2, none⟩) (Kd.R_far (p := ⟨gb226, 1, none⟩) (Kd.R_far (p := ⟨gb226, 0, none⟩) (Kd.R_types HO237.out BK226.out (by decide)) (fun _ hk => hk.2) (.int .i64 t233)) (fun _ hk => hk.2) (.int .i64 t234)) (fun _ hk => hk.2) (.slice Ao22 t235.length co22)) (fun _ hk => trivial), bel_⟩

/-! ### impl_Whole: function 10 -/
section wh
/-- all are of one size. -/
def wh_ok (l : List ByteArray) : Prop := ∀ s ∈ l, s.size ≤ 20000 ∧ s.size = (l.getD 0 ByteArray.empty).size
instance wh_dec (l : List ByteArray) : Decidable (wh_ok l) := inferInstanceAs (Decidable (∀ s ∈ l, s.size ≤ 20000 ∧ s.size = (l.getD 0 ByteArray.empty).size))
def impl_Whole.f (k : Nat) (a0 : Int) (a1 : Int) (l2 : List ByteArray) : Option (Bool) := if l2.length ≤ 400 then ((impl_CodeRight.f a0 a1).bind fun c => if c = true then (if (l2.length : Int) = wrap64 (a0 + a1) ∧ wh_ok l2 ∧ 0 < a0 ∧ a0 ≤ (l2.length : Int) then ((impl_cauchy.f k a0 a1).bind fun m => ((impl_combined.f k m.1 m.2.1 m.2.2 (l2.take a0.toNat)).bind fun cs => (slices_Equal_string_string.f k cs l2))) else none) else some false) else none
theorem impl_Whole.mono : ∀ a0 a1 a2 k, LeO (impl_Whole.f k a0 a1 a2) (impl_Whole.f (k + 1) a0 a1 a2) := fun _ _ _ k => LeO.ite (LeO.bind (LeO.refl _) (fun _ => LeO.ite (LeO.ite (LeO.bind (impl_cauchy.mono _ _ _) (fun _ => LeO.bind (impl_combined.mono _ _ _ _ _) (fun _ => slices_Equal_string_string.mono _ _ _))) (LeO.refl _)) (LeO.refl _))) (LeO.refl _)
theorem wh_drawn {w w' : World} (h : Drawn0 w w') : Below w.heap.size w w' := by
  obtain ⟨q, hq⟩ := h.out
  rw [hq]
  exact pw_below_drewN (Below.refl _ _) _
theorem wh_nxt (x : Int) (i : Nat) (hx : x = (i : Int)) (hi : i < 1000000) : wrap64 (x + 1) = ((i + 1 : Nat) : Int) := by
  subst hx
  unfold wrap64
  omega
theorem wh_long (t : ByteArray) (h : t.size ≤ 20000) (w : World) : Calls Try.prog 60 #[.string t] w fun e w' => e = .returned (.bool false) ∧ w' = w := by
  have x1 : decide (20000 < (t.size : Int)) = false := decide_eq_false (by omega)
  have x2 : decide (20000 < t.size) = false := decide_eq_false (by omega)
  go_enter Try.func60, Try.ntmps60
  go_wp2
  go_ret
  exact ⟨rfl, rfl⟩
set_option maxHeartbeats 4000000 in
theorem wh_pred (s t0 : ByteArray) (g n c : Nat) (ad : Addr) (w : World) (h1 : s.size ≤ 20000) (h2 : s.size = t0.size) (hn : 0 < n) (hc : w.cell? ⟨g, 0, none⟩ = some (.slice (some ad) n c)) (hx : w.cell? ad = some (.string t0)) :
    Calls Try.prog 59 #[.string s, .pointer (some ⟨g, 0, none⟩)] w fun e w' => e = .returned (.bool false) ∧ Below w.heap.size w w' := by
  have q0 : (0 < n) = True := eq_true hn
  have q1 : ((0 : Int) < (n : Int)) = True := eq_true (by omega)
  have HS := AM h1
  have e1 : ((s.size : Int) != (t0.size : Int)) = false := by rw [h2]; simp
  have e2 : (s.size != t0.size) = false := by rw [h2]; simp
  have e3 : ((s.size : Int) == (t0.size : Int)) = true := by rw [h2]; simp
  have e4 : (s.size == t0.size) = true := by rw [h2]; simp
  clear h1 h2 hn
  go_enter Try.func59, Try.ntmps59
  go_wp2_with (go_at_call 60; refine (wh_long s HS.out _).mono ?_; rintro e w2 ⟨rfl, rfl⟩)
  go_ret
  exact ⟨rfl, Below.refl _ _⟩
set_option maxHeartbeats 4000000 in
theorem wh_idx (ad : Addr) (c : Nat) (l : List ByteArray) (g c5 : Nat) (hl : l.length ≤ 400) (hok : wh_ok l) (w : World) (hr : Kd.C Kd.string w (some ad) l.length l) (hg : w.cell? ⟨g, 0, none⟩ = some (.slice (some ad) l.length c5)) :
    Calls Try.prog 123 #[.slice (some ad) l.length c, .func (.func 59) #[] #[.pointer (some ⟨g, 0, none⟩)]] w fun e w' => e = .returned (.int .i64 (-1)) ∧ Below w.heap.size w w' := by
  have HR := AM hr
  have HL := AM hl
  have HG := AM hg
  have HOK := AM hok
  have HB := AM (Below.refl w.heap.size w)
  clear hr hl hg hok
  go_enter Try.func123, Try.ntmps123
  go_wp2
  go_loopg [8] (l.length : Nat) (fun (q : Nat) v8 w' => ∃ (x : Int) (i : Nat), i + q = l.length ∧ v8 = .int .i64 x ∧ Aside0 (x = (i : Int)) ∧ Aside0 (Below w.heap.size w w'))
  case atStart => exact ⟨0, 0, by omega, rfl, ⟨rfl⟩, HB⟩
  case round =>
    clear HB
    obtain ⟨x, i, hi, rfl, HX, HB⟩ := hrel
    have HI := AM hi
    clear hi
    by_cases c1 : i < l.length
    · have x1 : decide (x < (l.length : Int)) = true := decide_eq_true (by rw [HX.out]; omega)
      have C1 := AM c1
      have p2 : (0 ≤ x) = True := eq_true (by rw [HX.out]; omega)
      have q2 : (x < (l.length : Int)) = True := eq_true (by rw [HX.out]; omega)
      obtain ⟨ad2, e1, hx0⟩ := Kd.at_string HR.out x (by rw [HX.out]; omega) (by rw [HX.out]; omega)
      injection e1 with e1
      subst e1
      obtain ⟨ad3, e3, hx3⟩ := Kd.at_string HR.out 0 (by omega) (by omega)
      injection e3 with e3
      subst e3
      rw [show ((0 : Int)).toNat = 0 from rfl, Addr.add_zero'] at hx3
      replace hx0 := (HB.out.cell (World.block_lt_of_cell? _ _ hx0)).trans hx0
      have HX3 := AM ((HB.out.cell (World.block_lt_of_cell? _ _ hx3)).trans hx3)
      have HG2 := AM ((HB.out.cell (World.block_lt_of_cell? _ _ HG.out)).trans HG.out)
      have HQ : Aside0 ((rdOf ByteArray.empty l x).size ≤ 20000 ∧ (rdOf ByteArray.empty l x).size = (rdOf ByteArray.empty l 0).size) := ⟨by
        have hm : rdOf ByteArray.empty l x = l[i] := by unfold rdOf; rw [HX.out, Int.toNat_natCast, List.getD_eq_getElem?_getD, List.getElem?_eq_getElem c1]; rfl
        rw [hm]
        exact HOK.out _ (List.getElem_mem c1)⟩
      clear c1 hx3
      generalize rdOf ByteArray.empty l x = s at hx0 HQ
      generalize rdOf ByteArray.empty l 0 = t0 at HX3 HQ
      go_wp2_with (go_at_call 59; refine (wh_pred s t0 g l.length c5 ad _ HQ.out.1 HQ.out.2 (by have := C1.out; omega) HG2.out HX3.out).mono ?_; rintro e w2 ⟨rfl, hb⟩; replace HB := AM (below_step HB.out hb); clear hb hx0)
      go_roundg (l.length - (i + 1))
      case measure => have := HI.out; have := C1.out; omega
      case rel => exact ⟨_, i + 1, (by have := HI.out; have := C1.out; omega), rfl, ⟨wh_nxt x i HX.out (by have := C1.out; have := HL.out; omega)⟩, HB⟩
    · have x1 : decide (x < (l.length : Int)) = false := decide_eq_false (by rw [HX.out]; omega)
      clear c1
      go_wp2
      go_ret
      exact ⟨rfl, HB.out⟩
theorem wh_has (ad : Addr) (c : Nat) (l : List ByteArray) (g c5 : Nat) (hl : l.length ≤ 400) (hok : wh_ok l) (w : World) (hr : Kd.C Kd.string w (some ad) l.length l) (hg : w.cell? ⟨g, 0, none⟩ = some (.slice (some ad) l.length c5)) :
    Calls Try.prog 58 #[.slice (some ad) l.length c, .func (.func 59) #[] #[.pointer (some ⟨g, 0, none⟩)]] w fun e w' => e = .returned (.bool false) ∧ Below w.heap.size w w' := by
  have HR := AM hr
  have HL := AM hl
  have HG := AM hg
  have HOK := AM hok
  clear hr hl hg hok
  go_enter Try.func58, Try.ntmps58
  go_wp2_with (go_at_call 123; refine (wh_idx ad c l g c5 HL.out HOK.out _ HR.out HG.out).mono ?_; rintro e w2 ⟨rfl, hb⟩; have HB := AM hb; clear hb)
  go_ret
  exact ⟨rfl, HB.out⟩
set_option maxHeartbeats 4000000 in
set_option maxRecDepth 100000 in
theorem wh_no (a0 a1 : Int) (A : Option Addr) (c : Nat) (l : List ByteArray) (w : World) (hr : Kd.C Kd.string w A l.length l) (hc : l.length ≤ c) (hl : l.length ≤ 400) (hcr : impl_CodeRight.f a0 a1 = some false) :
    Calls Try.prog 10 #[.int .i64 a0, .int .i64 a1, .slice A l.length c] w fun e w' => e = .returned (.bool false) ∧ Below w.heap.size w w' := by
  have HR := AM hr
  have HC := AM hc
  have HCR := AM hcr
  have HIM : Aside0 (impl_isMany_string.f l = some false) := ⟨by unfold impl_isMany_string.f; rw [decide_eq_false (by omega)]⟩
  have HB := AM (Below.refl w.heap.size w)
  clear hr hc hl hcr
  go_enter Try.func10, Try.ntmps10
  go_wp2_with (first | ((with_reducible refine gate_dst (N := 5) rfl ?_); refine be_ 5 #[.slice A l.length c] 25 ?_; intro g5 hg w1 hbox hb; have BK := AM hbox; replace HB := AM (below_step HB.out hb); clear hb hbox hg; have cz : w1.cell? ⟨g5, 0, none⟩ = some (.slice A l.length c) := (blk_cell BK.out 0).trans rfl) | (go_at_call 55; refine (impl_isMany_string.calls A c l false _ (Kd.C_below HR.out HB.out) HC.out HIM.out).mono ?_; rintro e w2 ⟨rfl, hd⟩; have hb := wh_drawn hd; clear hd; replace BK := AM (blk_below BK.out hb); replace HB := AM (below_step HB.out hb); clear cz hb; have cz : w2.cell? ⟨g5, 0, none⟩ = some (.slice A l.length c) := (blk_cell BK.out 0).trans rfl) | (go_at_call 56; refine (impl_CodeRight.calls a0 a1 false _ HCR.out).mono ?_; rintro e w3 ⟨rfl, hd⟩; have hb := wh_drawn hd; clear hd; replace BK := AM (blk_below BK.out hb); replace HB := AM (below_step HB.out hb); clear cz hb; have cz : w3.cell? ⟨g5, 0, none⟩ = some (.slice A l.length c) := (blk_cell BK.out 0).trans rfl))
  go_ret
  exact ⟨rfl, HB.out⟩
def wh3.T : Bool × List (List Nat × List Nat) := (true, [([], []), ([], []), ([0, 1], [0, 1]), ([], []), ([], []), ([3, 4], [3, 4]), ([2, 5, 2], [2, 5]), ([], []), ([6, 7, 6], [6, 7]), ([8, 8, 0, 1, 2, 3, 4, 5, 6, 7, 8], [8])])
def wh3.B : List Nat := [0, 0, 3, 0, 0, 24, 63, 0, 255, 511]
theorem wh3.tab : rtab .any (opsOf Try.f10 3) = wh3.T := by kernel_rfl
theorem wh3.bits : waitsOk wh3.T.2 wh3.B = true := by kernel_rfl
set_option maxHeartbeats 4000000 in
set_option maxRecDepth 100000 in
theorem wh_yes (k : Nat) (a0 a1 : Int) (A : Option Addr) (c : Nat) (l : List ByteArray) (p1 p2 : Int) (p3 : List Int) (cs : List ByteArray) (r : Bool) (w : World) (hr : Kd.C Kd.string w A l.length l) (hc : l.length ≤ c) (hl : l.length ≤ 400) (hcr : impl_CodeRight.f a0 a1 = some true)
    (hq1 : (l.length : Int) = wrap64 (a0 + a1)) (hok : wh_ok l) (hq2 : 0 < a0) (hq3 : a0 ≤ (l.length : Int)) (hca : impl_cauchy.f k a0 a1 = some (p1, p2, p3)) (hcb : impl_combined.f k p1 p2 p3 (l.take a0.toNat) = some cs) (heq : slices_Equal_string_string.f k cs l = some r) :
    Calls Try.prog 10 #[.int .i64 a0, .int .i64 a1, .slice A l.length c] w fun e w' => e = .returned (.bool r) ∧ Below w.heap.size w w' := by
  obtain ⟨kk, hkk⟩ : ∃ n : Nat, a0 = (n : Int) := ⟨a0.toNat, by omega⟩
  obtain ⟨ad, hA, _⟩ := hr.2.2 (by omega)
  subst hA
  have HR := AM hr
  have HC := AM hc
  have HL := AM hl
  have HOK := AM hok
  have HCR := AM hcr
  have HCA := AM hca
  have HCB : Aside0 (impl_combined.f k p1 p2 p3 (l.take kk) = some cs) := ⟨by have h9 := hcb; rw [hkk, Int.toNat_natCast] at h9; exact h9⟩
  have HEQ := AM heq
  have HKL : Aside0 (kk ≤ l.length) := ⟨by omega⟩
  have HTL : Aside0 ((l.take kk).length = kk) := ⟨by rw [List.length_take]; omega⟩
  have HIM : Aside0 (impl_isMany_string.f l = some false) := ⟨by unfold impl_isMany_string.f; rw [decide_eq_false (by omega)]⟩
  have HB := AM (Below.refl w.heap.size w)
  obtain ⟨ss, hss⟩ : ∃ ss, wrap64 (a0 + a1) = ss := ⟨_, rfl⟩
  have hssw : IntKind.i64.wrap (a0 + a1) = ss := (i64_w _).trans hss
  rw [hss] at hq1
  have y1 : ((l.length : Int) != ss) = false := by rw [hq1]; simp
  have y2 : ((l.length : Int) == ss) = true := by rw [hq1]; simp
  obtain ⟨i9, hi9, _⟩ := info_parts info9
  have hs9 : i9.size = 1 := by have := info9; rw [hi9] at this; simp only [Option.map_some, Option.some.injEq, Prod.mk.injEq] at this; exact this.2.1
  have hcut := cut_to (P := Try.prog) 25 9 .i64 Try.underlying25 hi9 (some ad) l.length c a0 (by omega) hq3 hc
  rw [hkk, Int.toNat_natCast, ← hkk] at hcut
  clear hr hc hl hcr hok hq1 hq2 hq3 hca hcb heq hss hi9 hs9 hkk
  go_enter Try.func10, Try.ntmps10
  go_wp2_with (first | ((with_reducible refine gate_dst (N := 5) rfl ?_); refine be_ 5 #[.slice (some ad) l.length c] 25 ?_; intro g5 hg w1 hbox hb; have BK := AM hbox; replace HB := AM (below_step HB.out hb); clear hb hbox hg; have cz : w1.cell? ⟨g5, 0, none⟩ = some (.slice (some ad) l.length c) := (blk_cell BK.out 0).trans rfl) | (go_at_call 55; refine (impl_isMany_string.calls (some ad) c l false _ (Kd.C_below HR.out HB.out) HC.out HIM.out).mono ?_; rintro e w2 ⟨rfl, hd⟩; have hb := wh_drawn hd; clear hd; replace BK := AM (blk_below BK.out hb); replace HB := AM (below_step HB.out hb); clear cz hb; have cz : w2.cell? ⟨g5, 0, none⟩ = some (.slice (some ad) l.length c) := (blk_cell BK.out 0).trans rfl) | (go_at_call 56; refine (impl_CodeRight.calls a0 a1 true _ HCR.out).mono ?_; rintro e w3 ⟨rfl, hd⟩; have hb := wh_drawn hd; clear hd; replace BK := AM (blk_below BK.out hb); replace HB := AM (below_step HB.out hb); clear cz hb; have cz : w3.cell? ⟨g5, 0, none⟩ = some (.slice (some ad) l.length c) := (blk_cell BK.out 0).trans rfl) | (go_at_call 57; refine (impl_size_string.calls (some ad) c l (l.length : Int) _ (Kd.C_below HR.out HB.out) HC.out rfl).mono ?_; rintro e w4 ⟨rfl, hd⟩; have hb := wh_drawn hd; clear hd; replace BK := AM (blk_below BK.out hb); replace HB := AM (below_step HB.out hb); clear cz hb; have cz : w4.cell? ⟨g5, 0, none⟩ = some (.slice (some ad) l.length c) := (blk_cell BK.out 0).trans rfl) | (go_at_call 58; refine (wh_has ad c l g5 c HL.out HOK.out _ (Kd.C_below HR.out HB.out) cz).mono ?_; rintro e w5 ⟨rfl, hb⟩; replace BK := AM (blk_below BK.out hb); replace HB := AM (below_step HB.out hb); clear cz hb; have cz : w5.cell? ⟨g5, 0, none⟩ = some (.slice (some ad) l.length c) := (blk_cell BK.out 0).trans rfl))
  replace BK := AM (blk_drew BK.out)
  replace HB := AM (below_drew1 HB.out)
  clear cz
  refine start_ (n := 10) (S := fun w' => w'.cell? ⟨g5, 0, none⟩ = some (.slice (some ad) l.length c)) (ds := []) #[false, false, false, false, false, false, false, false, false, false] (by kernel_rfl) rfl rfl ((blk_cell BK.out 0).trans rfl) (fun hHeld => ?_)
  refine with_tabW wh3.tab wh3.bits (fun HT_ HW_ => ?_)
  generalize w5.drew = w6 at BK HB hHeld ⊢
  refine pu_ HT_ 0 (some 28) #[true, false, false, false, false, false, false, false, false, false] ?_
  refine pu_ HT_ 1 (some 29) #[true, true, false, false, false, false, false, false, false, false] ?_
  refine pu_ HT_ 4 (some 32) #[true, true, false, false, true, false, false, false, false, false] ?_
  refine ta_ HT_ HW_ 3 (some 31) #[true, true, false, true, true, false, false, false, false, false] hHeld ?_
  refine ta_ HT_ HW_ 7 (some 35) #[true, true, false, true, true, false, false, true, false, false] hHeld ?_
  refine pu_ HT_ 5 (some 33) #[true, true, false, true, true, true, false, true, false, false] ?_
  refine on_ HT_ 2 (some 30) #[true, true, true, true, true, true, false, true, false, false] (fun K hK => ?_)
  refine go1_ Try.func63 #[.int .i64 a0, .int .i64 a1] ?_
  refine (impl_cauchy.calls k a0 a1 p1 p2 p3 _ HCA.out).mono ?_
  rintro e w7 ⟨v30, rfl, ho, hb⟩
  have HCV := AM (Kd.R_lower ho (below_size HB.out))
  obtain ⟨Ac, cc, ec⟩ := Kd.R_slice ho
  subst ec
  replace BK := AM (blk_below BK.out hb)
  replace HB := AM (below_step HB.out hb)
  clear ho hb
  refine ⟨_, rfl, ?_⟩
  refine hK.out _ _ ((blk_cell BK.out 0).trans rfl) (fun hHeld => ?_)
  clear hK K
  refine nm_ ?_
  refine on_ HT_ 6 (some 34) #[true, true, true, true, true, true, true, true, false, false] (fun K hK => ?_)
  refine go1_ Try.func62 #[.agg #[.int .i64 p1, .int .i64 p2, .slice Ac p3.length cc], .slice (some ad) (l.take kk).length c] ?_ (hargs := by simp only [List.map_toArray, List.map_cons, List.map_nil]; rw [HTL.out]; rfl)
  refine (impl_combined.calls k p1 p2 Ac cc p3 (some ad) c (l.take kk) cs _ (Kd.R_reads' HCV.out).2.2 (Kd.R_reads' HCV.out).2.1 (Kd.C_take (Kd.C_below HR.out HB.out) HKL.out) (by rw [HTL.out]; have := HKL.out; have := HC.out; omega) HCB.out).mono ?_
  rintro e w8 ⟨v34, rfl, ho, hb⟩
  have HCS := AM (Kd.R_lower ho (below_size HB.out))
  obtain ⟨As, c2, es⟩ := Kd.R_slice ho
  subst es
  replace BK := AM (blk_below BK.out hb)
  replace HB := AM (below_step HB.out hb)
  clear ho hb
  refine ⟨_, rfl, ?_⟩
  refine hK.out _ _ ((blk_cell BK.out 0).trans rfl) (fun hHeld => ?_)
  clear hK K
  refine nm_ ?_
  refine on_ HT_ 8 (some 36) #[true, true, true, true, true, true, true, true, true, false] (fun K hK => ?_)
  refine go1_ Try.func61 #[.slice As cs.length c2, .slice (some ad) l.length c] ?_
  refine (slices_Equal_string_string.calls k As c2 cs (some ad) c l r _ (Kd.R_reads' HCS.out).2.2 (Kd.R_reads' HCS.out).2.1 (Kd.C_below HR.out HB.out) HC.out HEQ.out).mono ?_
  rintro e w9 ⟨rfl, hd⟩
  have hb := wh_drawn hd
  replace BK := AM (blk_below BK.out hb)
  replace HB := AM (below_step HB.out hb)
  clear hd hb
  refine ⟨_, rfl, ?_⟩
  refine hK.out _ _ ((blk_cell BK.out 0).trans rfl) (fun hHeld => ?_)
  clear hK K
  refine nm_ ?_
  refine pu_ HT_ 9 (some 6) #[true, true, true, true, true, true, true, true, true, true] ?_
  refine dn_ HT_ ?_
  try go_wp2
  go_ret
  exact ⟨rfl, HB.out⟩
theorem impl_Whole.calls (k : Nat) (a0 : Int) (a1 : Int) (A2 : Option Addr) (c2 : Nat) (l2 : List ByteArray) (r : Bool) (w : World) (hr2 : Kd.C Kd.string w A2 l2.length l2) (hc2 : l2.length ≤ c2) (h : impl_Whole.f k a0 a1 l2 = some r) :
    Calls Try.prog 10 #[.int .i64 a0, .int .i64 a1, .slice A2 l2.length c2] w fun e w' => e = .returned (.bool r) ∧ Below w.heap.size w w' := by
  unfold impl_Whole.f at h
  split at h
  case isFalse => cases h
  case isTrue hl =>
    obtain ⟨c, hcr, h⟩ := Option.bind_eq_some_iff.mp h
    cases c
    case false =>
      rw [if_neg (by decide)] at h
      obtain rfl := Option.some.inj h
      exact wh_no a0 a1 A2 c2 l2 w hr2 hc2 hl hcr
    case true =>
      rw [if_pos rfl] at h
      split at h
      case isFalse => cases h
      case isTrue q =>
        obtain ⟨q1, q2, q3, q4⟩ := q
        obtain ⟨⟨p1, p2, p3⟩, hca, h⟩ := Option.bind_eq_some_iff.mp h
        obtain ⟨cs, hcb, h⟩ := Option.bind_eq_some_iff.mp h
        exact wh_yes k a0 a1 A2 c2 l2 p1 p2 p3 cs r w hr2 hc2 hl hcr q1 q2 q3 q4 hca hcb h
end wh

end Go.Proofs.Ytdbnajnelbebfaa.PFnWhole
