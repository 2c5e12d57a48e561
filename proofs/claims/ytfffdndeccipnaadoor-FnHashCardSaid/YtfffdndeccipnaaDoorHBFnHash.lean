/- The digest's functions of the program, walked by hand. No statement is proved here. -/
import Derived.Test.YtfffdndeccipnaaDoorHAFnHash
import Derived.Shelf.Strings.Repeat
namespace Go.Proofs.YtfffdndeccipnaaDoor.Hand
open Go.RowKit Go.Proofs.YtfffdndeccipnaaDoorW.PrintWords Go.Proofs.YtfffdndeccipnaaDoorW.PrintLast Go.Proofs.YtfffdndeccipnaaDoorW.PrintMore Go.Proofs.YtfffdndeccipnaaDoor.Reg Go.Proofs.YtfffdndeccipnaaDoor.Aut
set_option linter.unusedVariables false
set_option linter.unusedSimpArgs false
theorem takenL_length (s : List Int) (b : ByteArray) : (takenL s b).length = s.length := addAll_length _ _ _
theorem taken_x (s0 s1 s2 s3 s4 s5 s6 s7 t0 t1 t2 t3 t4 t5 t6 t7 : Int) (b : ByteArray) (hb : b.size = 64) (w : World) (hL : LaidG w) (hT : takenL [s0, s1, s2, s3, s4, s5, s6, s7] b = [t0, t1, t2, t3, t4, t5, t6, t7]) :
    Calls Tryd.prog 61 #[.agg #[.int .u32 s0, .int .u32 s1, .int .u32 s2, .int .u32 s3, .int .u32 s4, .int .u32 s5, .int .u32 s6, .int .u32 s7], .string b] w fun e w' => e = .returned (.agg #[.int .u32 t0, .int .u32 t1, .int .u32 t2, .int .u32 t3, .int .u32 t4, .int .u32 t5, .int .u32 t6, .int .u32 t7]) ∧ Below w.heap.size w w' := by
  have h := taken_calls s0 s1 s2 s3 s4 s5 s6 s7 b hb w hL
  rw [hT] at h
  exact h
/-- the state behind some blocks. -/
def eat (s : List Int) (r : ByteArray) : Nat → List Int
  | 0 => s
  | n + 1 => takenL (eat s r n) (r.extract (64 * n) (64 * n + 64))
theorem eat_length (s : List Int) (r : ByteArray) : ∀ n, (eat s r n).length = s.length
  | 0 => rfl
  | n + 1 => by rw [eat, takenL_length, eat_length s r n]
theorem ext0 (r : ByteArray) (a : Nat) (h : a + 64 ≤ r.size) : (r.extract a r.size).extract 0 64 = r.extract a (a + 64) := by
  apply ByteArray.ext
  simp [ByteArray.data_extract]
  rw [Nat.min_eq_left h]
theorem ext64 (r : ByteArray) (a : Nat) (h : a + 64 ≤ r.size) : (r.extract a r.size).extract 64 (r.extract a r.size).size = r.extract (a + 64) r.size := by
  apply ByteArray.ext
  simp [ByteArray.data_extract]
  rw [show min (a + (r.size - a)) r.size = r.size by omega]
theorem long_s (b : ByteArray) (w : World) : Calls Tryd.prog 42 #[.string b] w fun e w' => e = .returned (.int .i64 (b.size : Int)) ∧ w' = w := by
  go_enter Tryd.func42, Tryd.ntmps42
  go_wp2
  go_ret
  exact ⟨rfl, rfl⟩
set_option maxHeartbeats 4000000 in
set_option maxRecDepth 100000 in
theorem digest_calls (b : ByteArray) (w : World) (hL : LaidG w) (R : ByteArray)
    (hS : ∀ (s0 s1 s2 s3 s4 s5 s6 s7 : Int) (r : ByteArray) (W : World), LaidG W → eat firstL b (b.size / 64) = [s0, s1, s2, s3, s4, s5, s6, s7] → r = b.extract (64 * (b.size / 64)) b.size →
      Calls Tryd.prog 66 #[.agg #[.int .u32 s0, .int .u32 s1, .int .u32 s2, .int .u32 s3, .int .u32 s4, .int .u32 s5, .int .u32 s6, .int .u32 s7], .string r, .int .i64 (b.size : Int)] W fun e w' => e = .returned (.string R) ∧ Below W.heap.size W w') :
    Calls Tryd.prog 54 #[.string b] w fun e w' => e = .returned (.string R) ∧ Below w.heap.size w w' := by
  have HL := AM hL
  have HS := AM hS
  have c0 : w.cell? ⟨0, 0, none⟩ = some (.int .u32 1779033703) := hL.1 0 (by omega)
  have c1 : w.cell? ⟨0, 1, none⟩ = some (.int .u32 3144134277) := hL.1 1 (by omega)
  have c2 : w.cell? ⟨0, 2, none⟩ = some (.int .u32 1013904242) := hL.1 2 (by omega)
  have c3 : w.cell? ⟨0, 3, none⟩ = some (.int .u32 2773480762) := hL.1 3 (by omega)
  have c4 : w.cell? ⟨0, 4, none⟩ = some (.int .u32 1359893119) := hL.1 4 (by omega)
  have c5 : w.cell? ⟨0, 5, none⟩ = some (.int .u32 2600822924) := hL.1 5 (by omega)
  have c6 : w.cell? ⟨0, 6, none⟩ = some (.int .u32 528734635) := hL.1 6 (by omega)
  have c7 : w.cell? ⟨0, 7, none⟩ = some (.int .u32 1541459225) := hL.1 7 (by omega)
  clear hL hS
  go_enter Tryd.func54, Tryd.ntmps54
  go_wp2
  clear c0 c1 c2 c3 c4 c5 c6 c7
  generalize hq : World.alloc _ _ = w1
  obtain ⟨g, eg⟩ : ∃ g, w.heap.size = g := ⟨_, rfl⟩
  have H0 : Aside0 (Blk w1 w.heap.size 77 (eat firstL b 0)) := ⟨by rw [← hq]; exact blk_new w _⟩
  have HB : Aside0 (Below w.heap.size w w1) := ⟨by rw [← hq]; exact below_alloc (Below.refl _ _) _⟩
  have HG : Aside0 (w.heap.size ≤ g) := ⟨by omega⟩
  rw [eg] at H0 ⊢
  clear hq eg
  have hx0 : Aside0 (b = b.extract (64 * 0) b.size) := ⟨by apply ByteArray.ext; simp⟩
  go_loopg [4] (b.size : Nat) (fun (q : Nat) v4 w' => ∃ (r : ByteArray) (n : Nat), 64 * n ≤ b.size ∧ q = b.size - 64 * n ∧ v4 = .string r ∧ Aside0 (r = b.extract (64 * n) b.size) ∧ Aside0 (Blk w' g 77 (eat firstL b n)) ∧ Aside0 (Below w.heap.size w w'))
  case atStart => exact ⟨b, 0, by omega, by omega, rfl, hx0, H0, HB⟩
  case round =>
    clear H0 HB hx0
    obtain ⟨r, n, hn, hk, rfl, HR, H0, HB⟩ := hrel
    have HRS : Aside0 (r.size = b.size - 64 * n) := ⟨by rw [HR.out]; simp⟩
    obtain ⟨s0, s1, s2, s3, s4, s5, s6, s7, eS⟩ := eight (eat firstL b n) (eat_length _ _ _)
    have ES := AM eS
    clear eS
    have L0 := H0.out
    rw [ES.out] at L0
    have L1 := AM L0
    clear L0
    have d0 : wr.cell? ⟨g, 0, none⟩ = some (.int .u32 s0) := L1.out.cell 0 (by simp)
    have d1 : wr.cell? ⟨g, 1, none⟩ = some (.int .u32 s1) := L1.out.cell 1 (by simp)
    have d2 : wr.cell? ⟨g, 2, none⟩ = some (.int .u32 s2) := L1.out.cell 2 (by simp)
    have d3 : wr.cell? ⟨g, 3, none⟩ = some (.int .u32 s3) := L1.out.cell 3 (by simp)
    have d4 : wr.cell? ⟨g, 4, none⟩ = some (.int .u32 s4) := L1.out.cell 4 (by simp)
    have d5 : wr.cell? ⟨g, 5, none⟩ = some (.int .u32 s5) := L1.out.cell 5 (by simp)
    have d6 : wr.cell? ⟨g, 6, none⟩ = some (.int .u32 s6) := L1.out.cell 6 (by simp)
    have d7 : wr.cell? ⟨g, 7, none⟩ = some (.int .u32 s7) := L1.out.cell 7 (by simp)
    have HN := AM (And.intro hn hk)
    by_cases c1 : 64 ≤ r.size
    · have x1 : decide ((64 : Int) ≤ (r.size : Int)) = true := decide_eq_true (by omega)
      have x2 : decide (64 ≤ r.size) = true := decide_eq_true c1
      have p1 : ((64 : Int) ≤ (r.size : Int)) = True := eq_true (by omega)
      have p2 : (64 ≤ r.size) = True := eq_true c1
      have C1 := AM c1
      clear c1 hn hk
      go_wp2
      refine wp_region_still_tail 3 (by kernel_rfl) (by kernel_rfl) ?_
      simp only [List.take_succ_cons, List.take_zero, List.drop_succ_cons, List.drop_zero]
      repeat still_step
      try refine wpStill_nil ?_
      change wpList _ _ _ _ _ wr.drew
      generalize hq : wr.drew = w3
      have L2 : Aside0 (Blk w3 g 77 [s0, s1, s2, s3, s4, s5, s6, s7]) := ⟨by rw [← hq]; exact L1.out.drew⟩
      have KB : Aside0 (Below w.heap.size w w3) := ⟨by rw [← hq]; exact below_drew1 HB.out⟩
      clear hq d0 d1 d2 d3 d4 d5 d6 d7 L1 HB H0
      have HE : Aside0 (r.extract 0 64 = b.extract (64 * n) (64 * n + 64)) := ⟨by rw [HR.out]; exact ext0 b _ (by have := HRS.out; have := C1.out; omega)⟩
      have HEs : Aside0 ((r.extract 0 64).size = 64) := ⟨by have := C1.out; simp; omega⟩
      obtain ⟨t0, t1, t2, t3, t4, t5, t6, t7, eT⟩ := eight (takenL [s0, s1, s2, s3, s4, s5, s6, s7] (r.extract 0 64)) (takenL_length _ _)
      have ET := AM eT
      clear eT
      go_wp2_with (go_at_call 61; refine (taken_x s0 s1 s2 s3 s4 s5 s6 s7 t0 t1 t2 t3 t4 t5 t6 t7 _ HEs.out _ (HL.out.below KB.out) ET.out).mono ?_; rintro e w4 ⟨rfl, hb⟩; have L3 := AM (L2.out.below hb); have KB2 := AM (KB.out.trans (hb.mono KB.out.size)); clear hb L2 KB; have f0 : ∀ j, w4.frozen? ⟨g, j, none⟩ = false := L3.out.frozen; have d0 : w4.cell? ⟨g, 0, none⟩ = some (.int .u32 s0) := L3.out.cell 0 (by simp); have d1 : w4.cell? ⟨g, 1, none⟩ = some (.int .u32 s1) := L3.out.cell 1 (by simp); have d2 : w4.cell? ⟨g, 2, none⟩ = some (.int .u32 s2) := L3.out.cell 2 (by simp); have d3 : w4.cell? ⟨g, 3, none⟩ = some (.int .u32 s3) := L3.out.cell 3 (by simp); have d4 : w4.cell? ⟨g, 4, none⟩ = some (.int .u32 s4) := L3.out.cell 4 (by simp); have d5 : w4.cell? ⟨g, 5, none⟩ = some (.int .u32 s5) := L3.out.cell 5 (by simp); have d6 : w4.cell? ⟨g, 6, none⟩ = some (.int .u32 s6) := L3.out.cell 6 (by simp); have d7 : w4.cell? ⟨g, 7, none⟩ = some (.int .u32 s7) := L3.out.cell 7 (by simp))
      go_roundg (b.size - 64 * (n + 1))
      case measure => have := HN.out; have := HRS.out; have := C1.out; omega
      case rel =>
        refine ⟨_, n + 1, (by have := HN.out; have := HRS.out; have := C1.out; omega), rfl, rfl, ?_, ?_, ?_⟩
        · constructor
          rw [HR.out]
          exact ext64 b _ (by have := HRS.out; have := C1.out; omega)
        · constructor
          rw [eat, ES.out, ← HE.out, ET.out]
          exact (((((((L3.out.put 0 _).put 1 _).put 2 _).put 3 _).put 4 _).put 5 _).put 6 _).put 7 _
        · constructor
          repeat (refine below_set ?_ HG.out)
          exact KB2.out
    · have x1 : decide ((64 : Int) ≤ (r.size : Int)) = false := decide_eq_false (by omega)
      have x2 : decide (64 ≤ r.size) = false := decide_eq_false c1
      obtain rfl : n = b.size / 64 := by have := HRS.out; omega
      clear c1 hn hk
      go_wp2
      refine wp_region_still_tail 4 (by kernel_rfl) (by kernel_rfl) ?_
      simp only [List.take_succ_cons, List.take_zero, List.drop_succ_cons, List.drop_zero]
      repeat (first | still_step | still_call (long_s _ _))
      try refine wpStill_nil ?_
      change wpList _ _ _ _ _ wr.drew
      generalize hq : wr.drew = w3
      have KB : Aside0 (Below w.heap.size w w3) := ⟨by rw [← hq]; exact below_drew1 HB.out⟩
      clear hq d0 d1 d2 d3 d4 d5 d6 d7 L1 HB H0
      go_wp2_with (go_at_call 66; refine (HS.out s0 s1 s2 s3 s4 s5 s6 s7 r _ (HL.out.below KB.out) ES.out HR.out).mono ?_; rintro e w4 ⟨rfl, hb⟩; have KB2 := AM (KB.out.trans (hb.mono KB.out.size)); clear hb)
      go_ret
      exact ⟨rfl, KB2.out⟩

end Go.Proofs.YtfffdndeccipnaaDoor.Hand
