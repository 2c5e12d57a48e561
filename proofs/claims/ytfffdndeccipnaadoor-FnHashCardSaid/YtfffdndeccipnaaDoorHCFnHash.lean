/- The digest's functions of the program, walked by hand. No statement is proved here. -/
import Derived.Test.YtfffdndeccipnaaDoorHBFnHash
import Derived.Test.YtfffdndeccipnaaDoorHSFnHash
namespace Go.Proofs.YtfffdndeccipnaaDoor.Hand
open Go.RowKit Go.Proofs.YtfffdndeccipnaaDoorW.PrintWords Go.Proofs.YtfffdndeccipnaaDoorW.PrintLast Go.Proofs.YtfffdndeccipnaaDoorW.PrintMore Go.Proofs.YtfffdndeccipnaaDoor.Reg Go.Proofs.YtfffdndeccipnaaDoor.Aut
set_option linter.unusedVariables false
set_option linter.unusedSimpArgs false
theorem byte_s (n : Int) (w : World) : Calls Tryd.prog 104 #[.int .u8 n] w fun e w' => e = .returned (.string (strOfNums [n])) ∧ Below w.heap.size w w' := impl_oneByte.calls n _ w rfl
/-- eight bytes of a length in bits. -/
def lenB (n : Int) : Nat → ByteArray
  | 0 => ⟨#[]⟩
  | j + 1 => lenB n j ++ strOfNums [(wrap64 (n * 8) / 2 ^ (8 * (7 - j))) % 256]
def zeros (m : Nat) : ByteArray := ⟨(Lib.repeatL [0] m).toArray⟩
def pad1 (rest : ByteArray) : ByteArray := rest ++ ⟨#[128]⟩
def pad2 (rest : ByteArray) : ByteArray := pad1 rest ++ zeros ((120 - (rest.size + 1)) % 64)
def pad (rest : ByteArray) (n : Int) : ByteArray := pad2 rest ++ lenB n 8
/-- the digest's bytes. -/
def outL (A : List Int) : Nat → List Int
  | 0 => []
  | i + 1 => outL A i ++ [(A.getD i 0 / 16777216) % 256, (A.getD i 0 / 65536) % 256, (A.getD i 0 / 256) % 256, A.getD i 0 % 256]
theorem outL_length (A : List Int) : ∀ i, (outL A i).length = 4 * i
  | 0 => rfl
  | i + 1 => by rw [outL, List.length_append, outL_length A i]; simp; omega
def summedL (s : List Int) (rest : ByteArray) (n : Int) : ByteArray := strOfNums (outL (eat s (pad rest n) ((pad rest n).size / 64)) 8)
theorem zeros_size (m : Nat) : (zeros m).size = m := by
  show (Lib.repeatL [0] m).toArray.size = m
  rw [List.size_toArray, Lib.repeatL_length]
  simp
theorem repeat_z (c : Nat) (hc : c < 64) (Z : ByteArray) (hZ : Z = zeros c) (w : World) : Calls Tryd.prog 103 #[.string ⟨#[0]⟩, .int .i64 c] w fun e w' => e = .returned (.string Z) ∧ Below w.heap.size w w' := by
  subst hZ
  exact Tryd.strings_Repeat ⟨#[0]⟩ c w (by omega) (by show 1 * c ≤ _; omega)
set_option maxHeartbeats 4000000 in
set_option maxRecDepth 100000 in
theorem summed_calls (s0 s1 s2 s3 s4 s5 s6 s7 : Int) (rest : ByteArray) (n : Int) (hr : rest.size < 64) (hn : 0 ≤ n ∧ n ≤ 1099511627776) (w : World) (hL : LaidG w) :
    Calls Tryd.prog 66 #[.agg #[.int .u32 s0, .int .u32 s1, .int .u32 s2, .int .u32 s3, .int .u32 s4, .int .u32 s5, .int .u32 s6, .int .u32 s7], .string rest, .int .i64 n] w fun e w' => e = .returned (.string (summedL [s0, s1, s2, s3, s4, s5, s6, s7] rest n)) ∧ Below w.heap.size w w' := by
  have HL := AM hL
  have HR := AM hr
  have HN := AM hn
  have z1 : (9223372036854775807 < rest.size + 1) = False := eq_false (by omega)
  obtain ⟨c, ec⟩ : ∃ c : Nat, (120 - (rest.size + 1)) % 64 = c := ⟨_, rfl⟩
  have hc : Int.tmod (wrap64 (120 - ((rest.size : Int) + 1))) 64 = (c : Int) := by rw [show wrap64 (120 - ((rest.size : Int) + 1)) = 120 - ((rest.size : Int) + 1) by unfold wrap64; omega, Int.tmod_eq_emod_of_nonneg (by omega)]; omega
  have HC := AM ec
  have c64 := AM (show c < 64 by omega)
  obtain ⟨Z, eZ⟩ : ∃ Z : ByteArray, Z = zeros c := ⟨_, rfl⟩
  have HZ := AM eZ
  have HZs : Aside0 (Z.size = c) := ⟨by rw [eZ]; exact zeros_size c⟩
  have z2 : (9223372036854775807 < rest.size + 1 + Z.size) = False := eq_false (by have := HZs.out; have := c64.out; omega)
  clear hL hr hn ec eZ
  have HB0 := AM (below_alloc (Below.refl w.heap.size w) (.cells #[.int .u32 s0, .int .u32 s1, .int .u32 s2, .int .u32 s3, .int .u32 s4, .int .u32 s5, .int .u32 s6, .int .u32 s7] 77))
  have H00 : Aside0 (Blk (w.alloc (.cells #[.int .u32 s0, .int .u32 s1, .int .u32 s2, .int .u32 s3, .int .u32 s4, .int .u32 s5, .int .u32 s6, .int .u32 s7] 77)) w.heap.size 77 [s0, s1, s2, s3, s4, s5, s6, s7]) := ⟨blk_new w _⟩
  go_enter Tryd.func66, Tryd.ntmps66
  go_wp2_with (go_at_call 103; (with_reducible refine (repeat_z c c64.out Z HZ.out _).mono ?_); rintro e w1 ⟨rfl, hb⟩; have H0 := AM (H00.out.below hb); have HB := AM (HB0.out.trans (hb.mono HB0.out.size)); clear H00 HB0 hb)
  obtain ⟨P, eP⟩ : ∃ P : ByteArray, rest ++ ⟨#[128]⟩ ++ Z = P := ⟨_, rfl⟩
  rw [eP]
  have HP : Aside0 (P = pad2 rest) := ⟨by rw [← eP, HZ.out, ← HC.out]; rfl⟩
  have HPs : Aside0 (P.size = rest.size + 1 + c) := ⟨by rw [← eP, ByteArray.size_append, ByteArray.size_append, HZs.out]; rfl⟩
  obtain ⟨g, eg⟩ : ∃ g, w.heap.size = g := ⟨_, rfl⟩
  have HG : Aside0 (w.heap.size ≤ g) := ⟨by omega⟩
  rw [eg] at H0 ⊢
  clear eP eg z1 z2 hc
  go_loopg [1, 7] (8 : Nat) (fun (q : Nat) v1 v7 w' => ∃ (r : ByteArray) (x : Int) (j : Nat), j + q = 8 ∧ v1 = .string r ∧ v7 = .int .i64 x ∧ Aside0 (x = 7 - (j : Int)) ∧ Aside0 (r = P ++ lenB n j) ∧ Aside0 (r.size = P.size + j) ∧ Aside0 (Blk w' g 77 [s0, s1, s2, s3, s4, s5, s6, s7]) ∧ Aside0 (Below w.heap.size w w'))
  case atStart => exact ⟨P, 7, 0, by omega, rfl, rfl, ⟨by omega⟩, ⟨by apply ByteArray.ext; simp [lenB]⟩, ⟨by omega⟩, H0, HB⟩
  case round =>
    clear H0 HB
    obtain ⟨r, x, j, hj, rfl, rfl, HX, HRR, HRS, H0, HB⟩ := hrel
    have HJ := AM hj
    by_cases c1 : j < 8
    · have x1 : decide (0 ≤ x) = true := decide_eq_true (by have := HX.out; omega)
      have C1 := AM c1
      clear hj c1
      obtain ⟨n8, en8⟩ : ∃ m, wrap64 (n * 8) = m := ⟨_, rfl⟩
      obtain ⟨m, em⟩ : ∃ m, wrap64 (8 * x) = m := ⟨_, rfl⟩
      have hm : m = ((8 * (7 - j) : Nat) : Int) := by
        rw [← em, HX.out]
        have := C1.out
        unfold wrap64
        omega
      have pm : (0 ≤ m) = True := eq_true (by rw [hm]; omega)
      have pmd : decide (0 ≤ m) = true := decide_eq_true (by rw [hm]; omega)
      obtain ⟨sv, esv⟩ : ∃ v, n8 / 2 ^ (min m.toNat 64) = v := ⟨_, rfl⟩
      obtain ⟨v, ev⟩ : ∃ v, sv % 256 = v := ⟨_, rfl⟩
      have ev2 : IntKind.u8.wrap sv = v := by rw [IntKind.wrap_u8]; exact ev
      have HV : Aside0 (lenB n (j + 1) = lenB n j ++ strOfNums [v]) := ⟨by
        rw [lenB, ← ev, ← esv, ← en8, hm, Int.toNat_natCast, show min (8 * (7 - j)) 64 = 8 * (7 - j) by omega]⟩
      obtain ⟨B, eB⟩ : ∃ B, strOfNums [v] = B := ⟨_, rfl⟩
      have HVB := AM eB
      have HBs : Aside0 (B.size = 1) := ⟨by rw [← eB, strOfNums_size]; rfl⟩
      have z1 : (9223372036854775807 < r.size + B.size) = False := eq_false (by have := HBs.out; have := HRS.out; have := HPs.out; have := c64.out; have := HR.out; have := C1.out; omega)
      have BY := AM (byte_s v)
      rw [eB] at BY
      clear hm eB
      go_wp2_with (go_at_call 104; (with_reducible refine (BY.out _).mono ?_); rintro e w2 ⟨rfl, hb⟩; replace H0 := AM (H0.out.below hb); replace HB := AM (HB.out.trans (hb.mono HB.out.size)); clear hb)
      go_roundg (7 - j)
      case measure => have := HJ.out; have := C1.out; omega
      case rel =>
        refine ⟨_, _, j + 1, (by have := HJ.out; have := C1.out; omega), rfl, rfl, ?_, ?_, ?_, H0, HB⟩
        · constructor
          have := C1.out
          rw [HX.out]
          unfold wrap64
          omega
        · constructor
          rw [HV.out, HVB.out, HRR.out]
          apply ByteArray.ext
          simp
        · constructor
          rw [ByteArray.size_append, HRS.out, HBs.out]
          omega
    · have x1 : decide (0 ≤ x) = false := decide_eq_false (by have := HX.out; omega)
      obtain rfl : j = 8 := by omega
      have HQ : Aside0 (r = pad rest n) := ⟨by rw [HRR.out, HP.out]; rfl⟩
      have HQs : Aside0 (r.size % 64 = 0) := ⟨by have := HRS.out; have := HPs.out; have := HC.out; have := HR.out; omega⟩
      clear c1 hj
      go_wp2
      generalize eS0 : [s0, s1, s2, s3, s4, s5, s6, s7] = S at H0
      have S8 : Aside0 (S.length = 8) := ⟨by rw [← eS0]; rfl⟩
      have HSS := AM eS0
      clear eS0
      obtain ⟨Q, eQ⟩ : ∃ Q : ByteArray, Q = r := ⟨_, rfl⟩
      have HQ' : Aside0 (Q = pad rest n) := ⟨by rw [eQ]; exact HQ.out⟩
      have HQs' : Aside0 (Q.size % 64 = 0) := ⟨by rw [eQ]; exact HQs.out⟩
      have hr0 : Aside0 (r = Q.extract (64 * 0) Q.size) := ⟨by rw [eQ]; apply ByteArray.ext; simp⟩
      clear HQ HQs HRR HRS eQ
      go_loopg [1] (Q.size : Nat) (fun (q : Nat) v1 w' => ∃ (r : ByteArray) (k : Nat), 64 * k ≤ Q.size ∧ q = Q.size - 64 * k ∧ v1 = .string r ∧ Aside0 (r = Q.extract (64 * k) Q.size) ∧ Aside0 (Blk w' g 77 (eat S Q k)) ∧ Aside0 (Below w.heap.size w w'))
      case atStart => exact ⟨r, 0, by omega, by omega, rfl, hr0, H0, HB⟩
      case round =>
        clear H0 HB hr0
        obtain ⟨r, k, hk, hq, rfl, HRR, H0, HB⟩ := hrel
        have HRS : Aside0 (r.size = Q.size - 64 * k) := ⟨by rw [HRR.out]; simp⟩
        have HK := AM (And.intro hk hq)
        obtain ⟨a0, a1, a2, a3, a4, a5, a6, a7, eA⟩ := eight (eat S Q k) (by rw [eat_length]; exact S8.out)
        have EA := AM eA
        clear eA
        have L0 := H0.out
        rw [EA.out] at L0
        have L1 := AM L0
        clear L0
        have d0 : wr.cell? ⟨g, 0, none⟩ = some (.int .u32 a0) := L1.out.cell 0 (by simp)
        have d1 : wr.cell? ⟨g, 1, none⟩ = some (.int .u32 a1) := L1.out.cell 1 (by simp)
        have d2 : wr.cell? ⟨g, 2, none⟩ = some (.int .u32 a2) := L1.out.cell 2 (by simp)
        have d3 : wr.cell? ⟨g, 3, none⟩ = some (.int .u32 a3) := L1.out.cell 3 (by simp)
        have d4 : wr.cell? ⟨g, 4, none⟩ = some (.int .u32 a4) := L1.out.cell 4 (by simp)
        have d5 : wr.cell? ⟨g, 5, none⟩ = some (.int .u32 a5) := L1.out.cell 5 (by simp)
        have d6 : wr.cell? ⟨g, 6, none⟩ = some (.int .u32 a6) := L1.out.cell 6 (by simp)
        have d7 : wr.cell? ⟨g, 7, none⟩ = some (.int .u32 a7) := L1.out.cell 7 (by simp)
        by_cases c1 : r.size = 0
        · have e0 : r.toList = [] := by
            have : r.toList.length = 0 := by rw [ByteArray.toList_eq]; simpa using c1
            exact List.eq_nil_of_length_eq_zero this
          have e1 : (r.toList != []) = false := by simpa using e0
          have e2 : (r.toList == []) = true := by simpa using e0
          have e3 : r.toList.isEmpty = true := by simpa using e0
          obtain rfl : k = Q.size / 64 := by have := HRS.out; have := HQs'.out; omega
          clear c1 hk hq e0 HRR HK
          go_wp2
          have HO0 : Aside0 (Kd.R (Kd.int .u8) 5 wr w.heap.size (fun _ => True) (.slice none 0 0) ([] : List Int)) := ⟨Kd.R_nil _ _ _ _ _⟩
          clear d0 d1 d2 d3 d4 d5 d6 d7 L1 H0
          go_loopg [8, 42] (8 : Nat) (fun (q : Nat) v8 v42 w' => ∃ (vv : Value) (xs : List Int) (x1 : Int) (i : Nat), i + q = 8 ∧ v8 = vv ∧ v42 = .int .i64 x1 ∧ Aside0 (x1 = (i : Int)) ∧ Aside0 (xs = outL (eat S Q (Q.size / 64)) i) ∧ Aside0 (Kd.R (Kd.int .u8) 5 w' w.heap.size (fun _ => True) vv xs) ∧ Aside0 (Below w.heap.size w w'))
          case atStart => exact ⟨_, [], 0, 0, by omega, rfl, rfl, ⟨rfl⟩, ⟨rfl⟩, HO0, HB⟩
          case round =>
            clear HO0 HB
            obtain ⟨_, xs, x1, i, hi, rfl, rfl, HX1, HXS, HO, HB⟩ := hrel
            have HI1 := AM hi
            have HXl : Aside0 (xs.length = 4 * i) := ⟨by rw [HXS.out, outL_length]⟩
            by_cases c1 : i < 8
            · have y1 : decide (x1 < 8) = true := decide_eq_true (by have := HX1.out; omega)
              have hcase : i = 0 ∨ i = 1 ∨ i = 2 ∨ i = 3 ∨ i = 4 ∨ i = 5 ∨ i = 6 ∨ i = 7 := by omega
              clear c1 hi
              rcases hcase with rfl | rfl | rfl | rfl | rfl | rfl | rfl | rfl
              · obtain rfl : x1 = 0 := by simpa using HX1.out
                have hix : ∀ w : World, Sem.run Tryd.prog (Instr.index 77 (.agg #[.int .u32 a0, .int .u32 a1, .int .u32 a2, .int .u32 a3, .int .u32 a4, .int .u32 a5, .int .u32 a6, .int .u32 a7]) (.int .i64 0)) w = .ok (.int .u32 a0) w := by
                  intro w
                  have hu := Tryd.underlying77
                  unfold Instr.index
                  go_simp
                  try rfl
                obtain ⟨Y, eY⟩ : ∃ Y : List Int, Y = [((a0 / 16777216) % 256), ((a0 / 65536) % 256), ((a0 / 256) % 256), (a0 % 256)] := ⟨_, rfl⟩
                have HY := AM eY
                have HYl : Aside0 (Y.length = 4) := ⟨by rw [eY]; rfl⟩
                clear eY
                go_wp2_with (first | ((with_reducible refine gate_dst (N := 57) rfl ?_); refine Kd.R_lit (Kd.int .u8) _ 5 ?hg (N := 57) ?hd (xs := [((a0 / 16777216) % 256), ((a0 / 65536) % 256), ((a0 / 256) % 256), (a0 % 256)]) (inner := [.int .u8 ((a0 / 16777216) % 256), .int .u8 ((a0 / 65536) % 256), .int .u8 ((a0 / 256) % 256), .int .u8 (a0 % 256)]) (ok := fun _ => True) (okp := fun _ => True) ?hr ?hp (fun _ hk => hk) trivial (Below.refl _ _) (Nat.le_refl _) (by simp) ?_; (case hd => rfl); (case hg => rfl); (case hr => first | (go_simp; done) | (go_simp; rfl)); (case hp => exact (Reps.one (show Kd.M (Kd.int .u8) _ _ _ ((a0 / 16777216) % 256) [.int .u8 ((a0 / 16777216) % 256)] from rfl) (Reps.one (show Kd.M (Kd.int .u8) _ _ _ ((a0 / 65536) % 256) [.int .u8 ((a0 / 65536) % 256)] from rfl) (Reps.one (show Kd.M (Kd.int .u8) _ _ _ ((a0 / 256) % 256) [.int .u8 ((a0 / 256) % 256)] from rfl) (Reps.one (show Kd.M (Kd.int .u8) _ _ _ (a0 % 256) [.int .u8 (a0 % 256)] from rfl) (Reps.none _ _)))))); intro u w5 ho hb hg_ hnew_; clear hg_ hnew_; rw [← HY.out] at ho; have HO1 := AM (Kd.R_lower (Kd.R_new' ho (Kd.R_lt (ro_ HO.out))) (below_size HB.out)); replace HO := AM (Kd.R_elder' (ro_ HO.out) (Kd.R_base ho) hb); replace HB := AM (below_step HB.out hb); obtain ⟨Ao, co, eo⟩ := Kd.R_slice HO1.out; subst eo; clear hb ho) | ((with_reducible refine gate_builtin (b := .append) (xs := #[.tmp 45, .tmp 57]) rfl ?_); at_builtin; refine Kd.R_append_rows (Kd.int .u8) (w0 := w) w.heap.size rfl (.tmp 45) (.tmp 57) 29 5 (.int .u8 0) 1 rfl Tryd.underlying29 info5 rfl (by decide) (by omega) u8 xs Y _ _ _ (fun k_ => some k_ ≠ (.slice Ao Y.length co : Value).ownBlock) (fun _ => False) rfl rfl ?aO ?aR (fun _ _ h => h) (fun _ h => h.elim) ?aF ?aB ?aS ?aL ?_; (case aR => repeat (first | exact (Kd.R_reads' HO1.out).2.2 | (with_reducible refine Kd.C_alloc ?_ _) | (with_reducible refine Kd.C_drewN ?_ _) | (with_reducible refine Kd.C_drew ?_))); (case aB => exact bel_); (case aF => exact (fun k_ hk => Kd.fresh' (Kd.R_lt (ro_ HO1.out)) k_ hk)); (case aO => exact (ro_ (Kd.R_mono HO.out (fun _ hk => hk.2)))); (case aS => exact (below_size bel_)); (case aL => have := HYl.out; have := HXl.out; omega); intro v1 w6 ho hb hg hat; replace HB := AM hb; replace HO := AM (Kd.R_mono ho (fun _ _ => trivial)); clear HO1 ho hb hg hat))
                go_roundg 7
                case measure => have := HI1.out; omega
                case rel => exact ⟨_, xs ++ Y, _, 1, (by have := HI1.out; omega), rfl, rfl, ⟨by first | exact nxtw _ 0 HX1.out (by omega) | exact nxt _ 0 HX1.out (by omega) | (simp; done)⟩, ⟨by rw [HXS.out, HY.out, EA.out]; rfl⟩, HO, HB⟩
              · obtain rfl : x1 = 1 := by simpa using HX1.out
                have hix : ∀ w : World, Sem.run Tryd.prog (Instr.index 77 (.agg #[.int .u32 a0, .int .u32 a1, .int .u32 a2, .int .u32 a3, .int .u32 a4, .int .u32 a5, .int .u32 a6, .int .u32 a7]) (.int .i64 1)) w = .ok (.int .u32 a1) w := by
                  intro w
                  have hu := Tryd.underlying77
                  unfold Instr.index
                  go_simp
                  try rfl
                obtain ⟨Y, eY⟩ : ∃ Y : List Int, Y = [((a1 / 16777216) % 256), ((a1 / 65536) % 256), ((a1 / 256) % 256), (a1 % 256)] := ⟨_, rfl⟩
                have HY := AM eY
                have HYl : Aside0 (Y.length = 4) := ⟨by rw [eY]; rfl⟩
                clear eY
                go_wp2_with (first | ((with_reducible refine gate_dst (N := 57) rfl ?_); refine Kd.R_lit (Kd.int .u8) _ 5 ?hg (N := 57) ?hd (xs := [((a1 / 16777216) % 256), ((a1 / 65536) % 256), ((a1 / 256) % 256), (a1 % 256)]) (inner := [.int .u8 ((a1 / 16777216) % 256), .int .u8 ((a1 / 65536) % 256), .int .u8 ((a1 / 256) % 256), .int .u8 (a1 % 256)]) (ok := fun _ => True) (okp := fun _ => True) ?hr ?hp (fun _ hk => hk) trivial (Below.refl _ _) (Nat.le_refl _) (by simp) ?_; (case hd => rfl); (case hg => rfl); (case hr => first | (go_simp; done) | (go_simp; rfl)); (case hp => exact (Reps.one (show Kd.M (Kd.int .u8) _ _ _ ((a1 / 16777216) % 256) [.int .u8 ((a1 / 16777216) % 256)] from rfl) (Reps.one (show Kd.M (Kd.int .u8) _ _ _ ((a1 / 65536) % 256) [.int .u8 ((a1 / 65536) % 256)] from rfl) (Reps.one (show Kd.M (Kd.int .u8) _ _ _ ((a1 / 256) % 256) [.int .u8 ((a1 / 256) % 256)] from rfl) (Reps.one (show Kd.M (Kd.int .u8) _ _ _ (a1 % 256) [.int .u8 (a1 % 256)] from rfl) (Reps.none _ _)))))); intro u w5 ho hb hg_ hnew_; clear hg_ hnew_; rw [← HY.out] at ho; have HO1 := AM (Kd.R_lower (Kd.R_new' ho (Kd.R_lt (ro_ HO.out))) (below_size HB.out)); replace HO := AM (Kd.R_elder' (ro_ HO.out) (Kd.R_base ho) hb); replace HB := AM (below_step HB.out hb); obtain ⟨Ao, co, eo⟩ := Kd.R_slice HO1.out; subst eo; clear hb ho) | ((with_reducible refine gate_builtin (b := .append) (xs := #[.tmp 45, .tmp 57]) rfl ?_); at_builtin; refine Kd.R_append_rows (Kd.int .u8) (w0 := w) w.heap.size rfl (.tmp 45) (.tmp 57) 29 5 (.int .u8 0) 1 rfl Tryd.underlying29 info5 rfl (by decide) (by omega) u8 xs Y _ _ _ (fun k_ => some k_ ≠ (.slice Ao Y.length co : Value).ownBlock) (fun _ => False) rfl rfl ?aO ?aR (fun _ _ h => h) (fun _ h => h.elim) ?aF ?aB ?aS ?aL ?_; (case aR => repeat (first | exact (Kd.R_reads' HO1.out).2.2 | (with_reducible refine Kd.C_alloc ?_ _) | (with_reducible refine Kd.C_drewN ?_ _) | (with_reducible refine Kd.C_drew ?_))); (case aB => exact bel_); (case aF => exact (fun k_ hk => Kd.fresh' (Kd.R_lt (ro_ HO1.out)) k_ hk)); (case aO => exact (ro_ (Kd.R_mono HO.out (fun _ hk => hk.2)))); (case aS => exact (below_size bel_)); (case aL => have := HYl.out; have := HXl.out; omega); intro v1 w6 ho hb hg hat; replace HB := AM hb; replace HO := AM (Kd.R_mono ho (fun _ _ => trivial)); clear HO1 ho hb hg hat))
                go_roundg 6
                case measure => have := HI1.out; omega
                case rel => exact ⟨_, xs ++ Y, _, 2, (by have := HI1.out; omega), rfl, rfl, ⟨by first | exact nxtw _ 1 HX1.out (by omega) | exact nxt _ 1 HX1.out (by omega) | (simp; done)⟩, ⟨by rw [HXS.out, HY.out, EA.out]; rfl⟩, HO, HB⟩
              · obtain rfl : x1 = 2 := by simpa using HX1.out
                have hix : ∀ w : World, Sem.run Tryd.prog (Instr.index 77 (.agg #[.int .u32 a0, .int .u32 a1, .int .u32 a2, .int .u32 a3, .int .u32 a4, .int .u32 a5, .int .u32 a6, .int .u32 a7]) (.int .i64 2)) w = .ok (.int .u32 a2) w := by
                  intro w
                  have hu := Tryd.underlying77
                  unfold Instr.index
                  go_simp
                  try rfl
                obtain ⟨Y, eY⟩ : ∃ Y : List Int, Y = [((a2 / 16777216) % 256), ((a2 / 65536) % 256), ((a2 / 256) % 256), (a2 % 256)] := ⟨_, rfl⟩
                have HY := AM eY
                have HYl : Aside0 (Y.length = 4) := ⟨by rw [eY]; rfl⟩
                clear eY
                go_wp2_with (first | ((with_reducible refine gate_dst (N := 57) rfl ?_); refine Kd.R_lit (Kd.int .u8) _ 5 ?hg (N := 57) ?hd (xs := [((a2 / 16777216) % 256), ((a2 / 65536) % 256), ((a2 / 256) % 256), (a2 % 256)]) (inner := [.int .u8 ((a2 / 16777216) % 256), .int .u8 ((a2 / 65536) % 256), .int .u8 ((a2 / 256) % 256), .int .u8 (a2 % 256)]) (ok := fun _ => True) (okp := fun _ => True) ?hr ?hp (fun _ hk => hk) trivial (Below.refl _ _) (Nat.le_refl _) (by simp) ?_; (case hd => rfl); (case hg => rfl); (case hr => first | (go_simp; done) | (go_simp; rfl)); (case hp => exact (Reps.one (show Kd.M (Kd.int .u8) _ _ _ ((a2 / 16777216) % 256) [.int .u8 ((a2 / 16777216) % 256)] from rfl) (Reps.one (show Kd.M (Kd.int .u8) _ _ _ ((a2 / 65536) % 256) [.int .u8 ((a2 / 65536) % 256)] from rfl) (Reps.one (show Kd.M (Kd.int .u8) _ _ _ ((a2 / 256) % 256) [.int .u8 ((a2 / 256) % 256)] from rfl) (Reps.one (show Kd.M (Kd.int .u8) _ _ _ (a2 % 256) [.int .u8 (a2 % 256)] from rfl) (Reps.none _ _)))))); intro u w5 ho hb hg_ hnew_; clear hg_ hnew_; rw [← HY.out] at ho; have HO1 := AM (Kd.R_lower (Kd.R_new' ho (Kd.R_lt (ro_ HO.out))) (below_size HB.out)); replace HO := AM (Kd.R_elder' (ro_ HO.out) (Kd.R_base ho) hb); replace HB := AM (below_step HB.out hb); obtain ⟨Ao, co, eo⟩ := Kd.R_slice HO1.out; subst eo; clear hb ho) | ((with_reducible refine gate_builtin (b := .append) (xs := #[.tmp 45, .tmp 57]) rfl ?_); at_builtin; refine Kd.R_append_rows (Kd.int .u8) (w0 := w) w.heap.size rfl (.tmp 45) (.tmp 57) 29 5 (.int .u8 0) 1 rfl Tryd.underlying29 info5 rfl (by decide) (by omega) u8 xs Y _ _ _ (fun k_ => some k_ ≠ (.slice Ao Y.length co : Value).ownBlock) (fun _ => False) rfl rfl ?aO ?aR (fun _ _ h => h) (fun _ h => h.elim) ?aF ?aB ?aS ?aL ?_; (case aR => repeat (first | exact (Kd.R_reads' HO1.out).2.2 | (with_reducible refine Kd.C_alloc ?_ _) | (with_reducible refine Kd.C_drewN ?_ _) | (with_reducible refine Kd.C_drew ?_))); (case aB => exact bel_); (case aF => exact (fun k_ hk => Kd.fresh' (Kd.R_lt (ro_ HO1.out)) k_ hk)); (case aO => exact (ro_ (Kd.R_mono HO.out (fun _ hk => hk.2)))); (case aS => exact (below_size bel_)); (case aL => have := HYl.out; have := HXl.out; omega); intro v1 w6 ho hb hg hat; replace HB := AM hb; replace HO := AM (Kd.R_mono ho (fun _ _ => trivial)); clear HO1 ho hb hg hat))
                go_roundg 5
                case measure => have := HI1.out; omega
                case rel => exact ⟨_, xs ++ Y, _, 3, (by have := HI1.out; omega), rfl, rfl, ⟨by first | exact nxtw _ 2 HX1.out (by omega) | exact nxt _ 2 HX1.out (by omega) | (simp; done)⟩, ⟨by rw [HXS.out, HY.out, EA.out]; rfl⟩, HO, HB⟩
              · obtain rfl : x1 = 3 := by simpa using HX1.out
                have hix : ∀ w : World, Sem.run Tryd.prog (Instr.index 77 (.agg #[.int .u32 a0, .int .u32 a1, .int .u32 a2, .int .u32 a3, .int .u32 a4, .int .u32 a5, .int .u32 a6, .int .u32 a7]) (.int .i64 3)) w = .ok (.int .u32 a3) w := by
                  intro w
                  have hu := Tryd.underlying77
                  unfold Instr.index
                  go_simp
                  try rfl
                obtain ⟨Y, eY⟩ : ∃ Y : List Int, Y = [((a3 / 16777216) % 256), ((a3 / 65536) % 256), ((a3 / 256) % 256), (a3 % 256)] := ⟨_, rfl⟩
                have HY := AM eY
                have HYl : Aside0 (Y.length = 4) := ⟨by rw [eY]; rfl⟩
                clear eY
                go_wp2_with (first | ((with_reducible refine gate_dst (N := 57) rfl ?_); refine Kd.R_lit (Kd.int .u8) _ 5 ?hg (N := 57) ?hd (xs := [((a3 / 16777216) % 256), ((a3 / 65536) % 256), ((a3 / 256) % 256), (a3 % 256)]) (inner := [.int .u8 ((a3 / 16777216) % 256), .int .u8 ((a3 / 65536) % 256), .int .u8 ((a3 / 256) % 256), .int .u8 (a3 % 256)]) (ok := fun _ => True) (okp := fun _ => True) ?hr ?hp (fun _ hk => hk) trivial (Below.refl _ _) (Nat.le_refl _) (by simp) ?_; (case hd => rfl); (case hg => rfl); (case hr => first | (go_simp; done) | (go_simp; rfl)); (case hp => exact (Reps.one (show Kd.M (Kd.int .u8) _ _ _ ((a3 / 16777216) % 256) [.int .u8 ((a3 / 16777216) % 256)] from rfl) (Reps.one (show Kd.M (Kd.int .u8) _ _ _ ((a3 / 65536) % 256) [.int .u8 ((a3 / 65536) % 256)] from rfl) (Reps.one (show Kd.M (Kd.int .u8) _ _ _ ((a3 / 256) % 256) [.int .u8 ((a3 / 256) % 256)] from rfl) (Reps.one (show Kd.M (Kd.int .u8) _ _ _ (a3 % 256) [.int .u8 (a3 % 256)] from rfl) (Reps.none _ _)))))); intro u w5 ho hb hg_ hnew_; clear hg_ hnew_; rw [← HY.out] at ho; have HO1 := AM (Kd.R_lower (Kd.R_new' ho (Kd.R_lt (ro_ HO.out))) (below_size HB.out)); replace HO := AM (Kd.R_elder' (ro_ HO.out) (Kd.R_base ho) hb); replace HB := AM (below_step HB.out hb); obtain ⟨Ao, co, eo⟩ := Kd.R_slice HO1.out; subst eo; clear hb ho) | ((with_reducible refine gate_builtin (b := .append) (xs := #[.tmp 45, .tmp 57]) rfl ?_); at_builtin; refine Kd.R_append_rows (Kd.int .u8) (w0 := w) w.heap.size rfl (.tmp 45) (.tmp 57) 29 5 (.int .u8 0) 1 rfl Tryd.underlying29 info5 rfl (by decide) (by omega) u8 xs Y _ _ _ (fun k_ => some k_ ≠ (.slice Ao Y.length co : Value).ownBlock) (fun _ => False) rfl rfl ?aO ?aR (fun _ _ h => h) (fun _ h => h.elim) ?aF ?aB ?aS ?aL ?_; (case aR => repeat (first | exact (Kd.R_reads' HO1.out).2.2 | (with_reducible refine Kd.C_alloc ?_ _) | (with_reducible refine Kd.C_drewN ?_ _) | (with_reducible refine Kd.C_drew ?_))); (case aB => exact bel_); (case aF => exact (fun k_ hk => Kd.fresh' (Kd.R_lt (ro_ HO1.out)) k_ hk)); (case aO => exact (ro_ (Kd.R_mono HO.out (fun _ hk => hk.2)))); (case aS => exact (below_size bel_)); (case aL => have := HYl.out; have := HXl.out; omega); intro v1 w6 ho hb hg hat; replace HB := AM hb; replace HO := AM (Kd.R_mono ho (fun _ _ => trivial)); clear HO1 ho hb hg hat))
                go_roundg 4
                case measure => have := HI1.out; omega
                case rel => exact ⟨_, xs ++ Y, _, 4, (by have := HI1.out; omega), rfl, rfl, ⟨by first | exact nxtw _ 3 HX1.out (by omega) | exact nxt _ 3 HX1.out (by omega) | (simp; done)⟩, ⟨by rw [HXS.out, HY.out, EA.out]; rfl⟩, HO, HB⟩
              · obtain rfl : x1 = 4 := by simpa using HX1.out
                have hix : ∀ w : World, Sem.run Tryd.prog (Instr.index 77 (.agg #[.int .u32 a0, .int .u32 a1, .int .u32 a2, .int .u32 a3, .int .u32 a4, .int .u32 a5, .int .u32 a6, .int .u32 a7]) (.int .i64 4)) w = .ok (.int .u32 a4) w := by
                  intro w
                  have hu := Tryd.underlying77
                  unfold Instr.index
                  go_simp
                  try rfl
                obtain ⟨Y, eY⟩ : ∃ Y : List Int, Y = [((a4 / 16777216) % 256), ((a4 / 65536) % 256), ((a4 / 256) % 256), (a4 % 256)] := ⟨_, rfl⟩
                have HY := AM eY
                have HYl : Aside0 (Y.length = 4) := ⟨by rw [eY]; rfl⟩
                clear eY
                go_wp2_with (first | ((with_reducible refine gate_dst (N := 57) rfl ?_); refine Kd.R_lit (Kd.int .u8) _ 5 ?hg (N := 57) ?hd (xs := [((a4 / 16777216) % 256), ((a4 / 65536) % 256), ((a4 / 256) % 256), (a4 % 256)]) (inner := [.int .u8 ((a4 / 16777216) % 256), .int .u8 ((a4 / 65536) % 256), .int .u8 ((a4 / 256) % 256), .int .u8 (a4 % 256)]) (ok := fun _ => True) (okp := fun _ => True) ?hr ?hp (fun _ hk => hk) trivial (Below.refl _ _) (Nat.le_refl _) (by simp) ?_; (case hd => rfl); (case hg => rfl); (case hr => first | (go_simp; done) | (go_simp; rfl)); (case hp => exact (Reps.one (show Kd.M (Kd.int .u8) _ _ _ ((a4 / 16777216) % 256) [.int .u8 ((a4 / 16777216) % 256)] from rfl) (Reps.one (show Kd.M (Kd.int .u8) _ _ _ ((a4 / 65536) % 256) [.int .u8 ((a4 / 65536) % 256)] from rfl) (Reps.one (show Kd.M (Kd.int .u8) _ _ _ ((a4 / 256) % 256) [.int .u8 ((a4 / 256) % 256)] from rfl) (Reps.one (show Kd.M (Kd.int .u8) _ _ _ (a4 % 256) [.int .u8 (a4 % 256)] from rfl) (Reps.none _ _)))))); intro u w5 ho hb hg_ hnew_; clear hg_ hnew_; rw [← HY.out] at ho; have HO1 := AM (Kd.R_lower (Kd.R_new' ho (Kd.R_lt (ro_ HO.out))) (below_size HB.out)); replace HO := AM (Kd.R_elder' (ro_ HO.out) (Kd.R_base ho) hb); replace HB := AM (below_step HB.out hb); obtain ⟨Ao, co, eo⟩ := Kd.R_slice HO1.out; subst eo; clear hb ho) | ((with_reducible refine gate_builtin (b := .append) (xs := #[.tmp 45, .tmp 57]) rfl ?_); at_builtin; refine Kd.R_append_rows (Kd.int .u8) (w0 := w) w.heap.size rfl (.tmp 45) (.tmp 57) 29 5 (.int .u8 0) 1 rfl Tryd.underlying29 info5 rfl (by decide) (by omega) u8 xs Y _ _ _ (fun k_ => some k_ ≠ (.slice Ao Y.length co : Value).ownBlock) (fun _ => False) rfl rfl ?aO ?aR (fun _ _ h => h) (fun _ h => h.elim) ?aF ?aB ?aS ?aL ?_; (case aR => repeat (first | exact (Kd.R_reads' HO1.out).2.2 | (with_reducible refine Kd.C_alloc ?_ _) | (with_reducible refine Kd.C_drewN ?_ _) | (with_reducible refine Kd.C_drew ?_))); (case aB => exact bel_); (case aF => exact (fun k_ hk => Kd.fresh' (Kd.R_lt (ro_ HO1.out)) k_ hk)); (case aO => exact (ro_ (Kd.R_mono HO.out (fun _ hk => hk.2)))); (case aS => exact (below_size bel_)); (case aL => have := HYl.out; have := HXl.out; omega); intro v1 w6 ho hb hg hat; replace HB := AM hb; replace HO := AM (Kd.R_mono ho (fun _ _ => trivial)); clear HO1 ho hb hg hat))
                go_roundg 3
                case measure => have := HI1.out; omega
                case rel => exact ⟨_, xs ++ Y, _, 5, (by have := HI1.out; omega), rfl, rfl, ⟨by first | exact nxtw _ 4 HX1.out (by omega) | exact nxt _ 4 HX1.out (by omega) | (simp; done)⟩, ⟨by rw [HXS.out, HY.out, EA.out]; rfl⟩, HO, HB⟩
              · obtain rfl : x1 = 5 := by simpa using HX1.out
                have hix : ∀ w : World, Sem.run Tryd.prog (Instr.index 77 (.agg #[.int .u32 a0, .int .u32 a1, .int .u32 a2, .int .u32 a3, .int .u32 a4, .int .u32 a5, .int .u32 a6, .int .u32 a7]) (.int .i64 5)) w = .ok (.int .u32 a5) w := by
                  intro w
                  have hu := Tryd.underlying77
                  unfold Instr.index
                  go_simp
                  try rfl
                obtain ⟨Y, eY⟩ : ∃ Y : List Int, Y = [((a5 / 16777216) % 256), ((a5 / 65536) % 256), ((a5 / 256) % 256), (a5 % 256)] := ⟨_, rfl⟩
                have HY := AM eY
                have HYl : Aside0 (Y.length = 4) := ⟨by rw [eY]; rfl⟩
                clear eY
                go_wp2_with (first | ((with_reducible refine gate_dst (N := 57) rfl ?_); refine Kd.R_lit (Kd.int .u8) _ 5 ?hg (N := 57) ?hd (xs := [((a5 / 16777216) % 256), ((a5 / 65536) % 256), ((a5 / 256) % 256), (a5 % 256)]) (inner := [.int .u8 ((a5 / 16777216) % 256), .int .u8 ((a5 / 65536) % 256), .int .u8 ((a5 / 256) % 256), .int .u8 (a5 % 256)]) (ok := fun _ => True) (okp := fun _ => True) ?hr ?hp (fun _ hk => hk) trivial (Below.refl _ _) (Nat.le_refl _) (by simp) ?_; (case hd => rfl); (case hg => rfl); (case hr => first | (go_simp; done) | (go_simp; rfl)); (case hp => exact (Reps.one (show Kd.M (Kd.int .u8) _ _ _ ((a5 / 16777216) % 256) [.int .u8 ((a5 / 16777216) % 256)] from rfl) (Reps.one (show Kd.M (Kd.int .u8) _ _ _ ((a5 / 65536) % 256) [.int .u8 ((a5 / 65536) % 256)] from rfl) (Reps.one (show Kd.M (Kd.int .u8) _ _ _ ((a5 / 256) % 256) [.int .u8 ((a5 / 256) % 256)] from rfl) (Reps.one (show Kd.M (Kd.int .u8) _ _ _ (a5 % 256) [.int .u8 (a5 % 256)] from rfl) (Reps.none _ _)))))); intro u w5 ho hb hg_ hnew_; clear hg_ hnew_; rw [← HY.out] at ho; have HO1 := AM (Kd.R_lower (Kd.R_new' ho (Kd.R_lt (ro_ HO.out))) (below_size HB.out)); replace HO := AM (Kd.R_elder' (ro_ HO.out) (Kd.R_base ho) hb); replace HB := AM (below_step HB.out hb); obtain ⟨Ao, co, eo⟩ := Kd.R_slice HO1.out; subst eo; clear hb ho) | ((with_reducible refine gate_builtin (b := .append) (xs := #[.tmp 45, .tmp 57]) rfl ?_); at_builtin; refine Kd.R_append_rows (Kd.int .u8) (w0 := w) w.heap.size rfl (.tmp 45) (.tmp 57) 29 5 (.int .u8 0) 1 rfl Tryd.underlying29 info5 rfl (by decide) (by omega) u8 xs Y _ _ _ (fun k_ => some k_ ≠ (.slice Ao Y.length co : Value).ownBlock) (fun _ => False) rfl rfl ?aO ?aR (fun _ _ h => h) (fun _ h => h.elim) ?aF ?aB ?aS ?aL ?_; (case aR => repeat (first | exact (Kd.R_reads' HO1.out).2.2 | (with_reducible refine Kd.C_alloc ?_ _) | (with_reducible refine Kd.C_drewN ?_ _) | (with_reducible refine Kd.C_drew ?_))); (case aB => exact bel_); (case aF => exact (fun k_ hk => Kd.fresh' (Kd.R_lt (ro_ HO1.out)) k_ hk)); (case aO => exact (ro_ (Kd.R_mono HO.out (fun _ hk => hk.2)))); (case aS => exact (below_size bel_)); (case aL => have := HYl.out; have := HXl.out; omega); intro v1 w6 ho hb hg hat; replace HB := AM hb; replace HO := AM (Kd.R_mono ho (fun _ _ => trivial)); clear HO1 ho hb hg hat))
                go_roundg 2
                case measure => have := HI1.out; omega
                case rel => exact ⟨_, xs ++ Y, _, 6, (by have := HI1.out; omega), rfl, rfl, ⟨by first | exact nxtw _ 5 HX1.out (by omega) | exact nxt _ 5 HX1.out (by omega) | (simp; done)⟩, ⟨by rw [HXS.out, HY.out, EA.out]; rfl⟩, HO, HB⟩
              · obtain rfl : x1 = 6 := by simpa using HX1.out
                have hix : ∀ w : World, Sem.run Tryd.prog (Instr.index 77 (.agg #[.int .u32 a0, .int .u32 a1, .int .u32 a2, .int .u32 a3, .int .u32 a4, .int .u32 a5, .int .u32 a6, .int .u32 a7]) (.int .i64 6)) w = .ok (.int .u32 a6) w := by
                  intro w
                  have hu := Tryd.underlying77
                  unfold Instr.index
                  go_simp
                  try rfl
                obtain ⟨Y, eY⟩ : ∃ Y : List Int, Y = [((a6 / 16777216) % 256), ((a6 / 65536) % 256), ((a6 / 256) % 256), (a6 % 256)] := ⟨_, rfl⟩
                have HY := AM eY
                have HYl : Aside0 (Y.length = 4) := ⟨by rw [eY]; rfl⟩
                clear eY
                go_wp2_with (first | ((with_reducible refine gate_dst (N := 57) rfl ?_); refine Kd.R_lit (Kd.int .u8) _ 5 ?hg (N := 57) ?hd (xs := [((a6 / 16777216) % 256), ((a6 / 65536) % 256), ((a6 / 256) % 256), (a6 % 256)]) (inner := [.int .u8 ((a6 / 16777216) % 256), .int .u8 ((a6 / 65536) % 256), .int .u8 ((a6 / 256) % 256), .int .u8 (a6 % 256)]) (ok := fun _ => True) (okp := fun _ => True) ?hr ?hp (fun _ hk => hk) trivial (Below.refl _ _) (Nat.le_refl _) (by simp) ?_; (case hd => rfl); (case hg => rfl); (case hr => first | (go_simp; done) | (go_simp; rfl)); (case hp => exact (Reps.one (show Kd.M (Kd.int .u8) _ _ _ ((a6 / 16777216) % 256) [.int .u8 ((a6 / 16777216) % 256)] from rfl) (Reps.one (show Kd.M (Kd.int .u8) _ _ _ ((a6 / 65536) % 256) [.int .u8 ((a6 / 65536) % 256)] from rfl) (Reps.one (show Kd.M (Kd.int .u8) _ _ _ ((a6 / 256) % 256) [.int .u8 ((a6 / 256) % 256)] from rfl) (Reps.one (show Kd.M (Kd.int .u8) _ _ _ (a6 % 256) [.int .u8 (a6 % 256)] from rfl) (Reps.none _ _)))))); intro u w5 ho hb hg_ hnew_; clear hg_ hnew_; rw [← HY.out] at ho; have HO1 := AM (Kd.R_lower (Kd.R_new' ho (Kd.R_lt (ro_ HO.out))) (below_size HB.out)); replace HO := AM (Kd.R_elder' (ro_ HO.out) (Kd.R_base ho) hb); replace HB := AM (below_step HB.out hb); obtain ⟨Ao, co, eo⟩ := Kd.R_slice HO1.out; subst eo; clear hb ho) | ((with_reducible refine gate_builtin (b := .append) (xs := #[.tmp 45, .tmp 57]) rfl ?_); at_builtin; refine Kd.R_append_rows (Kd.int .u8) (w0 := w) w.heap.size rfl (.tmp 45) (.tmp 57) 29 5 (.int .u8 0) 1 rfl Tryd.underlying29 info5 rfl (by decide) (by omega) u8 xs Y _ _ _ (fun k_ => some k_ ≠ (.slice Ao Y.length co : Value).ownBlock) (fun _ => False) rfl rfl ?aO ?aR (fun _ _ h => h) (fun _ h => h.elim) ?aF ?aB ?aS ?aL ?_; (case aR => repeat (first | exact (Kd.R_reads' HO1.out).2.2 | (with_reducible refine Kd.C_alloc ?_ _) | (with_reducible refine Kd.C_drewN ?_ _) | (with_reducible refine Kd.C_drew ?_))); (case aB => exact bel_); (case aF => exact (fun k_ hk => Kd.fresh' (Kd.R_lt (ro_ HO1.out)) k_ hk)); (case aO => exact (ro_ (Kd.R_mono HO.out (fun _ hk => hk.2)))); (case aS => exact (below_size bel_)); (case aL => have := HYl.out; have := HXl.out; omega); intro v1 w6 ho hb hg hat; replace HB := AM hb; replace HO := AM (Kd.R_mono ho (fun _ _ => trivial)); clear HO1 ho hb hg hat))
                go_roundg 1
                case measure => have := HI1.out; omega
                case rel => exact ⟨_, xs ++ Y, _, 7, (by have := HI1.out; omega), rfl, rfl, ⟨by first | exact nxtw _ 6 HX1.out (by omega) | exact nxt _ 6 HX1.out (by omega) | (simp; done)⟩, ⟨by rw [HXS.out, HY.out, EA.out]; rfl⟩, HO, HB⟩
              · obtain rfl : x1 = 7 := by simpa using HX1.out
                have hix : ∀ w : World, Sem.run Tryd.prog (Instr.index 77 (.agg #[.int .u32 a0, .int .u32 a1, .int .u32 a2, .int .u32 a3, .int .u32 a4, .int .u32 a5, .int .u32 a6, .int .u32 a7]) (.int .i64 7)) w = .ok (.int .u32 a7) w := by
                  intro w
                  have hu := Tryd.underlying77
                  unfold Instr.index
                  go_simp
                  try rfl
                obtain ⟨Y, eY⟩ : ∃ Y : List Int, Y = [((a7 / 16777216) % 256), ((a7 / 65536) % 256), ((a7 / 256) % 256), (a7 % 256)] := ⟨_, rfl⟩
                have HY := AM eY
                have HYl : Aside0 (Y.length = 4) := ⟨by rw [eY]; rfl⟩
                clear eY
                go_wp2_with (first | ((with_reducible refine gate_dst (N := 57) rfl ?_); refine Kd.R_lit (Kd.int .u8) _ 5 ?hg (N := 57) ?hd (xs := [((a7 / 16777216) % 256), ((a7 / 65536) % 256), ((a7 / 256) % 256), (a7 % 256)]) (inner := [.int .u8 ((a7 / 16777216) % 256), .int .u8 ((a7 / 65536) % 256), .int .u8 ((a7 / 256) % 256), .int .u8 (a7 % 256)]) (ok := fun _ => True) (okp := fun _ => True) ?hr ?hp (fun _ hk => hk) trivial (Below.refl _ _) (Nat.le_refl _) (by simp) ?_; (case hd => rfl); (case hg => rfl); (case hr => first | (go_simp; done) | (go_simp; rfl)); (case hp => exact (Reps.one (show Kd.M (Kd.int .u8) _ _ _ ((a7 / 16777216) % 256) [.int .u8 ((a7 / 16777216) % 256)] from rfl) (Reps.one (show Kd.M (Kd.int .u8) _ _ _ ((a7 / 65536) % 256) [.int .u8 ((a7 / 65536) % 256)] from rfl) (Reps.one (show Kd.M (Kd.int .u8) _ _ _ ((a7 / 256) % 256) [.int .u8 ((a7 / 256) % 256)] from rfl) (Reps.one (show Kd.M (Kd.int .u8) _ _ _ (a7 % 256) [.int .u8 (a7 % 256)] from rfl) (Reps.none _ _)))))); intro u w5 ho hb hg_ hnew_; clear hg_ hnew_; rw [← HY.out] at ho; have HO1 := AM (Kd.R_lower (Kd.R_new' ho (Kd.R_lt (ro_ HO.out))) (below_size HB.out)); replace HO := AM (Kd.R_elder' (ro_ HO.out) (Kd.R_base ho) hb); replace HB := AM (below_step HB.out hb); obtain ⟨Ao, co, eo⟩ := Kd.R_slice HO1.out; subst eo; clear hb ho) | ((with_reducible refine gate_builtin (b := .append) (xs := #[.tmp 45, .tmp 57]) rfl ?_); at_builtin; refine Kd.R_append_rows (Kd.int .u8) (w0 := w) w.heap.size rfl (.tmp 45) (.tmp 57) 29 5 (.int .u8 0) 1 rfl Tryd.underlying29 info5 rfl (by decide) (by omega) u8 xs Y _ _ _ (fun k_ => some k_ ≠ (.slice Ao Y.length co : Value).ownBlock) (fun _ => False) rfl rfl ?aO ?aR (fun _ _ h => h) (fun _ h => h.elim) ?aF ?aB ?aS ?aL ?_; (case aR => repeat (first | exact (Kd.R_reads' HO1.out).2.2 | (with_reducible refine Kd.C_alloc ?_ _) | (with_reducible refine Kd.C_drewN ?_ _) | (with_reducible refine Kd.C_drew ?_))); (case aB => exact bel_); (case aF => exact (fun k_ hk => Kd.fresh' (Kd.R_lt (ro_ HO1.out)) k_ hk)); (case aO => exact (ro_ (Kd.R_mono HO.out (fun _ hk => hk.2)))); (case aS => exact (below_size bel_)); (case aL => have := HYl.out; have := HXl.out; omega); intro v1 w6 ho hb hg hat; replace HB := AM hb; replace HO := AM (Kd.R_mono ho (fun _ _ => trivial)); clear HO1 ho hb hg hat))
                go_roundg 0
                case measure => have := HI1.out; omega
                case rel => exact ⟨_, xs ++ Y, _, 8, (by have := HI1.out; omega), rfl, rfl, ⟨by first | exact nxtw _ 7 HX1.out (by omega) | exact nxt _ 7 HX1.out (by omega) | (simp; done)⟩, ⟨by rw [HXS.out, HY.out, EA.out]; rfl⟩, HO, HB⟩
            · have y1 : decide (x1 < 8) = false := decide_eq_false (by have := HX1.out; omega)
              obtain rfl : i = 8 := by omega
              clear c1 hi
              have hcv := own_string (P := Tryd.prog) Tryd.underlying29 Tryd.underlying5 Tryd.underlying9 (Kd.own_of_R HO.out)
              go_wp2
              go_ret
              refine ⟨?_, HB.out⟩
              rw [HXS.out, HQ'.out, HSS.out]
              rfl
        · have e1 : (r.toList != []) = true := by
            rw [bne_iff_ne]
            intro h
            apply c1
            have := congrArg List.length h
            rw [ByteArray.toList_eq] at this
            simpa using this
          have e2 : (r.toList == []) = false := by simpa using e1
          have e3 : r.toList.isEmpty = false := by simpa using e1
          have C1 : Aside0 (64 ≤ r.size) := ⟨by have := HRS.out; have := HQs'.out; omega⟩
          have p2 : (64 ≤ r.size) = True := eq_true C1.out
          have p1 : ((64 : Int) ≤ (r.size : Int)) = True := eq_true (by have := C1.out; omega)
          clear c1 hk hq
          go_wp2
          refine wp_region_still_tail 3 (by kernel_rfl) (by kernel_rfl) ?_
          simp only [List.take_succ_cons, List.take_zero, List.drop_succ_cons, List.drop_zero]
          repeat still_step
          try refine wpStill_nil ?_
          change wpList _ _ _ _ _ wr.drew
          generalize hq : wr.drew = w3
          have L2 : Aside0 (Blk w3 g 77 [a0, a1, a2, a3, a4, a5, a6, a7]) := ⟨by rw [← hq]; exact L1.out.drew⟩
          have KB : Aside0 (Below w.heap.size w w3) := ⟨by rw [← hq]; exact below_drew1 HB.out⟩
          clear hq d0 d1 d2 d3 d4 d5 d6 d7 L1 HB H0
          have HE : Aside0 (r.extract 0 64 = Q.extract (64 * k) (64 * k + 64)) := ⟨by rw [HRR.out]; exact ext0 Q _ (by have := HRS.out; have := C1.out; omega)⟩
          have HEs : Aside0 ((r.extract 0 64).size = 64) := ⟨by have := C1.out; simp; omega⟩
          obtain ⟨t0, t1, t2, t3, t4, t5, t6, t7, eT⟩ := eight (takenL [a0, a1, a2, a3, a4, a5, a6, a7] (r.extract 0 64)) (takenL_length _ _)
          have ET := AM eT
          clear eT
          go_wp2_with (go_at_call 61; refine (taken_x a0 a1 a2 a3 a4 a5 a6 a7 t0 t1 t2 t3 t4 t5 t6 t7 _ HEs.out _ (HL.out.below KB.out) ET.out).mono ?_; rintro e w4 ⟨rfl, hb⟩; have L3 := AM (L2.out.below hb); have KB2 := AM (KB.out.trans (hb.mono KB.out.size)); clear hb L2 KB; have f0 : ∀ j, w4.frozen? ⟨g, j, none⟩ = false := L3.out.frozen; have d0 : w4.cell? ⟨g, 0, none⟩ = some (.int .u32 a0) := L3.out.cell 0 (by simp); have d1 : w4.cell? ⟨g, 1, none⟩ = some (.int .u32 a1) := L3.out.cell 1 (by simp); have d2 : w4.cell? ⟨g, 2, none⟩ = some (.int .u32 a2) := L3.out.cell 2 (by simp); have d3 : w4.cell? ⟨g, 3, none⟩ = some (.int .u32 a3) := L3.out.cell 3 (by simp); have d4 : w4.cell? ⟨g, 4, none⟩ = some (.int .u32 a4) := L3.out.cell 4 (by simp); have d5 : w4.cell? ⟨g, 5, none⟩ = some (.int .u32 a5) := L3.out.cell 5 (by simp); have d6 : w4.cell? ⟨g, 6, none⟩ = some (.int .u32 a6) := L3.out.cell 6 (by simp); have d7 : w4.cell? ⟨g, 7, none⟩ = some (.int .u32 a7) := L3.out.cell 7 (by simp))
          go_roundg (Q.size - 64 * (k + 1))
          case measure => have := HK.out; have := HRS.out; have := C1.out; omega
          case rel =>
            refine ⟨_, k + 1, (by have := HK.out; have := HRS.out; have := C1.out; omega), rfl, rfl, ?_, ?_, ?_⟩
            · constructor
              rw [HRR.out]
              exact ext64 Q _ (by have := HRS.out; have := C1.out; omega)
            · constructor
              rw [eat, EA.out, ← HE.out, ET.out]
              exact (((((((L3.out.put 0 _).put 1 _).put 2 _).put 3 _).put 4 _).put 5 _).put 6 _).put 7 _
            · constructor
              repeat (refine below_set ?_ HG.out)
              exact KB2.out

end Go.Proofs.YtfffdndeccipnaaDoor.Hand
