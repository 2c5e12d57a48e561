/- Functions of the law FnWhole: the print's, with walks of this session's own. No statement is proved here. -/
import Derived.BigRegion
import Derived.ChangeAlike
import Derived.RegionTactic
import Derived.WalkLawsBesides
import Derived.Test.YtdbnajnelbebfaaVRegFnWhole
-- A program of this session wrote this text: a changed copy of the kit print, with given functions.
import Derived.Test.YtdbnajnelbebfaaPFnWholex0
import Derived.Test.YtdbnajnelbebfaaPFnWholex1
namespace Go.Proofs.Ytdbnajnelbebfaa.PFnWhole
open Go.RowKit Go.Proofs.YtdbnajnelbebfaaW.PrintWords Go.Proofs.YtdbnajnelbebfaaW.PrintLast Go.Proofs.YtdbnajnelbebfaaW.PrintMore Go.Proofs.Ytdbnajnelbebfaa.Reg Go.Proofs.Ytdbnajnelbebfaa.Aut
attribute [local go_sem] max2_int min2_int max_two min_two max_three min_three max_four min_four   -- for this text's walks alone
set_option linter.unusedVariables false
set_option linter.unusedSimpArgs false

/-! ### spec_l01Src_n: function 79 -/
def spec_l01Src_n.f (s0_0 : List Int) (s0_1 : Int) (s0_2 : Int) (s0_3 : Int) (a1 : Int) : Option (Int × Int × Int × Int) := if a1 ≤ 1 then (some (0, s0_1, s0_2, s0_3)) else (if s0_1 < (s0_0.length : Int) then (if 0 ≤ s0_1 then (if (IntKind.u64.wrap (a1)) = 0 then (none) else (some (wrap64 (Int.tmod (IntKind.u64.wrap ((IntKind.u64.wrap (rd s0_0 s0_1)) + ((Go.bits .xor .u64 (Go.bits .xor .u64 (Go.bits .xor .u64 s0_2 (IntKind.u64.wrap (s0_2 * 8192))) ((Go.bits .xor .u64 s0_2 (IntKind.u64.wrap (s0_2 * 8192))) / 128)) (IntKind.u64.wrap ((Go.bits .xor .u64 (Go.bits .xor .u64 s0_2 (IntKind.u64.wrap (s0_2 * 8192))) ((Go.bits .xor .u64 s0_2 (IntKind.u64.wrap (s0_2 * 8192))) / 128)) * 131072))) / 1048576))) (IntKind.u64.wrap (a1))), wrap64 (s0_1 + 1), Go.bits .xor .u64 (Go.bits .xor .u64 (Go.bits .xor .u64 s0_2 (IntKind.u64.wrap (s0_2 * 8192))) ((Go.bits .xor .u64 s0_2 (IntKind.u64.wrap (s0_2 * 8192))) / 128)) (IntKind.u64.wrap ((Go.bits .xor .u64 (Go.bits .xor .u64 s0_2 (IntKind.u64.wrap (s0_2 * 8192))) ((Go.bits .xor .u64 s0_2 (IntKind.u64.wrap (s0_2 * 8192))) / 128)) * 131072)), s0_3))) else (none)) else (if (IntKind.u64.wrap (a1)) = 0 then (none) else (some (wrap64 (Int.tmod (IntKind.u64.wrap (0 + ((Go.bits .xor .u64 (Go.bits .xor .u64 (Go.bits .xor .u64 s0_2 (IntKind.u64.wrap (s0_2 * 8192))) ((Go.bits .xor .u64 s0_2 (IntKind.u64.wrap (s0_2 * 8192))) / 128)) (IntKind.u64.wrap ((Go.bits .xor .u64 (Go.bits .xor .u64 s0_2 (IntKind.u64.wrap (s0_2 * 8192))) ((Go.bits .xor .u64 s0_2 (IntKind.u64.wrap (s0_2 * 8192))) / 128)) * 131072))) / 1048576))) (IntKind.u64.wrap (a1))), s0_1, Go.bits .xor .u64 (Go.bits .xor .u64 (Go.bits .xor .u64 s0_2 (IntKind.u64.wrap (s0_2 * 8192))) ((Go.bits .xor .u64 s0_2 (IntKind.u64.wrap (s0_2 * 8192))) / 128)) (IntKind.u64.wrap ((Go.bits .xor .u64 (Go.bits .xor .u64 s0_2 (IntKind.u64.wrap (s0_2 * 8192))) ((Go.bits .xor .u64 s0_2 (IntKind.u64.wrap (s0_2 * 8192))) / 128)) * 131072)), s0_3))))
set_option maxHeartbeats 8000000 in
set_option maxRecDepth 100000 in
theorem spec_l01Src_n.calls (g : Nat) (s0_0 : List Int) (s0_1 : Int) (s0_2 : Int) (s0_3 : Int) (a1 : Int) (r1 : Int) (r2 : Int) (r3 : Int) (r4 : Int) (w0 w : World) (hI : IsS144 w0 w g s0_0 s0_1 s0_2 s0_3) (hB : Below w0.heap.size w0 w) (h : spec_l01Src_n.f s0_0 s0_1 s0_2 s0_3 a1 = some (r1, r2, r3, r4)) :
    Calls Try.prog 79 #[.pointer (some ⟨g, 0, none⟩), .int .i64 a1] w fun e w' => e = .returned (.int .i64 r1) ∧ IsS144 w0 w' g s0_0 r2 r3 r4 ∧ Below w0.heap.size w0 w' ∧ KeepBut w w' g none := by
  have hu := Try.underlying144
  unfold spec_l01Src_n.f at h
  by_cases c3 : a1 ≤ 1
  · rw [if_pos c3] at h
    simp only [Option.some.injEq, Prod.mk.injEq] at h
    obtain ⟨rfl, rfl, rfl, rfl⟩ := h
    have c3b0 : decide (a1 ≤ 1) = true := decide_eq_true c3
    have HI := AM hI
    have HB := AM hB
    clear hI hB c3
    go_enter Try.func79, Try.ntmps79
    go_wp2
    go_ret
    exact ⟨rfl, HI.out, HB.out, KeepBut.refl w g none⟩
  rw [if_neg c3] at h
  have c3b0 : decide (a1 ≤ 1) = false := decide_eq_false c3
  obtain ⟨m1, hm1⟩ : ∃ m, Go.bits .xor .u64 s0_2 (IntKind.u64.wrap (s0_2 * 8192)) = m := ⟨_, rfl⟩
  obtain ⟨m2, hm2⟩ : ∃ m, Go.bits .xor .u64 m1 (m1 / 128) = m := ⟨_, rfl⟩
  obtain ⟨m3, hm3⟩ : ∃ m, Go.bits .xor .u64 m2 (IntKind.u64.wrap (m2 * 131072)) = m := ⟨_, rfl⟩
  simp only [hm1, hm2, hm3] at h
  clear c3
  have fin : ∀ (v x : Int), (if IntKind.u64.wrap a1 = 0 then none else some (wrap64 ((IntKind.u64.wrap (v + m3 / 1048576)).tmod (IntKind.u64.wrap a1)), x, m3, s0_3)) = some (r1, r2, r3, r4) → IntKind.u64.wrap a1 ≠ 0 ∧ wrap64 ((IntKind.u64.wrap (v + m3 / 1048576)).tmod (IntKind.u64.wrap a1)) = r1 ∧ m3 = r3 ∧ s0_3 = r4 := by
    intro v x q
    by_cases c : IntKind.u64.wrap a1 = 0
    · rw [if_pos c] at q; cases q
    · rw [if_neg c] at q
      simp only [Option.some.injEq, Prod.mk.injEq] at q
      exact ⟨c, q.1, q.2.2.1, q.2.2.2⟩
  by_cases c4 : s0_1 < (s0_0.length : Int)
  · rw [if_pos c4] at h
    by_cases c5 : 0 ≤ s0_1
    · rw [if_pos c5] at h
      obtain rfl : wrap64 (s0_1 + 1) = r2 := by
        split at h
        · cases h
        · simp only [Option.some.injEq, Prod.mk.injEq] at h
          exact h.2.1
      obtain ⟨cn, rfl, rfl, rfl⟩ := fin _ _ h
      have c4b0 : decide (s0_1 < (s0_0.length : Int)) = true := decide_eq_true c4
      obtain ⟨A0, cc, hb, hge, hr⟩ := hI
      obtain ⟨ad, rfl, hxe⟩ := Kd.at_int hr s0_1 c5 c4
      replace hxe := cellG hB (grow_refl _) hxe
      have hx0 := cellS144_0 hb
      have hx1 := cellS144_1 hb
      have hf1 := blk_frozen hb 1
      have HI := AM (show IsS144 w0 w g s0_0 s0_1 s0_2 s0_3 from ⟨_, cc, hb, hge, hr⟩)
      have HB := AM hB
      have HK := AM (KeepBut.refl w g none)
      have CN := AM cn
      have M1 := AM hm1
      have M2 := AM hm2
      have M3 := AM hm3
      have c4p := eq_true c4
      have c5p := eq_true c5
      clear hb hr hge h hB c4 c5 fin cn hm1 hm2 hm3
      go_enter Try.func79, Try.ntmps79
      go_wp2
      go_region
      go_wp2
      go_region
      go_wp2
      generalize hq : World.setCell _ _ _ = wz
      have HIz := AM (show IsS144 w0 wz g s0_0 (wrap64 (s0_1 + 1)) s0_2 s0_3 by rw [← hq]; exact IsS144.set_1 HI.out _)
      have HBz := AM (show Below w0.heap.size w0 wz by rw [← hq]; exact below_set HB.out HI.out.ge)
      have HKz := AM (show KeepBut w wz g none by rw [← hq]; exact KeepBut.set_ HK.out 1 _)
      clear hq hx0 hx1 hxe hf1 HI HB HK
      obtain ⟨hx2, hf2⟩ : wz.cell? ⟨g, 2, none⟩ = some (.int .u64 s0_2) ∧ wz.frozen? ⟨g, 2, none⟩ = false := by obtain ⟨_, _, hb, _⟩ := HIz.out; exact ⟨cellS144_2 hb, blk_frozen hb 2⟩
      go_wp2
      go_region
      rw [M1.out]
      generalize hq : World.drew _ = w1
      have HI1 := AM (show IsS144 w0 w1 g s0_0 (wrap64 (s0_1 + 1)) m1 s0_3 by rw [← hq]; exact IsS144.set_2 HIz.out m1)
      have HB1 := AM (show Below w0.heap.size w0 w1 by rw [← hq]; (repeat refine below_drew1 ?_); exact below_set HBz.out HIz.out.ge)
      have HK1 := AM (show KeepBut w w1 g none by rw [← hq]; exact KeepBut.set_ HKz.out 2 _)
      clear hq hx2 hf2 HIz HBz HKz
      obtain ⟨hx2, hf2⟩ : w1.cell? ⟨g, 2, none⟩ = some (.int .u64 m1) ∧ w1.frozen? ⟨g, 2, none⟩ = false := by obtain ⟨_, _, hb, _⟩ := HI1.out; exact ⟨cellS144_2 hb, blk_frozen hb 2⟩
      go_wp2
      go_region
      rw [M2.out]
      generalize hq : World.drew _ = w2
      have HI2 := AM (show IsS144 w0 w2 g s0_0 (wrap64 (s0_1 + 1)) m2 s0_3 by rw [← hq]; exact IsS144.set_2 HI1.out m2)
      have HB2 := AM (show Below w0.heap.size w0 w2 by rw [← hq]; (repeat refine below_drew1 ?_); exact below_set HB1.out HI1.out.ge)
      have HK2 := AM (show KeepBut w w2 g none by rw [← hq]; exact KeepBut.set_ HK1.out 2 _)
      clear hq hx2 hf2 HI1 HB1 HK1
      obtain ⟨hx2, hf2⟩ : w2.cell? ⟨g, 2, none⟩ = some (.int .u64 m2) ∧ w2.frozen? ⟨g, 2, none⟩ = false := by obtain ⟨_, _, hb, _⟩ := HI2.out; exact ⟨cellS144_2 hb, blk_frozen hb 2⟩
      go_wp2
      go_region
      rw [M3.out]
      generalize hq : World.drew _ = w3
      have HI3 := AM (show IsS144 w0 w3 g s0_0 (wrap64 (s0_1 + 1)) m3 s0_3 by rw [← hq]; exact IsS144.set_2 HI2.out m3)
      have HB3 := AM (show Below w0.heap.size w0 w3 by rw [← hq]; (repeat refine below_drew1 ?_); exact below_set HB2.out HI2.out.ge)
      have HK3 := AM (show KeepBut w w3 g none by rw [← hq]; exact KeepBut.set_ HK2.out 2 _)
      clear hq hx2 hf2 HI2 HB2 HK2
      obtain ⟨hx2, hf2⟩ : w3.cell? ⟨g, 2, none⟩ = some (.int .u64 m3) ∧ w3.frozen? ⟨g, 2, none⟩ = false := by obtain ⟨_, _, hb, _⟩ := HI3.out; exact ⟨cellS144_2 hb, blk_frozen hb 2⟩
      have cn := CN.out
      go_wp2
      go_ret
      exact ⟨(by first | rfl | (simp; done)), HI3.out, HB3.out, HK3.out⟩
    · rw [if_neg c5] at h
      cases h
  · rw [if_neg c4] at h
    obtain rfl : s0_1 = r2 := by
      split at h
      · cases h
      · simp only [Option.some.injEq, Prod.mk.injEq] at h
        exact h.2.1
    obtain ⟨cn, rfl, rfl, rfl⟩ := fin _ _ h
    have c4b0 : decide (s0_1 < (s0_0.length : Int)) = false := decide_eq_false c4
    obtain ⟨A0, cc, hb, hge, hr⟩ := hI
    have hx0 := cellS144_0 hb
    have hx1 := cellS144_1 hb
    have hx2 := cellS144_2 hb
    have hf2 := blk_frozen hb 2
    have HIz := AM (show IsS144 w0 w g s0_0 s0_1 s0_2 s0_3 from ⟨A0, cc, hb, hge, hr⟩)
    have HBz := AM hB
    have HKz := AM (KeepBut.refl w g none)
    have CN := AM cn
    have M1 := AM hm1
    have M2 := AM hm2
    have M3 := AM hm3
    clear hb hr hge h hB c4 fin cn hm1 hm2 hm3
    go_enter Try.func79, Try.ntmps79
    go_wp2
    go_region
    go_wp2
    go_region
    rw [M1.out]
    generalize hq : World.drew _ = w1
    have HI1 := AM (show IsS144 w0 w1 g s0_0 (s0_1) m1 s0_3 by rw [← hq]; exact IsS144.set_2 HIz.out m1)
    have HB1 := AM (show Below w0.heap.size w0 w1 by rw [← hq]; (repeat refine below_drew1 ?_); exact below_set HBz.out HIz.out.ge)
    have HK1 := AM (show KeepBut w w1 g none by rw [← hq]; exact KeepBut.set_ HKz.out 2 _)
    clear hq hx2 hf2 HIz HBz HKz
    obtain ⟨hx2, hf2⟩ : w1.cell? ⟨g, 2, none⟩ = some (.int .u64 m1) ∧ w1.frozen? ⟨g, 2, none⟩ = false := by obtain ⟨_, _, hb, _⟩ := HI1.out; exact ⟨cellS144_2 hb, blk_frozen hb 2⟩
    go_wp2
    go_region
    rw [M2.out]
    generalize hq : World.drew _ = w2
    have HI2 := AM (show IsS144 w0 w2 g s0_0 (s0_1) m2 s0_3 by rw [← hq]; exact IsS144.set_2 HI1.out m2)
    have HB2 := AM (show Below w0.heap.size w0 w2 by rw [← hq]; (repeat refine below_drew1 ?_); exact below_set HB1.out HI1.out.ge)
    have HK2 := AM (show KeepBut w w2 g none by rw [← hq]; exact KeepBut.set_ HK1.out 2 _)
    clear hq hx2 hf2 HI1 HB1 HK1
    obtain ⟨hx2, hf2⟩ : w2.cell? ⟨g, 2, none⟩ = some (.int .u64 m2) ∧ w2.frozen? ⟨g, 2, none⟩ = false := by obtain ⟨_, _, hb, _⟩ := HI2.out; exact ⟨cellS144_2 hb, blk_frozen hb 2⟩
    go_wp2
    go_region
    rw [M3.out]
    generalize hq : World.drew _ = w3
    have HI3 := AM (show IsS144 w0 w3 g s0_0 (s0_1) m3 s0_3 by rw [← hq]; exact IsS144.set_2 HI2.out m3)
    have HB3 := AM (show Below w0.heap.size w0 w3 by rw [← hq]; (repeat refine below_drew1 ?_); exact below_set HB2.out HI2.out.ge)
    have HK3 := AM (show KeepBut w w3 g none by rw [← hq]; exact KeepBut.set_ HK2.out 2 _)
    clear hq hx2 hf2 HI2 HB2 HK2
    obtain ⟨hx2, hf2⟩ : w3.cell? ⟨g, 2, none⟩ = some (.int .u64 m3) ∧ w3.frozen? ⟨g, 2, none⟩ = false := by obtain ⟨_, _, hb, _⟩ := HI3.out; exact ⟨cellS144_2 hb, blk_frozen hb 2⟩
    have cn := CN.out
    go_wp2
    go_ret
    exact ⟨(by first | rfl | (simp; done)), HI3.out, HB3.out, HK3.out⟩

end Go.Proofs.Ytdbnajnelbebfaa.PFnWhole
