/- The plain law of FnPieces: the pieces of a drawn text are it, one behind the other; what stands behind any of them is cut as if it stood alone. -/
import Derived.Test.YteljfdhjbnlgoaaPFnPiecesx8
import Derived.Test.YteljfdhjbnlgoaaLib
namespace Go.Proofs.Yteljfdhjbnlgoaa.Pure
open Go.RowKit Go.Proofs.Yteljfdhjbnlgoaa.PFnPieces Go.Proofs.Yteljfdhjbnlgoaa.Lib Go.Proofs.YteljfdhjbnlgoaaW.PrintWords Go.Proofs.YteljfdhjbnlgoaaW.PrintLast Go.Proofs.YteljfdhjbnlgoaaW.PrintMore
set_option linter.unusedVariables false
set_option linter.unusedSimpArgs false
/-- a source that stands right. -/
def St (b : List Int) (q m : Int) : Prop := 0 ≤ q ∧ q ≤ (b.length : Int) ∧ b.length ≤ 1048576 ∧ 0 ≤ m ∧ m < 18446744073709551616
theorem bits_u64 (op : BinOp) (x y : Int) : 0 ≤ Go.bits op .u64 x y ∧ Go.bits op .u64 x y < 18446744073709551616 := by
  simp only [Go.bits, IntKind.wrap_u64]
  omega
theorem pick_most (v most : Int) (h1 : 1 < most) (h2 : most ≤ 9223372036854775807) : 0 ≤ wrap64 (Int.tmod (IntKind.u64.wrap v) (IntKind.u64.wrap most)) ∧ wrap64 (Int.tmod (IntKind.u64.wrap v) (IntKind.u64.wrap most)) < most ∧ IntKind.u64.wrap most ≠ 0 := by
  simp only [IntKind.wrap_u64]
  have e : most % 18446744073709551616 = most := by omega
  rw [e, Int.tmod_eq_emod_of_nonneg (by omega)]
  have a := Int.emod_nonneg (v % 18446744073709551616) (show most ≠ 0 by omega)
  have b := Int.emod_lt_of_pos (v % 18446744073709551616) (show 0 < most by omega)
  rw [w64 (by omega) (by omega)]
  omega
theorem n_ok (b : List Int) (q m z most : Int) (h : St b q m) (h1 : 1 ≤ most) (h2 : most ≤ 9223372036854775807) : ∃ v q' m', spec_l01Src_n.f b q m z most = some (v, q', m', z) ∧ 0 ≤ v ∧ v < most ∧ St b q' m' := by
  obtain ⟨a1, a2, a3, a4, a5⟩ := h
  unfold spec_l01Src_n.f
  by_cases c : most ≤ 1
  · rw [if_pos c]
    exact ⟨0, q, m, rfl, by omega, by omega, a1, a2, a3, a4, a5⟩
  · rw [if_neg c]
    have hm := bits_u64 .xor (Go.bits .xor .u64 (Go.bits .xor .u64 m (IntKind.u64.wrap (m * 8192))) ((Go.bits .xor .u64 m (IntKind.u64.wrap (m * 8192))) / 128)) (IntKind.u64.wrap ((Go.bits .xor .u64 (Go.bits .xor .u64 m (IntKind.u64.wrap (m * 8192))) ((Go.bits .xor .u64 m (IntKind.u64.wrap (m * 8192))) / 128)) * 131072))
    generalize Go.bits .xor .u64 (Go.bits .xor .u64 (Go.bits .xor .u64 m (IntKind.u64.wrap (m * 8192))) ((Go.bits .xor .u64 m (IntKind.u64.wrap (m * 8192))) / 128)) (IntKind.u64.wrap ((Go.bits .xor .u64 (Go.bits .xor .u64 m (IntKind.u64.wrap (m * 8192))) ((Go.bits .xor .u64 m (IntKind.u64.wrap (m * 8192))) / 128)) * 131072)) = m3 at hm ⊢
    by_cases c2 : q < (b.length : Int)
    · obtain ⟨p1, p2, p3⟩ := pick_most (IntKind.u64.wrap (rd b q) + m3 / 1048576) most (by omega) h2
      rw [if_pos c2, if_pos a1, if_neg p3]
      exact ⟨_, _, _, rfl, p1, p2, by rw [w64 (by omega) (by omega)]; omega, by rw [w64 (by omega) (by omega)]; omega, a3, hm.1, hm.2⟩
    · obtain ⟨p1, p2, p3⟩ := pick_most (0 + m3 / 1048576) most (by omega) h2
      rw [if_neg c2, if_neg p3]
      exact ⟨_, _, _, rfl, p1, p2, a1, a2, a3, hm.1, hm.2⟩
theorem src_ok (l : List Int) (hl : l.length ≤ 1048576) : Evs (fun k => spec_l01Source.f k l) (fun r => r.1 = l ∧ St l r.2.1 r.2.2.1 ∧ 0 ≤ r.2.2.2 ∧ r.2.2.2 ≤ 12) := by
  have stop : ∀ (m : Int), 0 ≤ m → m < 18446744073709551616 → ∀ q, q = (if (wrap64 ((l.length : Int) / 20)) > 12 then (some (l, (0 : Int), m, (12 : Int))) else (some (l, 0, m, wrap64 ((l.length : Int) / 20)))) → ∃ r, q = some r ∧ r.1 = l ∧ St l r.2.1 r.2.2.1 ∧ 0 ≤ r.2.2.2 ∧ r.2.2.2 ≤ 12 := by
    intro m h0 h1 q hq
    subst hq
    rw [w64 (n := (l.length : Int) / 20) (by omega) (by omega)]
    by_cases c : (l.length : Int) / 20 > 12
    · rw [if_pos c]
      exact ⟨_, rfl, rfl, ⟨Int.le_refl _, by simp, hl, h0, h1⟩, by simp, by simp⟩
    · rw [if_neg c]
      exact ⟨_, rfl, rfl, ⟨Int.le_refl _, by simp, hl, h0, h1⟩, by simp only; omega, by simp only; omega⟩
  unfold spec_l01Source.f
  have main : ∀ (d i : Nat) (m : Int), i + d = 65 → 0 ≤ m → m < 18446744073709551616 → Evs (fun k => spec_l01Source.l0 k l (i : Int) l 0 m 0) (fun r => r.1 = l ∧ St l r.2.1 r.2.2.1 ∧ 0 ≤ r.2.2.2 ∧ r.2.2.2 ≤ 12) := by
    intro d
    induction d with
    | zero =>
      intro i m hi h0 h1
      obtain ⟨r, hr, hp⟩ := stop m h0 h1 _ rfl
      refine ⟨r, Ev.step (f := fun _ => some r) (fun k => ?_) (Ev.now _), hp⟩
      simp only [spec_l01Source.l0]
      by_cases c : (i : Int) < (l.length : Int)
      · rw [if_pos c, if_neg (by omega)]; exact hr
      · rw [if_neg c]; exact hr
    | succ d ih =>
      intro i m hi h0 h1
      by_cases c : (i : Int) < (l.length : Int) ∧ (i : Int) < 64
      · obtain ⟨v, hv, hp⟩ := ih (i + 1) (IntKind.u64.wrap ((Go.bits .xor .u64 m (IntKind.u64.wrap (rd l i))) * 1099511628211)) (by omega) (by simp only [IntKind.wrap_u64]; omega) (by simp only [IntKind.wrap_u64]; omega)
        refine ⟨v, Ev.step (fun k => ?_) hv, hp⟩
        simp only [spec_l01Source.l0]
        rw [if_pos c.1, if_pos c.2, if_pos (by omega), w64 (by omega) (by omega)]
        rfl
      · obtain ⟨r, hr, hp⟩ := stop m h0 h1 _ rfl
        refine ⟨r, Ev.step (f := fun _ => some r) (fun k => ?_) (Ev.now _), hp⟩
        simp only [spec_l01Source.l0]
        by_cases c1 : (i : Int) < (l.length : Int)
        · rw [if_pos c1, if_neg (fun q => c ⟨c1, q⟩)]; exact hr
        · rw [if_neg c1]; exact hr
  exact main 65 0 88172645463325252 rfl (by decide) (by decide)
theorem one_ok (b : List Int) (q m z of : Int) (h : St b q m) (h1 : 1 ≤ of) (h2 : of ≤ 9223372036854775807) : ∃ v q' m', spec_l01Src_one.f b q m z of = some (v, q', m', z) ∧ St b q' m' := by
  obtain ⟨v, q', m', hv, _, _, hs⟩ := n_ok b q m z of h h1 h2
  refine ⟨v == 0, q', m', ?_, hs⟩
  unfold spec_l01Src_one.f
  rw [hv]
  rfl
theorem strOfNums_len (l : List Int) : (strOfNums l).size = l.length := by simp [strOfNums, ByteArray.size]
theorem bytes_ok (b : List Int) (z : Int) (n : Nat) (hn : n ≤ 1048576) : ∀ (d i : Nat) (acc : List Int) (q m : Int), i + d = n → acc.length = i → St b q m → Evs (fun k => spec_l01Src_bytes.l0 k (n : Int) acc (i : Int) b q m z) (fun r => r.1.size = n ∧ St b r.2.1 r.2.2.1 ∧ r.2.2.2 = z) := by
  intro d
  induction d with
  | zero =>
    intro i acc q m hi ha hs
    refine ⟨(strOfNums acc, q, m, z), Ev.step (f := fun _ => some (strOfNums acc, q, m, z)) (fun k => ?_) (Ev.now _), ?_, hs, rfl⟩
    · simp only [spec_l01Src_bytes.l0]
      rw [if_neg (by omega)]
    · show (strOfNums acc).size = n
      rw [strOfNums_len]; omega
  | succ d ih =>
    intro i acc q m hi ha hs
    obtain ⟨v, q', m', hv, _, _, hs'⟩ := n_ok b q m z 256 hs (by decide) (by decide)
    obtain ⟨r, hr, hp⟩ := ih (i + 1) (acc ++ [v % 256]) q' m' (by omega) (by simp; omega) hs'
    refine ⟨r, Ev.step (fun k => ?_) hr, hp⟩
    simp only [spec_l01Src_bytes.l0, hv, Option.bind_some]
    rw [if_pos (by omega), if_pos (by omega), w64 (by omega) (by omega)]
    rfl
theorem bytesN_ok (b : List Int) (q m z n : Int) (h0 : 0 ≤ n) (hn : n ≤ 1048576) (hs : St b q m) : Evs (fun k => spec_l01Src_bytes.f k b q m z n) (fun r => (r.1.size : Int) = n ∧ St b r.2.1 r.2.2.1 ∧ r.2.2.2 = z) := by
  obtain ⟨n, rfl⟩ : ∃ k : Nat, n = (k : Int) := ⟨n.toNat, by omega⟩
  exact (bytes_ok b z n (by omega) n 0 [] q m (by omega) rfl hs).mono (fun r h => ⟨by rw [h.1], h.2⟩)
theorem rd4 (l : List Int) (hl : l.length = 4) (b : List Int) (q m z : Int) (h : St b q m) : ∃ v i q' m', spec_l01Src_n.f b q m z 4 = some (i, q', m', z) ∧ 0 ≤ i ∧ i < (l.length : Int) ∧ rd l i = v ∧ St b q' m' := by
  obtain ⟨i, q', m', hi, h0, h1, hs⟩ := n_ok b q m z 4 h (by decide) (by decide)
  exact ⟨_, i, q', m', hi, h0, by omega, rfl, hs⟩
theorem cutting_ok (b : List Int) (q m z : Int) (h : St b q m) : ∃ c1 c2 c3 q' m', spec_l01Src_l06Cutting.f b q m z = some (c1, c2, c3, q', m', z) ∧ St b q' m' := by
  obtain ⟨x1, q1, m1, e1, _, _, s1⟩ := n_ok b q m z 8 h (by decide) (by decide)
  obtain ⟨x2, q2, m2, e2, _, _, s2⟩ := n_ok b q1 m1 z 3 s1 (by decide) (by decide)
  obtain ⟨x3, q3, m3, e3, _, _, s3⟩ := n_ok b q2 m2 z 40 s2 (by decide) (by decide)
  obtain ⟨x4, q4, m4, e4, s4⟩ := one_ok b q3 m3 z 15 s3 (by decide) (by decide)
  unfold spec_l01Src_l06Cutting.f
  rw [e1]; simp only [Option.bind_some]
  rw [e2]; simp only [Option.bind_some]
  rw [e3]; simp only [Option.bind_some]
  rw [e4]; simp only [Option.bind_some]
  cases x4
  · rw [if_neg (by simp)]
    exact ⟨_, _, _, q4, m4, rfl, s4⟩
  · rw [if_pos rfl]
    obtain ⟨x5, q5, m5, e5, _, _, s5⟩ := n_ok b q4 m4 z 3 s4 (by decide) (by decide)
    obtain ⟨x6, q6, m6, e6, h60, h61, s6⟩ := n_ok b q5 m5 z 4 s5 (by decide) (by decide)
    rw [e5]; simp only [Option.bind_some]
    by_cases c1 : x5 = 0
    · rw [if_pos c1, e6]; simp only [Option.bind_some]
      rw [if_pos h60, if_pos (by simpa using h61)]
      exact ⟨_, _, _, q6, m6, rfl, s6⟩
    · rw [if_neg c1]
      by_cases c2 : x5 = 1
      · rw [if_pos c2, e6]; simp only [Option.bind_some]
        rw [if_pos h60, if_pos (by simpa using h61)]
        exact ⟨_, _, _, q6, m6, rfl, s6⟩
      · rw [if_neg c2, e6]; simp only [Option.bind_some]
        rw [if_pos h60, if_pos (by simpa using h61)]
        exact ⟨_, _, _, q6, m6, rfl, s6⟩
theorem text6_l0 (b : List Int) (z : Int) (ws : List ByteArray) (hw : ws.length = 4) (hws : ∀ w ∈ ws, w.size ≤ 45) : ∀ (d : Nat) (acc : ByteArray) (q m : Int), d ≤ 20 → acc.size + 45 * d ≤ 900 → St b q m → Evs (fun k => spec_l01Src_l06Text.l0 k acc ws (d : Int) b q m z) (fun r => r.1.size ≤ 900) := by
  intro d
  induction d with
  | zero =>
    intro acc q m _ ha hs
    refine ⟨(acc, q, m, z), Ev.step (f := fun _ => some (acc, q, m, z)) (fun k => ?_) (Ev.now _), by simpa using ha⟩
    simp only [spec_l01Src_l06Text.l0]
    rw [if_neg (by omega)]
  | succ d ih =>
    intro acc q m hd ha hs
    obtain ⟨i, q1, m1, e, h0, h1, s1⟩ := n_ok b q m z 4 hs (by decide) (by decide)
    obtain ⟨i, rfl⟩ : ∃ n : Nat, i = (n : Int) := ⟨i.toNat, by omega⟩
    have hlt : i < ws.length := by omega
    have er : rdOf ByteArray.empty ws (i : Int) = ws[i] := by simp [rdOf, hlt]
    have hsz := hws ws[i] (List.getElem_mem hlt)
    obtain ⟨r, hr, hp⟩ := ih (acc ++ ws[i]) q1 m1 (by omega) (by rw [ByteArray.size_append]; omega) s1
    refine ⟨r, Ev.step (fun k => ?_) hr, hp⟩
    simp only [spec_l01Src_l06Text.l0, e, Option.bind_some, er]
    rw [if_pos (by omega), if_pos h0, if_pos (by omega), if_pos (by omega), w64 (by omega) (by omega)]
    rw [show ((d + 1 : Nat) : Int) - 1 = (d : Int) by omega]
theorem text6_ok (b : List Int) (q m z : Int) (h : St b q m) (hz : 0 ≤ z ∧ z ≤ 12) : Evs (fun k => spec_l01Src_l06Text.f k b q m z) (fun r => r.1.size ≤ 900) := by
  unfold spec_l01Src_l06Text.f
  refine Evs.bind (bytesN_ok b q m z 20 (by decide) (by decide) h) (fun r1 h1 => ?_)
  obtain ⟨t1, q1, m1, z1⟩ := r1
  obtain ⟨g1, s1, rfl⟩ := h1
  refine Evs.bind (bytesN_ok b q1 m1 z1 45 (by decide) (by decide) s1) (fun r2 h2 => ?_)
  obtain ⟨t2, q2, m2, z2⟩ := r2
  obtain ⟨g2, s2, rfl⟩ := h2
  refine Evs.bind (bytesN_ok b q2 m2 z2 7 (by decide) (by decide) s2) (fun r3 h3 => ?_)
  obtain ⟨t3, q3, m3, z3⟩ := r3
  obtain ⟨g3, s3, rfl⟩ := h3
  simp only at g1 g2 g3 s1 s2 s3 hz ⊢
  rw [w64 (by omega) (by omega)]
  obtain ⟨n, q4, m4, e4, h40, h41, s4⟩ := n_ok b q3 m3 z3 (4 + z3) s3 (by omega) (by omega)
  refine Evs.bind1 e4 ?_
  obtain ⟨n, rfl⟩ : ∃ k : Nat, n = (k : Int) := ⟨n.toNat, by omega⟩
  refine text6_l0 b z3 _ rfl (fun w hw => ?_) n _ q4 m4 (by omega) (by show 0 + 45 * n ≤ 900; omega) s4
  simp only [List.mem_cons, List.not_mem_nil, or_false] at hw
  rcases hw with rfl | rfl | rfl | rfl
  · omega
  · omega
  · show 33 ≤ 45; decide
  · omega
theorem within_eq (a b c : Int) : impl_within.f a b c = some (decide (b ≤ a) && decide (a ≤ c)) := by
  unfold impl_within.f
  by_cases h : a ≥ b <;> simp [h]
theorem xor_left_comm' (a b c : Nat) : a ^^^ (b ^^^ c) = b ^^^ (a ^^^ c) := by
  rw [← Nat.xor_assoc, Nat.xor_comm a b, Nat.xor_assoc]
/-- a finger times x. -/
def fm1 (f : Nat) : Nat := (f <<< 1) ^^^ (if f.testBit 30 then 2147483657 else 0)
theorem fm1_xor (f g : Nat) : fm1 (f ^^^ g) = fm1 f ^^^ fm1 g := by
  unfold fm1
  rw [Nat.shiftLeft_xor_distrib, Nat.testBit_xor]
  have e : ∀ p q r : Nat, (p ^^^ r) ^^^ (q ^^^ r) = p ^^^ q := fun p q r => by
    rw [Nat.xor_comm q r, Nat.xor_assoc, ← Nat.xor_assoc r r q, Nat.xor_self, Nat.zero_xor]
  cases f.testBit 30 <;> cases g.testBit 30
  · simp
  · simp only [Bool.false_xor, if_true, Bool.false_eq_true, if_false, Nat.xor_zero, Nat.xor_assoc]
  · simp only [Bool.xor_false, if_true, Bool.false_eq_true, if_false, Nat.xor_zero]
    rw [Nat.xor_assoc, Nat.xor_comm (g <<< 1), ← Nat.xor_assoc]
  · simp only [Bool.xor_self, if_true, Bool.false_eq_true, if_false, Nat.xor_zero]
    exact (e _ _ _).symm
theorem fm1_lt {f : Nat} (h : f < 2 ^ 31) : fm1 f < 2 ^ 31 := by
  refine Nat.lt_pow_two_of_testBit _ (fun i hi => ?_)
  unfold fm1
  rw [Nat.testBit_xor, Nat.testBit_shiftLeft]
  by_cases e : i = 31
  · subst e
    by_cases hb : f.testBit 30 = true
    · rw [if_pos hb]; simp [hb]; decide
    · rw [if_neg hb]; simpa using hb
  · have h1 : f.testBit (i - 1) = false := Nat.testBit_lt_two_pow (Nat.lt_of_lt_of_le h (Nat.pow_le_pow_right (by decide) (by omega)))
    have h2 : (if f.testBit 30 then 2147483657 else 0).testBit i = false := by
      refine Nat.testBit_lt_two_pow (Nat.lt_of_lt_of_le (m := 2 ^ 32) ?_ (Nat.pow_le_pow_right (by decide) (by omega)))
      split <;> decide
    rw [h1, h2]; simp
/-- a bit behind a finger. -/
theorem fm1_bit {f c : Nat} (hf : f < 2 ^ 31) (hc : c < 2) : (if 2 ^ 31 ≤ 2 * f + c then (2 * f + c) ^^^ 2147483657 else 2 * f + c) = fm1 f ^^^ c := by
  have e : 2 * f + c = (f <<< 1) ^^^ c := by
    have h1 : (f <<< 1) ||| c = 2 * f + c := by
      rw [← Nat.shiftLeft_add_eq_or_of_lt (i := 1) (by omega), Nat.shiftLeft_eq]; omega
    rw [← h1]
    apply Nat.eq_of_testBit_eq
    intro i
    rw [Nat.testBit_or, Nat.testBit_xor, Nat.testBit_shiftLeft]
    by_cases h0 : i = 0
    · subst h0; simp
    · have : c.testBit i = false := Nat.testBit_lt_two_pow (Nat.lt_of_lt_of_le (m := 2 ^ 1) (by omega) (Nat.pow_le_pow_right (by decide) (by omega)))
      rw [this]; simp
  have hb : (2 ^ 31 ≤ 2 * f + c) ↔ f.testBit 30 = true := by
    rw [Nat.testBit_eq_decide_div_mod_eq]
    simp only [decide_eq_true_eq]
    omega
  unfold fm1
  by_cases h : f.testBit 30 = true
  · rw [if_pos (hb.2 h), if_pos h, e, Nat.xor_assoc, Nat.xor_assoc, Nat.xor_comm c]
  · rw [if_neg (fun q => h (hb.1 q)), if_neg h, e]; simp
def fm8 (f : Nat) : Nat := fm1 (fm1 (fm1 (fm1 (fm1 (fm1 (fm1 (fm1 f)))))))
theorem fm8_xor (f g : Nat) : fm8 (f ^^^ g) = fm8 f ^^^ fm8 g := by
  unfold fm8
  simp only [fm1_xor]
theorem fm8_lt {f : Nat} (h : f < 2 ^ 31) : fm8 f < 2 ^ 31 := fm1_lt (fm1_lt (fm1_lt (fm1_lt (fm1_lt (fm1_lt (fm1_lt (fm1_lt h)))))))
theorem xor_lt31 {f g : Nat} (hf : f < 2 ^ 31) (hg : g < 2 ^ 31) : f ^^^ g < 2 ^ 31 := Nat.xor_lt_two_pow hf hg
/-- a finger with a byte behind its text. -/
def fmore (f b : Nat) : Nat := fm8 f ^^^ b
theorem fm1_small {f : Nat} (h : f < 2 ^ 30) : fm1 f = 2 * f := by
  unfold fm1
  rw [Nat.testBit_lt_two_pow h, Nat.shiftLeft_eq]
  simp; omega
set_option maxRecDepth 100000 in
/-- as the program says it: bit by bit, the highest first. -/
theorem fmore_bits {f b : Nat} (hf : f < 2 ^ 31) (hb : b < 256) (s : Nat → Nat → Nat) (hs : ∀ g c, g < 2 ^ 31 → c < 2 → s g c = fm1 g ^^^ c) :
    s (s (s (s (s (s (s (s f (b / 128 % 2)) (b / 64 % 2)) (b / 32 % 2)) (b / 16 % 2)) (b / 8 % 2)) (b / 4 % 2)) (b / 2 % 2)) (b / 1 % 2) = fmore f b := by
  have st : ∀ g c, g < 2 ^ 31 → c < 2 → s g c < 2 ^ 31 := fun g c hg hc => by rw [hs g c hg hc]; exact xor_lt31 (fm1_lt hg) (by omega)
  have d : ∀ n, n % 2 < 2 := fun n => by omega
  have key : ∀ n, n < 256 → (fm1 (fm1 (fm1 (fm1 (fm1 (fm1 (fm1 (n / 128 % 2) ^^^ (n / 64 % 2)) ^^^ (n / 32 % 2)) ^^^ (n / 16 % 2)) ^^^ (n / 8 % 2)) ^^^ (n / 4 % 2)) ^^^ (n / 2 % 2)) ^^^ (n / 1 % 2)) = n := by decide
  have h1 := st f _ hf (d (b / 128))
  have h2 := st _ _ h1 (d (b / 64))
  have h3 := st _ _ h2 (d (b / 32))
  have h4 := st _ _ h3 (d (b / 16))
  have h5 := st _ _ h4 (d (b / 8))
  have h6 := st _ _ h5 (d (b / 4))
  have h7 := st _ _ h6 (d (b / 2))
  rw [hs _ _ h7 (d _), hs _ _ h6 (d _), hs _ _ h5 (d _), hs _ _ h4 (d _), hs _ _ h3 (d _), hs _ _ h2 (d _), hs _ _ h1 (d _), hs _ _ hf (d _)]
  unfold fmore
  conv => rhs; rw [← key b hb]
  unfold fm8
  simp only [fm1_xor, Nat.xor_assoc]

/-- as the reference says it: eight bits at once, then reduced. -/
theorem fred {g b j : Nat} (hg : g < 2 ^ 31) (hb : b < 256) : (if ((g <<< (j + 1)) ^^^ b).testBit (31 + j) then ((g <<< (j + 1)) ^^^ b) ^^^ (2147483657 <<< j) else (g <<< (j + 1)) ^^^ b) = (fm1 g <<< j) ^^^ b := by
  have h1 : ((g <<< (j + 1)) ^^^ b).testBit (31 + j) = g.testBit 30 := by
    rw [Nat.testBit_xor, Nat.testBit_shiftLeft, Nat.testBit_lt_two_pow (x := b) (Nat.lt_of_lt_of_le (m := 2 ^ 8) hb (Nat.pow_le_pow_right (by decide) (by omega)))]
    simp [show j + 1 ≤ 31 + j by omega, show 31 + j - (j + 1) = 30 by omega]
  rw [h1]
  unfold fm1
  rw [Nat.add_comm j 1, Nat.shiftLeft_add]
  cases g.testBit 30
  · simp
  · simp only [if_true]
    rw [Nat.shiftLeft_xor_distrib, Nat.xor_assoc, Nat.xor_assoc, Nat.xor_comm b]
theorem ffold_xor (l : List Nat) : ∀ f g, l.foldl fmore (f ^^^ g) = (fun h => l.foldl (fun f _ => fm8 f) h) f ^^^ l.foldl fmore g := by
  induction l with
  | nil => intro f g; rfl
  | cons b l ih =>
    intro f g
    simp only [List.foldl_cons]
    rw [show fmore (f ^^^ g) b = fm8 f ^^^ fmore g b by unfold fmore; rw [fm8_xor, Nat.xor_assoc], ih]
theorem ffold_lt (l : List Nat) (hl : ∀ b ∈ l, b < 256) : ∀ f, f < 2 ^ 31 → l.foldl fmore f < 2 ^ 31 := by
  induction l with
  | nil => intro f h; exact h
  | cons b l ih =>
    intro f h
    exact ih (fun x hx => hl x (by simp [hx])) _ (xor_lt31 (fm8_lt h) (by have := hl b (by simp); omega))
theorem fdrop_len (l m : List Nat) (h : l.length = m.length) : ∀ f, l.foldl (fun f _ => fm8 f) f = m.foldl (fun f _ => fm8 f) f := by
  induction l generalizing m with
  | nil => cases m with
    | nil => intro f; rfl
    | cons => cases h
  | cons a l ih => cases m with
    | nil => cases h
    | cons b m => intro f; exact ih m (by simpa using h) _
/-- a finger that rolls. -/
theorem froll (o i : Nat) (l : List Nat) (f : Nat) (hf : f = (o :: l).foldl fmore 0) : fmore (f ^^^ l.foldl (fun f _ => fm8 f) o) i = (l ++ [i]).foldl fmore 0 := by
  subst hf
  have h0 : fm8 0 = 0 := by decide
  have e : (o :: l).foldl fmore 0 = l.foldl (fun f _ => fm8 f) o ^^^ l.foldl fmore 0 := by
    rw [List.foldl_cons, show fmore 0 o = o ^^^ 0 by unfold fmore; rw [h0, Nat.zero_xor, Nat.xor_zero], ffold_xor]
  rw [e, Nat.xor_comm (List.foldl _ o l), Nat.xor_assoc, Nat.xor_self, Nat.xor_zero, List.foldl_append]
  rfl
/-- a text as numbers. -/
def bl (t : ByteArray) : List Nat := t.data.toList.map UInt8.toNat
theorem bl_length (t : ByteArray) : (bl t).length = t.size := by unfold bl; rw [List.length_map]; exact data_length t
theorem bl_append (a b : ByteArray) : bl (a ++ b) = bl a ++ bl b := by simp [bl, ByteArray.data_append]
theorem bl_lt (t : ByteArray) : ∀ c ∈ bl t, c < 256 := by
  intro c hc
  obtain ⟨x, _, rfl⟩ := List.mem_map.1 hc
  exact x.toNat_lt
theorem bl_extract (t : ByteArray) (i j : Nat) : bl (t.extract i j) = ((bl t).take j).drop i := by
  simp only [bl, ByteArray.data_extract, Array.toList_extract, List.extract_eq_take_drop, List.map_take, List.map_drop]
  rw [List.drop_take]
theorem bl_inj {a b : ByteArray} (h : bl a = bl b) : a = b := by
  have h2 : a.data.toList = b.data.toList := by
    unfold bl at h
    exact (List.map_inj_right (fun x y q => UInt8.toNat_inj.1 q)).1 h
  cases a; cases b
  simp only at h2
  congr 1
  exact Array.toList_inj.1 h2
theorem bt_bl (t : ByteArray) (i : Nat) (h : i < t.size) : bt t (i : Int) = (((bl t)[i]'(by rw [bl_length]; exact h) : Nat) : Int) := by
  unfold bt
  simp only [Int.toNat_natCast]
  rw [dif_pos h]
  simp [bl]
  rfl
theorem bl_strOfNums (l : List Int) (h : ∀ x ∈ l, 0 ≤ x ∧ x < 256) : bl (strOfNums l) = l.map Int.toNat := by
  unfold bl strOfNums
  simp only [List.map_map]
  refine List.map_congr_left (fun x hx => ?_)
  have := h x hx
  simp only [Function.comp]
  rw [UInt8.toNat_ofNat']
  omega
theorem numL_range (m : Nat) : ∀ u, u < 128 ^ (m + 1) → ∀ x ∈ numL u, 0 ≤ x ∧ x < 256 := by
  induction m with
  | zero =>
    intro u hu x hx
    rw [numL_lt (by simpa using hu)] at hx
    simp at hx; subst hx
    simp at hu
    omega
  | succ m ih =>
    intro u hu x hx
    by_cases h : u < 128
    · rw [numL_lt h] at hx
      simp at hx; omega
    · rw [numL_ge h, List.mem_cons] at hx
      rcases hx with rfl | hx
      · omega
      · exact ih (u / 128) (by rw [Nat.div_lt_iff_lt_mul (by decide), ← Nat.pow_succ]; exact hu) x hx
theorem bl_putNum (n : Int) (h0 : -9223372036854775808 ≤ n) (h1 : n ≤ 9223372036854775807) : bl (putNum n) = (numL (fold n)).map Int.toNat :=
  bl_strOfNums _ (numL_range 9 _ (Nat.lt_of_lt_of_le (fold_lt n h0 h1) (by decide)))
theorem empty_list : ((⟨#[]⟩ : ByteArray).toList == ([] : List UInt8)) = true := by
  rw [ByteArray.toList_eq]; rfl
theorem not_empty (p : ByteArray) (h : 0 < p.size) : (p.toList == ([] : List UInt8)) = false := by
  refine beq_eq_false_iff_ne.2 (fun q => ?_)
  rw [ByteArray.toList_eq] at q
  have := congrArg List.length q
  rw [data_length] at this
  simp only [List.length_nil] at this
  omega
theorem extract_size (p : ByteArray) (n : Nat) (h : n ≤ p.size) : (p.extract 0 n).size = n := by
  rw [ByteArray.size_extract]; omega
theorem ofInt_nat (a : Nat) (h : a < 9223372036854775808) : (BitVec.ofInt 64 (a : Int)).toNat = a := by
  rw [BitVec.toNat_ofInt]
  omega
theorem i64_of (n : Nat) (h : n < 9223372036854775808) : IntKind.i64.wrap (n : Int) = (n : Int) := by
  rw [i64_w]
  exact w64 (by omega) (by omega)
theorem i64_xor_nat (a b : Nat) (ha : a < 9223372036854775808) (hb : b < 9223372036854775808) : Go.bits .xor .i64 (a : Int) (b : Int) = ((a ^^^ b : Nat) : Int) := by
  show IntKind.i64.wrap (((BitVec.ofInt 64 (a : Int)) ^^^ (BitVec.ofInt 64 (b : Int))).toNat : Int) = _
  rw [BitVec.toNat_xor, ofInt_nat a ha, ofInt_nat b hb]
  exact i64_of _ (Nat.xor_lt_two_pow (n := 63) ha hb)
theorem i64_or_nat (a b : Nat) (ha : a < 9223372036854775808) (hb : b < 9223372036854775808) : Go.bits .or .i64 (a : Int) (b : Int) = ((a ||| b : Nat) : Int) := by
  show IntKind.i64.wrap (((BitVec.ofInt 64 (a : Int)) ||| (BitVec.ofInt 64 (b : Int))).toNat : Int) = _
  rw [BitVec.toNat_or, ofInt_nat a ha, ofInt_nat b hb]
  exact i64_of _ (Nat.or_lt_two_pow (n := 63) ha hb)
theorem i64_and_nat (a b : Nat) (ha : a < 9223372036854775808) (hb : b < 9223372036854775808) : Go.bits .and .i64 (a : Int) (b : Int) = ((a &&& b : Nat) : Int) := by
  show IntKind.i64.wrap (((BitVec.ofInt 64 (a : Int)) &&& (BitVec.ofInt 64 (b : Int))).toNat : Int) = _
  rw [BitVec.toNat_and, ofInt_nat a ha, ofInt_nat b hb]
  exact i64_of _ (Nat.lt_of_le_of_lt Nat.and_le_left ha)
theorem i64_and1 (a : Nat) (ha : a < 9223372036854775808) : Go.bits .and .i64 (a : Int) 1 = ((a % 2 : Nat) : Int) := by
  refine (i64_and_nat a 1 ha (by decide)).trans ?_
  rw [Nat.and_one_is_mod]
theorem shr_nat (a i : Nat) (ha : a < 9223372036854775808) (hi : i < 64) : shr .i64 (a : Int) (i : Int) = ((a / 2 ^ i : Nat) : Int) := by
  unfold shr
  simp only [show IntKind.i64.bits = 64 from rfl, Int.toNat_natCast]
  rw [Nat.min_eq_left (by omega)]
  exact (Int.natCast_ediv a (2 ^ i)).symm ▸ (by simp)
/-- a step of the program's finger: one more bit. -/
def fstep (f c : Nat) : Nat := if 2 ^ 31 ≤ 2 * f + c then (2 * f + c) ^^^ 2147483657 else 2 * f + c
theorem fstep_eq (f c : Nat) (hf : f < 2 ^ 31) (hc : c < 2) : fstep f c = fm1 f ^^^ c := fm1_bit hf hc
theorem fstep_lt {f c : Nat} (hf : f < 2 ^ 31) (hc : c < 2) : fstep f c < 2 ^ 31 := by
  rw [fstep_eq f c hf hc]
  exact xor_lt31 (fm1_lt hf) (by omega)
theorem more_step (k f b i : Nat) (hf : f < 2 ^ 31) (hb : b < 256) (hi : i ≤ 7) : impl_more.l0 (k + 1) (f : Int) (b : Int) (i : Int) = impl_more.l0 k ((fstep f (b / 2 ^ i % 2) : Nat) : Int) (b : Int) ((i : Int) - 1) := by
  have hc : b / 2 ^ i % 2 < 2 := by omega
  have hq : b / 2 ^ i ≤ b := Nat.div_le_self _ _
  have e1 : Go.bits .or .i64 (wrap64 ((f : Int) * 2)) (Go.bits .and .i64 (shr .i64 (b : Int) (i : Int)) 1) = ((2 * f + b / 2 ^ i % 2 : Nat) : Int) := by
    rw [shr_nat b i (by omega) (by omega), i64_and1 _ (by omega), w64 (by omega) (by omega), show ((f : Int) * 2) = ((2 * f : Nat) : Int) by omega, i64_or_nat _ _ (by omega) (by omega), nat_join1 _ _ (by omega) hc]
  have e2 : wrap64 ((i : Int) - 1) = (i : Int) - 1 := w64 (by omega) (by omega)
  simp only [impl_more.l0]
  rw [if_pos (by omega), if_pos (by omega), e1, e2]
  unfold fstep
  by_cases c : 2 ^ 31 ≤ 2 * f + b / 2 ^ i % 2
  · rw [if_pos (by omega), if_pos c]
    congr 1
    exact i64_xor_nat _ 2147483657 (by omega) (by decide)
  · rw [if_neg (by omega), if_neg c]
theorem more_ev (f b : Nat) (hf : f < 2 ^ 31) (hb : b < 256) : ∀ k, 9 ≤ k → impl_more.f k (f : Int) (b : Int) = some ((fmore f b : Nat) : Int) := by
  intro k hk
  obtain ⟨k, rfl⟩ : ∃ m, k = m + 9 := ⟨k - 9, by omega⟩
  have d : ∀ n, n % 2 < 2 := fun n => by omega
  unfold impl_more.f
  have h7 := fstep_lt hf (d (b / 2 ^ 7))
  have h6 := fstep_lt h7 (d (b / 2 ^ 6))
  have h5 := fstep_lt h6 (d (b / 2 ^ 5))
  have h4 := fstep_lt h5 (d (b / 2 ^ 4))
  have h3 := fstep_lt h4 (d (b / 2 ^ 3))
  have h2 := fstep_lt h3 (d (b / 2 ^ 2))
  have h1 := fstep_lt h2 (d (b / 2 ^ 1))
  have s7 := more_step (k + 8) f b 7 hf hb (by decide)
  have s6 := more_step (k + 7) _ b 6 h7 hb (by decide)
  have s5 := more_step (k + 6) _ b 5 h6 hb (by decide)
  have s4 := more_step (k + 5) _ b 4 h5 hb (by decide)
  have s3 := more_step (k + 4) _ b 3 h4 hb (by decide)
  have s2 := more_step (k + 3) _ b 2 h3 hb (by decide)
  have s1 := more_step (k + 2) _ b 1 h2 hb (by decide)
  have s0 := more_step (k + 1) _ b 0 h1 hb (by decide)
  refine s7.trans (s6.trans (s5.trans (s4.trans (s3.trans (s2.trans (s1.trans (s0.trans ?_)))))))
  have e : fstep (fstep (fstep (fstep (fstep (fstep (fstep (fstep f (b / 2 ^ 7 % 2)) (b / 2 ^ 6 % 2)) (b / 2 ^ 5 % 2)) (b / 2 ^ 4 % 2)) (b / 2 ^ 3 % 2)) (b / 2 ^ 2 % 2)) (b / 2 ^ 1 % 2)) (b / 2 ^ 0 % 2) = fmore f b :=
    fmore_bits hf hb fstep (fun g c hg hc => fstep_eq g c hg hc)
  rw [e]
  simp only [impl_more.l0]
  rw [if_neg (by decide)]
theorem fmore_lt {f b : Nat} (hf : f < 2 ^ 31) (hb : b < 256) : fmore f b < 2 ^ 31 := xor_lt31 (fm8_lt hf) (by omega)
/-- a step of the reference's: the highest bit goes. -/
theorem shift_step (k g b j : Nat) (hg : g < 2 ^ 31) (hb : b < 256) (hj : j ≤ 7) : spec_l06Shift.l0 (k + 1) (((g <<< (j + 1)) ^^^ b : Nat) : Int) ((31 + j : Nat) : Int) = spec_l06Shift.l0 k (((fm1 g <<< j) ^^^ b : Nat) : Int) ((30 + j : Nat) : Int) := by
  have hx : ((g <<< (j + 1)) ^^^ b) < 2 ^ 40 := by
    refine Nat.xor_lt_two_pow ?_ (by omega)
    rw [Nat.shiftLeft_eq]
    have : 2 ^ (j + 1) ≤ 2 ^ 8 := Nat.pow_le_pow_right (by decide) (by omega)
    have : g * 2 ^ (j + 1) ≤ g * 2 ^ 8 := Nat.mul_le_mul_left _ this
    omega
  have hr := fred (j := j) hg hb
  generalize (g <<< (j + 1)) ^^^ b = x at hx hr ⊢
  have e0 : IntKind.u64.wrap ((31 + j : Nat) : Int) = ((31 + j : Nat) : Int) := by simp only [IntKind.wrap_u64]; omega
  have e1 : Go.bits .and .i64 (shr .i64 (x : Int) (IntKind.u64.wrap ((31 + j : Nat) : Int))) 1 = ((x / 2 ^ (31 + j) % 2 : Nat) : Int) := by
    have hq : x / 2 ^ (31 + j) ≤ x := Nat.div_le_self _ _
    rw [e0, shr_nat x (31 + j) (by omega) (by omega), i64_and1 _ (by omega)]
  have e2 : wrap64 (((31 + j : Nat) : Int) - 31) = (j : Int) := by rw [w64 (by omega) (by omega)]; omega
  have e3 : IntKind.u64.wrap (j : Int) = (j : Int) := by simp only [IntKind.wrap_u64]; omega
  have e4 : wrap64 (((31 + j : Nat) : Int) - 1) = ((30 + j : Nat) : Int) := by rw [w64 (by omega) (by omega)]; omega
  simp only [spec_l06Shift.l0, e1, e2, e3, e4]
  rw [e0, if_pos (by omega), if_pos (by omega)]
  have ht : x.testBit (31 + j) = decide (x / 2 ^ (31 + j) % 2 = 1) := Nat.testBit_eq_decide_div_mod_eq
  by_cases c : x / 2 ^ (31 + j) % 2 = 1
  · rw [ht, decide_eq_true c, if_pos rfl] at hr
    rw [if_pos (by omega), if_pos (by omega)]
    congr 1
    have hp : 2147483657 <<< j < 2 ^ 39 := by
      rw [Nat.shiftLeft_eq]
      have : 2 ^ j ≤ 2 ^ 7 := Nat.pow_le_pow_right (by decide) (by omega)
      have : 2147483657 * 2 ^ j ≤ 2147483657 * 2 ^ 7 := Nat.mul_le_mul_left _ this
      omega
    have e5 : shl .i64 2147483657 (j : Int) = ((2147483657 <<< j : Nat) : Int) := by
      unfold shl
      simp only [show IntKind.i64.bits = 64 from rfl, Int.toNat_natCast]
      rw [Nat.min_eq_left (by omega), show (2147483657 : Int) * (2 : Int) ^ j = ((2147483657 <<< j : Nat) : Int) by rw [Nat.shiftLeft_eq, Int.natCast_mul, Int.natCast_pow]; rfl]
      exact i64_of _ (by omega)
    rw [e5, i64_xor_nat _ _ (by omega) (by omega), hr]
  · rw [ht, decide_eq_false c] at hr
    rw [if_neg (by omega)]
    rw [if_neg (by simp)] at hr
    rw [hr]
theorem shift_ev (f b : Nat) (hf : f < 2 ^ 31) (hb : b < 256) : ∀ k, 9 ≤ k → spec_l06Shift.f k (f : Int) (b : Int) = some ((fmore f b : Nat) : Int) := by
  intro k hk
  obtain ⟨k, rfl⟩ : ∃ m, k = m + 9 := ⟨k - 9, by omega⟩
  unfold spec_l06Shift.f
  have e : Go.bits .xor .i64 (wrap64 ((f : Int) * 256)) (b : Int) = (((f <<< (7 + 1)) ^^^ b : Nat) : Int) := by
    rw [w64 (n := (f : Int) * 256) (by omega) (by omega), show ((f : Int) * (256 : Int)) = Int.ofNat (f <<< (7 + 1)) by rw [Nat.shiftLeft_eq]; show _ = ((f * 2 ^ (7 + 1) : Nat) : Int); omega, show Go.bits .xor .i64 (Int.ofNat (f <<< (7 + 1))) (b : Int) = _ from i64_xor_nat _ _ (by rw [Nat.shiftLeft_eq]; omega) (by omega)]
  rw [e]
  have h1 := fm1_lt hf
  have h2 := fm1_lt h1
  have h3 := fm1_lt h2
  have h4 := fm1_lt h3
  have h5 := fm1_lt h4
  have h6 := fm1_lt h5
  have h7 := fm1_lt h6
  refine (shift_step (k + 8) f b 7 hf hb (by decide)).trans ((shift_step (k + 7) _ b 6 h1 hb (by decide)).trans ((shift_step (k + 6) _ b 5 h2 hb (by decide)).trans ((shift_step (k + 5) _ b 4 h3 hb (by decide)).trans ((shift_step (k + 4) _ b 3 h4 hb (by decide)).trans ((shift_step (k + 3) _ b 2 h5 hb (by decide)).trans ((shift_step (k + 2) _ b 1 h6 hb (by decide)).trans ((shift_step (k + 1) _ b 0 h7 hb (by decide)).trans ?_)))))))
  simp only [spec_l06Shift.l0]
  rw [if_neg (by decide), Nat.shiftLeft_zero]
  rfl
theorem w_succ (i : Nat) (h : i ≤ 20000) : wrap64 ((i : Int) + 1) = ((i + 1 : Nat) : Int) := by rw [w64 (by omega) (by omega)]; omega
theorem w_m16 (i : Nat) (h : i ≤ 20000) : wrap64 (((i + 1 : Nat) : Int) - 16) = (i : Int) - 15 := by rw [w64 (by omega) (by omega)]; omega
theorem w_s16 (i : Nat) (h16 : 16 ≤ i) (h : i ≤ 20000) : wrap64 ((i : Int) - 16) = ((i - 16 : Nat) : Int) := by rw [w64 (by omega) (by omega)]; omega
def fing (l : List Nat) : Nat := l.foldl fmore 0
theorem fing_lt (l : List Nat) (hl : ∀ b ∈ l, b < 256) : fing l < 2 ^ 31 := ffold_lt l hl 0 (by decide)
theorem bt_w (x : ByteArray) (i : Nat) (h : i < x.size) : wrap64 (bt x (i : Int)) = (((bl x)[i]'(by rw [bl_length]; exact h) : Nat) : Int) ∧ (bl x)[i]'(by rw [bl_length]; exact h) < 256 := by
  have hb := bl_lt x ((bl x)[i]'(by rw [bl_length]; exact h)) (List.getElem_mem _)
  rw [bt_bl x i h, w64 (by omega) (by omega)]
  exact ⟨rfl, hb⟩
theorem finger_i (x : ByteArray) (hx : x.size ≤ 4611686018427387904) : Ev (fun k => impl_finger.f k x) ((fing (bl x) : Nat) : Int) := by
  unfold impl_finger.f
  have main : ∀ (d i f : Nat), i + d = x.size → f < 2 ^ 31 → Ev (fun k => impl_finger.l0 k x (f : Int) (x.size : Int) (i : Int)) (((((bl x).drop i).foldl fmore f : Nat)) : Int) := by
    intro d
    induction d with
    | zero =>
      intro i f hi hf
      rw [List.drop_eq_nil_of_le (by rw [bl_length]; omega)]
      exact Ev.step (f := fun _ => some (f : Int)) (fun k => by simp only [impl_finger.l0]; rw [if_neg (by omega)]) (Ev.now _)
    | succ d ih =>
      intro i f hi hf
      have hlt : i < (bl x).length := by rw [bl_length]; omega
      obtain ⟨hbt, hb⟩ := bt_w x i (by omega)
      rw [List.drop_eq_getElem_cons hlt, List.foldl_cons]
      generalize (bl x)[i] = b at hbt hb ⊢
      refine Ev.step (f := fun k => (impl_more.f k (f : Int) (b : Int)).bind fun t => impl_finger.l0 k x t (x.size : Int) ((i + 1 : Nat) : Int)) (fun k => ?_) (Ev.bind (ev_from 9 (more_ev f b hf hb)) (ih (i + 1) _ (by omega) (fmore_lt hf hb)))
      simp only [impl_finger.l0, hbt]
      rw [if_pos (by omega), if_pos (by omega), if_pos (by omega), w64 (by omega) (by omega)]
      rfl
  have := main x.size 0 0 (by omega) (by decide)
  rw [List.drop_zero] at this
  exact this
theorem finger_s (x : ByteArray) (hx : x.size ≤ 4611686018427387904) : Ev (fun k => spec_l06Of.f k x) ((fing (bl x) : Nat) : Int) := by
  unfold spec_l06Of.f
  have main : ∀ (d i f : Nat), i + d = x.size → f < 2 ^ 31 → Ev (fun k => spec_l06Of.l0 k x (f : Int) (i : Int)) (((((bl x).drop i).foldl fmore f : Nat)) : Int) := by
    intro d
    induction d with
    | zero =>
      intro i f hi hf
      rw [List.drop_eq_nil_of_le (by rw [bl_length]; omega)]
      exact Ev.step (f := fun _ => some (f : Int)) (fun k => by simp only [spec_l06Of.l0]; rw [if_neg (by omega)]) (Ev.now _)
    | succ d ih =>
      intro i f hi hf
      have hlt : i < (bl x).length := by rw [bl_length]; omega
      obtain ⟨hbt, hb⟩ := bt_w x i (by omega)
      rw [List.drop_eq_getElem_cons hlt, List.foldl_cons]
      generalize (bl x)[i] = b at hbt hb ⊢
      refine Ev.step (f := fun k => (spec_l06Shift.f k (f : Int) (b : Int)).bind fun t => spec_l06Of.l0 k x t ((i + 1 : Nat) : Int)) (fun k => ?_) (Ev.bind (ev_from 9 (shift_ev f b hf hb)) (ih (i + 1) _ (by omega) (fmore_lt hf hb)))
      simp only [spec_l06Of.l0, hbt]
      rw [if_pos (by omega), if_pos (by omega), w64 (by omega) (by omega)]
      rfl
  have := main x.size 0 0 (by omega) (by decide)
  rw [List.drop_zero] at this
  exact this
def it8 : Nat → Nat → Nat
  | 0, f => f
  | n + 1, f => it8 n (fm8 f)
theorem foldl_it8 (l : List Nat) : ∀ f, l.foldl (fun f _ => fm8 f) f = it8 l.length f := by
  induction l with
  | nil => intro f; rfl
  | cons a l ih => intro f; exact ih _
theorem it8_lt : ∀ (n f : Nat), f < 2 ^ 31 → it8 n f < 2 ^ 31
  | 0, _, h => h
  | n + 1, f, h => it8_lt n (fm8 f) (fm8_lt h)
/-- the window of the last sixteen bytes. -/
def wnd (l : List Nat) (i : Nat) : List Nat := (l.take i).drop (i - 16)
theorem wnd_more (l : List Nat) (i : Nat) (hi : i < l.length) (h16 : i < 16) : wnd l (i + 1) = wnd l i ++ [l[i]] := by
  unfold wnd
  rw [show i + 1 - 16 = 0 by omega, show i - 16 = 0 by omega, List.drop_zero, List.drop_zero, List.take_succ_eq_append_getElem hi]
theorem wnd_roll (l : List Nat) (i : Nat) (hi : i < l.length) (h16 : 16 ≤ i) : ∃ m, m.length = 15 ∧ wnd l i = l[i - 16] :: m ∧ wnd l (i + 1) = m ++ [l[i]] := by
  refine ⟨(l.take i).drop (i - 15), by rw [List.length_drop, List.length_take]; omega, ?_, ?_⟩
  · unfold wnd
    have hlt : i - 16 < (l.take i).length := by rw [List.length_take]; omega
    rw [List.drop_eq_getElem_cons hlt, List.getElem_take, show i - 16 + 1 = i - 15 by omega]
  · unfold wnd
    rw [show i + 1 - 16 = i - 15 by omega, List.take_succ_eq_append_getElem hi, List.drop_append_of_le_length (by rw [List.length_take]; omega)]
theorem wnd_lt (x : ByteArray) (i : Nat) : ∀ b ∈ wnd (bl x) i, b < 256 := fun b hb => bl_lt x b (List.mem_of_mem_take (List.mem_of_mem_drop hb))
theorem fing_more (l : List Nat) (b : Nat) : fing (l ++ [b]) = fmore (fing l) b := by
  unfold fing
  rw [List.foldl_append]
  rfl
theorem fing_roll (o i : Nat) (m : List Nat) (hm : m.length = 15) : fing (m ++ [i]) = fmore (fing (o :: m) ^^^ it8 15 o) i := by
  have := froll o i m (fing (o :: m)) rfl
  rw [foldl_it8, hm] at this
  exact this.symm
/-- the first place from n on at which P holds; else the last place. -/
def cutFrom (P : Nat → Bool) (most : Nat) : Nat → Nat → Nat
  | 0, _ => most
  | d + 1, n => if P n then n else cutFrom P most d (n + 1)
theorem cutFrom_range (P : Nat → Bool) (most : Nat) : ∀ d n, n + d = most → n ≤ cutFrom P most d n ∧ cutFrom P most d n ≤ most
  | 0, n, h => by unfold cutFrom; omega
  | d + 1, n, h => by
    unfold cutFrom
    have := cutFrom_range P most d (n + 1) (by omega)
    split <;> omega
/-- does a piece end here? -/
def ends (M : Int) (x : ByteArray) (n : Nat) : Bool := decide (Go.bits .and .i64 ((fing (wnd (bl x) n) : Nat) : Int) M = M)
def maskOf (bits : Int) : Int := wrap64 ((shl .i64 1 bits) - 1)
def cutN (mi bi ma : Int) (x : ByteArray) : Nat := if min ma.toNat x.size < mi.toNat then min ma.toNat x.size else cutFrom (ends (maskOf bi) x) (min ma.toNat x.size) (min ma.toNat x.size - mi.toNat) mi.toNat
def cRight (mi bi ma : Int) : Bool := (decide (16 ≤ mi) && decide (mi ≤ 1000)) && ((decide (0 ≤ bi) && decide (bi ≤ 12)) && (decide (mi ≤ ma) && decide (ma ≤ 2000)))
theorem cRight_i (mi bi ma : Int) : impl_CuttingRight.f mi bi ma = some (cRight mi bi ma) := by
  unfold impl_CuttingRight.f cRight
  simp only [within_eq, Option.bind_some]
  cases (decide (16 ≤ mi) && decide (mi ≤ 1000)) <;> cases (decide (0 ≤ bi) && decide (bi ≤ 12)) <;> simp
theorem cRight_s (mi bi ma : Int) : spec_CuttingRight.f mi bi ma = some (cRight mi bi ma) := by
  unfold spec_CuttingRight.f cRight
  by_cases h1 : mi ≥ 16 <;> by_cases h2 : mi ≤ 1000 <;> by_cases h3 : bi ≥ 0 <;> by_cases h4 : bi ≤ 12 <;> by_cases h5 : ma ≥ mi <;> simp [h1, h2, h3, h4, h5]
theorem cRight_get {mi bi ma : Int} (h : cRight mi bi ma = true) : 16 ≤ mi ∧ mi ≤ 1000 ∧ 0 ≤ bi ∧ bi ≤ 12 ∧ mi ≤ ma ∧ ma ≤ 2000 := by
  unfold cRight at h
  simp only [Bool.and_eq_true, decide_eq_true_eq] at h
  omega
theorem cutN_range {mi bi ma : Int} (h : cRight mi bi ma = true) (x : ByteArray) (h0 : 0 < x.size) : 1 ≤ cutN mi bi ma x ∧ cutN mi bi ma x ≤ x.size ∧ (cutN mi bi ma x : Int) ≤ ma ∧ (cutN mi bi ma x < x.size → mi ≤ (cutN mi bi ma x : Int)) := by
  obtain ⟨a1, a2, a3, a4, a5, a6⟩ := cRight_get h
  unfold cutN
  by_cases c : min ma.toNat x.size < mi.toNat
  · rw [if_pos c]; omega
  · rw [if_neg c]
    have := cutFrom_range (ends (maskOf bi) x) (min ma.toNat x.size) (min ma.toNat x.size - mi.toNat) mi.toNat (by omega)
    omega
theorem win_ex (x : ByteArray) (n : Nat) : bl (x.extract (n - 16) n) = wnd (bl x) n := bl_extract x (n - 16) n
theorem cut_i {mi bi ma : Int} (h : cRight mi bi ma = true) (x : ByteArray) (hx : x.size ≤ 20000) : Ev (fun k => impl_cutAt.f k mi bi ma x) (cutN mi bi ma x : Int) := by
  obtain ⟨a1, a2, a3, a4, a5, a6⟩ := cRight_get h
  refine ev_if_pos a3 (ev_bind1 rfl ?_)
  have em : mn ma (x.size : Int) = ((min ma.toNat x.size : Nat) : Int) := by unfold mn; omega
  rw [em]
  show Ev (fun k => impl_cutAt.l0 k x (maskOf bi) ((min ma.toNat x.size : Nat) : Int) mi) _
  generalize hM : min ma.toNat x.size = most
  obtain ⟨n0, rfl⟩ : ∃ n : Nat, mi = (n : Int) := ⟨mi.toNat, by omega⟩
  have step : ∀ (n : Nat) (hn : n ≤ most) (h16 : 16 ≤ n) (v : Int), (ends (maskOf bi) x n = true → (n : Int) = v) → (ends (maskOf bi) x n = false → Ev (fun k => impl_cutAt.l0 k x (maskOf bi) (most : Int) ((n + 1 : Nat) : Int)) v) → Ev (fun k => impl_cutAt.l0 k x (maskOf bi) (most : Int) (n : Int)) v := by
    intro n hn h16 v h1 h2
    have hfin := finger_i (x.extract (n - 16) n) (by rw [ByteArray.size_extract]; omega)
    rw [win_ex] at hfin
    have hn2 : n ≤ 20000 := by omega
    refine Ev.step (f := fun k => (impl_finger.f k (x.extract (n - 16) n)).bind fun t => (if (Go.bits .and .i64 t (maskOf bi)) = (maskOf bi) then (some (n : Int)) else (impl_cutAt.l0 k x (maskOf bi) (most : Int) ((n + 1 : Nat) : Int)))) (fun k => ?_) (Ev.bind hfin ?_)
    · simp only [impl_cutAt.l0, w_s16 n h16 hn2, w_succ n hn2, Int.toNat_natCast]
      rw [if_pos (by omega), if_pos (by omega), if_pos (by omega), if_pos (by omega)]
    · by_cases c : Go.bits .and .i64 ((fing (wnd (bl x) n) : Nat) : Int) (maskOf bi) = maskOf bi
      · exact ev_if_pos c (ev_eq (h1 (decide_eq_true c)))
      · exact ev_if_neg c (h2 (decide_eq_false c))
  have main : ∀ (d n : Nat), n + d = most → 16 ≤ n → Ev (fun k => impl_cutAt.l0 k x (maskOf bi) (most : Int) (n : Int)) ((cutFrom (ends (maskOf bi) x) most d n : Nat) : Int) := by
    intro d
    induction d with
    | zero =>
      intro n hn h16
      obtain rfl : n = most := by omega
      refine step n (Nat.le_refl _) h16 _ (fun _ => rfl) (fun _ => ?_)
      exact Ev.step (f := fun _ => some (n : Int)) (fun k => by simp only [impl_cutAt.l0]; rw [if_neg (by omega)]) (Ev.now _)
    | succ d ih =>
      intro n hn h16
      unfold cutFrom
      refine step n (by omega) h16 _ (fun q => by rw [if_pos q]) (fun q => ?_)
      rw [if_neg (by rw [q]; simp)]
      exact ih (n + 1) (by omega) (by omega)
  unfold cutN
  simp only [Int.toNat_natCast, hM]
  by_cases c : most < n0
  · rw [if_pos c]
    exact Ev.step (f := fun _ => some (most : Int)) (fun k => by simp only [impl_cutAt.l0]; rw [if_neg (by omega)]) (Ev.now _)
  · rw [if_neg c]
    exact main (most - n0) n0 (by omega) (by omega)
theorem out_s (o : Nat) (ho : o < 256) : Ev (fun k => spec_l06Out.f k (o : Int)) ((it8 15 o : Nat) : Int) := by
  unfold spec_l06Out.f
  have main : ∀ (d n g : Nat), n + d = 16 → g < 2 ^ 31 → Ev (fun k => spec_l06Out.l0 k (g : Int) (n : Int)) ((it8 d g : Nat) : Int) := by
    intro d
    induction d with
    | zero =>
      intro n g hn hg
      exact Ev.step (f := fun _ => some (g : Int)) (fun k => by simp only [spec_l06Out.l0]; rw [if_neg (by omega)]) (Ev.now _)
    | succ d ih =>
      intro n g hn hg
      refine Ev.step (f := fun k => (spec_l06Shift.f k (g : Int) ((0 : Nat) : Int)).bind fun t => spec_l06Out.l0 k t ((n + 1 : Nat) : Int)) (fun k => by simp only [spec_l06Out.l0]; rw [if_pos (by omega), w64 (by omega) (by omega)]; rfl) ?_
      refine Ev.bind (ev_from 9 (shift_ev g 0 hg (by decide))) ?_
      have e : fmore g 0 = fm8 g := by unfold fmore; rw [Nat.xor_zero]
      rw [e]
      exact ih (n + 1) (fm8 g) (by omega) (fm8_lt hg)
  exact main 15 1 o (by omega) (by omega)
theorem cut_s {mi bi ma : Int} (h : cRight mi bi ma = true) (x : ByteArray) (hx : x.size ≤ 20000) : Ev (fun k => spec_l06Cut.f k mi bi ma x) (cutN mi bi ma x : Int) := by
  obtain ⟨a1, a2, a3, a4, a5, a6⟩ := cRight_get h
  have em : spec_l01Min.f ma (x.size : Int) = some ((min ma.toNat x.size : Nat) : Int) := by
    unfold spec_l01Min.f
    by_cases c : ma < (x.size : Int)
    · rw [if_pos c]; congr 1; omega
    · rw [if_neg c]; congr 1; omega
  refine ev_bind1 em ?_
  have eb : IntKind.u64.wrap bi = bi := by simp only [IntKind.wrap_u64]; omega
  rw [eb]
  unfold cutN
  generalize hM : min ma.toNat x.size = most
  obtain ⟨n0, rfl⟩ : ∃ n : Nat, mi = (n : Int) := ⟨mi.toNat, by omega⟩
  simp only [Int.toNat_natCast]
  by_cases c : most < n0
  · rw [if_pos c]
    exact ev_if_pos (by omega) (Ev.now _)
  · rw [if_neg c]
    rw [w_s16 n0 (by omega) (by omega)]
    simp only [Int.toNat_natCast]
    refine ev_if_neg (by omega) (ev_if_pos (by omega) (ev_if_pos (by omega) (ev_if_pos (by omega) (ev_if_pos (by omega) ?_))))
    have hfin := finger_s (x.extract (n0 - 16) n0) (by rw [ByteArray.size_extract]; omega)
    rw [win_ex] at hfin
    refine Ev.bind hfin ?_
    show Ev (fun k => spec_l06Cut.l0 k x (most : Int) (maskOf bi) ((fing (wnd (bl x) n0) : Nat) : Int) (n0 : Int)) _
    have main : ∀ (d n : Nat), n + d = most → 16 ≤ n → Ev (fun k => spec_l06Cut.l0 k x (most : Int) (maskOf bi) ((fing (wnd (bl x) n) : Nat) : Int) (n : Int)) ((cutFrom (ends (maskOf bi) x) most d n : Nat) : Int) := by
      intro d
      induction d with
      | zero =>
        intro n hn h16
        obtain rfl : n = most := by omega
        exact Ev.step (f := fun _ => some (n : Int)) (fun k => by simp only [spec_l06Cut.l0]; rw [if_neg (by omega)]) (Ev.now _)
      | succ d ih =>
        intro n hn h16
        unfold cutFrom
        by_cases ce : ends (maskOf bi) x n = true
        · rw [if_pos ce]
          refine Ev.step (f := fun _ => some (n : Int)) (fun k => ?_) (Ev.now _)
          simp only [spec_l06Cut.l0]
          rw [if_pos (by omega), if_pos (of_decide_eq_true ce)]
        · rw [if_neg ce]
          have hnx : n < x.size := by omega
          have hlt : n < (bl x).length := by rw [bl_length]; omega
          have hg := fing_lt (wnd (bl x) n) (wnd_lt x n)
          obtain ⟨hbt, hb⟩ := bt_w x n hnx
          obtain ⟨hbt2, hb2⟩ := bt_w x (n - 16) (by omega)
          obtain ⟨m, hm, hw1, hw2⟩ := wnd_roll (bl x) n hlt h16
          have hnext := ih (n + 1) (by omega) (by omega)
          have hn2 : n ≤ 20000 := by omega
          have hce : ¬ Go.bits .and .i64 ((fing (wnd (bl x) n) : Nat) : Int) (maskOf bi) = maskOf bi := fun q => ce (decide_eq_true q)
          rw [hw2] at hnext
          rw [hw1] at hg hce ⊢
          generalize (bl x)[n] = b at hbt hb hnext
          generalize (bl x)[n - 16] = o at hbt2 hb2 hg hce ⊢
          rw [fing_roll o b m hm] at hnext
          have ho := it8_lt 15 o (by omega)
          refine Ev.step (f := fun k => (spec_l06Out.f k (o : Int)).bind fun t => (spec_l06Shift.f k (Go.bits .xor .i64 ((fing (o :: m) : Nat) : Int) t) (b : Int)).bind fun t2 => spec_l06Cut.l0 k x (most : Int) (maskOf bi) t2 ((n + 1 : Nat) : Int)) (fun k => ?_) (Ev.bind (out_s o hb2) ?_)
          · simp only [spec_l06Cut.l0, w_s16 n h16 hn2, w_succ n hn2, hbt, hbt2]
            rw [if_pos (by omega), if_neg hce, if_pos (by omega), if_pos (by omega)]
            cases spec_l06Out.f k (o : Int) with
            | none => rfl
            | some t =>
              simp only [Option.bind_some]
              rw [if_pos (by omega), if_pos (by omega)]
          · rw [i64_xor_nat _ _ (by omega) (by omega)]
            exact Ev.bind (ev_from 9 (shift_ev _ b (xor_lt31 hg ho) hb)) hnext
    exact main (most - n0) n0 (by omega) (by omega)
/-- the pieces of a text. -/
def pcs (cut : ByteArray → Nat) : Nat → ByteArray → List ByteArray
  | 0, _ => []
  | d + 1, x => if x.size = 0 then [] else x.extract 0 (cut x) :: pcs cut d (x.extract (cut x) x.size)
theorem ex_size (x : ByteArray) (n : Nat) (h : n ≤ x.size) : (x.extract n x.size).size = x.size - n := by
  rw [ByteArray.size_extract]; omega
theorem pcs_fuel (cut : ByteArray → Nat) (hc : ∀ x : ByteArray, 0 < x.size → 1 ≤ cut x ∧ cut x ≤ x.size) : ∀ (d e : Nat) (x : ByteArray), x.size ≤ d → x.size ≤ e → pcs cut d x = pcs cut e x := by
  intro d
  induction d with
  | zero =>
    intro e x hd _
    cases e with
    | zero => rfl
    | succ e => unfold pcs; rw [if_pos (by omega)]
  | succ d ih =>
    intro e x hd he
    by_cases h0 : x.size = 0
    · cases e with
      | zero => unfold pcs; rw [if_pos h0]
      | succ e => unfold pcs; rw [if_pos h0, if_pos h0]
    · cases e with
      | zero => omega
      | succ e =>
        have := hc x (by omega)
        unfold pcs
        rw [if_neg h0, if_neg h0, ih e _ (by rw [ex_size x _ this.2]; omega) (by rw [ex_size x _ this.2]; omega)]
theorem empty_iff (x : ByteArray) : x.toList = ([] : List UInt8) ↔ x.size = 0 := by
  rw [ByteArray.toList_eq]
  constructor
  · intro h
    have := congrArg List.length h
    rw [data_length] at this
    simpa using this
  · intro h
    exact List.eq_nil_of_length_eq_zero (by rw [data_length]; exact h)
theorem pieces_i {mi bi ma : Int} (h : cRight mi bi ma = true) (x : ByteArray) (hx : x.size ≤ 20000) : Ev (fun k => impl_pieces.f k mi bi ma x) (pcs (cutN mi bi ma) x.size x) := by
  unfold impl_pieces.f
  have main : ∀ (d : Nat) (y : ByteArray) (acc : List ByteArray), y.size ≤ d → d ≤ 20000 → acc.length + d ≤ 20000 → Ev (fun k => impl_pieces.l0 k y acc mi bi ma) (acc ++ pcs (cutN mi bi ma) d y) := by
    intro d
    induction d with
    | zero =>
      intro y acc hy _ _
      refine Ev.step (f := fun _ => some acc) (fun k => ?_) (ev_eq (by unfold pcs; simp))
      simp only [impl_pieces.l0]
      rw [if_pos ((empty_iff y).2 (by omega))]
    | succ d ih =>
      intro y acc hy hd ha
      unfold pcs
      by_cases h0 : y.size = 0
      · rw [if_pos h0]
        refine Ev.step (f := fun _ => some acc) (fun k => ?_) (ev_eq (by simp))
        simp only [impl_pieces.l0]
        rw [if_pos ((empty_iff y).2 h0)]
      · rw [if_neg h0]
        obtain ⟨c1, c2, _, _⟩ := cutN_range h y (by omega)
        have hr := ih (y.extract (cutN mi bi ma y) y.size) (acc ++ [y.extract 0 (cutN mi bi ma y)]) (by rw [ex_size y _ c2]; omega) (by omega) (by simp; omega)
        rw [List.append_assoc, List.singleton_append] at hr
        have hcut := cut_i h y (by omega)
        generalize cutN mi bi ma y = c at c1 c2 hr hcut ⊢
        refine Ev.step (f := fun k => (impl_cutAt.f k mi bi ma y).bind fun t219 => (if 0 ≤ t219 then (if t219 ≤ (y.size : Int) then (if acc.length < 8796093022208 then (impl_pieces.l0 k (y.extract (t219 : Int).toNat y.size) (acc ++ [y.extract 0 (t219 : Int).toNat]) mi bi ma) else (none)) else (none)) else (none))) (fun k => ?_) (Ev.bind hcut (ev_if_pos (by omega) (ev_if_pos (by omega) (ev_if_pos (by omega) ?_))))
        · simp only [impl_pieces.l0]
          rw [if_neg (fun q => h0 ((empty_iff y).1 q))]
        · simp only [Int.toNat_natCast]
          exact hr
  have := main x.size x [] (Nat.le_refl _) hx (by simpa using hx)
  rwa [List.nil_append] at this
theorem pieces_s {mi bi ma : Int} (h : cRight mi bi ma = true) (x : ByteArray) (hx : x.size ≤ 20000) : Ev (fun k => spec_l06Pieces.f k mi bi ma x) (pcs (cutN mi bi ma) x.size x) := by
  unfold spec_l06Pieces.f
  have main : ∀ (d : Nat) (y : ByteArray) (acc : List ByteArray), y.size ≤ d → d ≤ 20000 → acc.length + d ≤ 20000 → Ev (fun k => spec_l06Pieces.l0 k y acc mi bi ma) (acc ++ pcs (cutN mi bi ma) d y) := by
    intro d
    induction d with
    | zero =>
      intro y acc hy _ _
      refine Ev.step (f := fun _ => some acc) (fun k => ?_) (ev_eq (by unfold pcs; simp))
      simp only [spec_l06Pieces.l0]
      rw [if_neg (by omega)]
    | succ d ih =>
      intro y acc hy hd ha
      unfold pcs
      by_cases h0 : y.size = 0
      · rw [if_pos h0]
        refine Ev.step (f := fun _ => some acc) (fun k => ?_) (ev_eq (by simp))
        simp only [spec_l06Pieces.l0]
        rw [if_neg (by omega)]
      · rw [if_neg h0]
        obtain ⟨c1, c2, _, _⟩ := cutN_range h y (by omega)
        have hr := ih (y.extract (cutN mi bi ma y) y.size) (acc ++ [y.extract 0 (cutN mi bi ma y)]) (by rw [ex_size y _ c2]; omega) (by omega) (by simp; omega)
        rw [List.append_assoc, List.singleton_append] at hr
        have hcut := cut_s h y (by omega)
        generalize cutN mi bi ma y = c at c1 c2 hr hcut ⊢
        refine Ev.step (f := fun k => (spec_l06Cut.f k mi bi ma y).bind fun t219 => (if 0 ≤ t219 then (if t219 ≤ (y.size : Int) then (if acc.length < 8796093022208 then (spec_l06Pieces.l0 k (y.extract (t219 : Int).toNat y.size) (acc ++ [y.extract 0 (t219 : Int).toNat]) mi bi ma) else (none)) else (none)) else (none))) (fun k => ?_) (Ev.bind hcut (ev_if_pos (by omega) (ev_if_pos (by omega) (ev_if_pos (by omega) ?_))))
        · simp only [spec_l06Pieces.l0]
          rw [if_pos (by omega)]
        · simp only [Int.toNat_natCast]
          exact hr
  have := main x.size x [] (Nat.le_refl _) hx (by simpa using hx)
  rwa [List.nil_append] at this
theorem lwAt_ok (l : List Int) (n : Int) (hn : 0 < n) : ∃ v, laws_lwAt.f l 0 n = some v := by
  unfold laws_lwAt.f
  by_cases h1 : n ≤ 1
  · exact ⟨0, by rw [if_pos h1]⟩
  rw [if_neg h1]
  by_cases h2 : (l.length : Int) = 0
  · exact ⟨0, by rw [if_pos h2]⟩
  rw [if_neg h2, Int.zero_tmod, if_pos (by omega), if_pos (by omega), if_neg (by omega)]
  exact ⟨_, rfl⟩
theorem Pieces_i (mi bi ma : Int) (x : ByteArray) (hx : x.size ≤ 20000) : Ev (fun k => impl_Pieces.f k mi bi ma x) (if cRight mi bi ma = true then pcs (cutN mi bi ma) x.size x else []) := by
  refine ev_bind1 (a := decide ((x.size : Int) > 20000)) rfl (ev_if_neg (by simp; omega) (ev_bind1 (cRight_i mi bi ma) ?_))
  by_cases h : cRight mi bi ma = true
  · rw [if_pos h]
    exact ev_if_pos h (Ev.bind (pieces_i h x hx) (Ev.now _))
  · rw [if_neg h]
    exact ev_if_neg h (Ev.now _)
theorem Pieces_s (mi bi ma : Int) (x : ByteArray) (hx : x.size ≤ 20000) : Ev (fun k => spec_Pieces.f k mi bi ma x) (if cRight mi bi ma = true then pcs (cutN mi bi ma) x.size x else []) := by
  refine ev_if_neg (by omega) (ev_bind1 (cRight_s mi bi ma) ?_)
  by_cases h : cRight mi bi ma = true
  · rw [if_pos h]
    exact ev_if_pos h (Ev.bind (pieces_s h x hx) (Ev.now _))
  · rw [if_neg h]
    exact ev_if_neg h (Ev.now _)
theorem CutAt_i {mi bi ma : Int} (h : cRight mi bi ma = true) (x : ByteArray) (hx : x.size ≤ 20000) : Ev (fun k => impl_CutAt.f k mi bi ma x) (cutN mi bi ma x : Int) :=
  ev_bind1 (a := decide ((x.size : Int) > 20000)) rfl (ev_if_neg (by simp; omega) (ev_bind1 (cRight_i mi bi ma) (ev_if_pos h (Ev.bind (cut_i h x hx) (Ev.now _)))))
theorem rdB (l : List ByteArray) (i : Nat) (h : i < l.length) : rdOf ByteArray.empty l (i : Int) = l[i] := by simp [rdOf, h]
theorem pcs_nil (cut : ByteArray → Nat) (r : ByteArray) (h : pcs cut r.size r = []) : r.size = 0 := by
  cases hs : r.size with
  | zero => rfl
  | succ d =>
    rw [hs] at h
    unfold pcs at h
    rw [if_neg (by omega)] at h
    cases h
theorem pcs_cons (cut : ByteArray → Nat) (hc : ∀ x : ByteArray, 0 < x.size → 1 ≤ cut x ∧ cut x ≤ x.size) (r : ByteArray) (a : ByteArray) (l : List ByteArray) (h : pcs cut r.size r = a :: l) : 0 < r.size ∧ a = r.extract 0 (cut r) ∧ l = pcs cut (r.extract (cut r) r.size).size (r.extract (cut r) r.size) := by
  cases hs : r.size with
  | zero =>
    rw [hs] at h
    unfold pcs at h
    cases h
  | succ d =>
    have hr := hc r (by omega)
    rw [hs] at h
    unfold pcs at h
    rw [if_neg (by omega)] at h
    obtain ⟨h1, h2⟩ := List.cons.inj h
    refine ⟨by omega, h1.symm, h2.symm.trans ?_⟩
    rw [hs]
    have e := ex_size r (cut r) hr.2
    rw [hs] at e
    exact pcs_fuel cut hc _ _ _ (by omega) (Nat.le_refl _)
theorem law_l1 (P : List ByteArray) (kk : Int) (r : ByteArray) (i : Nat) (c : Nat) (mi bi ma : Int) (hP : P.length ≤ 20000) (hi : i < P.length) (hc : c ≤ r.size) (hnext : Ev (fun k => laws_FnPieces.l0 k P kk (r.extract c r.size) ((i + 1 : Nat) : Int) mi bi ma) true) :
    ∀ (e j : Nat), j + e = (P.drop i).length → Ev (fun k => laws_FnPieces.l1 k P kk r (i : Int) (c : Int) (P.drop i) (j : Int) mi bi ma) true := by
  have hlen : (P.drop i).length = P.length - i := List.length_drop
  intro e
  induction e with
  | zero =>
    intro j hj
    refine Ev.step (fun k => ?_) hnext
    simp only [laws_FnPieces.l1, Int.toNat_natCast, w_succ i (by omega)]
    rw [if_neg (by omega), if_pos (by omega), if_pos (by omega)]
  | succ e ih =>
    intro j hj
    have hr := ih (j + 1) (by omega)
    refine Ev.step (fun k => ?_) hr
    have e1 : wrap64 ((i : Int) + (j : Int)) = ((i + j : Nat) : Int) := by rw [w64 (by omega) (by omega)]; omega
    simp only [laws_FnPieces.l1, e1, w_succ j (by omega), rdB (P.drop i) j (by omega), rdB P (i + j) (by omega), List.getElem_drop]
    clear e1
    rw [if_pos (by omega), if_pos (by omega), if_pos (by omega), if_pos (by omega), if_pos trivial]
set_option maxHeartbeats 1000000 in
theorem law_l0 {mi bi ma : Int} (h : cRight mi bi ma = true) (P : List ByteArray) (kk : Int) (hPl : P.length ≤ 20000) : ∀ (d i : Nat) (r : ByteArray), i + d = P.length → P.drop i = pcs (cutN mi bi ma) r.size r → r.size ≤ 20000 → Ev (fun k => laws_FnPieces.l0 k P kk r (i : Int) mi bi ma) true := by
  have hcut : ∀ x : ByteArray, 0 < x.size → 1 ≤ cutN mi bi ma x ∧ cutN mi bi ma x ≤ x.size := fun x hx => ⟨(cutN_range h x hx).1, (cutN_range h x hx).2.1⟩
  intro d
  induction d with
  | zero =>
    intro i r hi hp hr
    rw [List.drop_eq_nil_of_le (by omega)] at hp
    have h0 := pcs_nil _ r hp.symm
    refine Ev.step (f := fun _ => some (r.toList == ([] : List UInt8))) (fun k => by simp only [laws_FnPieces.l0]; rw [if_neg (by omega)]) (ev_eq ?_)
    rw [(empty_iff r).2 h0]
    rfl
  | succ d ih =>
    intro i r hi hp hr
    have hlt : i < P.length := by omega
    rw [List.drop_eq_getElem_cons hlt] at hp
    obtain ⟨hr0, hPi, hdrop⟩ := pcs_cons _ hcut r _ _ hp.symm
    obtain ⟨c1, c2, c3, c4⟩ := cutN_range h r hr0
    have hC := CutAt_i h r hr
    have hPc := Pieces_i mi bi ma r hr
    rw [if_pos h, ← hp, ← List.drop_eq_getElem_cons hlt] at hPc
    have hlast : i + 1 < P.length → cutN mi bi ma r < r.size := by
      intro q
      by_cases z : cutN mi bi ma r < r.size
      · exact z
      · have hz : (r.extract (cutN mi bi ma r) r.size).size = 0 := by rw [ex_size r _ c2]; omega
        rw [hz] at hdrop
        have := congrArg List.length hdrop
        rw [List.length_drop] at this
        unfold pcs at this
        simp only [List.length_nil] at this
        omega
    have hnext := ih (i + 1) (r.extract (cutN mi bi ma r) r.size) (by omega) hdrop (by rw [ex_size r _ c2]; omega)
    have hszc : (r.extract 0 (cutN mi bi ma r)).size = cutN mi bi ma r := extract_size r _ c2
    clear hp hdrop ih
    generalize cutN mi bi ma r = c at *
    have hj2 : Ev (fun k => laws_FnPieces.j2 k P kk r (i : Int) (c : Int) false mi bi ma) true := by
      by_cases hk : (i : Int) = kk
      · refine Ev.step (f := fun k => (impl_Pieces.f k mi bi ma r).bind fun t277 => (if (t277.length : Int) = (wrap64 ((P.length : Int) - (i : Int))) then (laws_FnPieces.l1 k P kk r (i : Int) (c : Int) t277 0 mi bi ma) else (some false))) (fun k => by simp only [laws_FnPieces.j2]; rw [if_neg (by simp), if_pos hk]) ?_
        refine Ev.bind hPc (ev_if_pos ?_ (law_l1 P kk r i c mi bi ma hPl hlt c2 hnext (P.drop i).length 0 (by omega)))
        rw [List.length_drop, w64 (by omega) (by omega)]
        omega
      · refine Ev.step (fun k => ?_) hnext
        simp only [laws_FnPieces.j2, Int.toNat_natCast, w_succ i (by omega)]
        rw [if_neg (by simp), if_neg hk, if_pos (by omega), if_pos (by omega)]
    refine Ev.step (f := fun k => (impl_CutAt.f k mi bi ma r).bind fun t => laws_FnPieces.j2 k P kk r (i : Int) (c : Int) (t != (c : Int)) mi bi ma) (fun k => ?_) (Ev.bind hC (by rw [show ((c : Int) != (c : Int)) = false by simp]; exact hj2))
    simp only [laws_FnPieces.l0, rdB P i hlt, hPi, hszc, Int.toNat_natCast, w_succ i (show i ≤ 20000 by omega)]
    rw [if_pos (by omega), if_pos (by omega), if_neg (by omega), if_pos (by omega), if_pos (by omega), if_pos trivial, if_neg (by omega), if_neg (by omega)]
    by_cases q : i + 1 < P.length
    · have := c4 (hlast q)
      rw [if_pos (by omega), if_neg (by omega)]
    · rw [if_neg (by omega)]
theorem pcs_length (cut : ByteArray → Nat) : ∀ (d : Nat) (x : ByteArray), (pcs cut d x).length ≤ d
  | 0, _ => by unfold pcs; simp
  | d + 1, x => by
    unfold pcs
    by_cases h : x.size = 0
    · rw [if_pos h]; simp
    · rw [if_neg h]
      have := pcs_length cut d (x.extract (cut x) x.size)
      simp only [List.length_cons]
      omega
theorem FnPieces : laws_FnPieces.Pure := by
  intro l0 l1 _ _ _ _ _ _
  refine Ev.rounds (g := fun k => laws_FnPieces.f k l0 l1) (Evs.ev ?_)
  have out : Evs (fun k => laws_FnPieces.j0 k l0 l1 true) (fun x => x = true) := ⟨true, Ev.step (f := fun _ => some true) (fun k => by simp only [laws_FnPieces.j0]; rw [if_pos trivial]) (Ev.now _), rfl⟩
  unfold laws_FnPieces.f
  refine Evs.ite (fun _ => out) (fun hl0 => ?_)
  by_cases hl1 : (l1.length : Int) > 1048576
  · rw [decide_eq_true hl1]; exact out
  rw [decide_eq_false hl1]
  have hd : Evs (fun k => spec_DrawPieces.f k l0) (fun r => r.2.2.2.size ≤ 900) := by
    unfold spec_DrawPieces.f spec_DrawCutAt.f
    refine Evs.bind (Q := fun r => r.2.2.2.size ≤ 900) (Evs.bind (src_ok l0 (by omega)) (fun r hr => ?_)) (fun r hr => Evs.now _ hr)
    obtain ⟨b, q, m, z⟩ := r
    obtain ⟨rfl, hs, hz⟩ := hr
    obtain ⟨c1, c2, c3, q1, m1, hc, hs1⟩ := cutting_ok b q m z hs
    exact Evs.bind1 hc (Evs.bind (text6_ok b q1 m1 z hs1 hz) (fun r hr => Evs.now _ hr))
  obtain ⟨⟨mi, bi, ma, t⟩, hD, ht⟩ := hd
  simp only at ht
  have hi := Pieces_i mi bi ma t (by omega)
  have hs := Pieces_s mi bi ma t (by omega)
  refine ⟨true, ?_, rfl⟩
  refine Ev.step (f := fun k => (spec_DrawPieces.f k l0).bind fun bt261 => ((impl_Pieces.f k bt261.1 bt261.2.1 bt261.2.2.1 bt261.2.2.2).bind fun t266 => ((spec_Pieces.f k bt261.1 bt261.2.1 bt261.2.2.1 bt261.2.2.2).bind fun t269 => (if (t266.length : Int) = (t269.length : Int) then (if (t269.length : Int) = 0 then (some true) else ((laws_lwAt.f l1 0 (t266.length : Int)).bind fun t272 => (laws_FnPieces.l0 k t266 t272 bt261.2.2.2 0 bt261.1 bt261.2.1 bt261.2.2.1))) else (some false))))) (fun k => by simp only [laws_FnPieces.j0]; rw [if_neg (by simp)]) ?_
  refine Ev.bind hD (Ev.bind hi (Ev.bind hs (ev_if_pos rfl ?_)))
  by_cases h : cRight mi bi ma = true
  · rw [if_pos h]
    have hlen := pcs_length (cutN mi bi ma) t.size t
    by_cases h0 : ((pcs (cutN mi bi ma) t.size t).length : Int) = 0
    · exact ev_if_pos h0 (Ev.now _)
    · obtain ⟨v, hv⟩ := lwAt_ok l1 ((pcs (cutN mi bi ma) t.size t).length : Int) (by omega)
      refine ev_if_neg h0 (ev_bind1 hv ?_)
      exact law_l0 h _ v (by omega) (pcs (cutN mi bi ma) t.size t).length 0 t (by omega) (by rw [List.drop_zero]) (by omega)
  · rw [if_neg h]
    exact ev_if_pos rfl (Ev.now _)
end Go.Proofs.Yteljfdhjbnlgoaa.Pure
