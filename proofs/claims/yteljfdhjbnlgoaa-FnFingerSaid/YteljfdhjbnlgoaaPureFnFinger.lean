/- The plain law of FnFinger: a finger that rolls over a drawn text is that of the last bytes, at each place. -/
import Derived.Test.YteljfdhjbnlgoaaPFnFingerx4
import Derived.Test.YteljfdhjbnlgoaaLib
namespace Go.Proofs.Yteljfdhjbnlgoaa.Pure
open Go.RowKit Go.Proofs.Yteljfdhjbnlgoaa.PFnFinger Go.Proofs.Yteljfdhjbnlgoaa.Lib Go.Proofs.YteljfdhjbnlgoaaW.PrintWords Go.Proofs.YteljfdhjbnlgoaaW.PrintLast Go.Proofs.YteljfdhjbnlgoaaW.PrintMore
set_option linter.unusedVariables false
set_option linter.unusedSimpArgs false
/-- a source that stands right. -/
def St (b : List Int) (q m : Int) : Prop := 0 ≤ q ∧ q ≤ (b.length : Int) ∧ b.length ≤ 1048576 ∧ 0 ≤ m ∧ m < 18446744073709551616
theorem bits_u64 (op : BinOp) (x y : Int) : 0 ≤ Go.bits op .u64 x y ∧ Go.bits op .u64 x y < 18446744073709551616 := by
  simp only [Go.bits, IntKind.wrap_u64]
  omega
theorem pick_most (v most : Int) (h1 : 1 < most) (h2 : most ≤ 9223372036854775807) : 0 ≤ wrap64 (Int.tmod (IntKind.u64.wrap v) (IntKind.u64.wrap most)) ∧ wrap64 (Int.tmod (IntKind.u64.wrap v) (IntKind.u64.wrap most)) < most ∧ IntKind.u64.wrap most ≠ 0 := by
  simp only [IntKind.wrap_u64]
  have e : most % 18446744073709551616 = most := by omega
  rw [e, Int.tmod_eq_emod_of_nonneg (by omega)]
  have a := Int.emod_nonneg (v % 18446744073709551616) (show most ≠ 0 by omega)
  have b := Int.emod_lt_of_pos (v % 18446744073709551616) (show 0 < most by omega)
  rw [w64 (by omega) (by omega)]
  omega
theorem n_ok (b : List Int) (q m z most : Int) (h : St b q m) (h1 : 1 ≤ most) (h2 : most ≤ 9223372036854775807) : ∃ v q' m', spec_l01Src_n.f b q m z most = some (v, q', m', z) ∧ 0 ≤ v ∧ v < most ∧ St b q' m' := by
  obtain ⟨a1, a2, a3, a4, a5⟩ := h
  unfold spec_l01Src_n.f
  by_cases c : most ≤ 1
  · rw [if_pos c]
    exact ⟨0, q, m, rfl, by omega, by omega, a1, a2, a3, a4, a5⟩
  · rw [if_neg c]
    have hm := bits_u64 .xor (Go.bits .xor .u64 (Go.bits .xor .u64 m (IntKind.u64.wrap (m * 8192))) ((Go.bits .xor .u64 m (IntKind.u64.wrap (m * 8192))) / 128)) (IntKind.u64.wrap ((Go.bits .xor .u64 (Go.bits .xor .u64 m (IntKind.u64.wrap (m * 8192))) ((Go.bits .xor .u64 m (IntKind.u64.wrap (m * 8192))) / 128)) * 131072))
    generalize Go.bits .xor .u64 (Go.bits .xor .u64 (Go.bits .xor .u64 m (IntKind.u64.wrap (m * 8192))) ((Go.bits .xor .u64 m (IntKind.u64.wrap (m * 8192))) / 128)) (IntKind.u64.wrap ((Go.bits .xor .u64 (Go.bits .xor .u64 m (IntKind.u64.wrap (m * 8192))) ((Go.bits .xor .u64 m (IntKind.u64.wrap (m * 8192))) / 128)) * 131072)) = m3 at hm ⊢
    by_cases c2 : q < (b.length : Int)
    · obtain ⟨p1, p2, p3⟩ := pick_most (IntKind.u64.wrap (rd b q) + m3 / 1048576) most (by omega) h2
      rw [if_pos c2, if_pos a1, if_neg p3]
      exact ⟨_, _, _, rfl, p1, p2, by rw [w64 (by omega) (by omega)]; omega, by rw [w64 (by omega) (by omega)]; omega, a3, hm.1, hm.2⟩
    · obtain ⟨p1, p2, p3⟩ := pick_most (0 + m3 / 1048576) most (by omega) h2
      rw [if_neg c2, if_neg p3]
      exact ⟨_, _, _, rfl, p1, p2, a1, a2, a3, hm.1, hm.2⟩
theorem src_ok (l : List Int) (hl : l.length ≤ 1048576) : Evs (fun k => spec_l01Source.f k l) (fun r => r.1 = l ∧ St l r.2.1 r.2.2.1 ∧ 0 ≤ r.2.2.2 ∧ r.2.2.2 ≤ 12) := by
  have stop : ∀ (m : Int), 0 ≤ m → m < 18446744073709551616 → ∀ q, q = (if (wrap64 ((l.length : Int) / 20)) > 12 then (some (l, (0 : Int), m, (12 : Int))) else (some (l, 0, m, wrap64 ((l.length : Int) / 20)))) → ∃ r, q = some r ∧ r.1 = l ∧ St l r.2.1 r.2.2.1 ∧ 0 ≤ r.2.2.2 ∧ r.2.2.2 ≤ 12 := by
    intro m h0 h1 q hq
    subst hq
    rw [w64 (n := (l.length : Int) / 20) (by omega) (by omega)]
    by_cases c : (l.length : Int) / 20 > 12
    · rw [if_pos c]
      exact ⟨_, rfl, rfl, ⟨Int.le_refl _, by simp, hl, h0, h1⟩, by simp, by simp⟩
    · rw [if_neg c]
      exact ⟨_, rfl, rfl, ⟨Int.le_refl _, by simp, hl, h0, h1⟩, by simp only; omega, by simp only; omega⟩
  unfold spec_l01Source.f
  have main : ∀ (d i : Nat) (m : Int), i + d = 65 → 0 ≤ m → m < 18446744073709551616 → Evs (fun k => spec_l01Source.l0 k l (i : Int) l 0 m 0) (fun r => r.1 = l ∧ St l r.2.1 r.2.2.1 ∧ 0 ≤ r.2.2.2 ∧ r.2.2.2 ≤ 12) := by
    intro d
    induction d with
    | zero =>
      intro i m hi h0 h1
      obtain ⟨r, hr, hp⟩ := stop m h0 h1 _ rfl
      refine ⟨r, Ev.step (f := fun _ => some r) (fun k => ?_) (Ev.now _), hp⟩
      simp only [spec_l01Source.l0]
      by_cases c : (i : Int) < (l.length : Int)
      · rw [if_pos c, if_neg (by omega)]; exact hr
      · rw [if_neg c]; exact hr
    | succ d ih =>
      intro i m hi h0 h1
      by_cases c : (i : Int) < (l.length : Int) ∧ (i : Int) < 64
      · obtain ⟨v, hv, hp⟩ := ih (i + 1) (IntKind.u64.wrap ((Go.bits .xor .u64 m (IntKind.u64.wrap (rd l i))) * 1099511628211)) (by omega) (by simp only [IntKind.wrap_u64]; omega) (by simp only [IntKind.wrap_u64]; omega)
        refine ⟨v, Ev.step (fun k => ?_) hv, hp⟩
        simp only [spec_l01Source.l0]
        rw [if_pos c.1, if_pos c.2, if_pos (by omega), w64 (by omega) (by omega)]
        rfl
      · obtain ⟨r, hr, hp⟩ := stop m h0 h1 _ rfl
        refine ⟨r, Ev.step (f := fun _ => some r) (fun k => ?_) (Ev.now _), hp⟩
        simp only [spec_l01Source.l0]
        by_cases c1 : (i : Int) < (l.length : Int)
        · rw [if_pos c1, if_neg (fun q => c ⟨c1, q⟩)]; exact hr
        · rw [if_neg c1]; exact hr
  exact main 65 0 88172645463325252 rfl (by decide) (by decide)
theorem strOfNums_len (l : List Int) : (strOfNums l).size = l.length := by simp [strOfNums, ByteArray.size]
theorem bytes_ok (b : List Int) (z : Int) (n : Nat) (hn : n ≤ 1048576) : ∀ (d i : Nat) (acc : List Int) (q m : Int), i + d = n → acc.length = i → St b q m → Evs (fun k => spec_l01Src_bytes.l0 k (n : Int) acc (i : Int) b q m z) (fun r => r.1.size = n ∧ St b r.2.1 r.2.2.1 ∧ r.2.2.2 = z) := by
  intro d
  induction d with
  | zero =>
    intro i acc q m hi ha hs
    refine ⟨(strOfNums acc, q, m, z), Ev.step (f := fun _ => some (strOfNums acc, q, m, z)) (fun k => ?_) (Ev.now _), ?_, hs, rfl⟩
    · simp only [spec_l01Src_bytes.l0]
      rw [if_neg (by omega)]
    · show (strOfNums acc).size = n
      rw [strOfNums_len]; omega
  | succ d ih =>
    intro i acc q m hi ha hs
    obtain ⟨v, q', m', hv, _, _, hs'⟩ := n_ok b q m z 256 hs (by decide) (by decide)
    obtain ⟨r, hr, hp⟩ := ih (i + 1) (acc ++ [v % 256]) q' m' (by omega) (by simp; omega) hs'
    refine ⟨r, Ev.step (fun k => ?_) hr, hp⟩
    simp only [spec_l01Src_bytes.l0, hv, Option.bind_some]
    rw [if_pos (by omega), if_pos (by omega), w64 (by omega) (by omega)]
    rfl
theorem bytesN_ok (b : List Int) (q m z n : Int) (h0 : 0 ≤ n) (hn : n ≤ 1048576) (hs : St b q m) : Evs (fun k => spec_l01Src_bytes.f k b q m z n) (fun r => (r.1.size : Int) = n ∧ St b r.2.1 r.2.2.1 ∧ r.2.2.2 = z) := by
  obtain ⟨n, rfl⟩ : ∃ k : Nat, n = (k : Int) := ⟨n.toNat, by omega⟩
  exact (bytes_ok b z n (by omega) n 0 [] q m (by omega) rfl hs).mono (fun r h => ⟨by rw [h.1], h.2⟩)
theorem within_eq (a b c : Int) : impl_within.f a b c = some (decide (b ≤ a) && decide (a ≤ c)) := by
  unfold impl_within.f
  by_cases h : a ≥ b <;> simp [h]
theorem xor_left_comm' (a b c : Nat) : a ^^^ (b ^^^ c) = b ^^^ (a ^^^ c) := by
  rw [← Nat.xor_assoc, Nat.xor_comm a b, Nat.xor_assoc]
/-- a finger times x. -/
def fm1 (f : Nat) : Nat := (f <<< 1) ^^^ (if f.testBit 30 then 2147483657 else 0)
theorem fm1_xor (f g : Nat) : fm1 (f ^^^ g) = fm1 f ^^^ fm1 g := by
  unfold fm1
  rw [Nat.shiftLeft_xor_distrib, Nat.testBit_xor]
  have e : ∀ p q r : Nat, (p ^^^ r) ^^^ (q ^^^ r) = p ^^^ q := fun p q r => by
    rw [Nat.xor_comm q r, Nat.xor_assoc, ← Nat.xor_assoc r r q, Nat.xor_self, Nat.zero_xor]
  cases f.testBit 30 <;> cases g.testBit 30
  · simp
  · simp only [Bool.false_xor, if_true, Bool.false_eq_true, if_false, Nat.xor_zero, Nat.xor_assoc]
  · simp only [Bool.xor_false, if_true, Bool.false_eq_true, if_false, Nat.xor_zero]
    rw [Nat.xor_assoc, Nat.xor_comm (g <<< 1), ← Nat.xor_assoc]
  · simp only [Bool.xor_self, if_true, Bool.false_eq_true, if_false, Nat.xor_zero]
    exact (e _ _ _).symm
theorem fm1_lt {f : Nat} (h : f < 2 ^ 31) : fm1 f < 2 ^ 31 := by
  refine Nat.lt_pow_two_of_testBit _ (fun i hi => ?_)
  unfold fm1
  rw [Nat.testBit_xor, Nat.testBit_shiftLeft]
  by_cases e : i = 31
  · subst e
    by_cases hb : f.testBit 30 = true
    · rw [if_pos hb]; simp [hb]; decide
    · rw [if_neg hb]; simpa using hb
  · have h1 : f.testBit (i - 1) = false := Nat.testBit_lt_two_pow (Nat.lt_of_lt_of_le h (Nat.pow_le_pow_right (by decide) (by omega)))
    have h2 : (if f.testBit 30 then 2147483657 else 0).testBit i = false := by
      refine Nat.testBit_lt_two_pow (Nat.lt_of_lt_of_le (m := 2 ^ 32) ?_ (Nat.pow_le_pow_right (by decide) (by omega)))
      split <;> decide
    rw [h1, h2]; simp
/-- a bit behind a finger. -/
theorem fm1_bit {f c : Nat} (hf : f < 2 ^ 31) (hc : c < 2) : (if 2 ^ 31 ≤ 2 * f + c then (2 * f + c) ^^^ 2147483657 else 2 * f + c) = fm1 f ^^^ c := by
  have e : 2 * f + c = (f <<< 1) ^^^ c := by
    have h1 : (f <<< 1) ||| c = 2 * f + c := by
      rw [← Nat.shiftLeft_add_eq_or_of_lt (i := 1) (by omega), Nat.shiftLeft_eq]; omega
    rw [← h1]
    apply Nat.eq_of_testBit_eq
    intro i
    rw [Nat.testBit_or, Nat.testBit_xor, Nat.testBit_shiftLeft]
    by_cases h0 : i = 0
    · subst h0; simp
    · have : c.testBit i = false := Nat.testBit_lt_two_pow (Nat.lt_of_lt_of_le (m := 2 ^ 1) (by omega) (Nat.pow_le_pow_right (by decide) (by omega)))
      rw [this]; simp
  have hb : (2 ^ 31 ≤ 2 * f + c) ↔ f.testBit 30 = true := by
    rw [Nat.testBit_eq_decide_div_mod_eq]
    simp only [decide_eq_true_eq]
    omega
  unfold fm1
  by_cases h : f.testBit 30 = true
  · rw [if_pos (hb.2 h), if_pos h, e, Nat.xor_assoc, Nat.xor_assoc, Nat.xor_comm c]
  · rw [if_neg (fun q => h (hb.1 q)), if_neg h, e]; simp
def fm8 (f : Nat) : Nat := fm1 (fm1 (fm1 (fm1 (fm1 (fm1 (fm1 (fm1 f)))))))
theorem fm8_xor (f g : Nat) : fm8 (f ^^^ g) = fm8 f ^^^ fm8 g := by
  unfold fm8
  simp only [fm1_xor]
theorem fm8_lt {f : Nat} (h : f < 2 ^ 31) : fm8 f < 2 ^ 31 := fm1_lt (fm1_lt (fm1_lt (fm1_lt (fm1_lt (fm1_lt (fm1_lt (fm1_lt h)))))))
theorem xor_lt31 {f g : Nat} (hf : f < 2 ^ 31) (hg : g < 2 ^ 31) : f ^^^ g < 2 ^ 31 := Nat.xor_lt_two_pow hf hg
/-- a finger with a byte behind its text. -/
def fmore (f b : Nat) : Nat := fm8 f ^^^ b
theorem fm1_small {f : Nat} (h : f < 2 ^ 30) : fm1 f = 2 * f := by
  unfold fm1
  rw [Nat.testBit_lt_two_pow h, Nat.shiftLeft_eq]
  simp; omega
set_option maxRecDepth 100000 in
/-- as the program says it: bit by bit, the highest first. -/
theorem fmore_bits {f b : Nat} (hf : f < 2 ^ 31) (hb : b < 256) (s : Nat → Nat → Nat) (hs : ∀ g c, g < 2 ^ 31 → c < 2 → s g c = fm1 g ^^^ c) :
    s (s (s (s (s (s (s (s f (b / 128 % 2)) (b / 64 % 2)) (b / 32 % 2)) (b / 16 % 2)) (b / 8 % 2)) (b / 4 % 2)) (b / 2 % 2)) (b / 1 % 2) = fmore f b := by
  have st : ∀ g c, g < 2 ^ 31 → c < 2 → s g c < 2 ^ 31 := fun g c hg hc => by rw [hs g c hg hc]; exact xor_lt31 (fm1_lt hg) (by omega)
  have d : ∀ n, n % 2 < 2 := fun n => by omega
  have key : ∀ n, n < 256 → (fm1 (fm1 (fm1 (fm1 (fm1 (fm1 (fm1 (n / 128 % 2) ^^^ (n / 64 % 2)) ^^^ (n / 32 % 2)) ^^^ (n / 16 % 2)) ^^^ (n / 8 % 2)) ^^^ (n / 4 % 2)) ^^^ (n / 2 % 2)) ^^^ (n / 1 % 2)) = n := by decide
  have h1 := st f _ hf (d (b / 128))
  have h2 := st _ _ h1 (d (b / 64))
  have h3 := st _ _ h2 (d (b / 32))
  have h4 := st _ _ h3 (d (b / 16))
  have h5 := st _ _ h4 (d (b / 8))
  have h6 := st _ _ h5 (d (b / 4))
  have h7 := st _ _ h6 (d (b / 2))
  rw [hs _ _ h7 (d _), hs _ _ h6 (d _), hs _ _ h5 (d _), hs _ _ h4 (d _), hs _ _ h3 (d _), hs _ _ h2 (d _), hs _ _ h1 (d _), hs _ _ hf (d _)]
  unfold fmore
  conv => rhs; rw [← key b hb]
  unfold fm8
  simp only [fm1_xor, Nat.xor_assoc]

/-- as the reference says it: eight bits at once, then reduced. -/
theorem fred {g b j : Nat} (hg : g < 2 ^ 31) (hb : b < 256) : (if ((g <<< (j + 1)) ^^^ b).testBit (31 + j) then ((g <<< (j + 1)) ^^^ b) ^^^ (2147483657 <<< j) else (g <<< (j + 1)) ^^^ b) = (fm1 g <<< j) ^^^ b := by
  have h1 : ((g <<< (j + 1)) ^^^ b).testBit (31 + j) = g.testBit 30 := by
    rw [Nat.testBit_xor, Nat.testBit_shiftLeft, Nat.testBit_lt_two_pow (x := b) (Nat.lt_of_lt_of_le (m := 2 ^ 8) hb (Nat.pow_le_pow_right (by decide) (by omega)))]
    simp [show j + 1 ≤ 31 + j by omega, show 31 + j - (j + 1) = 30 by omega]
  rw [h1]
  unfold fm1
  rw [Nat.add_comm j 1, Nat.shiftLeft_add]
  cases g.testBit 30
  · simp
  · simp only [if_true]
    rw [Nat.shiftLeft_xor_distrib, Nat.xor_assoc, Nat.xor_assoc, Nat.xor_comm b]
theorem ffold_xor (l : List Nat) : ∀ f g, l.foldl fmore (f ^^^ g) = (fun h => l.foldl (fun f _ => fm8 f) h) f ^^^ l.foldl fmore g := by
  induction l with
  | nil => intro f g; rfl
  | cons b l ih =>
    intro f g
    simp only [List.foldl_cons]
    rw [show fmore (f ^^^ g) b = fm8 f ^^^ fmore g b by unfold fmore; rw [fm8_xor, Nat.xor_assoc], ih]
theorem ffold_lt (l : List Nat) (hl : ∀ b ∈ l, b < 256) : ∀ f, f < 2 ^ 31 → l.foldl fmore f < 2 ^ 31 := by
  induction l with
  | nil => intro f h; exact h
  | cons b l ih =>
    intro f h
    exact ih (fun x hx => hl x (by simp [hx])) _ (xor_lt31 (fm8_lt h) (by have := hl b (by simp); omega))
theorem fdrop_len (l m : List Nat) (h : l.length = m.length) : ∀ f, l.foldl (fun f _ => fm8 f) f = m.foldl (fun f _ => fm8 f) f := by
  induction l generalizing m with
  | nil => cases m with
    | nil => intro f; rfl
    | cons => cases h
  | cons a l ih => cases m with
    | nil => cases h
    | cons b m => intro f; exact ih m (by simpa using h) _
/-- a finger that rolls. -/
theorem froll (o i : Nat) (l : List Nat) (f : Nat) (hf : f = (o :: l).foldl fmore 0) : fmore (f ^^^ l.foldl (fun f _ => fm8 f) o) i = (l ++ [i]).foldl fmore 0 := by
  subst hf
  have h0 : fm8 0 = 0 := by decide
  have e : (o :: l).foldl fmore 0 = l.foldl (fun f _ => fm8 f) o ^^^ l.foldl fmore 0 := by
    rw [List.foldl_cons, show fmore 0 o = o ^^^ 0 by unfold fmore; rw [h0, Nat.zero_xor, Nat.xor_zero], ffold_xor]
  rw [e, Nat.xor_comm (List.foldl _ o l), Nat.xor_assoc, Nat.xor_self, Nat.xor_zero, List.foldl_append]
  rfl
/-- a text as numbers. -/
def bl (t : ByteArray) : List Nat := t.data.toList.map UInt8.toNat
theorem bl_length (t : ByteArray) : (bl t).length = t.size := by unfold bl; rw [List.length_map]; exact data_length t
theorem bl_append (a b : ByteArray) : bl (a ++ b) = bl a ++ bl b := by simp [bl, ByteArray.data_append]
theorem bl_lt (t : ByteArray) : ∀ c ∈ bl t, c < 256 := by
  intro c hc
  obtain ⟨x, _, rfl⟩ := List.mem_map.1 hc
  exact x.toNat_lt
theorem bl_extract (t : ByteArray) (i j : Nat) : bl (t.extract i j) = ((bl t).take j).drop i := by
  simp only [bl, ByteArray.data_extract, Array.toList_extract, List.extract_eq_take_drop, List.map_take, List.map_drop]
  rw [List.drop_take]
theorem bl_inj {a b : ByteArray} (h : bl a = bl b) : a = b := by
  have h2 : a.data.toList = b.data.toList := by
    unfold bl at h
    exact (List.map_inj_right (fun x y q => UInt8.toNat_inj.1 q)).1 h
  cases a; cases b
  simp only at h2
  congr 1
  exact Array.toList_inj.1 h2
theorem bt_bl (t : ByteArray) (i : Nat) (h : i < t.size) : bt t (i : Int) = (((bl t)[i]'(by rw [bl_length]; exact h) : Nat) : Int) := by
  unfold bt
  simp only [Int.toNat_natCast]
  rw [dif_pos h]
  simp [bl]
  rfl
theorem bl_strOfNums (l : List Int) (h : ∀ x ∈ l, 0 ≤ x ∧ x < 256) : bl (strOfNums l) = l.map Int.toNat := by
  unfold bl strOfNums
  simp only [List.map_map]
  refine List.map_congr_left (fun x hx => ?_)
  have := h x hx
  simp only [Function.comp]
  rw [UInt8.toNat_ofNat']
  omega
theorem numL_range (m : Nat) : ∀ u, u < 128 ^ (m + 1) → ∀ x ∈ numL u, 0 ≤ x ∧ x < 256 := by
  induction m with
  | zero =>
    intro u hu x hx
    rw [numL_lt (by simpa using hu)] at hx
    simp at hx; subst hx
    simp at hu
    omega
  | succ m ih =>
    intro u hu x hx
    by_cases h : u < 128
    · rw [numL_lt h] at hx
      simp at hx; omega
    · rw [numL_ge h, List.mem_cons] at hx
      rcases hx with rfl | hx
      · omega
      · exact ih (u / 128) (by rw [Nat.div_lt_iff_lt_mul (by decide), ← Nat.pow_succ]; exact hu) x hx
theorem bl_putNum (n : Int) (h0 : -9223372036854775808 ≤ n) (h1 : n ≤ 9223372036854775807) : bl (putNum n) = (numL (fold n)).map Int.toNat :=
  bl_strOfNums _ (numL_range 9 _ (Nat.lt_of_lt_of_le (fold_lt n h0 h1) (by decide)))
theorem empty_list : ((⟨#[]⟩ : ByteArray).toList == ([] : List UInt8)) = true := by
  rw [ByteArray.toList_eq]; rfl
theorem not_empty (p : ByteArray) (h : 0 < p.size) : (p.toList == ([] : List UInt8)) = false := by
  refine beq_eq_false_iff_ne.2 (fun q => ?_)
  rw [ByteArray.toList_eq] at q
  have := congrArg List.length q
  rw [data_length] at this
  simp only [List.length_nil] at this
  omega
theorem extract_size (p : ByteArray) (n : Nat) (h : n ≤ p.size) : (p.extract 0 n).size = n := by
  rw [ByteArray.size_extract]; omega
theorem ofInt_nat (a : Nat) (h : a < 9223372036854775808) : (BitVec.ofInt 64 (a : Int)).toNat = a := by
  rw [BitVec.toNat_ofInt]
  omega
theorem i64_of (n : Nat) (h : n < 9223372036854775808) : IntKind.i64.wrap (n : Int) = (n : Int) := by
  rw [i64_w]
  exact w64 (by omega) (by omega)
theorem i64_xor_nat (a b : Nat) (ha : a < 9223372036854775808) (hb : b < 9223372036854775808) : Go.bits .xor .i64 (a : Int) (b : Int) = ((a ^^^ b : Nat) : Int) := by
  show IntKind.i64.wrap (((BitVec.ofInt 64 (a : Int)) ^^^ (BitVec.ofInt 64 (b : Int))).toNat : Int) = _
  rw [BitVec.toNat_xor, ofInt_nat a ha, ofInt_nat b hb]
  exact i64_of _ (Nat.xor_lt_two_pow (n := 63) ha hb)
theorem i64_or_nat (a b : Nat) (ha : a < 9223372036854775808) (hb : b < 9223372036854775808) : Go.bits .or .i64 (a : Int) (b : Int) = ((a ||| b : Nat) : Int) := by
  show IntKind.i64.wrap (((BitVec.ofInt 64 (a : Int)) ||| (BitVec.ofInt 64 (b : Int))).toNat : Int) = _
  rw [BitVec.toNat_or, ofInt_nat a ha, ofInt_nat b hb]
  exact i64_of _ (Nat.or_lt_two_pow (n := 63) ha hb)
theorem i64_and_nat (a b : Nat) (ha : a < 9223372036854775808) (hb : b < 9223372036854775808) : Go.bits .and .i64 (a : Int) (b : Int) = ((a &&& b : Nat) : Int) := by
  show IntKind.i64.wrap (((BitVec.ofInt 64 (a : Int)) &&& (BitVec.ofInt 64 (b : Int))).toNat : Int) = _
  rw [BitVec.toNat_and, ofInt_nat a ha, ofInt_nat b hb]
  exact i64_of _ (Nat.lt_of_le_of_lt Nat.and_le_left ha)
theorem i64_and1 (a : Nat) (ha : a < 9223372036854775808) : Go.bits .and .i64 (a : Int) 1 = ((a % 2 : Nat) : Int) := by
  refine (i64_and_nat a 1 ha (by decide)).trans ?_
  rw [Nat.and_one_is_mod]
theorem shr_nat (a i : Nat) (ha : a < 9223372036854775808) (hi : i < 64) : shr .i64 (a : Int) (i : Int) = ((a / 2 ^ i : Nat) : Int) := by
  unfold shr
  simp only [show IntKind.i64.bits = 64 from rfl, Int.toNat_natCast]
  rw [Nat.min_eq_left (by omega)]
  exact (Int.natCast_ediv a (2 ^ i)).symm ▸ (by simp)
/-- a step of the program's finger: one more bit. -/
def fstep (f c : Nat) : Nat := if 2 ^ 31 ≤ 2 * f + c then (2 * f + c) ^^^ 2147483657 else 2 * f + c
theorem fstep_eq (f c : Nat) (hf : f < 2 ^ 31) (hc : c < 2) : fstep f c = fm1 f ^^^ c := fm1_bit hf hc
theorem fstep_lt {f c : Nat} (hf : f < 2 ^ 31) (hc : c < 2) : fstep f c < 2 ^ 31 := by
  rw [fstep_eq f c hf hc]
  exact xor_lt31 (fm1_lt hf) (by omega)
theorem more_step (k f b i : Nat) (hf : f < 2 ^ 31) (hb : b < 256) (hi : i ≤ 7) : impl_more.l0 (k + 1) (f : Int) (b : Int) (i : Int) = impl_more.l0 k ((fstep f (b / 2 ^ i % 2) : Nat) : Int) (b : Int) ((i : Int) - 1) := by
  have hc : b / 2 ^ i % 2 < 2 := by omega
  have hq : b / 2 ^ i ≤ b := Nat.div_le_self _ _
  have e1 : Go.bits .or .i64 (wrap64 ((f : Int) * 2)) (Go.bits .and .i64 (shr .i64 (b : Int) (i : Int)) 1) = ((2 * f + b / 2 ^ i % 2 : Nat) : Int) := by
    rw [shr_nat b i (by omega) (by omega), i64_and1 _ (by omega), w64 (by omega) (by omega), show ((f : Int) * 2) = ((2 * f : Nat) : Int) by omega, i64_or_nat _ _ (by omega) (by omega), nat_join1 _ _ (by omega) hc]
  have e2 : wrap64 ((i : Int) - 1) = (i : Int) - 1 := w64 (by omega) (by omega)
  simp only [impl_more.l0]
  rw [if_pos (by omega), if_pos (by omega), e1, e2]
  unfold fstep
  by_cases c : 2 ^ 31 ≤ 2 * f + b / 2 ^ i % 2
  · rw [if_pos (by omega), if_pos c]
    congr 1
    exact i64_xor_nat _ 2147483657 (by omega) (by decide)
  · rw [if_neg (by omega), if_neg c]
theorem more_ev (f b : Nat) (hf : f < 2 ^ 31) (hb : b < 256) : ∀ k, 9 ≤ k → impl_more.f k (f : Int) (b : Int) = some ((fmore f b : Nat) : Int) := by
  intro k hk
  obtain ⟨k, rfl⟩ : ∃ m, k = m + 9 := ⟨k - 9, by omega⟩
  have d : ∀ n, n % 2 < 2 := fun n => by omega
  unfold impl_more.f
  have h7 := fstep_lt hf (d (b / 2 ^ 7))
  have h6 := fstep_lt h7 (d (b / 2 ^ 6))
  have h5 := fstep_lt h6 (d (b / 2 ^ 5))
  have h4 := fstep_lt h5 (d (b / 2 ^ 4))
  have h3 := fstep_lt h4 (d (b / 2 ^ 3))
  have h2 := fstep_lt h3 (d (b / 2 ^ 2))
  have h1 := fstep_lt h2 (d (b / 2 ^ 1))
  have s7 := more_step (k + 8) f b 7 hf hb (by decide)
  have s6 := more_step (k + 7) _ b 6 h7 hb (by decide)
  have s5 := more_step (k + 6) _ b 5 h6 hb (by decide)
  have s4 := more_step (k + 5) _ b 4 h5 hb (by decide)
  have s3 := more_step (k + 4) _ b 3 h4 hb (by decide)
  have s2 := more_step (k + 3) _ b 2 h3 hb (by decide)
  have s1 := more_step (k + 2) _ b 1 h2 hb (by decide)
  have s0 := more_step (k + 1) _ b 0 h1 hb (by decide)
  refine s7.trans (s6.trans (s5.trans (s4.trans (s3.trans (s2.trans (s1.trans (s0.trans ?_)))))))
  have e : fstep (fstep (fstep (fstep (fstep (fstep (fstep (fstep f (b / 2 ^ 7 % 2)) (b / 2 ^ 6 % 2)) (b / 2 ^ 5 % 2)) (b / 2 ^ 4 % 2)) (b / 2 ^ 3 % 2)) (b / 2 ^ 2 % 2)) (b / 2 ^ 1 % 2)) (b / 2 ^ 0 % 2) = fmore f b :=
    fmore_bits hf hb fstep (fun g c hg hc => fstep_eq g c hg hc)
  rw [e]
  simp only [impl_more.l0]
  rw [if_neg (by decide)]
theorem fmore_lt {f b : Nat} (hf : f < 2 ^ 31) (hb : b < 256) : fmore f b < 2 ^ 31 := xor_lt31 (fm8_lt hf) (by omega)
/-- a step of the reference's: the highest bit goes. -/
theorem shift_step (k g b j : Nat) (hg : g < 2 ^ 31) (hb : b < 256) (hj : j ≤ 7) : spec_l06Shift.l0 (k + 1) (((g <<< (j + 1)) ^^^ b : Nat) : Int) ((31 + j : Nat) : Int) = spec_l06Shift.l0 k (((fm1 g <<< j) ^^^ b : Nat) : Int) ((30 + j : Nat) : Int) := by
  have hx : ((g <<< (j + 1)) ^^^ b) < 2 ^ 40 := by
    refine Nat.xor_lt_two_pow ?_ (by omega)
    rw [Nat.shiftLeft_eq]
    have : 2 ^ (j + 1) ≤ 2 ^ 8 := Nat.pow_le_pow_right (by decide) (by omega)
    have : g * 2 ^ (j + 1) ≤ g * 2 ^ 8 := Nat.mul_le_mul_left _ this
    omega
  have hr := fred (j := j) hg hb
  generalize (g <<< (j + 1)) ^^^ b = x at hx hr ⊢
  have e0 : IntKind.u64.wrap ((31 + j : Nat) : Int) = ((31 + j : Nat) : Int) := by simp only [IntKind.wrap_u64]; omega
  have e1 : Go.bits .and .i64 (shr .i64 (x : Int) (IntKind.u64.wrap ((31 + j : Nat) : Int))) 1 = ((x / 2 ^ (31 + j) % 2 : Nat) : Int) := by
    have hq : x / 2 ^ (31 + j) ≤ x := Nat.div_le_self _ _
    rw [e0, shr_nat x (31 + j) (by omega) (by omega), i64_and1 _ (by omega)]
  have e2 : wrap64 (((31 + j : Nat) : Int) - 31) = (j : Int) := by rw [w64 (by omega) (by omega)]; omega
  have e3 : IntKind.u64.wrap (j : Int) = (j : Int) := by simp only [IntKind.wrap_u64]; omega
  have e4 : wrap64 (((31 + j : Nat) : Int) - 1) = ((30 + j : Nat) : Int) := by rw [w64 (by omega) (by omega)]; omega
  simp only [spec_l06Shift.l0, e1, e2, e3, e4]
  rw [e0, if_pos (by omega), if_pos (by omega)]
  have ht : x.testBit (31 + j) = decide (x / 2 ^ (31 + j) % 2 = 1) := Nat.testBit_eq_decide_div_mod_eq
  by_cases c : x / 2 ^ (31 + j) % 2 = 1
  · rw [ht, decide_eq_true c, if_pos rfl] at hr
    rw [if_pos (by omega), if_pos (by omega)]
    congr 1
    have hp : 2147483657 <<< j < 2 ^ 39 := by
      rw [Nat.shiftLeft_eq]
      have : 2 ^ j ≤ 2 ^ 7 := Nat.pow_le_pow_right (by decide) (by omega)
      have : 2147483657 * 2 ^ j ≤ 2147483657 * 2 ^ 7 := Nat.mul_le_mul_left _ this
      omega
    have e5 : shl .i64 2147483657 (j : Int) = ((2147483657 <<< j : Nat) : Int) := by
      unfold shl
      simp only [show IntKind.i64.bits = 64 from rfl, Int.toNat_natCast]
      rw [Nat.min_eq_left (by omega), show (2147483657 : Int) * (2 : Int) ^ j = ((2147483657 <<< j : Nat) : Int) by rw [Nat.shiftLeft_eq, Int.natCast_mul, Int.natCast_pow]; rfl]
      exact i64_of _ (by omega)
    rw [e5, i64_xor_nat _ _ (by omega) (by omega), hr]
  · rw [ht, decide_eq_false c] at hr
    rw [if_neg (by omega)]
    rw [if_neg (by simp)] at hr
    rw [hr]
theorem shift_ev (f b : Nat) (hf : f < 2 ^ 31) (hb : b < 256) : ∀ k, 9 ≤ k → spec_l06Shift.f k (f : Int) (b : Int) = some ((fmore f b : Nat) : Int) := by
  intro k hk
  obtain ⟨k, rfl⟩ : ∃ m, k = m + 9 := ⟨k - 9, by omega⟩
  unfold spec_l06Shift.f
  have e : Go.bits .xor .i64 (wrap64 ((f : Int) * 256)) (b : Int) = (((f <<< (7 + 1)) ^^^ b : Nat) : Int) := by
    rw [w64 (n := (f : Int) * 256) (by omega) (by omega), show ((f : Int) * (256 : Int)) = Int.ofNat (f <<< (7 + 1)) by rw [Nat.shiftLeft_eq]; show _ = ((f * 2 ^ (7 + 1) : Nat) : Int); omega, show Go.bits .xor .i64 (Int.ofNat (f <<< (7 + 1))) (b : Int) = _ from i64_xor_nat _ _ (by rw [Nat.shiftLeft_eq]; omega) (by omega)]
  rw [e]
  have h1 := fm1_lt hf
  have h2 := fm1_lt h1
  have h3 := fm1_lt h2
  have h4 := fm1_lt h3
  have h5 := fm1_lt h4
  have h6 := fm1_lt h5
  have h7 := fm1_lt h6
  refine (shift_step (k + 8) f b 7 hf hb (by decide)).trans ((shift_step (k + 7) _ b 6 h1 hb (by decide)).trans ((shift_step (k + 6) _ b 5 h2 hb (by decide)).trans ((shift_step (k + 5) _ b 4 h3 hb (by decide)).trans ((shift_step (k + 4) _ b 3 h4 hb (by decide)).trans ((shift_step (k + 3) _ b 2 h5 hb (by decide)).trans ((shift_step (k + 2) _ b 1 h6 hb (by decide)).trans ((shift_step (k + 1) _ b 0 h7 hb (by decide)).trans ?_)))))))
  simp only [spec_l06Shift.l0]
  rw [if_neg (by decide), Nat.shiftLeft_zero]
  rfl
theorem w_succ (i : Nat) (h : i ≤ 20000) : wrap64 ((i : Int) + 1) = ((i + 1 : Nat) : Int) := by rw [w64 (by omega) (by omega)]; omega
theorem w_m16 (i : Nat) (h : i ≤ 20000) : wrap64 (((i + 1 : Nat) : Int) - 16) = (i : Int) - 15 := by rw [w64 (by omega) (by omega)]; omega
theorem w_s16 (i : Nat) (h16 : 16 ≤ i) (h : i ≤ 20000) : wrap64 ((i : Int) - 16) = ((i - 16 : Nat) : Int) := by rw [w64 (by omega) (by omega)]; omega
def fing (l : List Nat) : Nat := l.foldl fmore 0
theorem fing_lt (l : List Nat) (hl : ∀ b ∈ l, b < 256) : fing l < 2 ^ 31 := ffold_lt l hl 0 (by decide)
theorem bt_w (x : ByteArray) (i : Nat) (h : i < x.size) : wrap64 (bt x (i : Int)) = (((bl x)[i]'(by rw [bl_length]; exact h) : Nat) : Int) ∧ (bl x)[i]'(by rw [bl_length]; exact h) < 256 := by
  have hb := bl_lt x ((bl x)[i]'(by rw [bl_length]; exact h)) (List.getElem_mem _)
  rw [bt_bl x i h, w64 (by omega) (by omega)]
  exact ⟨rfl, hb⟩
theorem finger_i (x : ByteArray) (hx : x.size ≤ 4611686018427387904) : Ev (fun k => impl_finger.f k x) ((fing (bl x) : Nat) : Int) := by
  unfold impl_finger.f
  have main : ∀ (d i f : Nat), i + d = x.size → f < 2 ^ 31 → Ev (fun k => impl_finger.l0 k x (f : Int) (x.size : Int) (i : Int)) (((((bl x).drop i).foldl fmore f : Nat)) : Int) := by
    intro d
    induction d with
    | zero =>
      intro i f hi hf
      rw [List.drop_eq_nil_of_le (by rw [bl_length]; omega)]
      exact Ev.step (f := fun _ => some (f : Int)) (fun k => by simp only [impl_finger.l0]; rw [if_neg (by omega)]) (Ev.now _)
    | succ d ih =>
      intro i f hi hf
      have hlt : i < (bl x).length := by rw [bl_length]; omega
      obtain ⟨hbt, hb⟩ := bt_w x i (by omega)
      rw [List.drop_eq_getElem_cons hlt, List.foldl_cons]
      generalize (bl x)[i] = b at hbt hb ⊢
      refine Ev.step (f := fun k => (impl_more.f k (f : Int) (b : Int)).bind fun t => impl_finger.l0 k x t (x.size : Int) ((i + 1 : Nat) : Int)) (fun k => ?_) (Ev.bind (ev_from 9 (more_ev f b hf hb)) (ih (i + 1) _ (by omega) (fmore_lt hf hb)))
      simp only [impl_finger.l0, hbt]
      rw [if_pos (by omega), if_pos (by omega), if_pos (by omega), w64 (by omega) (by omega)]
      rfl
  have := main x.size 0 0 (by omega) (by decide)
  rw [List.drop_zero] at this
  exact this
theorem finger_s (x : ByteArray) (hx : x.size ≤ 4611686018427387904) : Ev (fun k => spec_l06Of.f k x) ((fing (bl x) : Nat) : Int) := by
  unfold spec_l06Of.f
  have main : ∀ (d i f : Nat), i + d = x.size → f < 2 ^ 31 → Ev (fun k => spec_l06Of.l0 k x (f : Int) (i : Int)) (((((bl x).drop i).foldl fmore f : Nat)) : Int) := by
    intro d
    induction d with
    | zero =>
      intro i f hi hf
      rw [List.drop_eq_nil_of_le (by rw [bl_length]; omega)]
      exact Ev.step (f := fun _ => some (f : Int)) (fun k => by simp only [spec_l06Of.l0]; rw [if_neg (by omega)]) (Ev.now _)
    | succ d ih =>
      intro i f hi hf
      have hlt : i < (bl x).length := by rw [bl_length]; omega
      obtain ⟨hbt, hb⟩ := bt_w x i (by omega)
      rw [List.drop_eq_getElem_cons hlt, List.foldl_cons]
      generalize (bl x)[i] = b at hbt hb ⊢
      refine Ev.step (f := fun k => (spec_l06Shift.f k (f : Int) (b : Int)).bind fun t => spec_l06Of.l0 k x t ((i + 1 : Nat) : Int)) (fun k => ?_) (Ev.bind (ev_from 9 (shift_ev f b hf hb)) (ih (i + 1) _ (by omega) (fmore_lt hf hb)))
      simp only [spec_l06Of.l0, hbt]
      rw [if_pos (by omega), if_pos (by omega), w64 (by omega) (by omega)]
      rfl
  have := main x.size 0 0 (by omega) (by decide)
  rw [List.drop_zero] at this
  exact this
def it8 : Nat → Nat → Nat
  | 0, f => f
  | n + 1, f => it8 n (fm8 f)
theorem foldl_it8 (l : List Nat) : ∀ f, l.foldl (fun f _ => fm8 f) f = it8 l.length f := by
  induction l with
  | nil => intro f; rfl
  | cons a l ih => intro f; exact ih _
theorem it8_lt : ∀ (n f : Nat), f < 2 ^ 31 → it8 n f < 2 ^ 31
  | 0, _, h => h
  | n + 1, f, h => it8_lt n (fm8 f) (fm8_lt h)
theorem Finger_i (x : ByteArray) (hx : x.size ≤ 20000) : Ev (fun k => impl_Finger.f k x) ((fing (bl x) : Nat) : Int) :=
  ev_bind1 (a := decide ((x.size : Int) > 20000)) rfl (ev_if_neg (by simp; omega) (Ev.bind (finger_i x (by omega)) (Ev.now _)))
theorem Finger_s (x : ByteArray) (hx : x.size ≤ 20000) : Ev (fun k => spec_Finger.f k x) ((fing (bl x) : Nat) : Int) :=
  ev_if_neg (by omega) (Ev.bind (finger_s x (by omega)) (Ev.now _))
theorem isByte_nat (b : Nat) (hb : b < 256) : impl_isByte.f (b : Int) = some true := by
  unfold impl_isByte.f
  rw [within_eq, decide_eq_true (by omega), decide_eq_true (by omega)]
  rfl
theorem isFinger_nat (f : Nat) (hf : f < 2 ^ 31) : impl_isFinger.f (f : Int) = some true := by
  unfold impl_isFinger.f
  rw [within_eq, decide_eq_true (by omega), decide_eq_true (by omega)]
  rfl
theorem FingerMore_i (f b : Nat) (hf : f < 2 ^ 31) (hb : b < 256) : Ev (fun k => impl_FingerMore.f k (f : Int) (b : Int)) ((fmore f b : Nat) : Int) :=
  ev_bind1 (isFinger_nat f hf) (ev_if_pos rfl (ev_bind1 (isByte_nat b hb) (ev_if_pos rfl (Ev.bind (ev_from 9 (more_ev f b hf hb)) (Ev.now _)))))
theorem FingerRoll_i (f o i : Nat) (hf : f < 2 ^ 31) (ho : o < 256) (hi : i < 256) : Ev (fun k => impl_FingerRoll.f k (f : Int) (o : Int) (i : Int)) ((fmore (f ^^^ it8 15 o) i : Nat) : Int) := by
  refine ev_bind1 (isFinger_nat f hf) (ev_if_pos rfl (ev_bind1 (isByte_nat o ho) (ev_if_pos rfl (ev_bind1 (isByte_nat i hi) ?_))))
  refine Ev.step (f := fun k => (impl_more.f k 0 (o : Int)).bind fun t => impl_FingerRoll.l0 k (f : Int) (i : Int) t 0) (fun k => by simp only [impl_FingerRoll.j0]; rw [if_neg (by decide)]) ?_
  refine Ev.bind (ev_from 9 (more_ev 0 o (by decide) ho)) ?_
  have e0 : fmore 0 o = o := by unfold fmore; rw [show fm8 0 = 0 by decide, Nat.zero_xor]
  rw [e0]
  have main : ∀ (d n g : Nat), n + d = 15 → g < 2 ^ 31 → Ev (fun k => impl_FingerRoll.l0 k (f : Int) (i : Int) (g : Int) (n : Int)) ((fmore (f ^^^ it8 d g) i : Nat) : Int) := by
    intro d
    induction d with
    | zero =>
      intro n g hn hg
      refine Ev.step (f := fun k => (impl_more.f k (Go.bits .xor .i64 (f : Int) (g : Int)) (i : Int)).bind fun t => some t) (fun k => by simp only [impl_FingerRoll.l0]; rw [if_neg (by omega)]) ?_
      rw [i64_xor_nat f g (by omega) (by omega)]
      exact Ev.bind (ev_from 9 (more_ev _ i (xor_lt31 hf hg) hi)) (Ev.now _)
    | succ d ih =>
      intro n g hn hg
      refine Ev.step (f := fun k => (impl_more.f k (g : Int) ((0 : Nat) : Int)).bind fun t => impl_FingerRoll.l0 k (f : Int) (i : Int) t ((n + 1 : Nat) : Int)) (fun k => by simp only [impl_FingerRoll.l0]; rw [if_pos (by omega), w64 (by omega) (by omega)]; rfl) ?_
      refine Ev.bind (ev_from 9 (more_ev g 0 hg (by decide))) ?_
      have e : fmore g 0 = fm8 g := by unfold fmore; rw [Nat.xor_zero]
      rw [e]
      exact ih (n + 1) (fm8 g) (by omega) (fm8_lt hg)
  exact main 15 0 o (by omega) (by omega)
/-- the window of the last sixteen bytes. -/
def wnd (l : List Nat) (i : Nat) : List Nat := (l.take i).drop (i - 16)
theorem wnd_more (l : List Nat) (i : Nat) (hi : i < l.length) (h16 : i < 16) : wnd l (i + 1) = wnd l i ++ [l[i]] := by
  unfold wnd
  rw [show i + 1 - 16 = 0 by omega, show i - 16 = 0 by omega, List.drop_zero, List.drop_zero, List.take_succ_eq_append_getElem hi]
theorem wnd_roll (l : List Nat) (i : Nat) (hi : i < l.length) (h16 : 16 ≤ i) : ∃ m, m.length = 15 ∧ wnd l i = l[i - 16] :: m ∧ wnd l (i + 1) = m ++ [l[i]] := by
  refine ⟨(l.take i).drop (i - 15), by rw [List.length_drop, List.length_take]; omega, ?_, ?_⟩
  · unfold wnd
    have hlt : i - 16 < (l.take i).length := by rw [List.length_take]; omega
    rw [List.drop_eq_getElem_cons hlt, List.getElem_take, show i - 16 + 1 = i - 15 by omega]
  · unfold wnd
    rw [show i + 1 - 16 = i - 15 by omega, List.take_succ_eq_append_getElem hi, List.drop_append_of_le_length (by rw [List.length_take]; omega)]
theorem wnd_lt (x : ByteArray) (i : Nat) : ∀ b ∈ wnd (bl x) i, b < 256 := fun b hb => bl_lt x b (List.mem_of_mem_take (List.mem_of_mem_drop hb))
theorem fing_more (l : List Nat) (b : Nat) : fing (l ++ [b]) = fmore (fing l) b := by
  unfold fing
  rw [List.foldl_append]
  rfl
theorem fing_roll (o i : Nat) (m : List Nat) (hm : m.length = 15) : fing (m ++ [i]) = fmore (fing (o :: m) ^^^ it8 15 o) i := by
  have := froll o i m (fing (o :: m)) rfl
  rw [foldl_it8, hm] at this
  exact this.symm
set_option maxHeartbeats 1000000 in
theorem FnFinger : laws_FnFinger.Pure := by
  intro l0 _ _ _
  refine Ev.rounds (g := fun k => laws_FnFinger.f k l0) (Evs.ev ?_)
  unfold laws_FnFinger.f
  refine Evs.ite (fun _ => Evs.now _ rfl) (fun hl0 => ?_)
  have hd : Evs (fun k => spec_DrawFinger.f k l0) (fun t => t.size ≤ 40) := by
    unfold spec_DrawFinger.f
    refine Evs.bind (src_ok l0 (by omega)) (fun r hr => ?_)
    obtain ⟨b, q, m, z⟩ := r
    obtain ⟨rfl, hs, _⟩ := hr
    obtain ⟨n, q1, m1, hn, h0, h1, hs1⟩ := n_ok b q m z 40 hs (by decide) (by decide)
    exact Evs.bind1 hn (Evs.bind (bytesN_ok b q1 m1 z n h0 (by omega) hs1) (fun r hr => Evs.now _ (by omega)))
  obtain ⟨t, ht, hts⟩ := hd
  have hF := fing_lt (bl t) (bl_lt t)
  refine ⟨true, ?_, rfl⟩
  refine Ev.bind ht (Ev.bind (Finger_i t (by omega)) (Ev.bind (Finger_s t (by omega)) (ev_if_pos rfl (ev_if_neg (by omega) ?_))))
  rw [decide_eq_false (show ¬ ((fing (bl t) : Nat) : Int) ≥ 2147483648 by omega)]
  refine Ev.step (f := fun k => laws_FnFinger.l0 k t 0 0) (fun k => by simp only [laws_FnFinger.j0]; rw [if_neg (by simp)]) ?_
  have main : ∀ (d i : Nat), i + d = t.size → Ev (fun k => laws_FnFinger.l0 k t ((fing (wnd (bl t) i) : Nat) : Int) (i : Int)) true := by
    intro d
    induction d with
    | zero =>
      intro i hi
      refine Ev.step (f := fun k => laws_FnFinger.j2 k t ((fing (wnd (bl t) i) : Nat) : Int) (i : Int) false) (fun k => by simp only [laws_FnFinger.l0]; rw [if_neg (by omega)]) ?_
      exact Ev.step (f := fun _ => some true) (fun k => by simp only [laws_FnFinger.j2]; rw [if_neg (by simp)]) (Ev.now _)
    | succ d ih =>
      intro i hi
      have hlt : i < (bl t).length := by rw [bl_length]; omega
      have hg := fing_lt (wnd (bl t) i) (wnd_lt t i)
      have hi2 : i ≤ 20000 := by omega
      have ex : bl (t.extract (i + 1 - 16) (i + 1)) = wnd (bl t) (i + 1) := bl_extract t (i + 1 - 16) (i + 1)
      have exs : (t.extract (i + 1 - 16) (i + 1)).size ≤ 20000 := by rw [ByteArray.size_extract]; omega
      have hfin := Finger_i (t.extract (i + 1 - 16) (i + 1)) exs
      rw [ex] at hfin
      have hnext := ih (i + 1) (by omega)
      have h3 : Ev (fun k => laws_FnFinger.j3 k t ((fing (wnd (bl t) (i + 1)) : Nat) : Int) (i : Int)) true := by
        by_cases h16 : i < 15
        · refine Ev.step (f := fun k => (impl_Finger.f k (t.extract (i + 1 - 16) (i + 1))).bind fun t148 => (if ((fing (wnd (bl t) (i + 1)) : Nat) : Int) = t148 then (laws_FnFinger.l0 k t ((fing (wnd (bl t) (i + 1)) : Nat) : Int) ((i + 1 : Nat) : Int)) else (some false))) (fun k => ?_) (Ev.bind hfin (ev_if_pos rfl hnext))
          simp only [laws_FnFinger.j3, w_succ i hi2, w_m16 i hi2, Int.toNat_natCast]
          rw [if_pos (by omega), if_pos (by omega), if_pos (by omega), show i + 1 - 16 = 0 by omega]
        · refine Ev.step (f := fun k => (impl_Finger.f k (t.extract (i + 1 - 16) (i + 1))).bind fun t148 => (if ((fing (wnd (bl t) (i + 1)) : Nat) : Int) = t148 then (laws_FnFinger.l0 k t ((fing (wnd (bl t) (i + 1)) : Nat) : Int) ((i + 1 : Nat) : Int)) else (some false))) (fun k => ?_) (Ev.bind hfin (ev_if_pos rfl hnext))
          simp only [laws_FnFinger.j3, w_succ i hi2, w_m16 i hi2, Int.toNat_natCast]
          rw [if_neg (by omega), if_pos (by omega), if_pos (by omega), if_pos (by omega), show ((i : Int) - 15).toNat = i + 1 - 16 by omega]
      refine Ev.step (f := fun k => laws_FnFinger.j2 k t ((fing (wnd (bl t) i) : Nat) : Int) (i : Int) true) (fun k => by simp only [laws_FnFinger.l0]; rw [if_pos (by omega), decide_eq_true (by omega)]) ?_
      obtain ⟨hbt, hb⟩ := bt_w t i (by omega)
      by_cases h16 : i < 16
      · rw [wnd_more (bl t) i hlt h16, fing_more] at h3
        generalize (bl t)[i] = b at hbt hb h3
        refine Ev.step (f := fun k => (impl_FingerMore.f k ((fing (wnd (bl t) i) : Nat) : Int) (b : Int)).bind fun t146 => (laws_FnFinger.j3 k t t146 (i : Int))) (fun k => ?_) (Ev.bind (FingerMore_i _ b hg hb) h3)
        simp only [laws_FnFinger.j2, hbt]
        rw [if_pos trivial, if_pos (by omega), if_pos (by omega), if_pos (by omega)]
      · obtain ⟨m, hm, hw1, hw2⟩ := wnd_roll (bl t) i hlt (by omega)
        obtain ⟨hbt2, hb2⟩ := bt_w t (i - 16) (by omega)
        rw [hw2] at h3
        rw [hw1] at hg ⊢
        generalize (bl t)[i] = b at hbt hb h3
        generalize (bl t)[i - 16] = o at hbt2 hb2 hg ⊢
        rw [fing_roll o b m hm] at h3
        refine Ev.step (f := fun k => (impl_FingerRoll.f k ((fing (o :: m) : Nat) : Int) (o : Int) (b : Int)).bind fun t147 => (laws_FnFinger.j3 k t t147 (i : Int))) (fun k => ?_) (Ev.bind (FingerRoll_i _ o b hg hb2 hb) h3)
        simp only [laws_FnFinger.j2, hbt, w_s16 i (by omega) hi2, hbt2]
        rw [if_pos trivial, if_neg (by omega), if_pos (by omega), if_pos (by omega), if_pos (by omega), if_pos (by omega)]
  exact main t.size 0 (by omega)
end Go.Proofs.Yteljfdhjbnlgoaa.Pure
