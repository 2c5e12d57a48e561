/- The plain law of FnNums: a drawn number or text is got back from its bytes, and of bytes that end too early nothing is got. -/
import Derived.Test.YteljfdhjbnlgoaaPFnNumsx7
import Derived.Test.YteljfdhjbnlgoaaLib
namespace Go.Proofs.Yteljfdhjbnlgoaa.Pure
open Go.RowKit Go.Proofs.Yteljfdhjbnlgoaa.PFnNums Go.Proofs.Yteljfdhjbnlgoaa.Lib Go.Proofs.YteljfdhjbnlgoaaW.PrintWords Go.Proofs.YteljfdhjbnlgoaaW.PrintLast Go.Proofs.YteljfdhjbnlgoaaW.PrintMore
set_option linter.unusedVariables false
set_option linter.unusedSimpArgs false
theorem within_eq (a b c : Int) : impl_within.f a b c = some (decide (b ≤ a) && decide (a ≤ c)) := by
  unfold impl_within.f
  by_cases h : a ≥ b <;> simp [h]
/-- a loop whose rounds each go on or end. -/
theorem loop_evx {σ ρ : Type} (F : Nat → σ → Int → Option ρ) (n : Nat) (inv : Nat → σ → Prop) (Q : ρ → Prop)
    (hstep : ∀ (i : Nat) (s : σ), i < n → inv i s → (∃ s', inv (i + 1) s' ∧ ∀ v, Ev (fun k => F k s' ((i + 1 : Nat) : Int)) v → Ev (fun k => F k s (i : Int)) v) ∨ Evs (fun k => F k s (i : Int)) Q)
    (hend : ∀ (s : σ), inv n s → Evs (fun k => F k s (n : Int)) Q) : ∀ (s : σ), inv 0 s → Evs (fun k => F k s 0) Q := by
  have main : ∀ (d i : Nat) (s : σ), i + d = n → inv i s → Evs (fun k => F k s (i : Int)) Q := by
    intro d
    induction d with
    | zero =>
      intro i s hi hv
      obtain rfl : i = n := by omega
      exact hend s hv
    | succ d ih =>
      intro i s hi hv
      rcases hstep i s (by omega) hv with ⟨s', hs', hv'⟩ | h
      · obtain ⟨v, h1, h2⟩ := ih (i + 1) s' (by omega) hs'
        exact ⟨v, hv' v h1, h2⟩
      · exact h
  intro s hs
  exact main n 0 s (by omega) hs
theorem wnat' (i n : Nat) (hi : i < n) (hn : n ≤ 9223372036854775807) : wrap64 ((i : Int) + 1) = ((i + 1 : Nat) : Int) := by rw [w64 (by omega) (by omega)]; omega
/-- what is read of bytes: a code, the number's fold, and how many bytes. -/
def gN : Nat → Nat → List Nat → Int × Nat × Nat
  | _, _, [] => (4, 0, 0)
  | i, u, c :: cs => if i = 9 ∧ 1 < c then (3, 0, 0) else if c < 128 then (if c = 0 ∧ 0 < i then (3, 0, 0) else (0, u + c * 128 ^ i, i + 1)) else gN (i + 1) (u + (c - 128) * 128 ^ i) cs
theorem gN_ok : ∀ (l : List Nat) (i u : Nat), i ≤ 9 → u < 128 ^ i → (∀ c ∈ l, c < 256) → (gN i u l).1 = 0 → i < (gN i u l).2.2 ∧ (gN i u l).2.2 ≤ i + l.length ∧ (gN i u l).2.1 < 18446744073709551616 := by
  intro l
  induction l with
  | nil => intro i u _ _ _ h; simp [gN] at h
  | cons c cs ih =>
    intro i u hi hu hl h
    have hc := hl c (by simp)
    unfold gN at h ⊢
    by_cases h1 : i = 9 ∧ 1 < c
    · rw [if_pos h1] at h; simp at h
    rw [if_neg h1] at h ⊢
    have hp : 128 ^ i ≤ 128 ^ 9 := Nat.pow_le_pow_right (by decide) hi
    by_cases h2 : c < 128
    · rw [if_pos h2] at h ⊢
      by_cases h3 : c = 0 ∧ 0 < i
      · rw [if_pos h3] at h; simp at h
      rw [if_neg h3]
      refine ⟨by simp, by simp, ?_⟩
      show u + c * 128 ^ i < _
      by_cases h9 : i = 9
      · subst h9
        have : c ≤ 1 := by omega
        have : c * 128 ^ 9 ≤ 1 * 128 ^ 9 := Nat.mul_le_mul_right _ this
        omega
      · have hp8 : 128 ^ i ≤ 128 ^ 8 := Nat.pow_le_pow_right (by decide) (by omega)
        have : c * 128 ^ i ≤ 127 * 128 ^ 8 := Nat.mul_le_mul (by omega) hp8
        omega
    · rw [if_neg h2] at h ⊢
      have hi9 : i < 9 := by
        by_cases e : i = 9
        · exact absurd ⟨e, by omega⟩ h1
        · omega
      have hu' : u + (c - 128) * 128 ^ i < 128 ^ (i + 1) := by
        have : (c - 128) * 128 ^ i ≤ 127 * 128 ^ i := Nat.mul_le_mul_right _ (by omega)
        rw [Nat.pow_succ]
        omega
      obtain ⟨q1, q2, q3⟩ := ih (i + 1) _ (by omega) hu' (fun x hx => hl x (by simp [hx])) h
      exact ⟨by omega, by simp only [List.length_cons]; omega, q3⟩
/-- a number that was put is got back. -/
theorem gN_put (m : Nat) : ∀ (v i u : Nat) (rest : List Nat), i + m = 9 → v < 128 ^ (m + 1) → v * 128 ^ i < 18446744073709551616 → (0 < i → 0 < v) → gN i u ((numL v).map Int.toNat ++ rest) = (0, u + v * 128 ^ i, i + (numL v).length) := by
  induction m with
  | zero =>
    intro v i u rest hi hv hw h0
    obtain rfl : i = 9 := by omega
    have hv1 : v ≤ 1 := by omega
    rw [numL_lt (by omega)]
    simp only [List.map_cons, List.map_nil, List.cons_append, List.nil_append, Int.toNat_natCast, gN, List.length_cons, List.length_nil]
    rw [if_neg (by omega), if_pos (by omega), if_neg (by have := h0 (by omega); omega)]
  | succ m ih =>
    intro v i u rest hi hv hw h0
    by_cases h : v < 128
    · rw [numL_lt h]
      simp only [List.map_cons, List.map_nil, List.cons_append, List.nil_append, Int.toNat_natCast, gN, List.length_cons, List.length_nil]
      rw [if_neg (by omega), if_pos (by omega), if_neg (by intro q; have := h0 q.2; omega)]
    · rw [numL_ge h]
      simp only [List.map_cons, List.cons_append, Int.toNat_natCast, gN, List.length_cons]
      rw [if_neg (by omega), if_neg (by omega)]
      have e : v / 128 * 128 ^ (i + 1) + v % 128 * 128 ^ i = v * 128 ^ i := by
        rw [Nat.pow_succ, Nat.mul_comm (128 ^ i) 128, ← Nat.mul_assoc, ← Nat.add_mul]
        congr 1
        omega
      rw [ih (v / 128) (i + 1) _ rest (by omega) (by rw [Nat.div_lt_iff_lt_mul (by decide), ← Nat.pow_succ]; exact hv) (by omega) (by intro _; omega)]
      congr 2
      · have : v % 128 + 128 - 128 = v % 128 := by omega
        rw [this]
        omega
      · omega
/-- of a number whose last bytes are gone nothing is got. -/
theorem gN_short (m : Nat) : ∀ (v i u n : Nat), i + m = 9 → v < 128 ^ (m + 1) → n < (numL v).length → gN i u (((numL v).map Int.toNat).take n) = (4, 0, 0) := by
  induction m with
  | zero =>
    intro v i u n hi hv hn
    rw [numL_lt (Nat.lt_of_lt_of_le hv (by decide))] at hn ⊢
    obtain rfl : n = 0 := by simpa using hn
    rfl
  | succ m ih =>
    intro v i u n hi hv hn
    by_cases h : v < 128
    · rw [numL_lt h] at hn ⊢
      obtain rfl : n = 0 := by simpa using hn
      rfl
    · rw [numL_ge h] at hn ⊢
      cases n with
      | zero => rfl
      | succ n =>
        simp only [List.map_cons, List.take_succ_cons, Int.toNat_natCast, gN]
        rw [if_neg (by omega), if_neg (by omega)]
        exact ih (v / 128) (i + 1) _ n (by omega) (by rw [Nat.div_lt_iff_lt_mul (by decide), ← Nat.pow_succ]; exact hv) (by simpa using hn)
/-- the number of a fold. -/
def unfold' (u : Nat) : Int := if u % 2 = 1 then -((u / 2 : Nat) : Int) - 1 else ((u / 2 : Nat) : Int)
/-- a text as numbers. -/
def bl (t : ByteArray) : List Nat := t.data.toList.map UInt8.toNat
theorem bl_length (t : ByteArray) : (bl t).length = t.size := by unfold bl; rw [List.length_map]; exact data_length t
theorem bl_append (a b : ByteArray) : bl (a ++ b) = bl a ++ bl b := by simp [bl, ByteArray.data_append]
theorem bl_lt (t : ByteArray) : ∀ c ∈ bl t, c < 256 := by
  intro c hc
  obtain ⟨x, _, rfl⟩ := List.mem_map.1 hc
  exact x.toNat_lt
theorem bl_extract (t : ByteArray) (i j : Nat) : bl (t.extract i j) = ((bl t).take j).drop i := by
  simp only [bl, ByteArray.data_extract, Array.toList_extract, List.extract_eq_take_drop, List.map_take, List.map_drop]
  rw [List.drop_take]
theorem bl_inj {a b : ByteArray} (h : bl a = bl b) : a = b := by
  have h2 : a.data.toList = b.data.toList := by
    unfold bl at h
    exact (List.map_inj_right (fun x y q => UInt8.toNat_inj.1 q)).1 h
  cases a; cases b
  simp only at h2
  congr 1
  exact Array.toList_inj.1 h2
theorem bt_bl (t : ByteArray) (i : Nat) (h : i < t.size) : bt t (i : Int) = (((bl t)[i]'(by rw [bl_length]; exact h) : Nat) : Int) := by
  unfold bt
  simp only [Int.toNat_natCast]
  rw [dif_pos h]
  simp [bl]
  rfl
theorem bl_strOfNums (l : List Int) (h : ∀ x ∈ l, 0 ≤ x ∧ x < 256) : bl (strOfNums l) = l.map Int.toNat := by
  unfold bl strOfNums
  simp only [List.map_map]
  refine List.map_congr_left (fun x hx => ?_)
  have := h x hx
  simp only [Function.comp]
  rw [UInt8.toNat_ofNat']
  omega
theorem numL_range (m : Nat) : ∀ u, u < 128 ^ (m + 1) → ∀ x ∈ numL u, 0 ≤ x ∧ x < 256 := by
  induction m with
  | zero =>
    intro u hu x hx
    rw [numL_lt (by simpa using hu)] at hx
    simp at hx; subst hx
    simp at hu
    omega
  | succ m ih =>
    intro u hu x hx
    by_cases h : u < 128
    · rw [numL_lt h] at hx
      simp at hx; omega
    · rw [numL_ge h, List.mem_cons] at hx
      rcases hx with rfl | hx
      · omega
      · exact ih (u / 128) (by rw [Nat.div_lt_iff_lt_mul (by decide), ← Nat.pow_succ]; exact hu) x hx
theorem bl_putNum (n : Int) (h0 : -9223372036854775808 ≤ n) (h1 : n ≤ 9223372036854775807) : bl (putNum n) = (numL (fold n)).map Int.toNat :=
  bl_strOfNums _ (numL_range 9 _ (Nat.lt_of_lt_of_le (fold_lt n h0 h1) (by decide)))
theorem empty_list : ((⟨#[]⟩ : ByteArray).toList == ([] : List UInt8)) = true := by
  rw [ByteArray.toList_eq]; rfl
theorem not_empty (p : ByteArray) (h : 0 < p.size) : (p.toList == ([] : List UInt8)) = false := by
  refine beq_eq_false_iff_ne.2 (fun q => ?_)
  rw [ByteArray.toList_eq] at q
  have := congrArg List.length q
  rw [data_length] at this
  simp only [List.length_nil] at this
  omega
theorem extract_size (p : ByteArray) (n : Nat) (h : n ≤ p.size) : (p.extract 0 n).size = n := by
  rw [ByteArray.size_extract]; omega
theorem i64_xor_zero (x : Int) (h0 : -9223372036854775808 ≤ x) (h1 : x ≤ 9223372036854775807) : Go.bits .xor .i64 x 0 = x := by
  show IntKind.i64.wrap (((BitVec.ofInt 64 x) ^^^ (BitVec.ofInt 64 0)).toNat : Int) = x
  rw [show BitVec.ofInt 64 0 = 0#64 by decide, BitVec.xor_zero, BitVec.toNat_ofInt, i64_w]
  unfold wrap64
  omega
theorem i64_xor_ones (x : Int) (h0 : -9223372036854775808 ≤ x) (h1 : x ≤ 9223372036854775807) : Go.bits .xor .i64 x (-1) = -x - 1 := by
  show IntKind.i64.wrap (((BitVec.ofInt 64 x) ^^^ (BitVec.ofInt 64 (-1))).toNat : Int) = -x - 1
  rw [show BitVec.ofInt 64 (-1) = BitVec.allOnes 64 by decide, BitVec.xor_allOnes, BitVec.toNat_not, BitVec.toNat_ofInt, i64_w]
  unfold wrap64
  omega
theorem unfold_eq (u : Nat) (h : u < 18446744073709551616) : Go.bits .xor .i64 (wrap64 ((u : Int) / 2)) (wrap64 (-(wrap64 (Go.bits .and .u64 (u : Int) 1)))) = unfold' u := by
  have e : Go.bits .and .u64 (u : Int) 1 = ((u % 2 : Nat) : Int) := by
    refine (u64_and_nat u 1 h (by decide)).trans ?_
    rw [Nat.and_one_is_mod]
  rw [e, w64 (n := (u : Int) / 2) (by omega) (by omega), w64 (n := ((u % 2 : Nat) : Int)) (by omega) (by omega)]
  unfold unfold'
  by_cases q : u % 2 = 1
  · rw [if_pos q, q]
    rw [show wrap64 (-((1 : Nat) : Int)) = -1 by unfold wrap64; omega, i64_xor_ones _ (by omega) (by omega)]
    omega
  · rw [if_neg q, show u % 2 = 0 by omega]
    rw [show wrap64 (-((0 : Nat) : Int)) = 0 by unfold wrap64; omega, i64_xor_zero _ (by omega) (by omega)]
    omega
theorem or_shl (u c i : Nat) (hu : u < 128 ^ i) (h : i ≤ 8 ∧ c < 256 ∨ i = 9 ∧ c ≤ 1) : Go.bits .or .u64 (u : Int) (shl .u64 (IntKind.u64.wrap (Go.bits .and .u8 (c : Int) 127)) (wrap64 (7 * (i : Int)))) = ((u + c % 128 * 128 ^ i : Nat) : Int) := by
  have e1 : Go.bits .and .u8 (c : Int) 127 = ((c % 128 : Nat) : Int) := by
    refine (u8_and_nat c 127 (by omega) (by decide)).trans ?_
    rw [nat_mask7]
  have e2 : (2 : Nat) ^ (7 * i) = 128 ^ i := by rw [Nat.pow_mul]
  have hb : c % 128 * 128 ^ i < 18446744073709551616 := by
    rcases h with ⟨h, hc⟩ | ⟨rfl, hc⟩
    · have : 128 ^ i ≤ 128 ^ 8 := Nat.pow_le_pow_right (by decide) h
      have : c % 128 * 128 ^ i ≤ 127 * 128 ^ 8 := Nat.mul_le_mul (by omega) this
      omega
    · have : c % 128 * 128 ^ 9 ≤ 1 * 128 ^ 9 := Nat.mul_le_mul_right _ (by omega)
      omega
  have hub : u < 18446744073709551616 := by
    have : 128 ^ i ≤ 128 ^ 9 := Nat.pow_le_pow_right (by decide) (by omega)
    omega
  have e3 : shl .u64 (IntKind.u64.wrap (Go.bits .and .u8 (c : Int) 127)) (wrap64 (7 * (i : Int))) = ((c % 128 * 128 ^ i : Nat) : Int) := by
    rw [e1, w64 (by omega) (by omega)]
    unfold shl
    rw [show (7 * (i : Int)).toNat = 7 * i by omega, show IntKind.u64.bits = 64 from rfl, Nat.min_eq_left (by omega)]
    simp only [IntKind.wrap_u64]
    rw [show (2 : Int) ^ (7 * i) = ((128 ^ i : Nat) : Int) by rw [← e2]; simp]
    have : (((c % 128 : Nat) : Int) % 18446744073709551616) = ((c % 128 : Nat) : Int) := by omega
    rw [this, ← Int.natCast_mul]
    omega
  rw [e3, u64_or_nat _ _ hub hb, Nat.or_comm, nat_join (7 * i) _ _ (by rw [e2]; exact Nat.mul_mod_left _ _) (by rw [e2]; exact hu)]
  omega
/-- what is got of bytes: a number, the place behind it, a code. -/
def gout (p : Nat) (g : Int × Nat × Nat) : Int × Int × Int := if g.1 = 0 then (unfold' g.2.1, ((p + g.2.2 : Nat) : Int), 0) else (0, 0, g.1)
theorem getNum_i_l0 (x : ByteArray) (p : Nat) (hx : x.size ≤ 4611686018427387904) (hp : p ≤ 4611686018427387904) : ∀ (m i u : Nat), i + m = 9 → u < 128 ^ i → Ev (fun k => impl_getNum.l0 k x (p : Int) (u : Int) (i : Int)) (gout p (gN i u ((bl x).drop (p + i)))) := by
  intro m
  induction m with
  | zero =>
    intro i u hi hu
    obtain rfl : i = 9 := by omega
    by_cases h : p + 9 < x.size
    · have hc : p + 9 < (bl x).length := by rw [bl_length]; exact h
      have hb := bl_lt x (bl x)[p + 9] (List.getElem_mem hc)
      have hbt := bt_bl x (p + 9) h
      rw [List.drop_eq_getElem_cons hc]
      generalize (bl x)[p + 9] = c at hb hbt ⊢
      have e1 : wrap64 ((p : Int) + (9 : Nat)) = ((p + 9 : Nat) : Int) := by rw [w64 (by omega) (by omega)]; omega
      refine Ev.step (f := fun k => impl_getNum.j1 k x (p : Int) (Go.bits .or .u64 (u : Int) (shl .u64 (IntKind.u64.wrap (Go.bits .and .u8 (c : Int) 127)) (wrap64 (7 * ((9 : Nat) : Int))))) ((9 : Nat) : Int) (c : Int) (decide ((c : Int) > 1))) (fun k => ?_) ?_
      · simp only [impl_getNum.l0, impl_long.f, Option.bind_some, e1, hbt]
        rw [if_neg (by unfold wrap64; omega), if_pos (by omega), if_pos (by omega), if_pos (by rw [w64 (by omega) (by omega)]; omega), if_pos (by omega)]
      · by_cases h1 : 1 < c
        · rw [decide_eq_true (show (c : Int) > 1 by omega)]
          refine Ev.step (f := fun k => impl_getNum.j2 k x (p : Int) (Go.bits .or .u64 (u : Int) (shl .u64 (IntKind.u64.wrap (Go.bits .and .u8 (c : Int) 127)) (wrap64 (7 * ((9 : Nat) : Int))))) ((9 : Nat) : Int) (c : Int) true) (fun k => by simp only [impl_getNum.j1]; rw [if_pos trivial]) ?_
          refine Ev.step (f := fun _ => some (0, 0, 3)) (fun k => by simp only [impl_getNum.j2]; rw [if_pos trivial]) (ev_eq ?_)
          unfold gN
          rw [if_pos ⟨rfl, h1⟩]
          rfl
        · rw [decide_eq_false (show ¬ (c : Int) > 1 by omega), or_shl u c 9 hu (.inr ⟨rfl, by omega⟩), Nat.mod_eq_of_lt (show c < 128 by omega)]
          refine Ev.step (f := fun k => impl_getNum.j2 k x (p : Int) ((u + c * 128 ^ 9 : Nat) : Int) ((9 : Nat) : Int) (c : Int) (decide (c = 0))) (fun k => ?_) ?_
          · simp only [impl_getNum.j1]
            rw [if_neg (by simp)]
            by_cases h0 : c = 0
            · rw [if_pos (by omega), decide_eq_true h0]; rfl
            · rw [if_neg (by omega), decide_eq_false h0]
          · unfold gN
            rw [if_neg (by omega), if_pos (by omega)]
            by_cases h0 : c = 0
            · rw [decide_eq_true h0, if_pos ⟨h0, by decide⟩]
              exact Ev.step (f := fun _ => some (0, 0, 3)) (fun k => by simp only [impl_getNum.j2]; rw [if_pos trivial]) (ev_eq rfl)
            · rw [decide_eq_false h0, if_neg (fun q => h0 q.1)]
              refine Ev.step (f := fun _ => some (Go.bits .xor .i64 (wrap64 (((u + c * 128 ^ 9 : Nat) : Int) / 2)) (wrap64 (-(wrap64 (Go.bits .and .u64 ((u + c * 128 ^ 9 : Nat) : Int) 1)))), wrap64 ((wrap64 ((p : Int) + ((9 : Nat) : Int))) + 1), 0)) (fun k => ?_) (ev_eq ?_)
              · simp only [impl_getNum.j2]
                rw [if_neg (by simp), if_pos (by omega)]
              · have : c * 128 ^ 9 ≤ 1 * 128 ^ 9 := Nat.mul_le_mul_right _ (by omega)
                rw [unfold_eq _ (by omega), e1, w64 (by omega) (by omega)]
                unfold gout
                rw [if_pos rfl]
                simp only [Prod.mk.injEq, true_and]
                exact ⟨by omega, trivial⟩
    · rw [List.drop_eq_nil_of_le (by rw [bl_length]; omega)]
      refine Ev.step (f := fun _ => some (0, 0, 4)) (fun k => ?_) (ev_eq rfl)
      simp only [impl_getNum.l0, impl_long.f, Option.bind_some]
      rw [if_pos (by unfold wrap64; omega)]
  | succ m ih =>
    intro i u hi hu
    by_cases h : p + i < x.size
    · have hc : p + i < (bl x).length := by rw [bl_length]; exact h
      have hb := bl_lt x (bl x)[p + i] (List.getElem_mem hc)
      have hbt := bt_bl x (p + i) h
      rw [List.drop_eq_getElem_cons hc]
      generalize (bl x)[p + i] = c at hb hbt ⊢
      have e1 : wrap64 ((p : Int) + (i : Int)) = ((p + i : Nat) : Int) := by rw [w64 (by omega) (by omega)]; omega
      refine Ev.step (f := fun k => impl_getNum.j1 k x (p : Int) ((u + c % 128 * 128 ^ i : Nat) : Int) (i : Int) (c : Int) false) (fun k => ?_) ?_
      · simp only [impl_getNum.l0, impl_long.f, Option.bind_some, e1, hbt, or_shl u c i hu (.inl ⟨by omega, hb⟩)]
        rw [if_neg (by unfold wrap64; omega), if_pos (by omega), if_pos (by omega), if_pos (by rw [w64 (by omega) (by omega)]; omega), if_neg (by omega)]
      · unfold gN
        rw [if_neg (by omega)]
        by_cases h128 : c < 128
        · rw [Nat.mod_eq_of_lt h128, if_pos h128]
          refine Ev.step (f := fun k => impl_getNum.j2 k x (p : Int) ((u + c * 128 ^ i : Nat) : Int) (i : Int) (c : Int) (decide (c = 0 ∧ 0 < i))) (fun k => ?_) ?_
          · simp only [impl_getNum.j1]
            rw [if_neg (by simp)]
            by_cases h0 : c = 0
            · rw [if_pos (by omega)]
              congr 1
              by_cases hi0 : 0 < i
              · rw [decide_eq_true (show (i : Int) > 0 by omega), decide_eq_true ⟨h0, hi0⟩]
              · rw [decide_eq_false (show ¬ (i : Int) > 0 by omega), decide_eq_false (fun q => hi0 q.2)]
            · rw [if_neg (by omega), decide_eq_false (fun q => h0 q.1)]
          · by_cases h0 : c = 0 ∧ 0 < i
            · rw [decide_eq_true h0, if_pos h0]
              exact Ev.step (f := fun _ => some (0, 0, 3)) (fun k => by simp only [impl_getNum.j2]; rw [if_pos trivial]) (ev_eq rfl)
            · rw [decide_eq_false h0, if_neg h0]
              refine Ev.step (f := fun _ => some (Go.bits .xor .i64 (wrap64 (((u + c * 128 ^ i : Nat) : Int) / 2)) (wrap64 (-(wrap64 (Go.bits .and .u64 ((u + c * 128 ^ i : Nat) : Int) 1)))), wrap64 ((wrap64 ((p : Int) + (i : Int))) + 1), 0)) (fun k => ?_) (ev_eq ?_)
              · simp only [impl_getNum.j2]
                rw [if_neg (by simp), if_pos (by omega)]
              · have h8 : 128 ^ i ≤ 128 ^ 8 := Nat.pow_le_pow_right (by decide) (by omega)
                have : c * 128 ^ i ≤ 127 * 128 ^ 8 := Nat.mul_le_mul (by omega) h8
                rw [unfold_eq _ (by omega), e1, w64 (by omega) (by omega)]
                unfold gout
                rw [if_pos rfl]
                simp only [Prod.mk.injEq, true_and]
                exact ⟨by omega, trivial⟩
        · rw [if_neg h128, show c % 128 = c - 128 by omega]
          have hu' : u + (c - 128) * 128 ^ i < 128 ^ (i + 1) := by
            have : (c - 128) * 128 ^ i ≤ 127 * 128 ^ i := Nat.mul_le_mul_right _ (by omega)
            rw [Nat.pow_succ]
            omega
          have hr := ih (i + 1) (u + (c - 128) * 128 ^ i) (by omega) hu'
          refine Ev.step (f := fun k => impl_getNum.j2 k x (p : Int) ((u + (c - 128) * 128 ^ i : Nat) : Int) (i : Int) (c : Int) false) (fun k => ?_) ?_
          · simp only [impl_getNum.j1]
            rw [if_neg (by simp), if_neg (by omega)]
          · refine Ev.step (fun k => ?_) hr
            simp only [impl_getNum.j2]
            rw [if_neg (by simp), if_neg (by omega), wnat' i 10 (by omega) (by decide)]
    · rw [List.drop_eq_nil_of_le (by rw [bl_length]; omega)]
      refine Ev.step (f := fun _ => some (0, 0, 4)) (fun k => ?_) (ev_eq rfl)
      simp only [impl_getNum.l0, impl_long.f, Option.bind_some]
      rw [if_pos (by unfold wrap64; omega)]
theorem getNum_i (x : ByteArray) (p : Nat) (hx : x.size ≤ 4611686018427387904) (hp : p ≤ 4611686018427387904) : Ev (fun k => impl_getNum.f k x (p : Int)) (gout p (gN 0 0 ((bl x).drop p))) :=
  ev_if_neg (by omega) (getNum_i_l0 x p hx hp 9 0 0 rfl (by decide))
theorem unfold_range (u : Nat) (h : u < 18446744073709551616) : -9223372036854775808 ≤ unfold' u ∧ unfold' u ≤ 9223372036854775807 := by
  unfold unfold'
  split <;> omega
theorem unfold_fold (n : Int) : unfold' (fold n) = n := by
  unfold unfold' fold
  by_cases h : n < 0
  · rw [if_pos h, if_pos (by omega)]; omega
  · rw [if_neg h, if_neg (by omega)]; omega
/-- what is got of bytes as a number is right, if its code is. -/
theorem gout_ok (x : ByteArray) (p : Nat) (hp : p ≤ x.size) (h : (gout p (gN 0 0 ((bl x).drop p))).2.2 = 0) : ∃ (n : Int) (q : Nat), gout p (gN 0 0 ((bl x).drop p)) = (n, (q : Int), 0) ∧ p < q ∧ q ≤ x.size ∧ -9223372036854775808 ≤ n ∧ n ≤ 9223372036854775807 := by
  unfold gout at h ⊢
  by_cases c : (gN 0 0 ((bl x).drop p)).1 = 0
  · obtain ⟨q1, q2, q3⟩ := gN_ok ((bl x).drop p) 0 0 (by decide) (by decide) (fun c hc => bl_lt x c (List.mem_of_mem_drop hc)) c
    rw [if_pos c]
    have := unfold_range _ q3
    rw [List.length_drop, bl_length] at q2
    exact ⟨_, _, rfl, by omega, by omega, this.1, this.2⟩
  · rw [if_neg c] at h
    exact absurd h c
def tout (x : ByteArray) (r : Int × Int × Int) : ByteArray × Int × Int := if r.2.2 = 0 then (if 0 ≤ r.1 ∧ r.1 ≤ 20000 then (if r.2.1 + r.1 > (x.size : Int) then ((⟨#[]⟩ : ByteArray), 0, 4) else (x.extract r.2.1.toNat (r.2.1 + r.1).toNat, r.2.1 + r.1, 0)) else ((⟨#[]⟩ : ByteArray), 0, 3)) else ((⟨#[]⟩ : ByteArray), 0, r.2.2)
theorem getText_i (x : ByteArray) (p : Nat) (hx : x.size ≤ 4611686018427387904) (hp : p ≤ x.size) : Ev (fun k => impl_getText.f k x (p : Int)) (tout x (gout p (gN 0 0 ((bl x).drop p)))) := by
  have hg := getNum_i x p hx (by omega)
  have hok := gout_ok x p hp
  generalize gout p (gN 0 0 ((bl x).drop p)) = g at hg hok ⊢
  refine Ev.bind hg ?_
  by_cases c : g.2.2 = 0
  · obtain ⟨n, q, rfl, hq1, hq2, hn1, hn2⟩ := hok c
    refine ev_if_pos c (ev_bind1 (within_eq _ _ _) ?_)
    simp only
    by_cases c2 : 0 ≤ n ∧ n ≤ 20000
    · rw [decide_eq_true c2.1, decide_eq_true c2.2]
      refine ev_if_pos rfl (ev_bind1 rfl ?_)
      have e : wrap64 ((q : Int) + n) = (q : Int) + n := w64 (by omega) (by omega)
      rw [e]
      by_cases c3 : (q : Int) + n > (x.size : Int)
      · exact ev_if_pos c3 (ev_eq (by unfold tout; rw [if_pos rfl, if_pos c2, if_pos c3]))
      · exact ev_if_neg c3 (ev_if_pos (by omega) (ev_if_pos (by omega) (ev_if_pos (by omega) (ev_eq (by unfold tout; rw [if_pos rfl, if_pos c2, if_neg c3])))))
    · refine ev_if_neg ?_ (ev_eq (by unfold tout; rw [if_pos rfl, if_neg c2]))
      intro q
      simp only [Bool.and_eq_true, decide_eq_true_eq] at q
      exact c2 q
  · exact ev_if_neg c (ev_eq (by unfold tout; rw [if_neg c]))
/-- a source that stands right. -/
def St (b : List Int) (q m : Int) : Prop := 0 ≤ q ∧ q ≤ (b.length : Int) ∧ b.length ≤ 1048576 ∧ 0 ≤ m ∧ m < 18446744073709551616
theorem bits_u64 (op : BinOp) (x y : Int) : 0 ≤ Go.bits op .u64 x y ∧ Go.bits op .u64 x y < 18446744073709551616 := by
  simp only [Go.bits, IntKind.wrap_u64]
  omega
theorem pick_most (v most : Int) (h1 : 1 < most) (h2 : most ≤ 9223372036854775807) : 0 ≤ wrap64 (Int.tmod (IntKind.u64.wrap v) (IntKind.u64.wrap most)) ∧ wrap64 (Int.tmod (IntKind.u64.wrap v) (IntKind.u64.wrap most)) < most ∧ IntKind.u64.wrap most ≠ 0 := by
  simp only [IntKind.wrap_u64]
  have e : most % 18446744073709551616 = most := by omega
  rw [e, Int.tmod_eq_emod_of_nonneg (by omega)]
  have a := Int.emod_nonneg (v % 18446744073709551616) (show most ≠ 0 by omega)
  have b := Int.emod_lt_of_pos (v % 18446744073709551616) (show 0 < most by omega)
  rw [w64 (by omega) (by omega)]
  omega
theorem n_ok (b : List Int) (q m z most : Int) (h : St b q m) (h1 : 1 ≤ most) (h2 : most ≤ 9223372036854775807) : ∃ v q' m', spec_l01Src_n.f b q m z most = some (v, q', m', z) ∧ 0 ≤ v ∧ v < most ∧ St b q' m' := by
  obtain ⟨a1, a2, a3, a4, a5⟩ := h
  unfold spec_l01Src_n.f
  by_cases c : most ≤ 1
  · rw [if_pos c]
    exact ⟨0, q, m, rfl, by omega, by omega, a1, a2, a3, a4, a5⟩
  · rw [if_neg c]
    have hm := bits_u64 .xor (Go.bits .xor .u64 (Go.bits .xor .u64 m (IntKind.u64.wrap (m * 8192))) ((Go.bits .xor .u64 m (IntKind.u64.wrap (m * 8192))) / 128)) (IntKind.u64.wrap ((Go.bits .xor .u64 (Go.bits .xor .u64 m (IntKind.u64.wrap (m * 8192))) ((Go.bits .xor .u64 m (IntKind.u64.wrap (m * 8192))) / 128)) * 131072))
    generalize Go.bits .xor .u64 (Go.bits .xor .u64 (Go.bits .xor .u64 m (IntKind.u64.wrap (m * 8192))) ((Go.bits .xor .u64 m (IntKind.u64.wrap (m * 8192))) / 128)) (IntKind.u64.wrap ((Go.bits .xor .u64 (Go.bits .xor .u64 m (IntKind.u64.wrap (m * 8192))) ((Go.bits .xor .u64 m (IntKind.u64.wrap (m * 8192))) / 128)) * 131072)) = m3 at hm ⊢
    by_cases c2 : q < (b.length : Int)
    · obtain ⟨p1, p2, p3⟩ := pick_most (IntKind.u64.wrap (rd b q) + m3 / 1048576) most (by omega) h2
      rw [if_pos c2, if_pos a1, if_neg p3]
      exact ⟨_, _, _, rfl, p1, p2, by rw [w64 (by omega) (by omega)]; omega, by rw [w64 (by omega) (by omega)]; omega, a3, hm.1, hm.2⟩
    · obtain ⟨p1, p2, p3⟩ := pick_most (0 + m3 / 1048576) most (by omega) h2
      rw [if_neg c2, if_neg p3]
      exact ⟨_, _, _, rfl, p1, p2, a1, a2, a3, hm.1, hm.2⟩
theorem src_ok (l : List Int) (hl : l.length ≤ 1048576) : Evs (fun k => spec_l01Source.f k l) (fun r => r.1 = l ∧ St l r.2.1 r.2.2.1 ∧ 0 ≤ r.2.2.2 ∧ r.2.2.2 ≤ 12) := by
  have stop : ∀ (m : Int), 0 ≤ m → m < 18446744073709551616 → ∀ q, q = (if (wrap64 ((l.length : Int) / 20)) > 12 then (some (l, (0 : Int), m, (12 : Int))) else (some (l, 0, m, wrap64 ((l.length : Int) / 20)))) → ∃ r, q = some r ∧ r.1 = l ∧ St l r.2.1 r.2.2.1 ∧ 0 ≤ r.2.2.2 ∧ r.2.2.2 ≤ 12 := by
    intro m h0 h1 q hq
    subst hq
    rw [w64 (n := (l.length : Int) / 20) (by omega) (by omega)]
    by_cases c : (l.length : Int) / 20 > 12
    · rw [if_pos c]
      exact ⟨_, rfl, rfl, ⟨Int.le_refl _, by simp, hl, h0, h1⟩, by simp, by simp⟩
    · rw [if_neg c]
      exact ⟨_, rfl, rfl, ⟨Int.le_refl _, by simp, hl, h0, h1⟩, by simp only; omega, by simp only; omega⟩
  unfold spec_l01Source.f
  have main : ∀ (d i : Nat) (m : Int), i + d = 65 → 0 ≤ m → m < 18446744073709551616 → Evs (fun k => spec_l01Source.l0 k l (i : Int) l 0 m 0) (fun r => r.1 = l ∧ St l r.2.1 r.2.2.1 ∧ 0 ≤ r.2.2.2 ∧ r.2.2.2 ≤ 12) := by
    intro d
    induction d with
    | zero =>
      intro i m hi h0 h1
      obtain ⟨r, hr, hp⟩ := stop m h0 h1 _ rfl
      refine ⟨r, Ev.step (f := fun _ => some r) (fun k => ?_) (Ev.now _), hp⟩
      simp only [spec_l01Source.l0]
      by_cases c : (i : Int) < (l.length : Int)
      · rw [if_pos c, if_neg (by omega)]; exact hr
      · rw [if_neg c]; exact hr
    | succ d ih =>
      intro i m hi h0 h1
      by_cases c : (i : Int) < (l.length : Int) ∧ (i : Int) < 64
      · obtain ⟨v, hv, hp⟩ := ih (i + 1) (IntKind.u64.wrap ((Go.bits .xor .u64 m (IntKind.u64.wrap (rd l i))) * 1099511628211)) (by omega) (by simp only [IntKind.wrap_u64]; omega) (by simp only [IntKind.wrap_u64]; omega)
        refine ⟨v, Ev.step (fun k => ?_) hv, hp⟩
        simp only [spec_l01Source.l0]
        rw [if_pos c.1, if_pos c.2, if_pos (by omega), w64 (by omega) (by omega)]
        rfl
      · obtain ⟨r, hr, hp⟩ := stop m h0 h1 _ rfl
        refine ⟨r, Ev.step (f := fun _ => some r) (fun k => ?_) (Ev.now _), hp⟩
        simp only [spec_l01Source.l0]
        by_cases c1 : (i : Int) < (l.length : Int)
        · rw [if_pos c1, if_neg (fun q => c ⟨c1, q⟩)]; exact hr
        · rw [if_neg c1]; exact hr
  exact main 65 0 88172645463325252 rfl (by decide) (by decide)
theorem one_ok (b : List Int) (q m z of : Int) (h : St b q m) (h1 : 1 ≤ of) (h2 : of ≤ 9223372036854775807) : ∃ v q' m', spec_l01Src_one.f b q m z of = some (v, q', m', z) ∧ St b q' m' := by
  obtain ⟨v, q', m', hv, _, _, hs⟩ := n_ok b q m z of h h1 h2
  refine ⟨v == 0, q', m', ?_, hs⟩
  unfold spec_l01Src_one.f
  rw [hv]
  rfl
theorem edge_ok (b : List Int) (q m z : Int) (h : St b q m) : ∃ v q' m', spec_l01Src_edge.f b q m z = some (v, q', m', z) ∧ -9223372036854775808 ≤ v ∧ v ≤ 9223372036854775807 ∧ St b q' m' := by
  obtain ⟨v, q', m', hv, h0, h1, hs⟩ := n_ok b q m z 14 h (by decide) (by decide)
  have hr : ∀ i : Nat, i < 14 → -9223372036854775808 ≤ rd ([0, 1, (-1), 2, 1000, 1001, 2147483648, 2147483647, (-2147483648), 4611686018427387904, 9223372036854775807, (-9223372036854775808), 1000000, 1000001] : List Int) (i : Int) ∧ rd ([0, 1, (-1), 2, 1000, 1001, 2147483648, 2147483647, (-2147483648), 4611686018427387904, 9223372036854775807, (-9223372036854775808), 1000000, 1000001] : List Int) (i : Int) ≤ 9223372036854775807 := by decide
  obtain ⟨n, rfl⟩ : ∃ n : Nat, v = (n : Int) := ⟨v.toNat, by omega⟩
  refine ⟨rd ([0, 1, (-1), 2, 1000, 1001, 2147483648, 2147483647, (-2147483648), 4611686018427387904, 9223372036854775807, (-9223372036854775808), 1000000, 1000001] : List Int) (n : Int), q', m', ?_, (hr n (by omega)).1, (hr n (by omega)).2, hs⟩
  unfold spec_l01Src_edge.f
  rw [hv]
  simp only [Option.bind_some]
  rw [if_pos h0, if_pos (by simpa using h1)]
theorem any_ok (b : List Int) (q m z : Int) (h : St b q m) : ∃ v q' m', spec_l01Src_l01Any.f b q m z = some (v, q', m', z) ∧ -9223372036854775808 ≤ v ∧ v ≤ 9223372036854775807 ∧ St b q' m' := by
  obtain ⟨v, q1, m1, hv, hs⟩ := one_ok b q m z 4 h (by decide) (by decide)
  unfold spec_l01Src_l01Any.f
  rw [hv]
  simp only [Option.bind_some]
  cases v
  · obtain ⟨v, q2, m2, hv2, h0, h1, hs2⟩ := n_ok b q1 m1 z 1099511627776 hs (by decide) (by decide)
    rw [if_neg (by simp), hv2]
    exact ⟨_, q2, m2, rfl, by rw [w64 (by omega) (by omega)]; omega, by rw [w64 (by omega) (by omega)]; omega, hs2⟩
  · obtain ⟨v, q2, m2, hv2, h0, h1, hs2⟩ := edge_ok b q1 m1 z hs
    rw [if_pos rfl, hv2]
    exact ⟨_, q2, m2, rfl, h0, h1, hs2⟩
theorem strOfNums_len (l : List Int) : (strOfNums l).size = l.length := by simp [strOfNums, ByteArray.size]
theorem bytes_ok (b : List Int) (z : Int) (n : Nat) (hn : n ≤ 1048576) : ∀ (d i : Nat) (acc : List Int) (q m : Int), i + d = n → acc.length = i → St b q m → Evs (fun k => spec_l01Src_bytes.l0 k (n : Int) acc (i : Int) b q m z) (fun r => r.1.size = n ∧ St b r.2.1 r.2.2.1 ∧ r.2.2.2 = z) := by
  intro d
  induction d with
  | zero =>
    intro i acc q m hi ha hs
    refine ⟨(strOfNums acc, q, m, z), Ev.step (f := fun _ => some (strOfNums acc, q, m, z)) (fun k => ?_) (Ev.now _), ?_, hs, rfl⟩
    · simp only [spec_l01Src_bytes.l0]
      rw [if_neg (by omega)]
    · show (strOfNums acc).size = n
      rw [strOfNums_len]; omega
  | succ d ih =>
    intro i acc q m hi ha hs
    obtain ⟨v, q', m', hv, _, _, hs'⟩ := n_ok b q m z 256 hs (by decide) (by decide)
    obtain ⟨r, hr, hp⟩ := ih (i + 1) (acc ++ [v % 256]) q' m' (by omega) (by simp; omega) hs'
    refine ⟨r, Ev.step (fun k => ?_) hr, hp⟩
    simp only [spec_l01Src_bytes.l0, hv, Option.bind_some]
    rw [if_pos (by omega), if_pos (by omega), w64 (by omega) (by omega)]
    rfl
theorem bytesN_ok (b : List Int) (q m z n : Int) (h0 : 0 ≤ n) (hn : n ≤ 1048576) (hs : St b q m) : Evs (fun k => spec_l01Src_bytes.f k b q m z n) (fun r => (r.1.size : Int) = n ∧ St b r.2.1 r.2.2.1 ∧ r.2.2.2 = z) := by
  obtain ⟨n, rfl⟩ : ∃ k : Nat, n = (k : Int) := ⟨n.toNat, by omega⟩
  exact (bytes_ok b z n (by omega) n 0 [] q m (by omega) rfl hs).mono (fun r h => ⟨by rw [h.1], h.2⟩)
theorem putNum_s_l0 (m : Nat) : ∀ (v k : Nat) (acc : List Int), v < 128 ^ (m + 1) → v < 18446744073709551616 → acc.length + m + 1 ≤ 140737488355328 → m < k → spec_PutNum.l0 k (v : Int) acc = some (strOfNums (acc ++ numL v)) := by
  induction m with
  | zero =>
    intro v k acc hv hv2 ha hk
    obtain ⟨k, rfl⟩ : ∃ m, k = m + 1 := ⟨k - 1, by omega⟩
    have hv' : v < 128 := by simpa using hv
    simp only [spec_PutNum.l0]
    rw [if_neg (by omega), if_pos (by omega), numL_lt hv']
    congr 4
    omega
  | succ m ih =>
    intro v k acc hv hv2 ha hk
    obtain ⟨k, rfl⟩ : ∃ m, k = m + 1 := ⟨k - 1, by omega⟩
    by_cases h : v < 128
    · simp only [spec_PutNum.l0]
      rw [if_neg (by omega), if_pos (by omega), numL_lt h]
      congr 4
      omega
    · have e1 : IntKind.u64.wrap (Int.tdiv (v : Int) 128) = ((v / 128 : Nat) : Int) := by
        rw [Int.tdiv_eq_ediv_of_nonneg (by omega), IntKind.wrap_u64]
        omega
      have e2 : (IntKind.u64.wrap ((Int.tmod (v : Int) 128) + 128)) % 256 = ((v % 128 + 128 : Nat) : Int) := by
        rw [Int.tmod_eq_emod_of_nonneg (by omega), IntKind.wrap_u64]
        omega
      simp only [spec_PutNum.l0, e1, e2]
      rw [if_pos (by omega), if_pos (by omega), ih (v / 128) k _ (by rw [Nat.div_lt_iff_lt_mul (by decide)]; rw [← Nat.pow_succ]; exact hv) (by omega) (by simp; omega) (by omega), numL_ge h]
      simp
theorem putNum_s (n : Int) (h0 : -9223372036854775808 ≤ n) (h1 : n ≤ 9223372036854775807) (k : Nat) (hk : 10 ≤ k) : spec_PutNum.f k n = some (putNum n) := by
  have e : spec_l01Fold.f n = some ((fold n : Nat) : Int) := by
    unfold spec_l01Fold.f fold
    by_cases h : n < 0
    · rw [if_pos h, if_pos h]
      simp only [IntKind.wrap_u64, wrap64]
      congr 1
      omega
    · rw [if_neg h, if_neg h]
      simp only [IntKind.wrap_u64]
      congr 1
      omega
  have hf := fold_lt n h0 h1
  unfold spec_PutNum.f
  rw [e, Option.bind_some, putNum_s_l0 9 _ k _ (Nat.lt_of_lt_of_le hf (by decide)) hf (by simp) (by omega)]
  simp [putNum]
theorem or128 (y : Nat) (h : y < 128) : Go.bits .or .u8 (((y : Nat) : Int) % 256) 128 = ((y + 128 : Nat) : Int) := by
  have e : ((y : Nat) : Int) % 256 = (y : Int) := by omega
  rw [e]
  refine (u8_or_nat y 128 (by omega) (by omega)).trans ?_
  have := nat_join 7 128 y (by decide) (by omega)
  rw [Nat.or_comm, this]
  congr 1
  omega
theorem putNum_i_l0 (m : Nat) : ∀ (v k : Nat) (acc : List Int), v < 128 ^ (m + 1) → v < 18446744073709551616 → acc.length + m + 1 ≤ 140737488355328 → m < k → impl_PutNum.l0 k (v : Int) acc = some (strOfNums (acc ++ numL v)) := by
  induction m with
  | zero =>
    intro v k acc hv hv2 ha hk
    obtain ⟨k, rfl⟩ : ∃ m, k = m + 1 := ⟨k - 1, by omega⟩
    have hv' : v < 128 := by simpa using hv
    simp only [impl_PutNum.l0]
    rw [if_neg (by omega), if_pos (by omega), numL_lt hv']
    congr 4
    omega
  | succ m ih =>
    intro v k acc hv hv2 ha hk
    obtain ⟨k, rfl⟩ : ∃ m, k = m + 1 := ⟨k - 1, by omega⟩
    by_cases h : v < 128
    · simp only [impl_PutNum.l0]
      rw [if_neg (by omega), if_pos (by omega), numL_lt h]
      congr 4
      omega
    · have e1 : (v : Int) / 128 = ((v / 128 : Nat) : Int) := by omega
      have e2 : Go.bits .or .u8 ((Go.bits .and .u64 (v : Int) 127) % 256) 128 = ((v % 128 + 128 : Nat) : Int) := by
        have e3 : Go.bits .and .u64 (v : Int) 127 = ((v % 128 : Nat) : Int) := by
          have := u64_and_nat v 127 hv2 (by decide)
          rw [nat_mask7] at this
          exact this
        rw [e3, or128 _ (by omega)]
      simp only [impl_PutNum.l0, e1, e2]
      rw [if_pos (by omega), if_pos (by omega), ih (v / 128) k _ (by rw [Nat.div_lt_iff_lt_mul (by decide)]; rw [← Nat.pow_succ]; exact hv) (by omega) (by simp; omega) (by omega), numL_ge h]
      simp
theorem fold_bits (n : Int) (h0 : -9223372036854775808 ≤ n) (h1 : n ≤ 9223372036854775807) : Go.bits .xor .u64 (IntKind.u64.wrap ((IntKind.u64.wrap n) * 2)) (IntKind.u64.wrap (n / 9223372036854775808)) = ((fold n : Nat) : Int) := by
  simp only [IntKind.wrap_u64]
  unfold fold
  by_cases h : n < 0
  · rw [if_pos h]
    have e1 : n / 9223372036854775808 % 18446744073709551616 = ((18446744073709551615 : Nat) : Int) := by omega
    have e2 : n % 18446744073709551616 * 2 % 18446744073709551616 = (((n % 18446744073709551616 * 2 % 18446744073709551616).toNat : Nat) : Int) := by omega
    rw [e1, e2, u64_xor_nat _ _ (by omega) (by omega), xor_ones _ (by omega)]
    omega
  · rw [if_neg h]
    have e1 : n / 9223372036854775808 % 18446744073709551616 = ((0 : Nat) : Int) := by omega
    have e2 : n % 18446744073709551616 * 2 % 18446744073709551616 = (((2 * n).toNat : Nat) : Int) := by omega
    rw [e1, e2, u64_xor_nat _ _ (by omega) (by omega)]
    simp
theorem putNum_i (n : Int) (h0 : -9223372036854775808 ≤ n) (h1 : n ≤ 9223372036854775807) (k : Nat) (hk : 10 ≤ k) : impl_PutNum.f k n = some (putNum n) := by
  have hf := fold_lt n h0 h1
  unfold impl_PutNum.f
  rw [fold_bits n h0 h1, putNum_i_l0 9 _ k _ (Nat.lt_of_lt_of_le hf (by decide)) hf (by simp) (by omega)]
  simp [putNum]
theorem putText_i (t : ByteArray) (ht : t.size ≤ 1048576) : Ev (fun k => impl_PutText.f k t) (if (t.size : Int) > 20000 then (⟨#[]⟩ : ByteArray) else putNum (t.size : Int) ++ t) := by
  have hs := putNum_size (t.size : Int) (by omega) (by omega)
  refine ev_bind1 (a := decide ((t.size : Int) > 20000)) rfl ?_
  by_cases c : (t.size : Int) > 20000
  · exact ev_if_pos (decide_eq_true c) (ev_eq (by rw [if_pos c]))
  · rw [if_neg c]
    refine ev_if_neg (by simp; omega) ?_
    refine Ev.bind ?_ (Ev.now _)
    refine ev_bind1 (a := (t.size : Int)) rfl (Ev.bind (ev_from 10 (fun k hk => putNum_i _ (by omega) (by omega) k hk)) (ev_if_pos (by omega) (Ev.now _)))
theorem putText_s (t : ByteArray) (ht : t.size ≤ 1048576) : Ev (fun k => spec_PutText.f k t) (if (t.size : Int) > 20000 then (⟨#[]⟩ : ByteArray) else putNum (t.size : Int) ++ t) := by
  have hs := putNum_size (t.size : Int) (by omega) (by omega)
  by_cases c : (t.size : Int) > 20000
  · exact ev_if_pos c (ev_eq (by rw [if_pos c]))
  · exact ev_if_neg c (Ev.bind (ev_from 10 (fun k hk => putNum_s _ (by omega) (by omega) k hk)) (ev_if_pos (by omega) (ev_eq (by rw [if_neg c]))))
theorem drawText_ok (l : List Int) (hl : l.length ≤ 1048576) : Evs (fun k => spec_DrawPutText.f k l) (fun t => t.size ≤ 20001) := by
  unfold spec_DrawPutText.f
  refine Evs.bind (src_ok l hl) (fun r hr => ?_)
  obtain ⟨b, q, m, z⟩ := r
  obtain ⟨rfl, hs, _⟩ := hr
  obtain ⟨v, q1, m1, hv, hs1⟩ := one_ok b q m z 8 hs (by decide) (by decide)
  refine Evs.bind1 hv ?_
  cases v
  · obtain ⟨n, q2, m2, hn, h0, h1, hs2⟩ := n_ok b q1 m1 z 20 hs1 (by decide) (by decide)
    refine Evs.if_neg (by simp) (Evs.bind1 hn ?_)
    refine Evs.bind (bytesN_ok b q2 m2 z n h0 (by omega) hs2) (fun r hr => Evs.now _ (by omega))
  · obtain ⟨n, q2, m2, hn, h0, h1, hs2⟩ := n_ok b q1 m1 z 3 hs1 (by decide) (by decide)
    refine Evs.if_pos rfl (Evs.bind1 hn ?_)
    have e : wrap64 (19999 + n) = 19999 + n := w64 (by omega) (by omega)
    simp only [e]
    refine Evs.if_pos (by omega) (Evs.if_pos (by omega) (Evs.now _ ?_))
    rw [strOfNums_len]
    simp
    omega
theorem gout_put (n : Int) (h0 : -9223372036854775808 ≤ n) (h1 : n ≤ 9223372036854775807) (p : Nat) (rest : List Nat) : gout p (gN 0 0 ((numL (fold n)).map Int.toNat ++ rest)) = (n, ((p + (putNum n).size : Nat) : Int), 0) := by
  have hf := fold_lt n h0 h1
  rw [gN_put 9 (fold n) 0 0 rest rfl (Nat.lt_of_lt_of_le hf (by decide)) (by omega) (fun h => absurd h (by decide))]
  unfold gout
  rw [if_pos rfl]
  have e : (putNum n).size = (numL (fold n)).length := by unfold putNum; exact strOfNums_len _
  simp only [Nat.pow_zero, Nat.mul_one, Nat.zero_add, unfold_fold, e]
theorem bl_one (c : UInt8) : bl ⟨#[c]⟩ = [c.toNat] := rfl
/-- a text behind its length is got back. -/
theorem text_back (t : ByteArray) (ht : (t.size : Int) ≤ 20000) : tout ((⟨#[120]⟩ : ByteArray) ++ (putNum (t.size : Int) ++ t)) (gout 1 (gN 0 0 ((bl ((⟨#[120]⟩ : ByteArray) ++ (putNum (t.size : Int) ++ t))).drop 1))) = (t, (((putNum (t.size : Int) ++ t).size + 1 : Nat) : Int), 0) := by
  have hs : ((⟨#[120]⟩ : ByteArray) ++ (putNum (t.size : Int) ++ t)).size = 1 + ((putNum (t.size : Int)).size + t.size) := by rw [ByteArray.size_append, ByteArray.size_append]; rfl
  have e : (bl ((⟨#[120]⟩ : ByteArray) ++ (putNum (t.size : Int) ++ t))).drop 1 = (numL (fold (t.size : Int))).map Int.toNat ++ bl t := by
    rw [bl_append, bl_append, bl_putNum _ (by omega) (by omega)]
    rfl
  rw [e, gout_put _ (by omega) (by omega)]
  unfold tout
  rw [if_pos rfl, if_pos ⟨by omega, by omega⟩]
  simp only
  rw [if_neg (by rw [hs]; omega)]
  simp only [Prod.mk.injEq, and_true]
  refine ⟨?_, by rw [ByteArray.size_append]; omega⟩
  apply bl_inj
  rw [bl_extract, bl_append, bl_append]
  have l1 : (bl (putNum (t.size : Int))).length = (putNum (t.size : Int)).size := bl_length _
  have l2 : (bl t).length = t.size := bl_length _
  have l3 : (bl (⟨#[120]⟩ : ByteArray) ++ (bl (putNum (t.size : Int)) ++ bl t)).length = 1 + ((putNum (t.size : Int)).size + t.size) := by
    rw [List.length_append, List.length_append, l1, l2]; rfl
  rw [List.take_of_length_le (by omega), ← List.append_assoc]
  refine List.drop_left' ?_
  rw [List.length_append, l1]
  show 1 + (putNum (t.size : Int)).size = _
  omega
/-- without its last byte it is not. -/
theorem text_short (t : ByteArray) (ht : (t.size : Int) ≤ 20000) (N : Nat) (hN : N = (putNum (t.size : Int) ++ t).size - 1) : (tout ((putNum (t.size : Int) ++ t).extract 0 N) (gout 0 (gN 0 0 ((bl ((putNum (t.size : Int) ++ t).extract 0 N)).drop 0)))).2.2 = 4 := by
  have hp := putNum_size (t.size : Int) (by omega) (by omega)
  have hs : (putNum (t.size : Int) ++ t).size = (putNum (t.size : Int)).size + t.size := ByteArray.size_append
  have l1 : (bl (putNum (t.size : Int))).length = (putNum (t.size : Int)).size := bl_length _
  have hb := bl_putNum (t.size : Int) (by omega) (by omega)
  have e : (bl ((putNum (t.size : Int) ++ t).extract 0 N)).drop 0 = (bl (putNum (t.size : Int)) ++ bl t).take N := by
    rw [bl_extract, bl_append, List.drop_zero, List.drop_zero]
  have hsz : ((putNum (t.size : Int) ++ t).extract 0 N).size = N := by
    rw [← bl_length, ← List.drop_zero (l := bl _), e, List.length_take, List.length_append, l1, bl_length]
    omega
  by_cases h0 : t.size = 0
  · have e2 : (bl (putNum (t.size : Int)) ++ bl t).take N = ((numL (fold (t.size : Int))).map Int.toNat).take N := by
      rw [List.take_append_of_le_length (by omega), hb]
    rw [e, e2, gN_short 9 _ 0 0 N rfl (Nat.lt_of_lt_of_le (fold_lt _ (by omega) (by omega)) (by decide)) (by rw [← List.length_map (f := Int.toNat), ← hb]; omega)]
    rfl
  · have e2 : (bl (putNum (t.size : Int)) ++ bl t).take N = (numL (fold (t.size : Int))).map Int.toNat ++ (bl t).take (N - (putNum (t.size : Int)).size) := by
      rw [List.take_append, hb, List.take_of_length_le (by rw [← hb]; omega)]
      congr 2
      rw [← hb, l1]
    rw [e, e2, gout_put _ (by omega) (by omega)]
    unfold tout
    rw [if_pos rfl, if_pos ⟨by omega, by omega⟩, if_pos (by rw [hsz]; simp only; omega)]
set_option maxHeartbeats 2000000 in
theorem FnNums : laws_FnNums.Pure := by
  intro l0 l1 _ _ _ _ _ _
  refine Ev.rounds (g := fun k => laws_FnNums.f k l0 l1) (Evs.ev ?_)
  have out : Evs (fun k => laws_FnNums.j0 k l0 l1 true) (fun x => x = true) := ⟨true, Ev.step (f := fun _ => some true) (fun k => by simp only [laws_FnNums.j0]; rw [if_pos trivial]) (Ev.now _), rfl⟩
  unfold laws_FnNums.f
  refine Evs.ite (fun _ => out) (fun hl0 => ?_)
  by_cases hl1 : (l1.length : Int) > 1048576
  · rw [decide_eq_true hl1]; exact out
  rw [decide_eq_false hl1]
  -- the number
  have hnum : Evs (fun k => spec_DrawPutNum.f k l0) (fun n => -9223372036854775808 ≤ n ∧ n ≤ 9223372036854775807) := by
    unfold spec_DrawPutNum.f
    refine Evs.bind (src_ok l0 (by omega)) (fun r hr => ?_)
    obtain ⟨b, q, m, z⟩ := r
    obtain ⟨rfl, hs, _⟩ := hr
    obtain ⟨v, q1, m1, hv, h0, h1, _⟩ := any_ok b q m z hs
    exact Evs.bind1 hv (Evs.now _ ⟨h0, h1⟩)
  obtain ⟨n, hn, h0, h1⟩ := hnum
  obtain ⟨t, ht, hts⟩ := drawText_ok l1 (by omega)
  have hps := putNum_size n h0 h1
  have hpi : Ev (fun k => impl_PutNum.f k n) (putNum n) := ev_from 10 (fun k hk => putNum_i n h0 h1 k hk)
  have hpS : Ev (fun k => spec_PutNum.f k n) (putNum n) := ev_from 10 (fun k hk => putNum_s n h0 h1 k hk)
  refine ⟨true, ?_, rfl⟩
  refine Ev.step (f := fun k => (spec_DrawPutNum.f k l0).bind fun t211 => ((impl_PutNum.f k t211).bind fun t212 => ((spec_PutNum.f k t211).bind fun t213 => (if t212.toList = t213.toList then (if (t212.size : Int) < 1 then (laws_FnNums.j1 k l1 t211 t212 true) else (laws_FnNums.j1 k l1 t211 t212 (decide ((t212.size : Int) > 10)))) else (laws_FnNums.j1 k l1 t211 t212 true))))) (fun k => by simp only [laws_FnNums.j0]; rw [if_neg (by simp)]) ?_
  refine Ev.bind hn (Ev.bind hpi (Ev.bind hpS (ev_if_pos rfl (ev_if_neg (by omega) ?_))))
  rw [decide_eq_false (show ¬ ((putNum n).size : Int) > 10 by omega)]
  -- it is got back
  have hb := bl_putNum n h0 h1
  have sz1 : ((⟨#[120, 121]⟩ : ByteArray) ++ putNum n).size = 2 + (putNum n).size := by rw [ByteArray.size_append]; rfl
  have sz2 : ((⟨#[120, 121]⟩ : ByteArray) ++ putNum n ++ (⟨#[122]⟩ : ByteArray)).size = 2 + (putNum n).size + 1 := by rw [ByteArray.size_append, sz1]; rfl
  have g1 : Ev (fun k => impl_GetNum.f k ((⟨#[120, 121]⟩ : ByteArray) ++ putNum n ++ (⟨#[122]⟩ : ByteArray)) 2) (n, ((2 + (putNum n).size : Nat) : Int), 0) := by
    refine ev_bind1 (a := decide ((((⟨#[120, 121]⟩ : ByteArray) ++ putNum n ++ (⟨#[122]⟩ : ByteArray)).size : Int) > 20000)) rfl (ev_if_neg (by rw [sz2]; simp; omega) ?_)
    have hg := getNum_i ((⟨#[120, 121]⟩ : ByteArray) ++ putNum n ++ (⟨#[122]⟩ : ByteArray)) 2 (by omega) (by decide)
    have e : (bl ((⟨#[120, 121]⟩ : ByteArray) ++ putNum n ++ (⟨#[122]⟩ : ByteArray))).drop 2 = (numL (fold n)).map Int.toNat ++ [122] := by
      rw [bl_append, bl_append, hb]
      rfl
    rw [e, gout_put n h0 h1] at hg
    exact Ev.bind hg (Ev.now _)
  have g2 : Evs (fun k => impl_GetNum.f k ((putNum n).extract 0 ((wrap64 (((putNum n).size : Int) - 1)) : Int).toNat) 0) (fun r => r.2.2 = 4) := by
    have ew : (wrap64 (((putNum n).size : Int) - 1)).toNat = (putNum n).size - 1 := by rw [w64 (by omega) (by omega)]; omega
    rw [ew]
    have l1 : (bl (putNum n)).length = (putNum n).size := bl_length _
    have e : (bl ((putNum n).extract 0 ((putNum n).size - 1))).drop 0 = ((numL (fold n)).map Int.toNat).take ((putNum n).size - 1) := by
      rw [bl_extract, hb, List.drop_zero, List.drop_zero]
    have hsz : ((putNum n).extract 0 ((putNum n).size - 1)).size = (putNum n).size - 1 := by
      rw [← bl_length, ← List.drop_zero (l := bl _), e, List.length_take, ← hb, l1]
      omega
    have hg := getNum_i ((putNum n).extract 0 ((putNum n).size - 1)) 0 (by omega) (by decide)
    rw [e, gN_short 9 _ 0 0 _ rfl (Nat.lt_of_lt_of_le (fold_lt _ h0 h1) (by decide)) (by rw [← List.length_map (f := Int.toNat), ← hb]; omega)] at hg
    refine ⟨(0, 0, 4), ?_, rfl⟩
    refine ev_bind1 (a := decide ((((putNum n).extract 0 ((putNum n).size - 1)).size : Int) > 20000)) rfl (ev_if_neg (by rw [hsz]; simp; omega) ?_)
    exact Ev.bind hg (Ev.now _)
  obtain ⟨r2, hr2, hc2⟩ := g2
  refine Ev.step (f := fun k => if 2 + (putNum n).size ≤ 9223372036854775807 then (if ((⟨#[120, 121]⟩ : ByteArray) ++ putNum n).size + 1 ≤ 9223372036854775807 then ((impl_GetNum.f k (((⟨#[120, 121]⟩ : ByteArray) ++ putNum n) ++ (⟨#[122]⟩ : ByteArray)) 2).bind fun bt214 => (if (!(bt214.1 == n) || (!(bt214.2.1 == (wrap64 (((putNum n).size : Int) + 2))) || (!(bt214.2.2 == 0)))) = true then (laws_FnNums.j2 k l1 true) else (if 0 ≤ (wrap64 (((putNum n).size : Int) - 1)) then (if (wrap64 (((putNum n).size : Int) - 1)) ≤ ((putNum n).size : Int) then ((impl_GetNum.f k ((putNum n).extract 0 ((wrap64 (((putNum n).size : Int) - 1)) : Int).toNat) 0).bind fun bt218 => (laws_FnNums.j2 k l1 (bt218.2.2 != 4))) else (none)) else (none)))) else (none)) else (none)) (fun k => by simp only [laws_FnNums.j1]; rw [if_neg (by simp)]) ?_
  refine ev_if_pos (by omega) (ev_if_pos (by omega) (Ev.bind g1 (ev_if_neg ?_ (ev_if_pos ?_ (ev_if_pos ?_ (Ev.bind hr2 ?_))))))
  · have e : wrap64 (((putNum n).size : Int) + 2) = ((2 + (putNum n).size : Nat) : Int) := by rw [w64 (by omega) (by omega)]; omega
    rw [e]
    simp
  · rw [w64 (by omega) (by omega)]; omega
  · rw [w64 (by omega) (by omega)]; omega
  rw [hc2, show ((4 : Int) != 4) = false from rfl]
  -- the text
  refine Ev.step (f := fun k => (spec_DrawPutText.f k l1).bind fun t221 => ((impl_PutText.f k t221).bind fun t222 => ((spec_PutText.f k t221).bind fun t223 => (if t222.toList = t223.toList then (laws_FnNums.j3 k t221 t222 (t222.toList == ([] : List UInt8))) else (laws_FnNums.j3 k t221 t222 true))))) (fun k => by simp only [laws_FnNums.j2]; rw [if_neg (by simp)]) ?_
  have hTi := putText_i t (by omega)
  have hTs := putText_s t (by omega)
  refine Ev.bind ht (Ev.bind hTi (Ev.bind hTs (ev_if_pos rfl ?_)))
  by_cases c : (t.size : Int) > 20000
  · rw [if_pos c]
    rw [if_pos c] at hTs
    refine Ev.step (f := fun k => (spec_PutText.f k t).bind fun t224 => (some ((⟨#[]⟩ : ByteArray).toList == t224.toList))) (fun k => by simp only [laws_FnNums.j3]; rw [empty_list, if_pos rfl]) ?_
    exact Ev.bind hTs (ev_eq (beq_self_eq_true _))
  · rw [if_neg c]
    have hp := putNum_size (t.size : Int) (by omega) (by omega)
    have hs : (putNum (t.size : Int) ++ t).size = (putNum (t.size : Int)).size + t.size := ByteArray.size_append
    have ne := not_empty (putNum (t.size : Int) ++ t) (by omega)
    rw [ne]
    have hs1 : ((⟨#[120]⟩ : ByteArray) ++ (putNum (t.size : Int) ++ t)).size = 1 + (putNum (t.size : Int) ++ t).size := by rw [ByteArray.size_append]; rfl
    refine Ev.step (f := fun k => if (wrap64 (((putNum (t.size : Int) ++ t).size : Int) + 1)) > 20000 then (some true) else (if 1 + (putNum (t.size : Int) ++ t).size ≤ 9223372036854775807 then ((impl_GetText.f k ((⟨#[120]⟩ : ByteArray) ++ (putNum (t.size : Int) ++ t)) 1).bind fun bt225 => (if (bt225.1.toList == t.toList && (bt225.2.1 == (wrap64 (((putNum (t.size : Int) ++ t).size : Int) + 1)) && (bt225.2.2 == 0))) = true then (if 0 ≤ (wrap64 (((putNum (t.size : Int) ++ t).size : Int) - 1)) then (if (wrap64 (((putNum (t.size : Int) ++ t).size : Int) - 1)) ≤ ((putNum (t.size : Int) ++ t).size : Int) then ((impl_GetText.f k ((putNum (t.size : Int) ++ t).extract 0 ((wrap64 (((putNum (t.size : Int) ++ t).size : Int) - 1)) : Int).toNat) 0).bind fun bt228 => (some (bt228.2.2 == 4))) else (none)) else (none)) else (some false))) else (none))) (fun k => by simp only [laws_FnNums.j3]; rw [if_neg (by simp)]) ?_
    rw [show wrap64 (((putNum (t.size : Int) ++ t).size : Int) + 1) = (((putNum (t.size : Int) ++ t).size + 1 : Nat) : Int) from (w64 (by omega) (by omega)).trans (by omega), show wrap64 (((putNum (t.size : Int) ++ t).size : Int) - 1) = (((putNum (t.size : Int) ++ t).size - 1 : Nat) : Int) from (w64 (by omega) (by omega)).trans (by omega)]
    by_cases c2 : (((putNum (t.size : Int) ++ t).size + 1 : Nat) : Int) > 20000
    · exact ev_if_pos c2 (Ev.now _)
    refine ev_if_neg c2 (ev_if_pos (by omega) ?_)
    have G1 : Ev (fun k => impl_GetText.f k ((⟨#[120]⟩ : ByteArray) ++ (putNum (t.size : Int) ++ t)) 1) (t, (((putNum (t.size : Int) ++ t).size + 1 : Nat) : Int), 0) := by
      refine ev_bind1 (a := decide ((((⟨#[120]⟩ : ByteArray) ++ (putNum (t.size : Int) ++ t)).size : Int) > 20000)) rfl (ev_if_neg (by rw [hs1]; simp; omega) ?_)
      have hg := getText_i ((⟨#[120]⟩ : ByteArray) ++ (putNum (t.size : Int) ++ t)) 1 (by omega) (by omega)
      rw [text_back t (by omega)] at hg
      exact Ev.bind hg (Ev.now _)
    have hN : (((putNum (t.size : Int) ++ t).size - 1 : Nat) : Int).toNat = (putNum (t.size : Int) ++ t).size - 1 := Int.toNat_natCast _
    rw [hN]
    have hsz := extract_size (putNum (t.size : Int) ++ t) ((putNum (t.size : Int) ++ t).size - 1) (by omega)
    have G2 : Evs (fun k => impl_GetText.f k ((putNum (t.size : Int) ++ t).extract 0 ((putNum (t.size : Int) ++ t).size - 1)) 0) (fun r => r.2.2 = 4) := by
      have hg := getText_i ((putNum (t.size : Int) ++ t).extract 0 ((putNum (t.size : Int) ++ t).size - 1)) 0 (by omega) (by omega)
      have h4 := text_short t (by omega) _ rfl
      revert hg h4
      generalize tout ((putNum (t.size : Int) ++ t).extract 0 ((putNum (t.size : Int) ++ t).size - 1)) (gout 0 (gN 0 0 ((bl ((putNum (t.size : Int) ++ t).extract 0 ((putNum (t.size : Int) ++ t).size - 1))).drop 0))) = r
      intro hg h4
      refine ⟨r, ?_, h4⟩
      refine ev_bind1 (a := decide ((((putNum (t.size : Int) ++ t).extract 0 ((putNum (t.size : Int) ++ t).size - 1)).size : Int) > 20000)) rfl (ev_if_neg (by rw [hsz]; simp; omega) ?_)
      exact Ev.bind hg (Ev.now _)
    obtain ⟨r3, hr3, hc3⟩ := G2
    refine Ev.bind G1 (ev_if_pos (by simp) (ev_if_pos (by omega) (ev_if_pos (by omega) (Ev.bind hr3 (ev_eq (by rw [hc3]; rfl))))))
end Go.Proofs.Yteljfdhjbnlgoaa.Pure
