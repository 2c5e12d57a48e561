/- The plain law of FnExactPlacesRead: of every text PlacesRead reads what the reference reads, and what it gives shares nothing. -/
import Derived.Test.YteljfdhjbnlgoaaPFnExactPlacesReadx17
import Derived.Test.YteljfdhjbnlgoaaVLibFnExactPlacesRead
namespace Go.Proofs.Yteljfdhjbnlgoaa.Pure
open Go.RowKit Go.Proofs.Yteljfdhjbnlgoaa.PFnExactPlacesRead Go.Proofs.Yteljfdhjbnlgoaa.Lib Go.Proofs.YteljfdhjbnlgoaaW.PrintWords Go.Proofs.YteljfdhjbnlgoaaW.PrintLast Go.Proofs.YteljfdhjbnlgoaaW.PrintMore
set_option linter.unusedVariables false
set_option linter.unusedSimpArgs false
theorem within_eq (a b c : Int) : impl_within.f a b c = some (decide (b ≤ a) && decide (a ≤ c)) := by
  unfold impl_within.f
  by_cases h : a ≥ b <;> simp [h]
/-- a loop whose rounds each go on or end. -/
theorem loop_evx {σ ρ : Type} (F : Nat → σ → Int → Option ρ) (n : Nat) (inv : Nat → σ → Prop) (Q : ρ → Prop)
    (hstep : ∀ (i : Nat) (s : σ), i < n → inv i s → (∃ s', inv (i + 1) s' ∧ ∀ v, Ev (fun k => F k s' ((i + 1 : Nat) : Int)) v → Ev (fun k => F k s (i : Int)) v) ∨ Evs (fun k => F k s (i : Int)) Q)
    (hend : ∀ (s : σ), inv n s → Evs (fun k => F k s (n : Int)) Q) : ∀ (s : σ), inv 0 s → Evs (fun k => F k s 0) Q := by
  have main : ∀ (d i : Nat) (s : σ), i + d = n → inv i s → Evs (fun k => F k s (i : Int)) Q := by
    intro d
    induction d with
    | zero =>
      intro i s hi hv
      obtain rfl : i = n := by omega
      exact hend s hv
    | succ d ih =>
      intro i s hi hv
      rcases hstep i s (by omega) hv with ⟨s', hs', hv'⟩ | h
      · obtain ⟨v, h1, h2⟩ := ih (i + 1) s' (by omega) hs'
        exact ⟨v, hv' v h1, h2⟩
      · exact h
  intro s hs
  exact main n 0 s (by omega) hs
theorem wnat' (i n : Nat) (hi : i < n) (hn : n ≤ 9223372036854775807) : wrap64 ((i : Int) + 1) = ((i + 1 : Nat) : Int) := by rw [w64 (by omega) (by omega)]; omega
/-- what is read of bytes: a code, the number's fold, and how many bytes. -/
def gN : Nat → Nat → List Nat → Int × Nat × Nat
  | _, _, [] => (4, 0, 0)
  | i, u, c :: cs => if i = 9 ∧ 1 < c then (3, 0, 0) else if c < 128 then (if c = 0 ∧ 0 < i then (3, 0, 0) else (0, u + c * 128 ^ i, i + 1)) else gN (i + 1) (u + (c - 128) * 128 ^ i) cs
theorem gN_ok : ∀ (l : List Nat) (i u : Nat), i ≤ 9 → u < 128 ^ i → (∀ c ∈ l, c < 256) → (gN i u l).1 = 0 → i < (gN i u l).2.2 ∧ (gN i u l).2.2 ≤ i + l.length ∧ (gN i u l).2.1 < 18446744073709551616 := by
  intro l
  induction l with
  | nil => intro i u _ _ _ h; simp [gN] at h
  | cons c cs ih =>
    intro i u hi hu hl h
    have hc := hl c (by simp)
    unfold gN at h ⊢
    by_cases h1 : i = 9 ∧ 1 < c
    · rw [if_pos h1] at h; simp at h
    rw [if_neg h1] at h ⊢
    have hp : 128 ^ i ≤ 128 ^ 9 := Nat.pow_le_pow_right (by decide) hi
    by_cases h2 : c < 128
    · rw [if_pos h2] at h ⊢
      by_cases h3 : c = 0 ∧ 0 < i
      · rw [if_pos h3] at h; simp at h
      rw [if_neg h3]
      refine ⟨by simp, by simp, ?_⟩
      show u + c * 128 ^ i < _
      by_cases h9 : i = 9
      · subst h9
        have : c ≤ 1 := by omega
        have : c * 128 ^ 9 ≤ 1 * 128 ^ 9 := Nat.mul_le_mul_right _ this
        omega
      · have hp8 : 128 ^ i ≤ 128 ^ 8 := Nat.pow_le_pow_right (by decide) (by omega)
        have : c * 128 ^ i ≤ 127 * 128 ^ 8 := Nat.mul_le_mul (by omega) hp8
        omega
    · rw [if_neg h2] at h ⊢
      have hi9 : i < 9 := by
        by_cases e : i = 9
        · exact absurd ⟨e, by omega⟩ h1
        · omega
      have hu' : u + (c - 128) * 128 ^ i < 128 ^ (i + 1) := by
        have : (c - 128) * 128 ^ i ≤ 127 * 128 ^ i := Nat.mul_le_mul_right _ (by omega)
        rw [Nat.pow_succ]
        omega
      obtain ⟨q1, q2, q3⟩ := ih (i + 1) _ (by omega) hu' (fun x hx => hl x (by simp [hx])) h
      exact ⟨by omega, by simp only [List.length_cons]; omega, q3⟩
/-- a number that was put is got back. -/
theorem gN_put (m : Nat) : ∀ (v i u : Nat) (rest : List Nat), i + m = 9 → v < 128 ^ (m + 1) → v * 128 ^ i < 18446744073709551616 → (0 < i → 0 < v) → gN i u ((numL v).map Int.toNat ++ rest) = (0, u + v * 128 ^ i, i + (numL v).length) := by
  induction m with
  | zero =>
    intro v i u rest hi hv hw h0
    obtain rfl : i = 9 := by omega
    have hv1 : v ≤ 1 := by omega
    rw [numL_lt (by omega)]
    simp only [List.map_cons, List.map_nil, List.cons_append, List.nil_append, Int.toNat_natCast, gN, List.length_cons, List.length_nil]
    rw [if_neg (by omega), if_pos (by omega), if_neg (by have := h0 (by omega); omega)]
  | succ m ih =>
    intro v i u rest hi hv hw h0
    by_cases h : v < 128
    · rw [numL_lt h]
      simp only [List.map_cons, List.map_nil, List.cons_append, List.nil_append, Int.toNat_natCast, gN, List.length_cons, List.length_nil]
      rw [if_neg (by omega), if_pos (by omega), if_neg (by intro q; have := h0 q.2; omega)]
    · rw [numL_ge h]
      simp only [List.map_cons, List.cons_append, Int.toNat_natCast, gN, List.length_cons]
      rw [if_neg (by omega), if_neg (by omega)]
      have e : v / 128 * 128 ^ (i + 1) + v % 128 * 128 ^ i = v * 128 ^ i := by
        rw [Nat.pow_succ, Nat.mul_comm (128 ^ i) 128, ← Nat.mul_assoc, ← Nat.add_mul]
        congr 1
        omega
      rw [ih (v / 128) (i + 1) _ rest (by omega) (by rw [Nat.div_lt_iff_lt_mul (by decide), ← Nat.pow_succ]; exact hv) (by omega) (by intro _; omega)]
      congr 2
      · have : v % 128 + 128 - 128 = v % 128 := by omega
        rw [this]
        omega
      · omega
/-- of a number whose last bytes are gone nothing is got. -/
theorem gN_short (m : Nat) : ∀ (v i u n : Nat), i + m = 9 → v < 128 ^ (m + 1) → n < (numL v).length → gN i u (((numL v).map Int.toNat).take n) = (4, 0, 0) := by
  induction m with
  | zero =>
    intro v i u n hi hv hn
    rw [numL_lt (Nat.lt_of_lt_of_le hv (by decide))] at hn ⊢
    obtain rfl : n = 0 := by simpa using hn
    rfl
  | succ m ih =>
    intro v i u n hi hv hn
    by_cases h : v < 128
    · rw [numL_lt h] at hn ⊢
      obtain rfl : n = 0 := by simpa using hn
      rfl
    · rw [numL_ge h] at hn ⊢
      cases n with
      | zero => rfl
      | succ n =>
        simp only [List.map_cons, List.take_succ_cons, Int.toNat_natCast, gN]
        rw [if_neg (by omega), if_neg (by omega)]
        exact ih (v / 128) (i + 1) _ n (by omega) (by rw [Nat.div_lt_iff_lt_mul (by decide), ← Nat.pow_succ]; exact hv) (by simpa using hn)
/-- the number of a fold. -/
def unfold' (u : Nat) : Int := if u % 2 = 1 then -((u / 2 : Nat) : Int) - 1 else ((u / 2 : Nat) : Int)
/-- a text as numbers. -/
def bl (t : ByteArray) : List Nat := t.data.toList.map UInt8.toNat
theorem bl_length (t : ByteArray) : (bl t).length = t.size := by unfold bl; rw [List.length_map]; exact data_length t
theorem bl_append (a b : ByteArray) : bl (a ++ b) = bl a ++ bl b := by simp [bl, ByteArray.data_append]
theorem bl_lt (t : ByteArray) : ∀ c ∈ bl t, c < 256 := by
  intro c hc
  obtain ⟨x, _, rfl⟩ := List.mem_map.1 hc
  exact x.toNat_lt
theorem bl_extract (t : ByteArray) (i j : Nat) : bl (t.extract i j) = ((bl t).take j).drop i := by
  simp only [bl, ByteArray.data_extract, Array.toList_extract, List.extract_eq_take_drop, List.map_take, List.map_drop]
  rw [List.drop_take]
theorem bl_inj {a b : ByteArray} (h : bl a = bl b) : a = b := by
  have h2 : a.data.toList = b.data.toList := by
    unfold bl at h
    exact (List.map_inj_right (fun x y q => UInt8.toNat_inj.1 q)).1 h
  cases a; cases b
  simp only at h2
  congr 1
  exact Array.toList_inj.1 h2
theorem bt_bl (t : ByteArray) (i : Nat) (h : i < t.size) : bt t (i : Int) = (((bl t)[i]'(by rw [bl_length]; exact h) : Nat) : Int) := by
  unfold bt
  simp only [Int.toNat_natCast]
  rw [dif_pos h]
  simp [bl]
  rfl
theorem bl_strOfNums (l : List Int) (h : ∀ x ∈ l, 0 ≤ x ∧ x < 256) : bl (strOfNums l) = l.map Int.toNat := by
  unfold bl strOfNums
  simp only [List.map_map]
  refine List.map_congr_left (fun x hx => ?_)
  have := h x hx
  simp only [Function.comp]
  rw [UInt8.toNat_ofNat']
  omega
theorem numL_range (m : Nat) : ∀ u, u < 128 ^ (m + 1) → ∀ x ∈ numL u, 0 ≤ x ∧ x < 256 := by
  induction m with
  | zero =>
    intro u hu x hx
    rw [numL_lt (by simpa using hu)] at hx
    simp at hx; subst hx
    simp at hu
    omega
  | succ m ih =>
    intro u hu x hx
    by_cases h : u < 128
    · rw [numL_lt h] at hx
      simp at hx; omega
    · rw [numL_ge h, List.mem_cons] at hx
      rcases hx with rfl | hx
      · omega
      · exact ih (u / 128) (by rw [Nat.div_lt_iff_lt_mul (by decide), ← Nat.pow_succ]; exact hu) x hx
theorem bl_putNum (n : Int) (h0 : -9223372036854775808 ≤ n) (h1 : n ≤ 9223372036854775807) : bl (putNum n) = (numL (fold n)).map Int.toNat :=
  bl_strOfNums _ (numL_range 9 _ (Nat.lt_of_lt_of_le (fold_lt n h0 h1) (by decide)))
theorem empty_list : ((⟨#[]⟩ : ByteArray).toList == ([] : List UInt8)) = true := by
  rw [ByteArray.toList_eq]; rfl
theorem not_empty (p : ByteArray) (h : 0 < p.size) : (p.toList == ([] : List UInt8)) = false := by
  refine beq_eq_false_iff_ne.2 (fun q => ?_)
  rw [ByteArray.toList_eq] at q
  have := congrArg List.length q
  rw [data_length] at this
  simp only [List.length_nil] at this
  omega
theorem extract_size (p : ByteArray) (n : Nat) (h : n ≤ p.size) : (p.extract 0 n).size = n := by
  rw [ByteArray.size_extract]; omega
theorem i64_xor_zero (x : Int) (h0 : -9223372036854775808 ≤ x) (h1 : x ≤ 9223372036854775807) : Go.bits .xor .i64 x 0 = x := by
  show IntKind.i64.wrap (((BitVec.ofInt 64 x) ^^^ (BitVec.ofInt 64 0)).toNat : Int) = x
  rw [show BitVec.ofInt 64 0 = 0#64 by decide, BitVec.xor_zero, BitVec.toNat_ofInt, i64_w]
  unfold wrap64
  omega
theorem i64_xor_ones (x : Int) (h0 : -9223372036854775808 ≤ x) (h1 : x ≤ 9223372036854775807) : Go.bits .xor .i64 x (-1) = -x - 1 := by
  show IntKind.i64.wrap (((BitVec.ofInt 64 x) ^^^ (BitVec.ofInt 64 (-1))).toNat : Int) = -x - 1
  rw [show BitVec.ofInt 64 (-1) = BitVec.allOnes 64 by decide, BitVec.xor_allOnes, BitVec.toNat_not, BitVec.toNat_ofInt, i64_w]
  unfold wrap64
  omega
theorem unfold_eq (u : Nat) (h : u < 18446744073709551616) : Go.bits .xor .i64 (wrap64 ((u : Int) / 2)) (wrap64 (-(wrap64 (Go.bits .and .u64 (u : Int) 1)))) = unfold' u := by
  have e : Go.bits .and .u64 (u : Int) 1 = ((u % 2 : Nat) : Int) := by
    refine (u64_and_nat u 1 h (by decide)).trans ?_
    rw [Nat.and_one_is_mod]
  rw [e, w64 (n := (u : Int) / 2) (by omega) (by omega), w64 (n := ((u % 2 : Nat) : Int)) (by omega) (by omega)]
  unfold unfold'
  by_cases q : u % 2 = 1
  · rw [if_pos q, q]
    rw [show wrap64 (-((1 : Nat) : Int)) = -1 by unfold wrap64; omega, i64_xor_ones _ (by omega) (by omega)]
    omega
  · rw [if_neg q, show u % 2 = 0 by omega]
    rw [show wrap64 (-((0 : Nat) : Int)) = 0 by unfold wrap64; omega, i64_xor_zero _ (by omega) (by omega)]
    omega
theorem or_shl (u c i : Nat) (hu : u < 128 ^ i) (h : i ≤ 8 ∧ c < 256 ∨ i = 9 ∧ c ≤ 1) : Go.bits .or .u64 (u : Int) (shl .u64 (IntKind.u64.wrap (Go.bits .and .u8 (c : Int) 127)) (wrap64 (7 * (i : Int)))) = ((u + c % 128 * 128 ^ i : Nat) : Int) := by
  have e1 : Go.bits .and .u8 (c : Int) 127 = ((c % 128 : Nat) : Int) := by
    refine (u8_and_nat c 127 (by omega) (by decide)).trans ?_
    rw [nat_mask7]
  have e2 : (2 : Nat) ^ (7 * i) = 128 ^ i := by rw [Nat.pow_mul]
  have hb : c % 128 * 128 ^ i < 18446744073709551616 := by
    rcases h with ⟨h, hc⟩ | ⟨rfl, hc⟩
    · have : 128 ^ i ≤ 128 ^ 8 := Nat.pow_le_pow_right (by decide) h
      have : c % 128 * 128 ^ i ≤ 127 * 128 ^ 8 := Nat.mul_le_mul (by omega) this
      omega
    · have : c % 128 * 128 ^ 9 ≤ 1 * 128 ^ 9 := Nat.mul_le_mul_right _ (by omega)
      omega
  have hub : u < 18446744073709551616 := by
    have : 128 ^ i ≤ 128 ^ 9 := Nat.pow_le_pow_right (by decide) (by omega)
    omega
  have e3 : shl .u64 (IntKind.u64.wrap (Go.bits .and .u8 (c : Int) 127)) (wrap64 (7 * (i : Int))) = ((c % 128 * 128 ^ i : Nat) : Int) := by
    rw [e1, w64 (by omega) (by omega)]
    unfold shl
    rw [show (7 * (i : Int)).toNat = 7 * i by omega, show IntKind.u64.bits = 64 from rfl, Nat.min_eq_left (by omega)]
    simp only [IntKind.wrap_u64]
    rw [show (2 : Int) ^ (7 * i) = ((128 ^ i : Nat) : Int) by rw [← e2]; simp]
    have : (((c % 128 : Nat) : Int) % 18446744073709551616) = ((c % 128 : Nat) : Int) := by omega
    rw [this, ← Int.natCast_mul]
    omega
  rw [e3, u64_or_nat _ _ hub hb, Nat.or_comm, nat_join (7 * i) _ _ (by rw [e2]; exact Nat.mul_mod_left _ _) (by rw [e2]; exact hu)]
  omega
/-- what is got of bytes: a number, the place behind it, a code. -/
def gout (p : Nat) (g : Int × Nat × Nat) : Int × Int × Int := if g.1 = 0 then (unfold' g.2.1, ((p + g.2.2 : Nat) : Int), 0) else (0, 0, g.1)
theorem getNum_i_l0 (x : ByteArray) (p : Nat) (hx : x.size ≤ 4611686018427387904) (hp : p ≤ 4611686018427387904) : ∀ (m i u : Nat), i + m = 9 → u < 128 ^ i → Ev (fun k => impl_getNum.l0 k x (p : Int) (u : Int) (i : Int)) (gout p (gN i u ((bl x).drop (p + i)))) := by
  intro m
  induction m with
  | zero =>
    intro i u hi hu
    obtain rfl : i = 9 := by omega
    by_cases h : p + 9 < x.size
    · have hc : p + 9 < (bl x).length := by rw [bl_length]; exact h
      have hb := bl_lt x (bl x)[p + 9] (List.getElem_mem hc)
      have hbt := bt_bl x (p + 9) h
      rw [List.drop_eq_getElem_cons hc]
      generalize (bl x)[p + 9] = c at hb hbt ⊢
      have e1 : wrap64 ((p : Int) + (9 : Nat)) = ((p + 9 : Nat) : Int) := by rw [w64 (by omega) (by omega)]; omega
      refine Ev.step (f := fun k => impl_getNum.j1 k x (p : Int) (Go.bits .or .u64 (u : Int) (shl .u64 (IntKind.u64.wrap (Go.bits .and .u8 (c : Int) 127)) (wrap64 (7 * ((9 : Nat) : Int))))) ((9 : Nat) : Int) (c : Int) (decide ((c : Int) > 1))) (fun k => ?_) ?_
      · simp only [impl_getNum.l0, impl_long.f, Option.bind_some, e1, hbt]
        rw [if_neg (by unfold wrap64; omega), if_pos (by omega), if_pos (by omega), if_pos (by rw [w64 (by omega) (by omega)]; omega), if_pos (by omega)]
      · by_cases h1 : 1 < c
        · rw [decide_eq_true (show (c : Int) > 1 by omega)]
          refine Ev.step (f := fun k => impl_getNum.j2 k x (p : Int) (Go.bits .or .u64 (u : Int) (shl .u64 (IntKind.u64.wrap (Go.bits .and .u8 (c : Int) 127)) (wrap64 (7 * ((9 : Nat) : Int))))) ((9 : Nat) : Int) (c : Int) true) (fun k => by simp only [impl_getNum.j1]; rw [if_pos trivial]) ?_
          refine Ev.step (f := fun _ => some (0, 0, 3)) (fun k => by simp only [impl_getNum.j2]; rw [if_pos trivial]) (ev_eq ?_)
          unfold gN
          rw [if_pos ⟨rfl, h1⟩]
          rfl
        · rw [decide_eq_false (show ¬ (c : Int) > 1 by omega), or_shl u c 9 hu (.inr ⟨rfl, by omega⟩), Nat.mod_eq_of_lt (show c < 128 by omega)]
          refine Ev.step (f := fun k => impl_getNum.j2 k x (p : Int) ((u + c * 128 ^ 9 : Nat) : Int) ((9 : Nat) : Int) (c : Int) (decide (c = 0))) (fun k => ?_) ?_
          · simp only [impl_getNum.j1]
            rw [if_neg (by simp)]
            by_cases h0 : c = 0
            · rw [if_pos (by omega), decide_eq_true h0]; rfl
            · rw [if_neg (by omega), decide_eq_false h0]
          · unfold gN
            rw [if_neg (by omega), if_pos (by omega)]
            by_cases h0 : c = 0
            · rw [decide_eq_true h0, if_pos ⟨h0, by decide⟩]
              exact Ev.step (f := fun _ => some (0, 0, 3)) (fun k => by simp only [impl_getNum.j2]; rw [if_pos trivial]) (ev_eq rfl)
            · rw [decide_eq_false h0, if_neg (fun q => h0 q.1)]
              refine Ev.step (f := fun _ => some (Go.bits .xor .i64 (wrap64 (((u + c * 128 ^ 9 : Nat) : Int) / 2)) (wrap64 (-(wrap64 (Go.bits .and .u64 ((u + c * 128 ^ 9 : Nat) : Int) 1)))), wrap64 ((wrap64 ((p : Int) + ((9 : Nat) : Int))) + 1), 0)) (fun k => ?_) (ev_eq ?_)
              · simp only [impl_getNum.j2]
                rw [if_neg (by simp), if_pos (by omega)]
              · have : c * 128 ^ 9 ≤ 1 * 128 ^ 9 := Nat.mul_le_mul_right _ (by omega)
                rw [unfold_eq _ (by omega), e1, w64 (by omega) (by omega)]
                unfold gout
                rw [if_pos rfl]
                simp only [Prod.mk.injEq, true_and]
                exact ⟨by omega, trivial⟩
    · rw [List.drop_eq_nil_of_le (by rw [bl_length]; omega)]
      refine Ev.step (f := fun _ => some (0, 0, 4)) (fun k => ?_) (ev_eq rfl)
      simp only [impl_getNum.l0, impl_long.f, Option.bind_some]
      rw [if_pos (by unfold wrap64; omega)]
  | succ m ih =>
    intro i u hi hu
    by_cases h : p + i < x.size
    · have hc : p + i < (bl x).length := by rw [bl_length]; exact h
      have hb := bl_lt x (bl x)[p + i] (List.getElem_mem hc)
      have hbt := bt_bl x (p + i) h
      rw [List.drop_eq_getElem_cons hc]
      generalize (bl x)[p + i] = c at hb hbt ⊢
      have e1 : wrap64 ((p : Int) + (i : Int)) = ((p + i : Nat) : Int) := by rw [w64 (by omega) (by omega)]; omega
      refine Ev.step (f := fun k => impl_getNum.j1 k x (p : Int) ((u + c % 128 * 128 ^ i : Nat) : Int) (i : Int) (c : Int) false) (fun k => ?_) ?_
      · simp only [impl_getNum.l0, impl_long.f, Option.bind_some, e1, hbt, or_shl u c i hu (.inl ⟨by omega, hb⟩)]
        rw [if_neg (by unfold wrap64; omega), if_pos (by omega), if_pos (by omega), if_pos (by rw [w64 (by omega) (by omega)]; omega), if_neg (by omega)]
      · unfold gN
        rw [if_neg (by omega)]
        by_cases h128 : c < 128
        · rw [Nat.mod_eq_of_lt h128, if_pos h128]
          refine Ev.step (f := fun k => impl_getNum.j2 k x (p : Int) ((u + c * 128 ^ i : Nat) : Int) (i : Int) (c : Int) (decide (c = 0 ∧ 0 < i))) (fun k => ?_) ?_
          · simp only [impl_getNum.j1]
            rw [if_neg (by simp)]
            by_cases h0 : c = 0
            · rw [if_pos (by omega)]
              congr 1
              by_cases hi0 : 0 < i
              · rw [decide_eq_true (show (i : Int) > 0 by omega), decide_eq_true ⟨h0, hi0⟩]
              · rw [decide_eq_false (show ¬ (i : Int) > 0 by omega), decide_eq_false (fun q => hi0 q.2)]
            · rw [if_neg (by omega), decide_eq_false (fun q => h0 q.1)]
          · by_cases h0 : c = 0 ∧ 0 < i
            · rw [decide_eq_true h0, if_pos h0]
              exact Ev.step (f := fun _ => some (0, 0, 3)) (fun k => by simp only [impl_getNum.j2]; rw [if_pos trivial]) (ev_eq rfl)
            · rw [decide_eq_false h0, if_neg h0]
              refine Ev.step (f := fun _ => some (Go.bits .xor .i64 (wrap64 (((u + c * 128 ^ i : Nat) : Int) / 2)) (wrap64 (-(wrap64 (Go.bits .and .u64 ((u + c * 128 ^ i : Nat) : Int) 1)))), wrap64 ((wrap64 ((p : Int) + (i : Int))) + 1), 0)) (fun k => ?_) (ev_eq ?_)
              · simp only [impl_getNum.j2]
                rw [if_neg (by simp), if_pos (by omega)]
              · have h8 : 128 ^ i ≤ 128 ^ 8 := Nat.pow_le_pow_right (by decide) (by omega)
                have : c * 128 ^ i ≤ 127 * 128 ^ 8 := Nat.mul_le_mul (by omega) h8
                rw [unfold_eq _ (by omega), e1, w64 (by omega) (by omega)]
                unfold gout
                rw [if_pos rfl]
                simp only [Prod.mk.injEq, true_and]
                exact ⟨by omega, trivial⟩
        · rw [if_neg h128, show c % 128 = c - 128 by omega]
          have hu' : u + (c - 128) * 128 ^ i < 128 ^ (i + 1) := by
            have : (c - 128) * 128 ^ i ≤ 127 * 128 ^ i := Nat.mul_le_mul_right _ (by omega)
            rw [Nat.pow_succ]
            omega
          have hr := ih (i + 1) (u + (c - 128) * 128 ^ i) (by omega) hu'
          refine Ev.step (f := fun k => impl_getNum.j2 k x (p : Int) ((u + (c - 128) * 128 ^ i : Nat) : Int) (i : Int) (c : Int) false) (fun k => ?_) ?_
          · simp only [impl_getNum.j1]
            rw [if_neg (by simp), if_neg (by omega)]
          · refine Ev.step (fun k => ?_) hr
            simp only [impl_getNum.j2]
            rw [if_neg (by simp), if_neg (by omega), wnat' i 10 (by omega) (by decide)]
    · rw [List.drop_eq_nil_of_le (by rw [bl_length]; omega)]
      refine Ev.step (f := fun _ => some (0, 0, 4)) (fun k => ?_) (ev_eq rfl)
      simp only [impl_getNum.l0, impl_long.f, Option.bind_some]
      rw [if_pos (by unfold wrap64; omega)]
theorem getNum_i (x : ByteArray) (p : Nat) (hx : x.size ≤ 4611686018427387904) (hp : p ≤ 4611686018427387904) : Ev (fun k => impl_getNum.f k x (p : Int)) (gout p (gN 0 0 ((bl x).drop p))) :=
  ev_if_neg (by omega) (getNum_i_l0 x p hx hp 9 0 0 rfl (by decide))
theorem unfold_range (u : Nat) (h : u < 18446744073709551616) : -9223372036854775808 ≤ unfold' u ∧ unfold' u ≤ 9223372036854775807 := by
  unfold unfold'
  split <;> omega
theorem unfold_fold (n : Int) : unfold' (fold n) = n := by
  unfold unfold' fold
  by_cases h : n < 0
  · rw [if_pos h, if_pos (by omega)]; omega
  · rw [if_neg h, if_neg (by omega)]; omega
/-- what is got of bytes as a number is right, if its code is. -/
theorem gout_ok (x : ByteArray) (p : Nat) (hp : p ≤ x.size) (h : (gout p (gN 0 0 ((bl x).drop p))).2.2 = 0) : ∃ (n : Int) (q : Nat), gout p (gN 0 0 ((bl x).drop p)) = (n, (q : Int), 0) ∧ p < q ∧ q ≤ x.size ∧ -9223372036854775808 ≤ n ∧ n ≤ 9223372036854775807 := by
  unfold gout at h ⊢
  by_cases c : (gN 0 0 ((bl x).drop p)).1 = 0
  · obtain ⟨q1, q2, q3⟩ := gN_ok ((bl x).drop p) 0 0 (by decide) (by decide) (fun c hc => bl_lt x c (List.mem_of_mem_drop hc)) c
    rw [if_pos c]
    have := unfold_range _ q3
    rw [List.length_drop, bl_length] at q2
    exact ⟨_, _, rfl, by omega, by omega, this.1, this.2⟩
  · rw [if_neg c] at h
    exact absurd h c
def tout (x : ByteArray) (r : Int × Int × Int) : ByteArray × Int × Int := if r.2.2 = 0 then (if 0 ≤ r.1 ∧ r.1 ≤ 20000 then (if r.2.1 + r.1 > (x.size : Int) then ((⟨#[]⟩ : ByteArray), 0, 4) else (x.extract r.2.1.toNat (r.2.1 + r.1).toNat, r.2.1 + r.1, 0)) else ((⟨#[]⟩ : ByteArray), 0, 3)) else ((⟨#[]⟩ : ByteArray), 0, r.2.2)
theorem getText_i (x : ByteArray) (p : Nat) (hx : x.size ≤ 4611686018427387904) (hp : p ≤ x.size) : Ev (fun k => impl_getText.f k x (p : Int)) (tout x (gout p (gN 0 0 ((bl x).drop p)))) := by
  have hg := getNum_i x p hx (by omega)
  have hok := gout_ok x p hp
  generalize gout p (gN 0 0 ((bl x).drop p)) = g at hg hok ⊢
  refine Ev.bind hg ?_
  by_cases c : g.2.2 = 0
  · obtain ⟨n, q, rfl, hq1, hq2, hn1, hn2⟩ := hok c
    refine ev_if_pos c (ev_bind1 (within_eq _ _ _) ?_)
    simp only
    by_cases c2 : 0 ≤ n ∧ n ≤ 20000
    · rw [decide_eq_true c2.1, decide_eq_true c2.2]
      refine ev_if_pos rfl (ev_bind1 rfl ?_)
      have e : wrap64 ((q : Int) + n) = (q : Int) + n := w64 (by omega) (by omega)
      rw [e]
      by_cases c3 : (q : Int) + n > (x.size : Int)
      · exact ev_if_pos c3 (ev_eq (by unfold tout; rw [if_pos rfl, if_pos c2, if_pos c3]))
      · exact ev_if_neg c3 (ev_if_pos (by omega) (ev_if_pos (by omega) (ev_if_pos (by omega) (ev_eq (by unfold tout; rw [if_pos rfl, if_pos c2, if_neg c3])))))
    · refine ev_if_neg ?_ (ev_eq (by unfold tout; rw [if_pos rfl, if_neg c2]))
      intro q
      simp only [Bool.and_eq_true, decide_eq_true_eq] at q
      exact c2 q
  · exact ev_if_neg c (ev_eq (by unfold tout; rw [if_neg c]))
theorem tmod128 (c : Nat) : Int.tmod (c : Int) 128 = ((c % 128 : Nat) : Int) := by rw [Int.tmod_eq_emod_of_nonneg (by omega)]; omega
theorem u7_eq (i : Nat) (h : i ≤ 9) : IntKind.u64.wrap (wrap64 (7 * (i : Int))) = 7 * (i : Int) := by
  rw [w64 (by omega) (by omega)]
  simp only [IntKind.wrap_u64]
  omega
theorem shl_pow (a i : Nat) (hi : i ≤ 9) (h : a * 128 ^ i < 18446744073709551616) : shl .u64 (a : Int) (7 * (i : Int)) = ((a * 128 ^ i : Nat) : Int) := by
  have e2 : (2 : Nat) ^ (7 * i) = 128 ^ i := by rw [Nat.pow_mul]
  unfold shl
  rw [show (7 * (i : Int)).toNat = 7 * i by omega, show IntKind.u64.bits = 64 from rfl, Nat.min_eq_left (by omega)]
  rw [show (2 : Int) ^ (7 * i) = ((128 ^ i : Nat) : Int) by rw [← e2]; simp, ← Int.natCast_mul]
  generalize a * 128 ^ i = b at h ⊢
  simp only [IntKind.wrap_u64]
  omega
theorem add_shl (u c i : Nat) (hu : u < 128 ^ i) (h : i ≤ 8 ∧ c < 256 ∨ i = 9 ∧ c ≤ 1) : IntKind.u64.wrap ((u : Int) + (shl .u64 (Int.tmod (c : Int) 128) (IntKind.u64.wrap (wrap64 (7 * (i : Int)))))) = ((u + c % 128 * 128 ^ i : Nat) : Int) := by
  have hb : c % 128 * 128 ^ i + u < 18446744073709551616 := by
    rcases h with ⟨h, hc⟩ | ⟨rfl, hc⟩
    · have h8 : 128 ^ i ≤ 128 ^ 8 := Nat.pow_le_pow_right (by decide) h
      have : c % 128 * 128 ^ i ≤ 127 * 128 ^ 8 := Nat.mul_le_mul (by omega) h8
      omega
    · have : c % 128 * 128 ^ 9 ≤ 1 * 128 ^ 9 := Nat.mul_le_mul_right _ (by omega)
      omega
  rw [tmod128, u7_eq i (by omega), shl_pow _ i (by omega) (by omega)]
  generalize c % 128 * 128 ^ i = b at hb ⊢
  simp only [IntKind.wrap_u64]
  omega
theorem w_add (a b : Nat) (h : a + b ≤ 1000000) : wrap64 ((a : Int) + (b : Int)) = ((a + b : Nat) : Int) := by rw [w64 (by omega) (by omega)]; omega
theorem w_sub (a b : Nat) (h : a ≤ 1000000) (h2 : b ≤ 1000000) : wrap64 ((a : Int) - (b : Int)) = (a : Int) - (b : Int) := w64 (by omega) (by omega)
theorem u64_id (c : Nat) (h : c < 256) : IntKind.u64.wrap (c : Int) = (c : Int) := by simp only [IntKind.wrap_u64]; omega
theorem u7 (i : Nat) (h : i ≤ 9) : 0 ≤ IntKind.u64.wrap (wrap64 (7 * (i : Int))) := by
  rw [w64 (by omega) (by omega)]
  simp only [IntKind.wrap_u64]
  omega
theorem tmod2 (u : Nat) : Int.tmod (u : Int) 2 = ((u % 2 : Nat) : Int) := by rw [Int.tmod_eq_emod_of_nonneg (by omega)]; omega
theorem tdiv2 (u : Nat) (hu : u < 18446744073709551616) : IntKind.u64.wrap (Int.tdiv (u : Int) 2) = ((u / 2 : Nat) : Int) := by
  rw [Int.tdiv_eq_ediv_of_nonneg (by omega)]
  simp only [IntKind.wrap_u64]
  omega
theorem next_w (p i : Nat) (hp : p ≤ 20000) (hi : i ≤ 9) : wrap64 ((wrap64 ((p : Int) + (i : Int))) + 1) = ((p + (i + 1) : Nat) : Int) := by
  rw [w_add p i (by omega), w64 (by omega) (by omega)]
  omega
theorem neg_w (v : Nat) (hv : v < 9223372036854775808) : wrap64 ((wrap64 (-(wrap64 (v : Int)))) - 1) = -(v : Int) - 1 := by
  rw [w64 (n := (v : Int)) (by omega) (by omega), w64 (n := -(v : Int)) (by omega) (by omega), w64 (by omega) (by omega)]
theorem j2_s (p i u : Nat) (hu : u < 18446744073709551616) (hp : p ≤ 20000) (hi : i ≤ 9) (b : Bool) : Ev (fun k => spec_GetNum.j2 k (p : Int) (u : Int) (i : Int) b) (if b = true then (0, 0, 3) else (unfold' u, ((p + (i + 1) : Nat) : Int), 0)) := by
  cases b
  · refine Ev.step (f := fun _ => some (unfold' u, ((p + (i + 1) : Nat) : Int), 0)) (fun k => ?_) (ev_eq (by rw [if_neg (by simp)]))
    simp only [spec_GetNum.j2, tmod2, tdiv2 u hu, next_w p i hp hi]
    rw [if_neg (by simp)]
    unfold unfold'
    by_cases q : u % 2 = 1
    · rw [if_pos (by omega), if_pos q, neg_w (u / 2) (by omega)]
    · rw [if_neg (by omega), if_neg q, w64 (by omega) (by omega)]
  · exact Ev.step (f := fun _ => some (0, 0, 3)) (fun k => by simp only [spec_GetNum.j2]; rw [if_pos trivial]) (ev_eq (by rw [if_pos rfl]))
theorem j2_bad (p i u : Nat) (hu : u < 18446744073709551616) (hp : p ≤ 20000) (hi : i ≤ 9) : Ev (fun k => spec_GetNum.j2 k (p : Int) (u : Int) (i : Int) true) (0, 0, 3) := by
  have := j2_s p i u hu hp hi true
  rwa [if_pos rfl] at this
theorem j2_ok (p i u : Nat) (hu : u < 18446744073709551616) (hp : p ≤ 20000) (hi : i ≤ 9) : Ev (fun k => spec_GetNum.j2 k (p : Int) (u : Int) (i : Int) false) (unfold' u, ((p + (i + 1) : Nat) : Int), 0) := by
  have := j2_s p i u hu hp hi false
  rwa [if_neg (by simp)] at this
theorem gout_bad (p : Nat) : gout p (3, 0, 0) = (0, 0, 3) := rfl
theorem gout_short (p : Nat) : gout p (4, 0, 0) = (0, 0, 4) := rfl
theorem gout_good (p u n : Nat) : gout p (0, u, n) = (unfold' u, ((p + n : Nat) : Int), 0) := by unfold gout; rw [if_pos rfl]
/-- one byte of a number, as the reference reads it. -/
theorem getNum_s_end (x : ByteArray) (p i u c : Nat) (hp : p ≤ 20000) (hi : i ≤ 9) (hu : u < 128 ^ i) (h : i ≤ 8 ∧ c < 128 ∨ i = 9 ∧ c ≤ 1) : Ev (fun k => spec_GetNum.j1 k x (p : Int) (u : Int) (i : Int) (c : Int) false) (if c = 0 ∧ 0 < i then (0, 0, 3) else (unfold' (u + c * 128 ^ i), ((p + (i + 1) : Nat) : Int), 0)) := by
  have hc : c < 128 := by omega
  have hb : u + c * 128 ^ i < 18446744073709551616 := by
    rcases h with ⟨h, _⟩ | ⟨rfl, h1⟩
    · have h8 : 128 ^ i ≤ 128 ^ 8 := Nat.pow_le_pow_right (by decide) h
      have : c * 128 ^ i ≤ 127 * 128 ^ 8 := Nat.mul_le_mul (by omega) h8
      omega
    · have : c * 128 ^ 9 ≤ 1 * 128 ^ 9 := Nat.mul_le_mul_right _ h1
      omega
  have ha := add_shl u c i hu (by omega)
  rw [Nat.mod_eq_of_lt hc] at ha
  have hbad := j2_bad p i (u + c * 128 ^ i) hb hp hi
  have hok := j2_ok p i (u + c * 128 ^ i) hb hp hi
  generalize u + c * 128 ^ i = v at ha hbad hok ⊢
  have st : ∀ k, spec_GetNum.j1 (k + 1) x (p : Int) (u : Int) (i : Int) (c : Int) false = if (c : Int) = 0 then spec_GetNum.j2 k (p : Int) (v : Int) (i : Int) (decide ((i : Int) > 0)) else spec_GetNum.j2 k (p : Int) (v : Int) (i : Int) false := by
    intro k
    simp only [spec_GetNum.j1, ha]
    rw [if_neg (by simp), if_pos (u7 i hi)]
    exact if_pos (by clear ha; omega)
  clear ha
  by_cases h0 : c = 0
  · by_cases hi0 : 0 < i
    · rw [if_pos ⟨h0, hi0⟩]
      exact Ev.step (fun k => (st k).trans ((if_pos (by omega)).trans (by rw [decide_eq_true (show (i : Int) > 0 by omega)]))) hbad
    · rw [if_neg (fun q => hi0 q.2)]
      exact Ev.step (fun k => (st k).trans ((if_pos (by omega)).trans (by rw [decide_eq_false (show ¬ (i : Int) > 0 by omega)]))) hok
  · rw [if_neg (fun q => h0 q.1)]
    exact Ev.step (fun k => (st k).trans (if_neg (by omega))) hok
theorem getNum_s_more (x : ByteArray) (p i u c k : Nat) (hi : i ≤ 8) (hu : u < 128 ^ i) (hc : c < 256) (h : ¬ c < 128) : spec_GetNum.j1 (k + 1) x (p : Int) (u : Int) (i : Int) (c : Int) false = spec_GetNum.l0 k x (p : Int) ((u + (c - 128) * 128 ^ i : Nat) : Int) ((i + 1 : Nat) : Int) := by
  have ha := add_shl u c i hu (.inl ⟨hi, hc⟩)
  rw [show c % 128 = c - 128 by omega] at ha
  generalize u + (c - 128) * 128 ^ i = v at ha ⊢
  simp only [spec_GetNum.j1, ha]
  clear ha
  rw [if_neg (by simp), if_pos (u7 i (by omega)), if_neg (by omega), wnat' i 10 (by omega) (by decide)]
theorem getNum_s_in (x : ByteArray) (p i u c k : Nat) (hx : x.size ≤ 20000) (hp : p ≤ 20000) (hi : i ≤ 9) (h : p + i < x.size) (hbt : bt x ((p + i : Nat) : Int) = (c : Int)) (hc : c < 256) : spec_GetNum.l0 (k + 1) x (p : Int) (u : Int) (i : Int) = if i = 9 then spec_GetNum.j1 k x (p : Int) (u : Int) (i : Int) (c : Int) (decide (1 < c)) else spec_GetNum.j1 k x (p : Int) (u : Int) (i : Int) (c : Int) false := by
  simp only [spec_GetNum.l0, w_add p i (by omega), w_sub x.size i (by omega) (by omega), hbt, u64_id c hc]
  rw [if_pos (by omega), if_neg (by omega), if_pos (by omega), if_pos (by omega)]
  by_cases h9 : i = 9
  · rw [if_pos (by omega), if_pos h9]
    congr 1
    by_cases h1 : 1 < c
    · rw [decide_eq_true h1, decide_eq_true (by omega)]
    · rw [decide_eq_false h1, decide_eq_false (by omega)]
  · rw [if_neg (by omega), if_neg h9]
theorem getNum_s_out (x : ByteArray) (p i u k : Nat) (hx : x.size ≤ 20000) (hp : p ≤ 20000) (hi : i ≤ 9) (h : ¬ p + i < x.size) : spec_GetNum.l0 (k + 1) x (p : Int) (u : Int) (i : Int) = some (0, 0, 4) := by
  simp only [spec_GetNum.l0, w_sub x.size i (by omega) (by omega)]
  rw [if_pos (by omega), if_pos (by omega)]
theorem getNum_s_l0 (x : ByteArray) (p : Nat) (hx : x.size ≤ 20000) (hp : p ≤ 20000) : ∀ (m i u : Nat), i + m = 9 → u < 128 ^ i → Ev (fun k => spec_GetNum.l0 k x (p : Int) (u : Int) (i : Int)) (gout p (gN i u ((bl x).drop (p + i)))) := by
  intro m
  induction m with
  | zero =>
    intro i u hi hu
    have hi9 : i = 9 := by omega
    by_cases h : p + i < x.size
    · have hc : p + i < (bl x).length := by rw [bl_length]; exact h
      have hb := bl_lt x (bl x)[p + i] (List.getElem_mem hc)
      have hbt := bt_bl x (p + i) h
      rw [List.drop_eq_getElem_cons hc]
      generalize (bl x)[p + i] = c at hb hbt ⊢
      by_cases h1 : 1 < c
      · refine Ev.step (fun k => (getNum_s_in x p i u c k hx hp (by omega) h hbt hb).trans ((if_pos hi9).trans (by rw [decide_eq_true h1]))) (Ev.step (f := fun _ => some (0, 0, 3)) (fun k => by simp only [spec_GetNum.j1]; rw [if_pos trivial]) (ev_eq ?_))
        unfold gN
        rw [if_pos ⟨hi9, h1⟩, gout_bad]
      · refine Ev.step (fun k => (getNum_s_in x p i u c k hx hp (by omega) h hbt hb).trans ((if_pos hi9).trans (by rw [decide_eq_false h1]))) ?_
        have he := getNum_s_end x p i u c hp (by omega) hu (.inr ⟨hi9, by omega⟩)
        unfold gN
        rw [if_neg (fun q => h1 q.2), if_pos (by omega)]
        by_cases h0 : c = 0 ∧ 0 < i
        · rw [if_pos h0] at he ⊢
          rw [gout_bad]; exact he
        · rw [if_neg h0] at he ⊢
          rw [gout_good]; exact he
    · rw [List.drop_eq_nil_of_le (by rw [bl_length]; omega)]
      refine Ev.step (f := fun _ => some (0, 0, 4)) (fun k => getNum_s_out x p i u k hx hp (by omega) h) (ev_eq ?_)
      unfold gN
      rw [gout_short]
  | succ m ih =>
    intro i u hi hu
    by_cases h : p + i < x.size
    · have hc : p + i < (bl x).length := by rw [bl_length]; exact h
      have hb := bl_lt x (bl x)[p + i] (List.getElem_mem hc)
      have hbt := bt_bl x (p + i) h
      rw [List.drop_eq_getElem_cons hc]
      generalize (bl x)[p + i] = c at hb hbt ⊢
      have hi9 : ¬ i = 9 := by omega
      refine Ev.step (fun k => (getNum_s_in x p i u c k hx hp (by omega) h hbt hb).trans (if_neg hi9)) ?_
      unfold gN
      rw [if_neg (fun q => hi9 q.1)]
      by_cases h128 : c < 128
      · rw [if_pos h128]
        have he := getNum_s_end x p i u c hp (by omega) hu (.inl ⟨by omega, h128⟩)
        by_cases h0 : c = 0 ∧ 0 < i
        · rw [if_pos h0] at he ⊢
          rw [gout_bad]; exact he
        · rw [if_neg h0] at he ⊢
          rw [gout_good]; exact he
      · rw [if_neg h128]
        have hu' : u + (c - 128) * 128 ^ i < 128 ^ (i + 1) := by
          have : (c - 128) * 128 ^ i ≤ 127 * 128 ^ i := Nat.mul_le_mul_right _ (by omega)
          rw [Nat.pow_succ]
          omega
        exact Ev.step (fun k => getNum_s_more x p i u c k (by omega) hu hb h128) (ih (i + 1) (u + (c - 128) * 128 ^ i) (by omega) hu')
    · rw [List.drop_eq_nil_of_le (by rw [bl_length]; omega)]
      refine Ev.step (f := fun _ => some (0, 0, 4)) (fun k => getNum_s_out x p i u k hx hp (by omega) h) (ev_eq ?_)
      unfold gN
      rw [gout_short]
theorem getNum_s (x : ByteArray) (p : Nat) (hx : x.size ≤ 20000) (hp : p ≤ 20000) : Ev (fun k => spec_GetNum.f k x (p : Int)) (gout p (gN 0 0 ((bl x).drop p))) :=
  ev_if_neg (by omega) (ev_if_neg (by omega) (getNum_s_l0 x p hx hp 9 0 0 rfl (by decide)))
theorem getText_s (x : ByteArray) (p : Nat) (hx : x.size ≤ 20000) (hp : p ≤ x.size) : Ev (fun k => spec_GetText.f k x (p : Int)) (tout x (gout p (gN 0 0 ((bl x).drop p)))) := by
  have hg := getNum_s x p hx (by omega)
  have hok := gout_ok x p hp
  generalize gout p (gN 0 0 ((bl x).drop p)) = g at hg hok ⊢
  refine Ev.bind hg ?_
  by_cases c : g.2.2 = 0
  · obtain ⟨n, q, rfl, hq1, hq2, hn1, hn2⟩ := hok c
    refine ev_if_pos c ?_
    have bad : ¬ (0 ≤ n ∧ n ≤ 20000) → Ev (fun k => spec_GetText.j0 k x true n (q : Int) 0) (tout x (n, (q : Int), 0)) := fun hc => Ev.step (f := fun _ => some ((⟨#[]⟩ : ByteArray), 0, 3)) (fun k => by simp only [spec_GetText.j0]; rw [if_pos trivial]) (ev_eq (by unfold tout; rw [if_pos rfl, if_neg hc]))
    by_cases c0 : n < 0
    · exact ev_if_pos c0 (bad (by omega))
    refine ev_if_neg c0 ?_
    by_cases c1 : n > 20000
    · rw [decide_eq_true c1]
      exact bad (by omega)
    rw [decide_eq_false c1]
    by_cases c3 : (q : Int) + n > (x.size : Int)
    · refine Ev.step (f := fun _ => some ((⟨#[]⟩ : ByteArray), 0, 4)) (fun k => ?_) (ev_eq (by unfold tout; rw [if_pos rfl, if_pos ⟨by omega, by omega⟩, if_pos c3]))
      simp only [spec_GetText.j0, Bool.false_eq_true, if_false]
      rw [w64 (n := (x.size : Int) - n) (by omega) (by omega), if_pos (by omega)]
    · refine Ev.step (f := fun _ => some (x.extract (q : Int).toNat ((q : Int) + n).toNat, (q : Int) + n, 0)) (fun k => ?_) (ev_eq (by unfold tout; rw [if_pos rfl, if_pos ⟨by omega, by omega⟩, if_neg c3]))
      simp only [spec_GetText.j0, Bool.false_eq_true, if_false]
      rw [w64 (n := (x.size : Int) - n) (by omega) (by omega), w64 (n := (q : Int) + n) (by omega) (by omega), if_neg (by omega), if_pos (by omega), if_pos (by omega), if_pos (by omega)]
  · exact ev_if_neg c (ev_eq (by unfold tout; rw [if_neg c]))
def rNum (x : ByteArray) (p : Nat) (bad : Bool) : Int × ByteArray × Int × Bool := if bad = true then (0, x, (p : Int), true) else if (gout p (gN 0 0 ((bl x).drop p))).2.2 = 0 then ((gout p (gN 0 0 ((bl x).drop p))).1, x, (gout p (gN 0 0 ((bl x).drop p))).2.1, bad) else (0, x, (p : Int), true)
def rText (x : ByteArray) (p : Nat) (bad : Bool) : ByteArray × ByteArray × Int × Bool := if bad = true then ((⟨#[]⟩ : ByteArray), x, (p : Int), true) else if (tout x (gout p (gN 0 0 ((bl x).drop p)))).2.2 = 0 then ((tout x (gout p (gN 0 0 ((bl x).drop p)))).1, x, (tout x (gout p (gN 0 0 ((bl x).drop p)))).2.1, bad) else ((⟨#[]⟩ : ByteArray), x, (p : Int), true)
def rBytes (x : ByteArray) (p : Nat) (bad : Bool) (n : Nat) : ByteArray × ByteArray × Int × Bool := if bad = true then ((⟨#[]⟩ : ByteArray), x, (p : Int), true) else if p + n > x.size then ((⟨#[]⟩ : ByteArray), x, (p : Int), true) else (x.extract p (p + n), x, ((p + n : Nat) : Int), bad)
/-- where a reader stands. -/
def At (x : ByteArray) (s : ByteArray × Int × Bool) : Prop := ∃ (q : Nat) (b : Bool), s = (x, (q : Int), b) ∧ q ≤ x.size
theorem rNum_at (x : ByteArray) (p : Nat) (bad : Bool) (hp : p ≤ x.size) : At x (rNum x p bad).2 := by
  unfold rNum
  by_cases h : bad = true
  · rw [if_pos h]; exact ⟨p, true, rfl, hp⟩
  rw [if_neg h]
  by_cases c : (gout p (gN 0 0 ((bl x).drop p))).2.2 = 0
  · obtain ⟨n, q, e, h1, h2, _⟩ := gout_ok x p hp c
    rw [if_pos c, e]
    exact ⟨q, bad, rfl, h2⟩
  · rw [if_neg c]; exact ⟨p, true, rfl, hp⟩
theorem rBytes_at (x : ByteArray) (p : Nat) (bad : Bool) (n : Nat) (hp : p ≤ x.size) : At x (rBytes x p bad n).2 := by
  unfold rBytes
  by_cases h : bad = true
  · rw [if_pos h]; exact ⟨p, true, rfl, hp⟩
  rw [if_neg h]
  by_cases c : p + n > x.size
  · rw [if_pos c]; exact ⟨p, true, rfl, hp⟩
  · rw [if_neg c]; exact ⟨p + n, bad, rfl, by omega⟩
theorem tout_ok (x : ByteArray) (p : Nat) (hp : p ≤ x.size) (h : (tout x (gout p (gN 0 0 ((bl x).drop p)))).2.2 = 0) : ∃ (t : ByteArray) (q : Nat), tout x (gout p (gN 0 0 ((bl x).drop p))) = (t, (q : Int), 0) ∧ q ≤ x.size ∧ t.size ≤ x.size := by
  have hok := gout_ok x p hp
  generalize gout p (gN 0 0 ((bl x).drop p)) = g at hok h ⊢
  unfold tout at h ⊢
  by_cases c : g.2.2 = 0
  · obtain ⟨n, q, rfl, h1, h2, _⟩ := hok c
    rw [if_pos c] at h ⊢
    simp only at h ⊢
    by_cases c2 : 0 ≤ n ∧ n ≤ 20000
    · rw [if_pos c2] at h ⊢
      by_cases c3 : (q : Int) + n > (x.size : Int)
      · rw [if_pos c3] at h; simp at h
      · rw [if_neg c3]
        refine ⟨_, ((q : Int) + n).toNat, by rw [show ((((q : Int) + n).toNat : Nat) : Int) = (q : Int) + n by omega], by omega, ?_⟩
        rw [ByteArray.size_extract]
        omega
    · rw [if_neg c2] at h; simp at h
  · rw [if_neg c] at h
    exact absurd h c
theorem rText_at (x : ByteArray) (p : Nat) (bad : Bool) (hp : p ≤ x.size) : At x (rText x p bad).2 ∧ (rText x p bad).1.size ≤ x.size := by
  unfold rText
  by_cases h : bad = true
  · rw [if_pos h]; exact ⟨⟨p, true, rfl, hp⟩, Nat.zero_le _⟩
  rw [if_neg h]
  by_cases c : (tout x (gout p (gN 0 0 ((bl x).drop p)))).2.2 = 0
  · obtain ⟨t, q, e, h1, h2⟩ := tout_ok x p hp c
    rw [if_pos c, e]
    exact ⟨⟨q, bad, rfl, h1⟩, h2⟩
  · rw [if_neg c]; exact ⟨⟨p, true, rfl, hp⟩, Nat.zero_le _⟩
theorem num_s (x : ByteArray) (hx : x.size ≤ 20000) (p : Nat) (bad : Bool) (hp : p ≤ x.size) : Ev (fun k => spec_l10Reader_num.f k x (p : Int) bad) (rNum x p bad) := by
  refine Ev.bind (getNum_s x p hx (by omega)) ?_
  unfold rNum
  by_cases h : bad = true
  · exact ev_if_pos h (ev_eq (by rw [if_pos h]))
  · refine ev_if_neg h ?_
    by_cases c : (gout p (gN 0 0 ((bl x).drop p))).2.2 = 0
    · exact ev_if_pos c (ev_eq (by rw [if_neg h, if_pos c]))
    · exact ev_if_neg c (ev_eq (by rw [if_neg h, if_neg c]))
theorem num_i (x : ByteArray) (hx : x.size ≤ 20000) (p : Nat) (bad : Bool) (hp : p ≤ x.size) : Ev (fun k => impl_reader_num.f k x (p : Int) bad) (rNum x p bad) := by
  refine Ev.bind (getNum_i x p (by omega) (by omega)) ?_
  unfold rNum
  by_cases h : bad = true
  · exact ev_if_pos h (ev_eq (by rw [if_pos h]))
  · refine ev_if_neg h ?_
    by_cases c : (gout p (gN 0 0 ((bl x).drop p))).2.2 = 0
    · exact ev_if_pos c (ev_eq (by rw [if_neg h, if_pos c]))
    · exact ev_if_neg c (ev_eq (by rw [if_neg h, if_neg c]))
theorem text_s (x : ByteArray) (hx : x.size ≤ 20000) (p : Nat) (bad : Bool) (hp : p ≤ x.size) : Ev (fun k => spec_l10Reader_text.f k x (p : Int) bad) (rText x p bad) := by
  refine Ev.bind (getText_s x p hx hp) ?_
  unfold rText
  generalize tout x (gout p (gN 0 0 ((bl x).drop p))) = r
  by_cases h : bad = true
  · exact ev_if_pos h (ev_eq (by rw [if_pos h]))
  · refine ev_if_neg h ?_
    by_cases c : r.2.2 = 0
    · exact ev_if_pos c (ev_eq (by rw [if_neg h, if_pos c]))
    · exact ev_if_neg c (ev_eq (by rw [if_neg h, if_neg c]))
theorem text_i (x : ByteArray) (hx : x.size ≤ 20000) (p : Nat) (bad : Bool) (hp : p ≤ x.size) : Ev (fun k => impl_reader_string.f k x (p : Int) bad) (rText x p bad) := by
  refine Ev.bind (getText_i x p (by omega) hp) ?_
  unfold rText
  generalize tout x (gout p (gN 0 0 ((bl x).drop p))) = r
  by_cases h : bad = true
  · exact ev_if_pos h (ev_eq (by rw [if_pos h]))
  · refine ev_if_neg h ?_
    by_cases c : r.2.2 = 0
    · exact ev_if_pos c (ev_eq (by rw [if_neg h, if_pos c]))
    · exact ev_if_neg c (ev_eq (by rw [if_neg h, if_neg c]))
theorem bytes_s (x : ByteArray) (hx : x.size ≤ 20000) (p : Nat) (bad : Bool) (n : Nat) (hn : n ≤ 20000) (hp : p ≤ x.size) : spec_l10Reader_bytes.f x (p : Int) bad (n : Int) = some (rBytes x p bad n) := by
  unfold spec_l10Reader_bytes.f rBytes
  by_cases h : bad = true
  · rw [if_pos h, if_pos h]
  · rw [if_neg h, if_neg h, w64 (n := (x.size : Int) - (n : Int)) (by omega) (by omega), w64 (n := (p : Int) + (n : Int)) (by omega) (by omega), w64 (n := (p : Int) + (n : Int) - (n : Int)) (by omega) (by omega)]
    by_cases c : p + n > x.size
    · rw [if_pos (by omega), if_pos c]
    · rw [if_neg (by omega), if_pos (by omega), if_pos (by omega), if_pos (by omega), if_neg c, show ((p : Int) + (n : Int) - (n : Int)).toNat = p by omega, show ((p : Int) + (n : Int)).toNat = p + n by omega]
      rfl
theorem bytes_i (x : ByteArray) (hx : x.size ≤ 20000) (p : Nat) (bad : Bool) (n : Nat) (hn : n ≤ 20000) (hp : p ≤ x.size) : impl_reader_take.f x (p : Int) bad (n : Int) = some (rBytes x p bad n) := by
  unfold impl_reader_take.f rBytes impl_long.f
  by_cases h : bad = true
  · rw [if_pos h, if_pos h]
  · rw [if_neg h, if_neg h, Option.bind_some, w64 (n := (x.size : Int) - (p : Int)) (by omega) (by omega), w64 (n := (p : Int) + (n : Int)) (by omega) (by omega), w64 (n := (p : Int) + (n : Int) - (n : Int)) (by omega) (by omega)]
    by_cases c : p + n > x.size
    · rw [if_pos (by omega), if_pos c]
    · rw [if_neg (by omega), if_pos (by omega), if_pos (by omega), if_pos (by omega), if_neg c, show ((p : Int) + (n : Int) - (n : Int)).toNat = p by omega, show ((p : Int) + (n : Int)).toNat = p + n by omega]
      rfl
theorem nameRight_l0 (s : ByteArray) (hs : s.size ≤ 9223372036854775807) (d : Nat) : ∀ (i k : Nat), i + d = s.size → d < k → spec_NameRight.l0 k s (i : Int) = some (nameOk s d i) := by
  induction d with
  | zero =>
    intro i k hi hk
    obtain ⟨k, rfl⟩ : ∃ m, k = m + 1 := ⟨k - 1, by omega⟩
    simp only [spec_NameRight.l0]
    rw [if_neg (by omega)]
    rfl
  | succ d ih =>
    intro i k hi hk
    obtain ⟨k, rfl⟩ : ∃ m, k = m + 1 := ⟨k - 1, by omega⟩
    have e : wrap64 ((i : Int) + 1) = ((i + 1 : Nat) : Int) := by rw [w64 (by omega) (by omega)]; omega
    have h := ih (i + 1) k (by omega) (by omega)
    simp only [spec_NameRight.l0, e, h]
    rw [if_pos (by omega), if_pos (by omega)]
    exact nameStep _ _ _
theorem nameRight_ev (s : ByteArray) (hs : s.size ≤ 9223372036854775807) : Ev (fun k => spec_NameRight.f k s) (isName s 80) := by
  refine ev_from (s.size + 3) fun k hk => ?_
  obtain ⟨k, rfl⟩ : ∃ m, k = m + 1 := ⟨k - 1, by omega⟩
  have h := nameRight_l0 s hs s.size 0 k (by omega) (by omega)
  simp only [spec_NameRight.f, spec_NameRight.j0]
  have h' : spec_NameRight.l0 k s 0 = some (nameOk s s.size 0) := h
  rw [h']
  unfold isName
  generalize nameOk s s.size 0 = X
  grind
theorem isName_l0 (s : ByteArray) (most : Int) (hs : s.size ≤ 9223372036854775807) (d : Nat) : ∀ (i k : Nat), i + d = s.size → d < k → impl_isName.l0 k s most s.size (i : Int) = some (nameOk s d i && (decide ((s.size : Int) ≥ 1) && decide ((s.size : Int) ≤ most))) := by
  induction d with
  | zero =>
    intro i k hi hk
    obtain ⟨k, rfl⟩ : ∃ m, k = m + 1 := ⟨k - 1, by omega⟩
    simp only [impl_isName.l0, impl_long.f, impl_within.f, Option.bind_some, nameOk]
    rw [if_neg (by omega)]
    grind
  | succ d ih =>
    intro i k hi hk
    obtain ⟨k, rfl⟩ : ∃ m, k = m + 1 := ⟨k - 1, by omega⟩
    have e : wrap64 ((i : Int) + 1) = ((i + 1 : Nat) : Int) := by rw [w64 (by omega) (by omega)]; omega
    have h := ih (i + 1) k (by omega) (by omega)
    simp only [impl_isName.l0, e, h]
    rw [if_pos (by omega), if_pos (by omega), if_pos (by omega)]
    refine (nameStep _ _ _).trans ?_
    simp [nameOk, Bool.and_assoc]
theorem isName_ev (s : ByteArray) (most : Int) (hs : s.size ≤ 9223372036854775807) : Ev (fun k => impl_isName.f k s most) (isName s most) := by
  refine ev_from (s.size + 3) fun k hk => ?_
  have h := isName_l0 s most hs s.size 0 k (by omega) (by omega)
  simp only [impl_isName.f]
  exact h
def isObject (s : ByteArray) : Bool := isName s 60 && !(decide ((s.size : Int) ≥ 2) && (s.extract 0 2).toList == ([116, 45] : List UInt8))
theorem object_s (s : ByteArray) (hs : s.size ≤ 9223372036854775807) : Ev (fun k => spec_ObjectRight.f k s) (isObject s) := by
  unfold spec_ObjectRight.f isObject
  refine Ev.bind (nameRight_ev s hs) ?_
  unfold isName
  generalize nameOk s s.size 0 = X
  generalize (s.extract 0 2).toList = L
  refine ev_from 0 fun k _ => ?_
  grind
theorem object_i (s : ByteArray) (hs : s.size ≤ 9223372036854775807) : Ev (fun k => impl_ObjectRight.f k s) (isObject s) := by
  unfold impl_ObjectRight.f isObject
  refine Ev.bind (isName_ev s 60 hs) ?_
  have e3 : (⟨#[116, 45]⟩ : ByteArray).toList = ([116, 45] : List UInt8) := by rw [ByteArray.toList_eq]
  have e4 : (⟨#[116, 45]⟩ : ByteArray).size = 2 := rfl
  have e5 : ((2 : Nat) : Int).toNat = 2 := rfl
  simp only [strings_HasPrefix.f, stringslite_HasPrefix.f, e3, e4, e5]
  generalize isName s 60 = X
  generalize (s.extract 0 2).toList = L
  refine ev_from 0 fun k _ => ?_
  grind
theorem less_irrefl (l : List UInt8) : Op.bytesLess l l = false := by
  induction l with
  | nil => rfl
  | cons a l ih => simp [Op.bytesLess, ih]
theorem compare_eq : ∀ (a b : List UInt8), Lib.compareBytes a b = if Op.bytesLess a b = true then -1 else if a = b then 0 else 1
  | [], [] => rfl
  | [], _ :: _ => rfl
  | _ :: _, [] => rfl
  | a :: xs, b :: bs => by
    have ih := compare_eq xs bs
    simp only [Lib.compareBytes, ih, Op.bytesLess]
    by_cases h1 : a < b
    · simp [h1]
    · by_cases h2 : b < a
      · have h3 : a ≠ b := fun e => by subst e; exact h1 h2
        simp [h1, h2, h3]
      · have h3 : a = b := UInt8.le_antisymm (UInt8.not_lt.1 h2) (UInt8.not_lt.1 h1)
        subst h3
        simp [h1]
theorem less_trans : ∀ (a b c : List UInt8), Op.bytesLess a b = true → Op.bytesLess b c = true → Op.bytesLess a c = true
  | [], [], _, h, _ => by cases h
  | [], _ :: _, [], _, h => by cases h
  | [], _ :: _, _ :: _, _, _ => rfl
  | _ :: _, [], _, h, _ => by cases h
  | _ :: _, _ :: _, [], _, h => by cases h
  | a :: xs, b :: ys, c :: zs, h, g => by
    have ih := less_trans xs ys zs
    simp only [Op.bytesLess] at h g ⊢
    simp only [Bool.or_eq_true, Bool.and_eq_true, decide_eq_true_eq, beq_iff_eq] at h g ⊢
    rcases h with h | ⟨rfl, h⟩
    · rcases g with g | ⟨rfl, g⟩
      · exact .inl (UInt8.lt_trans h g)
      · exact .inl h
    · rcases g with g | ⟨rfl, g⟩
      · exact .inl g
      · exact .inr ⟨rfl, ih h g⟩
abbrev IP := S50
abbrev zP := z50
abbrev rdP := rd_T50
def placeLess (a b : IP) : Bool := Op.bytesLess a.f0.toList b.f0.toList || (a.f0.toList == b.f0.toList && Op.bytesLess a.f1.toList b.f1.toList)
def placeOk (x : IP) : Bool := decide ((x.f0.size : Int) = 32) && (isObject x.f1 && ((x.f2 == 1 || x.f2 == 2) && ((decide (0 ≤ x.f3) && decide (x.f3 ≤ 12000)) && (decide (0 ≤ x.f4) && decide (x.f4 ≤ 2000)))))
def placeAt (l : List IP) (i : Nat) : Bool := placeOk (l.getD i zP) && (i == 0 || placeLess (l.getD (i - 1) zP) (l.getD i zP))
def placesRight (l : List IP) : Bool := decide (l.length ≤ 300) && (List.range l.length).all (placeAt l)
theorem rdP_nat (l : List IP) (i : Nat) : rdP l (i : Int) = l.getD i zP := by
  unfold rdP rd_T50
  rw [Int.toNat_natCast]
theorem memP (l : List IP) (i : Nat) (h : i < l.length) : l.getD i zP ∈ l := by
  rw [List.getD_eq_getElem?_getD, List.getElem?_eq_getElem h]
  exact List.getElem_mem h
theorem prevP (l : List IP) (i : Nat) (h0 : 0 < i) (h : i < l.length) (hl : l.length ≤ 300) : rdP l (wrap64 ((i : Int) - 1)) = l.getD (i - 1) zP ∧ 0 ≤ wrap64 ((i : Int) - 1) ∧ wrap64 ((i : Int) - 1) < (l.length : Int) := getD_prev l i _ h0 h (by omega)
theorem l10Less_eq (a b : IP) : spec_l10Less.f a.f0 a.f1 a.f2 a.f3 a.f4 b.f0 b.f1 b.f2 b.f3 b.f4 = some (placeLess a b) := by
  unfold spec_l10Less.f placeLess
  by_cases h : Op.bytesLess a.f0.toList b.f0.toList = true
  · rw [if_pos h, h]; rfl
  · rw [if_neg h]
    rw [Bool.not_eq_true] at h
    by_cases h2 : a.f0.toList = b.f0.toList
    · rw [if_pos h2, h2]; simp [less_irrefl]
    · rw [if_neg h2, h]; simp [h2]
/-- how places compare: below 0 where the one is less. -/
def placeCmp (a b : IP) : Int := if placeLess a b = true then -1 else if a.f0.toList = b.f0.toList ∧ a.f1.toList = b.f1.toList then 0 else 1
theorem or_two (x y : Int) (k : Nat) (hk : 3 ≤ k) : cmp_Or_int.f k [x, y] = some (if x = 0 then y else x) := by
  obtain ⟨k, rfl⟩ : ∃ m, k = m + 3 := ⟨k - 3, by omega⟩
  have e1 : wrap64 ((0 : Int) + 1) = 1 := w64 (by omega) (by omega)
  have e2 : wrap64 ((1 : Int) + 1) = 2 := w64 (by omega) (by omega)
  have r0 : rd [x, y] 0 = x := rfl
  have r1 : rd [x, y] 1 = y := rfl
  unfold cmp_Or_int.f
  simp only [cmp_Or_int.l0, List.length_cons, List.length_nil, e1, e2, r0, r1]
  by_cases h : x = 0 <;> by_cases h2 : y = 0 <;> simp [h, h2]
theorem cmp_ev (a b : IP) : Ev (fun k => impl_Place_compare.f k a.f0 a.f1 a.f2 a.f3 a.f4 b.f0 b.f1 b.f2 b.f3 b.f4) (placeCmp a b) := by
  unfold impl_Place_compare.f
  simp only [strings_Compare.f, bytealg_CompareString.f, Option.bind_some]
  refine ev_from 3 fun k hk => ?_
  rw [or_two _ _ k hk]
  simp only [Option.bind_some, compare_eq, placeCmp, placeLess, ← ByteArray.toList_eq]
  by_cases h1 : Op.bytesLess a.f0.toList b.f0.toList = true
  · simp [h1]
  · rw [Bool.not_eq_true] at h1
    by_cases h2 : a.f0.toList = b.f0.toList
    · by_cases h3 : Op.bytesLess a.f1.toList b.f1.toList = true
      · simp [h2, h3, less_irrefl]
      · rw [Bool.not_eq_true] at h3
        by_cases h4 : a.f1.toList = b.f1.toList <;> simp [h2, h3, h4, less_irrefl]
    · simp [h1, h2]
theorem cmp_neg (a b : IP) : placeCmp a b ≥ 0 ↔ ¬ placeLess a b = true := by
  unfold placeCmp
  by_cases h : placeLess a b = true
  · simp [h]
  · by_cases h2 : a.f0.toList = b.f0.toList ∧ a.f1.toList = b.f1.toList <;> simp [h, h2]
theorem placesRight_s (l : List IP) (hs : ∀ x ∈ l, x.f1.size ≤ 9223372036854775807) : Ev (fun k => spec_PlacesRight.f k l) (placesRight l) := by
  unfold spec_PlacesRight.f placesRight
  by_cases h : (l.length : Int) > 300
  · refine ev_if_pos h ?_
    rw [decide_eq_false (by omega)]
    exact Ev.now _
  refine ev_if_neg h ?_
  rw [decide_eq_true (by omega), Bool.true_and]
  obtain ⟨K, hK⟩ := ev_all (fun (x : IP) k => spec_ObjectRight.f k x.f1) (fun x => isObject x.f1) l (fun x hx => object_s _ (hs x hx))
  have ht := loop_allC 2 (fun k i => spec_PlacesRight.l0 k l i) l.length (by omega) K (placeAt l) true (fun k i hi hk hw => ?_) (fun k _ => by simp only [spec_PlacesRight.l0]; rw [if_neg (by omega)])
  · rw [Bool.and_true] at ht
    exact ht
  have hr := hK _ (memP l i hi) (k + 1) (by omega)
  have e0 := rdP_nat l i
  simp only [rdP] at e0
  simp only [spec_PlacesRight.l0, spec_PlacesRight.j1, e0, hr, hw, Option.bind_some]
  rw [if_pos (by omega), if_pos (by omega)]
  unfold placeAt placeOk
  generalize l.getD i zP = x
  have tail : ∀ A B : Option Bool, ∀ u : Bool, (if u = true then B else A) = if u = true then B else A := fun _ _ _ => rfl
  by_cases c1 : ((x.f0).size : Int) = 32
  case neg => rw [if_neg c1, decide_eq_false c1]; rfl
  rw [if_pos c1, decide_eq_true c1]
  by_cases c2 : isObject x.f1 = true
  case neg => rw [if_neg c2]; rw [Bool.not_eq_true] at c2; rw [c2]; rfl
  rw [if_pos c2, c2]
  by_cases c3 : (x.f2 == 1 || x.f2 == 2) = true
  case neg =>
    have c3' : x.f2 ≠ 1 ∧ x.f2 ≠ 2 := by simpa using c3
    rw [if_neg c3'.1, if_neg c3'.2, Bool.not_eq_true] at *
    rw [c3]; rfl
  have c3' : ∀ A B : Option Bool, (if x.f2 = 1 then A else if x.f2 = 2 then A else B) = A := by
    intro A B
    by_cases h1 : x.f2 = 1
    · rw [if_pos h1]
    · rw [if_neg h1, if_pos (by simpa [h1] using c3)]
  rw [c3', c3]
  by_cases c4 : x.f3 < 0
  case pos => rw [if_pos c4, decide_eq_false (show ¬ 0 ≤ x.f3 by omega)]; rfl
  rw [if_neg c4, decide_eq_true (show 0 ≤ x.f3 by omega)]
  by_cases c5 : x.f3 > 12000
  case pos => rw [if_pos c5, decide_eq_false (show ¬ x.f3 ≤ 12000 by omega)]; rfl
  rw [if_neg c5, decide_eq_true (show x.f3 ≤ 12000 by omega)]
  by_cases c6 : x.f4 < 0
  case pos => rw [if_pos c6, decide_eq_false (show ¬ 0 ≤ x.f4 by omega)]; rfl
  rw [if_neg c6, decide_eq_true (show 0 ≤ x.f4 by omega)]
  by_cases c7 : x.f4 > 2000
  case pos => rw [decide_eq_true c7, decide_eq_false (show ¬ x.f4 ≤ 2000 by omega)]; rfl
  rw [decide_eq_false c7, decide_eq_true (show x.f4 ≤ 2000 by omega)]
  by_cases h0 : 0 < i
  · obtain ⟨q1, q2, q3⟩ := prevP l i h0 hi (by omega)
    simp only [rdP] at q1
    rw [if_neg (by simp), if_pos (by omega), if_pos q2, if_pos q3, q1, l10Less_eq]
    have hi0 : (i == 0) = false := beq_eq_false_iff_ne.2 (by omega)
    rw [hi0]
    rfl
  · obtain rfl : i = 0 := by omega
    rfl
theorem placesRight_i (l : List IP) (hs : ∀ x ∈ l, x.f1.size ≤ 9223372036854775807) : Ev (fun k => impl_PlacesRight.f k l) (placesRight l) := by
  unfold impl_PlacesRight.f placesRight
  by_cases h : (l.length : Int) > 300
  · refine ev_if_pos h ?_
    rw [decide_eq_false (by omega)]
    exact Ev.now _
  refine ev_if_neg h ?_
  rw [decide_eq_true (by omega), Bool.true_and]
  obtain ⟨K, hK⟩ := ev_all (fun (x : IP) k => impl_ObjectRight.f k x.f1) (fun x => isObject x.f1) l (fun x hx => object_i _ (hs x hx))
  have hc : ∃ K2, ∀ i, i < l.length → ∀ k, K2 ≤ k → impl_Place_compare.f k (l.getD (i - 1) zP).f0 (l.getD (i - 1) zP).f1 (l.getD (i - 1) zP).f2 (l.getD (i - 1) zP).f3 (l.getD (i - 1) zP).f4 (l.getD i zP).f0 (l.getD i zP).f1 (l.getD i zP).f2 (l.getD i zP).f3 (l.getD i zP).f4 = some (placeCmp (l.getD (i - 1) zP) (l.getD i zP)) := by
    obtain ⟨K, hK⟩ := ev_all (fun (i : Nat) k => impl_Place_compare.f k (l.getD (i - 1) zP).f0 (l.getD (i - 1) zP).f1 (l.getD (i - 1) zP).f2 (l.getD (i - 1) zP).f3 (l.getD (i - 1) zP).f4 (l.getD i zP).f0 (l.getD i zP).f1 (l.getD i zP).f2 (l.getD i zP).f3 (l.getD i zP).f4) (fun i => placeCmp (l.getD (i - 1) zP) (l.getD i zP)) (List.range l.length) (fun i _ => cmp_ev _ _)
    exact ⟨K, fun i hi k hk => hK i (List.mem_range.2 hi) k hk⟩
  obtain ⟨K2, hK2⟩ := hc
  refine loop_all (fun k i => impl_PlacesRight.l0 k l l (l.length : Int) i) l.length (by omega) (K + K2) (placeAt l) (fun k i hi hk hw => ?_) (fun k => by simp only [impl_PlacesRight.l0]; rw [if_neg (by omega)])
  have hr := hK _ (memP l i hi) k (by omega)
  have hr2 := hK2 i hi k (by omega)
  have e0 := rdP_nat l i
  simp only [rdP] at e0
  simp only [impl_PlacesRight.l0, e0, hr, hw, Option.bind_some, within_eq]
  rw [if_pos (by omega), if_pos (by omega), if_pos (by omega)]
  have hk : ∀ v : Int, impl_isKind.f v = some (v == 1 || v == 2) := by
    intro v
    unfold impl_isKind.f
    by_cases h1 : v = 1 <;> simp [h1]
  simp only [hk, Option.bind_some]
  unfold placeAt placeOk
  by_cases h0 : 0 < i
  · obtain ⟨q1, q2, q3⟩ := prevP l i h0 hi (by omega)
    simp only [rdP] at q1
    have hi0 : (i == 0) = false := beq_eq_false_iff_ne.2 (by omega)
    simp only [q1, hr2, Option.bind_some, cmp_neg, hi0]
    rw [if_pos (show (i : Int) > 0 by omega), if_pos q2, if_pos q3]
    generalize l.getD i zP = x at *
    generalize placeLess (l.getD (i - 1) zP) x = pl
    generalize isObject x.f1 = ob
    generalize (x.f2 == 1 || x.f2 == 2) = kd
    generalize (decide (0 ≤ x.f3) && decide (x.f3 ≤ 12000)) = wa
    generalize (decide (0 ≤ x.f4) && decide (x.f4 ≤ 2000)) = wz
    by_cases c1 : ((x.f0).size : Int) = 32
    · rw [if_pos c1, decide_eq_true c1]
      cases ob <;> cases kd <;> cases wa <;> cases wz <;> cases pl <;> rfl
    · rw [if_neg c1, decide_eq_false c1]; rfl
  · obtain rfl : i = 0 := by omega
    rw [if_neg (show ¬ (((0 : Nat) : Int) > 0) by omega)]
    generalize l.getD 0 zP = x at *
    generalize isObject x.f1 = ob
    generalize (x.f2 == 1 || x.f2 == 2) = kd
    generalize (decide (0 ≤ x.f3) && decide (x.f3 ≤ 12000)) = wa
    generalize (decide (0 ≤ x.f4) && decide (x.f4 ≤ 2000)) = wz
    by_cases c1 : ((x.f0).size : Int) = 32
    · rw [if_pos c1, decide_eq_true c1]
      cases ob <;> cases kd <;> cases wa <;> cases wz <;> rfl
    · rw [if_neg c1, decide_eq_false c1]; rfl
/-- one more letter. -/
theorem one_size (a : Int) : (strOfNums [a]).size = 1 := by
  simp [strOfNums, ByteArray.size]
theorem markText_l0 : ∀ (b : Nat) (n : Nat) (x : ByteArray), n ≤ b → b ≤ 4611686018427387904 → x.size + n ≤ 4611686018427387904 → ∃ v, Ev (fun k => laws_markText.l0 k (n : Int) x) v := by
  intro b
  induction b with
  | zero =>
    intro n x hn _ hx
    obtain rfl : n = 0 := by omega
    refine ⟨(⟨#[109]⟩ : ByteArray) ++ x, Ev.step (f := fun _ => some ((⟨#[109]⟩ : ByteArray) ++ x)) (fun k => ?_) (Ev.now _)⟩
    simp only [laws_markText.l0]
    rw [if_neg (by omega), if_pos (by omega)]
  | succ b ih =>
    intro n x hn hb hx
    by_cases h0 : n = 0
    · subst h0
      refine ⟨(⟨#[109]⟩ : ByteArray) ++ x, Ev.step (f := fun _ => some ((⟨#[109]⟩ : ByteArray) ++ x)) (fun k => ?_) (Ev.now _)⟩
      simp only [laws_markText.l0]
      rw [if_neg (by omega), if_pos (by omega)]
    · have e : wrap64 (Int.tdiv (n : Int) 10) = ((n / 10 : Nat) : Int) := by
        rw [show Int.tdiv (n : Int) 10 = ((n / 10 : Nat) : Int) from rfl]
        exact w64 (by omega) (by omega)
      have hs : ∀ y : ByteArray, (strOfNums [(wrap64 (48 + Int.tmod (n : Int) 10)) % 256] ++ y).size = 1 + y.size := by
        intro y
        rw [ByteArray.size_append, one_size]
      obtain ⟨v, hv⟩ := ih (n / 10) (strOfNums [(wrap64 (48 + Int.tmod (n : Int) 10)) % 256] ++ x) (by omega) (by omega) (by rw [hs]; omega)
      refine ⟨v, Ev.step (fun k => ?_) hv⟩
      simp only [laws_markText.l0, Option.bind_some, e]
      rw [if_pos (by omega), if_pos (by rw [one_size]; omega)]
theorem markText_ex (n : Nat) (hn : n ≤ 4611686018427387904) : ∃ v, Ev (fun k => laws_markText.f k (n : Int)) v := by
  by_cases h0 : n = 0
  · refine ⟨_, ev_if_pos (show (n : Int) ≤ 0 by omega) (Ev.now (⟨#[109, 48]⟩ : ByteArray))⟩
  · obtain ⟨v, hv⟩ := markText_l0 n n (⟨#[]⟩ : ByteArray) (by omega) hn (by show 0 + n ≤ _; omega)
    exact ⟨v, ev_if_neg (show ¬ (n : Int) ≤ 0 by omega) hv⟩
/-- the mark of number n: what text it is does not matter. -/
noncomputable def mText (n : Nat) : ByteArray := if h : n ≤ 4611686018427387904 then Classical.choose (markText_ex n h) else default
theorem mText_ev (n : Nat) (hn : n ≤ 4611686018427387904) : Ev (fun k => laws_markText.f k (n : Int)) (mText n) := by
  unfold mText
  rw [dif_pos hn]
  exact Classical.choose_spec (markText_ex n hn)
/-- a loop whose rounds each end, with what is known of where it stands. -/
theorem loop_evs {σ ρ : Type} (F : Nat → σ → Int → Option ρ) (n : Nat) (inv : Nat → σ → Prop) (Q : ρ → Prop)
    (hstep : ∀ (i : Nat) (s : σ), i < n → inv i s → (∃ s', inv (i + 1) s' ∧ ∀ v, Ev (fun k => F k s' ((i + 1 : Nat) : Int)) v → Ev (fun k => F k s (i : Int)) v))
    (hend : ∀ (s : σ), inv n s → Evs (fun k => F k s (n : Int)) Q) : ∀ (s : σ), inv 0 s → Evs (fun k => F k s 0) Q := by
  have main : ∀ (d i : Nat) (s : σ), i + d = n → inv i s → Evs (fun k => F k s (i : Int)) Q := by
    intro d
    induction d with
    | zero =>
      intro i s hi hv
      obtain rfl : i = n := by omega
      exact hend s hv
    | succ d ih =>
      intro i s hi hv
      obtain ⟨s', hs', hv'⟩ := hstep i s (by omega) hv
      obtain ⟨v, h1, h2⟩ := ih (i + 1) s' (by omega) hs'
      exact ⟨v, hv' v h1, h2⟩
  intro s hs
  exact main n 0 s (by omega) hs
theorem wnat (i : Nat) (hi : i ≤ 9223372036854775806) : wrap64 ((i : Int) + 1) = ((i + 1 : Nat) : Int) := by rw [w64 (by omega) (by omega)]; omega
noncomputable def markP (q : Nat) : IP := ⟨mText q, mText (q + 1), ((q + 2 : Nat) : Int), ((q + 3 : Nat) : Int), ((q + 4 : Nat) : Int)⟩
noncomputable def markedP (n m : Nat) : List IP := (List.range n).map (fun i => markP (m + 5 * i))
theorem rdP_set (x : List IP) (i : Nat) (v : IP) (h : i < x.length) : rdP (x.set i v) (i : Int) = v := by
  rw [rdP_nat, List.getD_eq_getElem?_getD, List.getElem?_set_self h]
  rfl
theorem markPlaceS_ev (l : List IP) (m : Nat) (hl : l.length ≤ 4294967296) (hm : m ≤ 4294967296) : Ev (fun k => laws_markPlaceS.f k l (m : Int)) (((m + 5 * l.length : Nat) : Int), markedP l.length m) := by
  unfold laws_markPlaceS.f
  refine Evs.ev (loop_evs (fun k (s : List IP × Int) i => laws_markPlaceS.l0 k s.1 s.2 i) l.length (fun i s => s.2 = ((m + 5 * i : Nat) : Int) ∧ s.1.length = l.length ∧ ∀ j, j < i → s.1[j]? = (markedP l.length m)[j]?) _ (fun i s hi hv => ?_) (fun s hv => ?_) (l, (m : Int)) ⟨rfl, rfl, fun j hj => absurd hj (by omega)⟩)
  · obtain ⟨x, k1⟩ := s
    obtain ⟨rfl, h2, h3⟩ := hv
    simp only at h2 h3 ⊢
    refine ⟨(x.set i (markP (m + 5 * i)), ((m + 5 * (i + 1) : Nat) : Int)), ⟨rfl, by simp [h2], fun j hj => ?_⟩, fun v hv => ?_⟩
    · show (x.set i (markP (m + 5 * i)))[j]? = _
      rw [List.getElem?_set]
      by_cases e : i = j
      · subst e
        rw [if_pos rfl, if_pos (by omega)]
        simp [markedP, hi]
      · rw [if_neg e]
        exact h3 j (by omega)
    · obtain ⟨K1, g1⟩ := mText_ev (m + 5 * i) (by omega)
      obtain ⟨K3, g3⟩ := mText_ev (m + 5 * i + 1) (by omega)
      obtain ⟨K2, g2⟩ := hv
      refine ev_from (K1 + K2 + K3 + 1) fun k hk => ?_
      obtain ⟨k, rfl⟩ : ∃ q, k = q + 1 := ⟨k - 1, by omega⟩
      have g1' : laws_markText.f k ((m + 5 * i : Nat) : Int) = some (mText (m + 5 * i)) := g1 k (by omega)
      have g3' : laws_markText.f k ((m + 5 * i + 1 : Nat) : Int) = some (mText (m + 5 * i + 1)) := g3 k (by omega)
      have r : ∀ (y : List IP) (v : IP), y.length = l.length → rd_T50 (y.set i v) (i : Int) = v := fun y v hy => rdP_set y i v (by omega)
      simp only [laws_markPlaceS.l0, Int.toNat_natCast, wnat i (by omega), wnat (m + 5 * i) (by omega), wnat (m + 5 * i + 1) (by omega), wnat (m + 5 * i + 1 + 1) (by omega), wnat (m + 5 * i + 1 + 1 + 1) (by omega), wnat (m + 5 * i + 1 + 1 + 1 + 1) (by omega), g1', g3', Option.bind_some]
      rw [if_pos (by omega), if_pos (by omega)]
      simp only [r x _ h2, List.set_set]
      exact g2 k (by omega)
  · obtain ⟨x, k1⟩ := s
    obtain ⟨rfl, h2, h3⟩ := hv
    simp only at h2 h3 ⊢
    refine ⟨_, Ev.step (f := fun _ => some (((m + 5 * l.length : Nat) : Int), x)) (fun k => ?_) (Ev.now _), ?_⟩
    · simp only [laws_markPlaceS.l0]
      rw [if_neg (by omega)]
    · congr 1
      refine List.ext_getElem? fun j => ?_
      by_cases hj : j < l.length
      · exact h3 j hj
      · rw [List.getElem?_eq_none (by omega), List.getElem?_eq_none (by simp [markedP]; omega)]
theorem heldPlaceS_ev (n m : Nat) (hl : n ≤ 4294967296) (hm : m ≤ 4294967296) : Ev (fun k => laws_heldPlaceS.f k (markedP n m) (m : Int)) ((m + 5 * n : Nat) : Int) := by
  unfold laws_heldPlaceS.f
  have hlen : (markedP n m).length = n := by simp [markedP]
  refine Evs.ev (loop_evs (fun k (s : Int) i => laws_heldPlaceS.l0 k (markedP n m) s i) n (fun i s => s = ((m + 5 * i : Nat) : Int)) _ (fun i s hi hv => ?_) (fun s hv => ?_) (m : Int) rfl)
  · subst hv
    refine ⟨((m + 5 * (i + 1) : Nat) : Int), rfl, fun v hv => ?_⟩
    have e : rd_T50 (markedP n m) (i : Int) = markP (m + 5 * i) := by
      show rdP (markedP n m) (i : Int) = _
      rw [rdP_nat]
      simp [markedP, hi]
    obtain ⟨K1, g1⟩ := mText_ev (m + 5 * i) (by omega)
    obtain ⟨K3, g3⟩ := mText_ev (m + 5 * i + 1) (by omega)
    obtain ⟨K2, g2⟩ := hv
    refine ev_from (K1 + K2 + K3 + 1) fun k hk => ?_
    obtain ⟨k, rfl⟩ : ∃ q, k = q + 1 := ⟨k - 1, by omega⟩
    have g1' : laws_markText.f k ((m + 5 * i : Nat) : Int) = some (mText (m + 5 * i)) := g1 k (by omega)
    have g3' : laws_markText.f k ((m + 5 * i + 1 : Nat) : Int) = some (mText (m + 5 * i + 1)) := g3 k (by omega)
    simp only [laws_heldPlaceS.l0, wnat i (by omega), wnat (m + 5 * i) (by omega), wnat (m + 5 * i + 1) (by omega), wnat (m + 5 * i + 1 + 1) (by omega), wnat (m + 5 * i + 1 + 1 + 1) (by omega), wnat (m + 5 * i + 1 + 1 + 1 + 1) (by omega), e, hlen, g1', g3', Option.bind_some]
    rw [if_pos (by omega), if_pos (by omega)]
    simp only [markP, if_true]
    exact g2 k (by omega)
  · subst hv
    refine ⟨_, Ev.step (f := fun _ => some ((m + 5 * n : Nat) : Int)) (fun k => ?_) (Ev.now _), rfl⟩
    simp only [laws_heldPlaceS.l0, hlen]
    rw [if_neg (by omega)]
theorem eqPlace_refl (x : IP) : laws_eqPlace.f x.f0 x.f1 x.f2 x.f3 x.f4 x.f0 x.f1 x.f2 x.f3 x.f4 = some true := by
  unfold laws_eqPlace.f
  simp
theorem eqPlaceS_refl' (l : List IP) (hl : l.length ≤ 9223372036854775807) : Ev (fun k => laws_eqPlaceS.f k l l) true := by
  unfold laws_eqPlaceS.f
  refine ev_if_pos rfl ?_
  have h := loop_all (fun k i => laws_eqPlaceS.l0 k l l i) l.length hl 0 (fun _ => true) (fun k i hi _ hw => by simp only [laws_eqPlaceS.l0, hw, eqPlace_refl, Option.bind_some]; rw [if_pos (by omega), if_pos (by omega), if_pos (by omega), if_pos trivial]) (fun k => by simp only [laws_eqPlaceS.l0]; rw [if_neg (by omega)])
  have e : (List.range l.length).all (fun _ => true) = true := by simp
  rw [e] at h
  exact h
def sEnd (x : ByteArray) (l : List IP) (q : Nat) (b : Bool) : List IP × Int := if b = true then ([], 3) else if q < x.size then ([], 3) else if placesRight l = true then (l, 0) else ([], 3)
def iEnd (x : ByteArray) (n : Int) (l : List IP) (q : Nat) (b : Bool) : List IP × Int := if n = (l.length : Int) then (if b = true then ([], 3) else if q = x.size then (if placesRight l = true then (l, 0) else ([], 3)) else ([], 3)) else ([], 3)
theorem sEnd_ev (x : ByteArray) (l : List IP) (n : Int) (q : Nat) (b : Bool) (hs : ∀ p ∈ l, p.f1.size ≤ x.size) (hx : x.size ≤ 20000) : Ev (fun k => spec_PlacesRead.j3 k x l n false x (q : Int) b) (sEnd x l q b) := by
  refine Ev.step (f := fun k => if b = true then (some (([] : List IP), (3 : Int))) else (if (q : Int) < (x.size : Int) then (some (([] : List IP), (3 : Int))) else ((spec_PlacesRight.f k l).bind fun t => (if t = true then (some (l, 0)) else (some (([] : List IP), 3)))))) (fun k => by simp only [spec_PlacesRead.j3]; rw [if_neg (by simp)]) ?_
  unfold sEnd
  by_cases hb : b = true
  · rw [if_pos hb]; exact ev_if_pos hb (Ev.now _)
  rw [if_neg hb]
  refine ev_if_neg hb ?_
  by_cases hq : q < x.size
  · rw [if_pos hq]; exact ev_if_pos (by omega) (Ev.now _)
  rw [if_neg hq]
  refine ev_if_neg (by omega) (Ev.bind (placesRight_s l (fun p hp => by have := hs p hp; omega)) ?_)
  by_cases hr : placesRight l = true
  · exact ev_if_pos hr (ev_eq (by rw [if_pos hr]))
  · exact ev_if_neg hr (ev_eq (by rw [if_neg hr]))
theorem iEnd_ev (x : ByteArray) (l : List IP) (n i : Int) (q : Nat) (b : Bool) (hs : ∀ p ∈ l, p.f1.size ≤ x.size) (hx : x.size ≤ 20000) : Ev (fun k => impl_PlacesRead.j1 k n l i false x (q : Int) b) (iEnd x n l q b) := by
  refine Ev.step (f := fun k => ((impl_Place.f l).bind fun t => (if n = t then ((impl_reader_isDone.f x (q : Int) b).bind fun bt => (if bt.1 = true then ((impl_PlacesRight.f k l).bind fun t => (if t = true then (some (l, 0)) else (some (([] : List IP), 3)))) else (some (([] : List IP), (3 : Int))))) else (some (([] : List IP), 3))))) (fun k => by simp only [impl_PlacesRead.j1]; rw [if_neg (by simp)]) ?_
  unfold iEnd
  refine ev_bind1 (a := (l.length : Int)) rfl ?_
  by_cases hn : n = (l.length : Int)
  rotate_left
  · rw [if_neg hn]; exact ev_if_neg hn (Ev.now _)
  rw [if_pos hn]
  refine ev_if_pos hn ?_
  by_cases hb : b = true
  · rw [if_pos hb]
    refine ev_bind1 (a := (false, x, (q : Int), b)) (by unfold impl_reader_isDone.f; rw [if_pos hb]) ?_
    exact ev_if_neg (by simp) (Ev.now _)
  rw [if_neg hb]
  refine ev_bind1 (a := (((q : Int) == (x.size : Int)), x, (q : Int), b)) (by unfold impl_reader_isDone.f impl_long.f; rw [if_neg hb]; rfl) ?_
  by_cases hq : q = x.size
  rotate_left
  · rw [if_neg hq]; exact ev_if_neg (by simp; omega) (Ev.now _)
  rw [if_pos hq]
  refine ev_if_pos (by simp; omega) (Ev.bind (placesRight_i l (fun p hp => by have := hs p hp; omega)) ?_)
  by_cases hr : placesRight l = true
  · exact ev_if_pos hr (ev_eq (by rw [if_pos hr]))
  · exact ev_if_neg hr (ev_eq (by rw [if_neg hr]))
/-- one place is read alike. -/
theorem step_place (x : ByteArray) (hx : x.size ≤ 20000) (q : Nat) (b : Bool) (hq : q ≤ x.size) : ∃ (p : IP) (q' : Nat) (b' : Bool), q' ≤ x.size ∧ p.f1.size ≤ x.size ∧
    (∀ (F : Nat → IP → ByteArray → Int → Bool → Option (List IP × Int)) r, Ev (fun k => F k p x (q' : Int) b') r → Ev (fun k => (spec_l10Reader_bytes.f x (q : Int) b 32).bind fun bt134 => ((spec_l10Reader_text.f k bt134.2.1 bt134.2.2.1 bt134.2.2.2).bind fun bt138 => ((spec_l10Reader_num.f k bt138.2.1 bt138.2.2.1 bt138.2.2.2).bind fun bt142 => ((spec_l10Reader_num.f k bt142.2.1 bt142.2.2.1 bt142.2.2.2).bind fun bt146 => ((spec_l10Reader_num.f k bt146.2.1 bt146.2.2.1 bt146.2.2.2).bind fun bt150 => F k ⟨bt134.1, bt138.1, bt142.1, bt146.1, bt150.1⟩ bt150.2.1 bt150.2.2.1 bt150.2.2.2))))) r) ∧
    (∀ (F : Nat → IP → ByteArray → Int → Bool → Option (List IP × Int)) r, Ev (fun k => F k p x (q' : Int) b') r → Ev (fun k => (impl_reader_take.f x (q : Int) b 32).bind fun bt134 => ((impl_reader_string.f k bt134.2.1 bt134.2.2.1 bt134.2.2.2).bind fun bt138 => ((impl_reader_num.f k bt138.2.1 bt138.2.2.1 bt138.2.2.2).bind fun bt142 => ((impl_reader_num.f k bt142.2.1 bt142.2.2.1 bt142.2.2.2).bind fun bt146 => ((impl_reader_num.f k bt146.2.1 bt146.2.2.1 bt146.2.2.2).bind fun bt150 => F k ⟨bt134.1, bt138.1, bt142.1, bt146.1, bt150.1⟩ bt150.2.1 bt150.2.2.1 bt150.2.2.2))))) r) := by
  obtain ⟨t1, s1⟩ : ∃ t, t = rBytes x q b 32 := ⟨_, rfl⟩
  have a1 := rBytes_at x q b 32 hq
  have b1s := bytes_s x hx q b 32 (by decide) hq
  have b1i := bytes_i x hx q b 32 (by decide) hq
  rw [← s1] at a1 b1s b1i
  clear s1
  obtain ⟨key, x1, p1, f1⟩ := t1
  obtain ⟨q1, g1, e1, h1⟩ := a1
  simp only [Prod.mk.injEq] at e1
  obtain ⟨rfl, rfl, rfl⟩ := e1
  obtain ⟨t2, s2⟩ : ∃ t, t = rText x1 q1 f1 := ⟨_, rfl⟩
  have a2 := rText_at x1 q1 f1 h1
  have b2s := text_s x1 hx q1 f1 h1
  have b2i := text_i x1 hx q1 f1 h1
  rw [← s2] at a2 b2s b2i
  clear s2
  obtain ⟨name, x2, p2, f2⟩ := t2
  obtain ⟨⟨q2, g2, e2, h2⟩, hname⟩ := a2
  simp only [Prod.mk.injEq] at e2
  obtain ⟨rfl, rfl, rfl⟩ := e2
  have num : ∀ (q : Nat) (f : Bool), q ≤ x2.size → ∃ (n : Int) (q' : Nat) (f' : Bool), q' ≤ x2.size ∧ Ev (fun k => spec_l10Reader_num.f k x2 (q : Int) f) (n, x2, (q' : Int), f') ∧ Ev (fun k => impl_reader_num.f k x2 (q : Int) f) (n, x2, (q' : Int), f') := by
    intro q f h
    have a3 := rNum_at x2 q f h
    have b3s := num_s x2 hx q f h
    have b3i := num_i x2 hx q f h
    obtain ⟨t3, s3⟩ : ∃ t, t = rNum x2 q f := ⟨_, rfl⟩
    rw [← s3] at a3 b3s b3i
    obtain ⟨n, x3, p3, f3⟩ := t3
    obtain ⟨q3, g3, e3, h3⟩ := a3
    simp only [Prod.mk.injEq] at e3
    obtain ⟨rfl, rfl, rfl⟩ := e3
    exact ⟨n, q3, f3, h3, b3s, b3i⟩
  obtain ⟨n1, q3, f3, h3, c1, d1⟩ := num q2 f2 h2
  obtain ⟨n2, q4, f4, h4, c2, d2⟩ := num q3 f3 h3
  obtain ⟨n3, q5, f5, h5, c3, d3⟩ := num q4 f4 h4
  refine ⟨⟨key, name, n1, n2, n3⟩, q5, f5, h5, hname, fun F r hr => ?_, fun F r hr => ?_⟩
  · exact ev_bind1 b1s (Ev.bind b2s (Ev.bind c1 (Ev.bind c2 (Ev.bind c3 hr))))
  · exact ev_bind1 b1i (Ev.bind b2i (Ev.bind d1 (Ev.bind d2 (Ev.bind d3 hr))))
theorem both (x : ByteArray) (hx : x.size ≤ 20000) (n : Nat) : ∀ (m i : Nat) (l : List IP) (q : Nat) (b : Bool), q ≤ x.size → i + m = min n 301 → l.length = i → (∀ p ∈ l, p.f1.size ≤ x.size) →
    ∃ (l' : List IP) (q' : Nat) (b' : Bool), q' ≤ x.size ∧ l'.length ≤ i + m ∧ (b' = false → l'.length = i + m) ∧ Ev (fun k => spec_PlacesRead.l0 k x l (m : Int) x (q : Int) b) (sEnd x l' q' b') ∧ Ev (fun k => impl_PlacesRead.l0 k (n : Int) l (i : Int) x (q : Int) b) (iEnd x (n : Int) l' q' b') := by
  intro m
  induction m with
  | zero =>
    intro i l q b hq hi hl hs
    refine ⟨l, q, b, hq, by omega, fun _ => by omega, ?_, ?_⟩
    · exact Ev.step (fun k => by simp only [spec_PlacesRead.l0]; rw [if_neg (by omega)]) (sEnd_ev x l _ q b hs hx)
    · refine Ev.step (fun k => ?_) (iEnd_ev x l n i q b hs hx)
      simp only [impl_PlacesRead.l0]
      by_cases h : (i : Int) < (n : Int)
      · rw [if_pos h, if_neg (by omega)]
      · rw [if_neg h]
  | succ m ih =>
    intro i l q b hq hi hl hs
    have hin : (i : Int) < (n : Int) := by omega
    have hi3 : (i : Int) ≤ 300 := by omega
    cases hb : b with
    | true =>
      refine ⟨l, q, true, hq, by omega, (fun h => absurd h (by simp)), ?_, ?_⟩
      · exact Ev.step (fun k => by simp only [spec_PlacesRead.l0]; rw [if_pos (by omega)]; rfl) (sEnd_ev x l _ q true hs hx)
      · refine Ev.step (fun k => ?_) (iEnd_ev x l n i q true hs hx)
        simp only [impl_PlacesRead.l0]
        rw [if_pos hin, if_pos hi3]
        rfl
    | false =>
      obtain ⟨p, q1, b1, hq1, hp, hS, hI⟩ := step_place x hx q false hq
      obtain ⟨l', q', b', r1, r2, r3, r4, r5⟩ := ih (i + 1) (l ++ [p]) q1 b1 hq1 (by omega) (by simp [hl]) (fun z hz => by
        rcases List.mem_append.1 hz with h | h
        · exact hs z h
        · obtain rfl := List.mem_singleton.1 h; exact hp)
      have e1 : wrap64 (((m + 1 : Nat) : Int) - 1) = (m : Int) := by rw [w64 (by omega) (by omega)]; omega
      refine ⟨l', q', b', r1, by omega, fun h => by have := r3 h; omega, ?_, ?_⟩
      · refine Ev.step (f := fun k => spec_PlacesRead.j3 k x l ((m + 1 : Nat) : Int) true x (q : Int) false) (fun k => by simp only [spec_PlacesRead.l0]; rw [if_pos (by omega)]; rfl) ?_
        refine Ev.step (fun k => by simp only [spec_PlacesRead.j3]; rw [if_pos trivial]) (hS (fun k p x' q' b' => if l.length < 2513169434916 then (spec_PlacesRead.l0 k x (l ++ [p]) (wrap64 (((m + 1 : Nat) : Int) - 1)) x' q' b') else none) _ ?_)
        refine ev_if_pos (by omega) ?_
        rw [e1]
        exact r4
      · refine Ev.step (f := fun k => impl_PlacesRead.j1 k (n : Int) l (i : Int) true x (q : Int) false) (fun k => by simp only [impl_PlacesRead.l0]; rw [if_pos hin, if_pos hi3]; rfl) ?_
        refine Ev.step (fun k => by simp only [impl_PlacesRead.j1]; rw [if_pos trivial]) (hI (fun k p x' q' b' => if l.length < 2513169434916 then (impl_PlacesRead.l0 k (n : Int) (l ++ [p]) (wrap64 ((i : Int) + 1)) x' q' b') else none) _ ?_)
        refine ev_if_pos (by omega) ?_
        rw [wnat i (by omega)]
        exact r5
theorem same (x : ByteArray) : ∃ v : List IP × Int, v.1.length ≤ 1048576 ∧ Ev (fun k => spec_PlacesRead.f k x) v ∧ Ev (fun k => impl_PlacesRead.f k x) v := by
  by_cases hl : (x.size : Int) > 20000
  · exact ⟨_, by simp, ev_if_pos hl (Ev.now _), ev_bind1 (a := decide ((x.size : Int) > 20000)) rfl (ev_if_pos (decide_eq_true hl) (Ev.now _))⟩
  have hx : x.size ≤ 20000 := by omega
  have a3 := rNum_at x 0 false (Nat.zero_le _)
  have b3s := num_s x hx 0 false (Nat.zero_le _)
  have b3i := num_i x hx 0 false (Nat.zero_le _)
  obtain ⟨t3, s3⟩ : ∃ t, t = rNum x 0 false := ⟨_, rfl⟩
  rw [← s3] at a3 b3s b3i
  clear s3
  obtain ⟨n, x3, p3, f3⟩ := t3
  obtain ⟨q, g3, e3, h3⟩ := a3
  simp only [Prod.mk.injEq] at e3
  obtain ⟨rfl, rfl, rfl⟩ := e3
  have hS : ∀ v, Ev (fun k => if n < 0 then (spec_PlacesRead.j0 k x3 [] n true x3 (q : Int) f3) else (spec_PlacesRead.j0 k x3 [] n (decide (n > 300)) x3 (q : Int) f3)) v → Ev (fun k => spec_PlacesRead.f k x3) v := fun v hv => ev_if_neg hl (ev_bind1 (a := ([] : List IP)) rfl (Ev.bind b3s hv))
  have hI : ∀ v, Ev (fun k => impl_PlacesRead.l0 k n [] 0 x3 (q : Int) f3) v → Ev (fun k => impl_PlacesRead.f k x3) v := fun v hv => ev_bind1 (a := decide ((x3.size : Int) > 20000)) rfl (ev_if_neg (by simp; omega) (Ev.bind b3i hv))
  have hbad : ∀ n : Int, Ev (fun k => spec_PlacesRead.j0 k x3 [] n true x3 (q : Int) f3) (([] : List IP), (3 : Int)) := by
    intro n
    refine Ev.step (f := fun k => spec_PlacesRead.j1 k x3 [] n x3 (q : Int) true) (fun k => by simp only [spec_PlacesRead.j0]; rw [if_pos trivial]) ?_
    refine Ev.step (f := fun k => spec_PlacesRead.l0 k x3 [] n x3 (q : Int) true) (fun k => by simp only [spec_PlacesRead.j1]) ?_
    refine Ev.step (f := fun k => spec_PlacesRead.j3 k x3 [] n false x3 (q : Int) true) (fun k => by simp only [spec_PlacesRead.l0]; split <;> rfl) ?_
    have := sEnd_ev x3 [] n q true (by simp) hx
    unfold sEnd at this
    rw [if_pos rfl] at this
    exact this
  by_cases hn : n < 0
  · refine ⟨([], 3), by simp, hS _ (ev_if_pos hn (hbad n)), hI _ ?_⟩
    refine Ev.step (f := fun k => impl_PlacesRead.j1 k n [] 0 false x3 (q : Int) f3) (fun k => by simp only [impl_PlacesRead.l0]; rw [if_neg (by omega)]) ?_
    have := iEnd_ev x3 [] n 0 q f3 (by simp) hx
    unfold iEnd at this
    rw [if_neg (by simp; omega)] at this
    exact this
  obtain ⟨m, rfl⟩ : ∃ m : Nat, n = (m : Int) := ⟨n.toNat, by omega⟩
  obtain ⟨l', q', b', r1, r2, r3, r4, r5⟩ := both x3 hx m (min m 301) 0 [] q f3 h3 (by omega) rfl (by simp)
  by_cases hm : m > 300
  · refine ⟨([], 3), by simp, hS _ (ev_if_neg hn (by rw [decide_eq_true (show (m : Int) > 300 by omega)]; exact hbad _)), hI _ ?_⟩
    have e : iEnd x3 (m : Int) l' q' b' = ([], 3) := by
      unfold iEnd
      by_cases h1 : (m : Int) = (l'.length : Int)
      · have hp : ¬ placesRight l' = true := by
          unfold placesRight
          rw [decide_eq_false (by omega)]
          simp
        rw [if_pos h1, if_neg hp]
        split
        · rfl
        · split <;> rfl
      · rw [if_neg h1]
    rw [e] at r5
    exact r5
  · have hmin : min m 301 = m := by omega
    rw [hmin] at r2 r3 r4
    refine ⟨sEnd x3 l' q' b', ?_, hS _ (ev_if_neg hn ?_), hI _ ?_⟩
    · unfold sEnd
      split
      · simp
      · split
        · simp
        · split
          · simp only; omega
          · simp
    · rw [decide_eq_false (show ¬ (m : Int) > 300 by omega)]
      refine Ev.step (f := fun k => spec_PlacesRead.j1 k x3 [] (m : Int) x3 (q : Int) f3) (fun k => by simp only [spec_PlacesRead.j0]; rw [if_neg (by simp)]) ?_
      exact Ev.step (f := fun k => spec_PlacesRead.l0 k x3 [] (m : Int) x3 (q : Int) f3) (fun k => by simp only [spec_PlacesRead.j1]) r4
    · have e : iEnd x3 (m : Int) l' q' b' = sEnd x3 l' q' b' := by
        unfold iEnd sEnd
        cases b' with
        | true => simp
        | false =>
          have := r3 rfl
          rw [if_pos (by omega)]
          by_cases h1 : q' = x3.size
          · simp [h1]
          · rw [if_neg (by simp), if_neg h1, if_neg (by simp), if_pos (by omega)]
      rw [e] at r5
      exact r5
theorem FnExactPlacesRead : laws_FnExactPlacesRead.Pure := by
  intro x _
  refine Ev.rounds (g := fun k => laws_FnExactPlacesRead.f k x) (Evs.ev ?_)
  unfold laws_FnExactPlacesRead.f
  refine Evs.ite (fun _ => Evs.now _ rfl) (fun _ => ?_)
  obtain ⟨⟨l, c⟩, hlen, hs, hi⟩ := same x
  simp only at hlen
  have he : Ev (fun k => laws_eqPlacesOut.f k l c l c) true := by
    unfold laws_eqPlacesOut.f
    exact Ev.bind (eqPlaceS_refl' l (by omega)) (ev_if_pos rfl (ev_if_pos rfl (Ev.now _)))
  have hm : Ev (fun k => laws_markPlacesOut.f k l c 1) (((1 + 5 * l.length : Nat) : Int), markedP l.length 1) := by
    unfold laws_markPlacesOut.f
    exact Ev.bind (markPlaceS_ev l 1 (by omega) (by omega)) (Ev.now _)
  have hh : Ev (fun k => laws_heldPlacesOut.f k (markedP l.length 1) c 1) ((1 + 5 * l.length : Nat) : Int) := by
    unfold laws_heldPlacesOut.f
    exact Ev.bind (heldPlaceS_ev l.length 1 (by omega) (by omega)) (ev_if_neg (by omega) (Ev.now _))
  exact ⟨true, Ev.bind hs (Ev.bind hi (Ev.bind he (ev_if_pos rfl (Ev.bind hm (Ev.bind hh (ev_if_neg (by omega) (ev_if_pos rfl (Ev.bind hi (Ev.bind he (ev_if_pos rfl (Ev.bind hh (ev_if_neg (by omega) (ev_if_pos rfl (Ev.now _)))))))))))))), rfl⟩
end Go.Proofs.Yteljfdhjbnlgoaa.Pure
