/- The plain law of FnExactNodesRead: of every text NodesRead reads what the reference reads, and what it gives shares nothing. -/
import Derived.Test.YtggbpjfgfenpdaaPFnExactNodesReadx21
import Derived.Test.YtggbpjfgfenpdaaVLibFnExactNodesRead
namespace Go.Proofs.Ytggbpjfgfenpdaa.Pure
open Go.RowKit Go.Proofs.Ytggbpjfgfenpdaa.PFnExactNodesRead Go.Proofs.Ytggbpjfgfenpdaa.Lib Go.Proofs.YtggbpjfgfenpdaaW.PrintWords Go.Proofs.YtggbpjfgfenpdaaW.PrintLast Go.Proofs.YtggbpjfgfenpdaaW.PrintMore
set_option linter.unusedVariables false
set_option linter.unusedSimpArgs false
theorem within_eq (a b c : Int) : impl_within.f a b c = some (decide (b ≤ a) && decide (a ≤ c)) := by
  unfold impl_within.f
  by_cases h : a ≥ b <;> simp [h]
/-- a loop whose rounds each go on or end. -/
theorem loop_evx {σ ρ : Type} (F : Nat → σ → Int → Option ρ) (n : Nat) (inv : Nat → σ → Prop) (Q : ρ → Prop)
    (hstep : ∀ (i : Nat) (s : σ), i < n → inv i s → (∃ s', inv (i + 1) s' ∧ ∀ v, Ev (fun k => F k s' ((i + 1 : Nat) : Int)) v → Ev (fun k => F k s (i : Int)) v) ∨ Evs (fun k => F k s (i : Int)) Q)
    (hend : ∀ (s : σ), inv n s → Evs (fun k => F k s (n : Int)) Q) : ∀ (s : σ), inv 0 s → Evs (fun k => F k s 0) Q := by
  have main : ∀ (d i : Nat) (s : σ), i + d = n → inv i s → Evs (fun k => F k s (i : Int)) Q := by
    intro d
    induction d with
    | zero =>
      intro i s hi hv
      obtain rfl : i = n := by omega
      exact hend s hv
    | succ d ih =>
      intro i s hi hv
      rcases hstep i s (by omega) hv with ⟨s', hs', hv'⟩ | h
      · obtain ⟨v, h1, h2⟩ := ih (i + 1) s' (by omega) hs'
        exact ⟨v, hv' v h1, h2⟩
      · exact h
  intro s hs
  exact main n 0 s (by omega) hs
theorem wnat' (i n : Nat) (hi : i < n) (hn : n ≤ 9223372036854775807) : wrap64 ((i : Int) + 1) = ((i + 1 : Nat) : Int) := by rw [w64 (by omega) (by omega)]; omega
/-- what is read of bytes: a code, the number's fold, and how many bytes. -/
def gN : Nat → Nat → List Nat → Int × Nat × Nat
  | _, _, [] => (4, 0, 0)
  | i, u, c :: cs => if i = 9 ∧ 1 < c then (3, 0, 0) else if c < 128 then (if c = 0 ∧ 0 < i then (3, 0, 0) else (0, u + c * 128 ^ i, i + 1)) else gN (i + 1) (u + (c - 128) * 128 ^ i) cs
theorem gN_ok : ∀ (l : List Nat) (i u : Nat), i ≤ 9 → u < 128 ^ i → (∀ c ∈ l, c < 256) → (gN i u l).1 = 0 → i < (gN i u l).2.2 ∧ (gN i u l).2.2 ≤ i + l.length ∧ (gN i u l).2.1 < 18446744073709551616 := by
  intro l
  induction l with
  | nil => intro i u _ _ _ h; simp [gN] at h
  | cons c cs ih =>
    intro i u hi hu hl h
    have hc := hl c (by simp)
    unfold gN at h ⊢
    by_cases h1 : i = 9 ∧ 1 < c
    · rw [if_pos h1] at h; simp at h
    rw [if_neg h1] at h ⊢
    have hp : 128 ^ i ≤ 128 ^ 9 := Nat.pow_le_pow_right (by decide) hi
    by_cases h2 : c < 128
    · rw [if_pos h2] at h ⊢
      by_cases h3 : c = 0 ∧ 0 < i
      · rw [if_pos h3] at h; simp at h
      rw [if_neg h3]
      refine ⟨by simp, by simp, ?_⟩
      show u + c * 128 ^ i < _
      by_cases h9 : i = 9
      · subst h9
        have : c ≤ 1 := by omega
        have : c * 128 ^ 9 ≤ 1 * 128 ^ 9 := Nat.mul_le_mul_right _ this
        omega
      · have hp8 : 128 ^ i ≤ 128 ^ 8 := Nat.pow_le_pow_right (by decide) (by omega)
        have : c * 128 ^ i ≤ 127 * 128 ^ 8 := Nat.mul_le_mul (by omega) hp8
        omega
    · rw [if_neg h2] at h ⊢
      have hi9 : i < 9 := by
        by_cases e : i = 9
        · exact absurd ⟨e, by omega⟩ h1
        · omega
      have hu' : u + (c - 128) * 128 ^ i < 128 ^ (i + 1) := by
        have : (c - 128) * 128 ^ i ≤ 127 * 128 ^ i := Nat.mul_le_mul_right _ (by omega)
        rw [Nat.pow_succ]
        omega
      obtain ⟨q1, q2, q3⟩ := ih (i + 1) _ (by omega) hu' (fun x hx => hl x (by simp [hx])) h
      exact ⟨by omega, by simp only [List.length_cons]; omega, q3⟩
/-- a number that was put is got back. -/
theorem gN_put (m : Nat) : ∀ (v i u : Nat) (rest : List Nat), i + m = 9 → v < 128 ^ (m + 1) → v * 128 ^ i < 18446744073709551616 → (0 < i → 0 < v) → gN i u ((numL v).map Int.toNat ++ rest) = (0, u + v * 128 ^ i, i + (numL v).length) := by
  induction m with
  | zero =>
    intro v i u rest hi hv hw h0
    obtain rfl : i = 9 := by omega
    have hv1 : v ≤ 1 := by omega
    rw [numL_lt (by omega)]
    simp only [List.map_cons, List.map_nil, List.cons_append, List.nil_append, Int.toNat_natCast, gN, List.length_cons, List.length_nil]
    rw [if_neg (by omega), if_pos (by omega), if_neg (by have := h0 (by omega); omega)]
  | succ m ih =>
    intro v i u rest hi hv hw h0
    by_cases h : v < 128
    · rw [numL_lt h]
      simp only [List.map_cons, List.map_nil, List.cons_append, List.nil_append, Int.toNat_natCast, gN, List.length_cons, List.length_nil]
      rw [if_neg (by omega), if_pos (by omega), if_neg (by intro q; have := h0 q.2; omega)]
    · rw [numL_ge h]
      simp only [List.map_cons, List.cons_append, Int.toNat_natCast, gN, List.length_cons]
      rw [if_neg (by omega), if_neg (by omega)]
      have e : v / 128 * 128 ^ (i + 1) + v % 128 * 128 ^ i = v * 128 ^ i := by
        rw [Nat.pow_succ, Nat.mul_comm (128 ^ i) 128, ← Nat.mul_assoc, ← Nat.add_mul]
        congr 1
        omega
      rw [ih (v / 128) (i + 1) _ rest (by omega) (by rw [Nat.div_lt_iff_lt_mul (by decide), ← Nat.pow_succ]; exact hv) (by omega) (by intro _; omega)]
      congr 2
      · have : v % 128 + 128 - 128 = v % 128 := by omega
        rw [this]
        omega
      · omega
/-- of a number whose last bytes are gone nothing is got. -/
theorem gN_short (m : Nat) : ∀ (v i u n : Nat), i + m = 9 → v < 128 ^ (m + 1) → n < (numL v).length → gN i u (((numL v).map Int.toNat).take n) = (4, 0, 0) := by
  induction m with
  | zero =>
    intro v i u n hi hv hn
    rw [numL_lt (Nat.lt_of_lt_of_le hv (by decide))] at hn ⊢
    obtain rfl : n = 0 := by simpa using hn
    rfl
  | succ m ih =>
    intro v i u n hi hv hn
    by_cases h : v < 128
    · rw [numL_lt h] at hn ⊢
      obtain rfl : n = 0 := by simpa using hn
      rfl
    · rw [numL_ge h] at hn ⊢
      cases n with
      | zero => rfl
      | succ n =>
        simp only [List.map_cons, List.take_succ_cons, Int.toNat_natCast, gN]
        rw [if_neg (by omega), if_neg (by omega)]
        exact ih (v / 128) (i + 1) _ n (by omega) (by rw [Nat.div_lt_iff_lt_mul (by decide), ← Nat.pow_succ]; exact hv) (by simpa using hn)
/-- the number of a fold. -/
def unfold' (u : Nat) : Int := if u % 2 = 1 then -((u / 2 : Nat) : Int) - 1 else ((u / 2 : Nat) : Int)
/-- a text as numbers. -/
def bl (t : ByteArray) : List Nat := t.data.toList.map UInt8.toNat
theorem bl_length (t : ByteArray) : (bl t).length = t.size := by unfold bl; rw [List.length_map]; exact data_length t
theorem bl_append (a b : ByteArray) : bl (a ++ b) = bl a ++ bl b := by simp [bl, ByteArray.data_append]
theorem bl_lt (t : ByteArray) : ∀ c ∈ bl t, c < 256 := by
  intro c hc
  obtain ⟨x, _, rfl⟩ := List.mem_map.1 hc
  exact x.toNat_lt
theorem bl_extract (t : ByteArray) (i j : Nat) : bl (t.extract i j) = ((bl t).take j).drop i := by
  simp only [bl, ByteArray.data_extract, Array.toList_extract, List.extract_eq_take_drop, List.map_take, List.map_drop]
  rw [List.drop_take]
theorem bl_inj {a b : ByteArray} (h : bl a = bl b) : a = b := by
  have h2 : a.data.toList = b.data.toList := by
    unfold bl at h
    exact (List.map_inj_right (fun x y q => UInt8.toNat_inj.1 q)).1 h
  cases a; cases b
  simp only at h2
  congr 1
  exact Array.toList_inj.1 h2
theorem bt_bl (t : ByteArray) (i : Nat) (h : i < t.size) : bt t (i : Int) = (((bl t)[i]'(by rw [bl_length]; exact h) : Nat) : Int) := by
  unfold bt
  simp only [Int.toNat_natCast]
  rw [dif_pos h]
  simp [bl]
  rfl
theorem bl_strOfNums (l : List Int) (h : ∀ x ∈ l, 0 ≤ x ∧ x < 256) : bl (strOfNums l) = l.map Int.toNat := by
  unfold bl strOfNums
  simp only [List.map_map]
  refine List.map_congr_left (fun x hx => ?_)
  have := h x hx
  simp only [Function.comp]
  rw [UInt8.toNat_ofNat']
  omega
theorem numL_range (m : Nat) : ∀ u, u < 128 ^ (m + 1) → ∀ x ∈ numL u, 0 ≤ x ∧ x < 256 := by
  induction m with
  | zero =>
    intro u hu x hx
    rw [numL_lt (by simpa using hu)] at hx
    simp at hx; subst hx
    simp at hu
    omega
  | succ m ih =>
    intro u hu x hx
    by_cases h : u < 128
    · rw [numL_lt h] at hx
      simp at hx; omega
    · rw [numL_ge h, List.mem_cons] at hx
      rcases hx with rfl | hx
      · omega
      · exact ih (u / 128) (by rw [Nat.div_lt_iff_lt_mul (by decide), ← Nat.pow_succ]; exact hu) x hx
theorem bl_putNum (n : Int) (h0 : -9223372036854775808 ≤ n) (h1 : n ≤ 9223372036854775807) : bl (putNum n) = (numL (fold n)).map Int.toNat :=
  bl_strOfNums _ (numL_range 9 _ (Nat.lt_of_lt_of_le (fold_lt n h0 h1) (by decide)))
theorem empty_list : ((⟨#[]⟩ : ByteArray).toList == ([] : List UInt8)) = true := by
  rw [ByteArray.toList_eq]; rfl
theorem not_empty (p : ByteArray) (h : 0 < p.size) : (p.toList == ([] : List UInt8)) = false := by
  refine beq_eq_false_iff_ne.2 (fun q => ?_)
  rw [ByteArray.toList_eq] at q
  have := congrArg List.length q
  rw [data_length] at this
  simp only [List.length_nil] at this
  omega
theorem extract_size (p : ByteArray) (n : Nat) (h : n ≤ p.size) : (p.extract 0 n).size = n := by
  rw [ByteArray.size_extract]; omega
theorem i64_xor_zero (x : Int) (h0 : -9223372036854775808 ≤ x) (h1 : x ≤ 9223372036854775807) : Go.bits .xor .i64 x 0 = x := by
  show IntKind.i64.wrap (((BitVec.ofInt 64 x) ^^^ (BitVec.ofInt 64 0)).toNat : Int) = x
  rw [show BitVec.ofInt 64 0 = 0#64 by decide, BitVec.xor_zero, BitVec.toNat_ofInt, i64_w]
  unfold wrap64
  omega
theorem i64_xor_ones (x : Int) (h0 : -9223372036854775808 ≤ x) (h1 : x ≤ 9223372036854775807) : Go.bits .xor .i64 x (-1) = -x - 1 := by
  show IntKind.i64.wrap (((BitVec.ofInt 64 x) ^^^ (BitVec.ofInt 64 (-1))).toNat : Int) = -x - 1
  rw [show BitVec.ofInt 64 (-1) = BitVec.allOnes 64 by decide, BitVec.xor_allOnes, BitVec.toNat_not, BitVec.toNat_ofInt, i64_w]
  unfold wrap64
  omega
theorem unfold_eq (u : Nat) (h : u < 18446744073709551616) : Go.bits .xor .i64 (wrap64 ((u : Int) / 2)) (wrap64 (-(wrap64 (Go.bits .and .u64 (u : Int) 1)))) = unfold' u := by
  have e : Go.bits .and .u64 (u : Int) 1 = ((u % 2 : Nat) : Int) := by
    refine (u64_and_nat u 1 h (by decide)).trans ?_
    rw [Nat.and_one_is_mod]
  rw [e, w64 (n := (u : Int) / 2) (by omega) (by omega), w64 (n := ((u % 2 : Nat) : Int)) (by omega) (by omega)]
  unfold unfold'
  by_cases q : u % 2 = 1
  · rw [if_pos q, q]
    rw [show wrap64 (-((1 : Nat) : Int)) = -1 by unfold wrap64; omega, i64_xor_ones _ (by omega) (by omega)]
    omega
  · rw [if_neg q, show u % 2 = 0 by omega]
    rw [show wrap64 (-((0 : Nat) : Int)) = 0 by unfold wrap64; omega, i64_xor_zero _ (by omega) (by omega)]
    omega
theorem or_shl (u c i : Nat) (hu : u < 128 ^ i) (h : i ≤ 8 ∧ c < 256 ∨ i = 9 ∧ c ≤ 1) : Go.bits .or .u64 (u : Int) (shl .u64 (IntKind.u64.wrap (Go.bits .and .u8 (c : Int) 127)) (wrap64 (7 * (i : Int)))) = ((u + c % 128 * 128 ^ i : Nat) : Int) := by
  have e1 : Go.bits .and .u8 (c : Int) 127 = ((c % 128 : Nat) : Int) := by
    refine (u8_and_nat c 127 (by omega) (by decide)).trans ?_
    rw [nat_mask7]
  have e2 : (2 : Nat) ^ (7 * i) = 128 ^ i := by rw [Nat.pow_mul]
  have hb : c % 128 * 128 ^ i < 18446744073709551616 := by
    rcases h with ⟨h, hc⟩ | ⟨rfl, hc⟩
    · have : 128 ^ i ≤ 128 ^ 8 := Nat.pow_le_pow_right (by decide) h
      have : c % 128 * 128 ^ i ≤ 127 * 128 ^ 8 := Nat.mul_le_mul (by omega) this
      omega
    · have : c % 128 * 128 ^ 9 ≤ 1 * 128 ^ 9 := Nat.mul_le_mul_right _ (by omega)
      omega
  have hub : u < 18446744073709551616 := by
    have : 128 ^ i ≤ 128 ^ 9 := Nat.pow_le_pow_right (by decide) (by omega)
    omega
  have e3 : shl .u64 (IntKind.u64.wrap (Go.bits .and .u8 (c : Int) 127)) (wrap64 (7 * (i : Int))) = ((c % 128 * 128 ^ i : Nat) : Int) := by
    rw [e1, w64 (by omega) (by omega)]
    unfold shl
    rw [show (7 * (i : Int)).toNat = 7 * i by omega, show IntKind.u64.bits = 64 from rfl, Nat.min_eq_left (by omega)]
    simp only [IntKind.wrap_u64]
    rw [show (2 : Int) ^ (7 * i) = ((128 ^ i : Nat) : Int) by rw [← e2]; simp]
    have : (((c % 128 : Nat) : Int) % 18446744073709551616) = ((c % 128 : Nat) : Int) := by omega
    rw [this, ← Int.natCast_mul]
    omega
  rw [e3, u64_or_nat _ _ hub hb, Nat.or_comm, nat_join (7 * i) _ _ (by rw [e2]; exact Nat.mul_mod_left _ _) (by rw [e2]; exact hu)]
  omega
/-- what is got of bytes: a number, the place behind it, a code. -/
def gout (p : Nat) (g : Int × Nat × Nat) : Int × Int × Int := if g.1 = 0 then (unfold' g.2.1, ((p + g.2.2 : Nat) : Int), 0) else (0, 0, g.1)
theorem getNum_i_l0 (x : ByteArray) (p : Nat) (hx : x.size ≤ 4611686018427387904) (hp : p ≤ 4611686018427387904) : ∀ (m i u : Nat), i + m = 9 → u < 128 ^ i → Ev (fun k => impl_getNum.l0 k x (p : Int) (u : Int) (i : Int)) (gout p (gN i u ((bl x).drop (p + i)))) := by
  intro m
  induction m with
  | zero =>
    intro i u hi hu
    obtain rfl : i = 9 := by omega
    by_cases h : p + 9 < x.size
    · have hc : p + 9 < (bl x).length := by rw [bl_length]; exact h
      have hb := bl_lt x (bl x)[p + 9] (List.getElem_mem hc)
      have hbt := bt_bl x (p + 9) h
      rw [List.drop_eq_getElem_cons hc]
      generalize (bl x)[p + 9] = c at hb hbt ⊢
      have e1 : wrap64 ((p : Int) + (9 : Nat)) = ((p + 9 : Nat) : Int) := by rw [w64 (by omega) (by omega)]; omega
      refine Ev.step (f := fun k => impl_getNum.j1 k x (p : Int) (Go.bits .or .u64 (u : Int) (shl .u64 (IntKind.u64.wrap (Go.bits .and .u8 (c : Int) 127)) (wrap64 (7 * ((9 : Nat) : Int))))) ((9 : Nat) : Int) (c : Int) (decide ((c : Int) > 1))) (fun k => ?_) ?_
      · simp only [impl_getNum.l0, impl_long.f, Option.bind_some, e1, hbt]
        rw [if_neg (by unfold wrap64; omega), if_pos (by omega), if_pos (by omega), if_pos (by rw [w64 (by omega) (by omega)]; omega), if_pos (by omega)]
      · by_cases h1 : 1 < c
        · rw [decide_eq_true (show (c : Int) > 1 by omega)]
          refine Ev.step (f := fun k => impl_getNum.j2 k x (p : Int) (Go.bits .or .u64 (u : Int) (shl .u64 (IntKind.u64.wrap (Go.bits .and .u8 (c : Int) 127)) (wrap64 (7 * ((9 : Nat) : Int))))) ((9 : Nat) : Int) (c : Int) true) (fun k => by simp only [impl_getNum.j1]; rw [if_pos trivial]) ?_
          refine Ev.step (f := fun _ => some (0, 0, 3)) (fun k => by simp only [impl_getNum.j2]; rw [if_pos trivial]) (ev_eq ?_)
          unfold gN
          rw [if_pos ⟨rfl, h1⟩]
          rfl
        · rw [decide_eq_false (show ¬ (c : Int) > 1 by omega), or_shl u c 9 hu (.inr ⟨rfl, by omega⟩), Nat.mod_eq_of_lt (show c < 128 by omega)]
          refine Ev.step (f := fun k => impl_getNum.j2 k x (p : Int) ((u + c * 128 ^ 9 : Nat) : Int) ((9 : Nat) : Int) (c : Int) (decide (c = 0))) (fun k => ?_) ?_
          · simp only [impl_getNum.j1]
            rw [if_neg (by simp)]
            by_cases h0 : c = 0
            · rw [if_pos (by omega), decide_eq_true h0]; rfl
            · rw [if_neg (by omega), decide_eq_false h0]
          · unfold gN
            rw [if_neg (by omega), if_pos (by omega)]
            by_cases h0 : c = 0
            · rw [decide_eq_true h0, if_pos ⟨h0, by decide⟩]
              exact Ev.step (f := fun _ => some (0, 0, 3)) (fun k => by simp only [impl_getNum.j2]; rw [if_pos trivial]) (ev_eq rfl)
            · rw [decide_eq_false h0, if_neg (fun q => h0 q.1)]
              refine Ev.step (f := fun _ => some (Go.bits .xor .i64 (wrap64 (((u + c * 128 ^ 9 : Nat) : Int) / 2)) (wrap64 (-(wrap64 (Go.bits .and .u64 ((u + c * 128 ^ 9 : Nat) : Int) 1)))), wrap64 ((wrap64 ((p : Int) + ((9 : Nat) : Int))) + 1), 0)) (fun k => ?_) (ev_eq ?_)
              · simp only [impl_getNum.j2]
                rw [if_neg (by simp), if_pos (by omega)]
              · have : c * 128 ^ 9 ≤ 1 * 128 ^ 9 := Nat.mul_le_mul_right _ (by omega)
                rw [unfold_eq _ (by omega), e1, w64 (by omega) (by omega)]
                unfold gout
                rw [if_pos rfl]
                simp only [Prod.mk.injEq, true_and]
                exact ⟨by omega, trivial⟩
    · rw [List.drop_eq_nil_of_le (by rw [bl_length]; omega)]
      refine Ev.step (f := fun _ => some (0, 0, 4)) (fun k => ?_) (ev_eq rfl)
      simp only [impl_getNum.l0, impl_long.f, Option.bind_some]
      rw [if_pos (by unfold wrap64; omega)]
  | succ m ih =>
    intro i u hi hu
    by_cases h : p + i < x.size
    · have hc : p + i < (bl x).length := by rw [bl_length]; exact h
      have hb := bl_lt x (bl x)[p + i] (List.getElem_mem hc)
      have hbt := bt_bl x (p + i) h
      rw [List.drop_eq_getElem_cons hc]
      generalize (bl x)[p + i] = c at hb hbt ⊢
      have e1 : wrap64 ((p : Int) + (i : Int)) = ((p + i : Nat) : Int) := by rw [w64 (by omega) (by omega)]; omega
      refine Ev.step (f := fun k => impl_getNum.j1 k x (p : Int) ((u + c % 128 * 128 ^ i : Nat) : Int) (i : Int) (c : Int) false) (fun k => ?_) ?_
      · simp only [impl_getNum.l0, impl_long.f, Option.bind_some, e1, hbt, or_shl u c i hu (.inl ⟨by omega, hb⟩)]
        rw [if_neg (by unfold wrap64; omega), if_pos (by omega), if_pos (by omega), if_pos (by rw [w64 (by omega) (by omega)]; omega), if_neg (by omega)]
      · unfold gN
        rw [if_neg (by omega)]
        by_cases h128 : c < 128
        · rw [Nat.mod_eq_of_lt h128, if_pos h128]
          refine Ev.step (f := fun k => impl_getNum.j2 k x (p : Int) ((u + c * 128 ^ i : Nat) : Int) (i : Int) (c : Int) (decide (c = 0 ∧ 0 < i))) (fun k => ?_) ?_
          · simp only [impl_getNum.j1]
            rw [if_neg (by simp)]
            by_cases h0 : c = 0
            · rw [if_pos (by omega)]
              congr 1
              by_cases hi0 : 0 < i
              · rw [decide_eq_true (show (i : Int) > 0 by omega), decide_eq_true ⟨h0, hi0⟩]
              · rw [decide_eq_false (show ¬ (i : Int) > 0 by omega), decide_eq_false (fun q => hi0 q.2)]
            · rw [if_neg (by omega), decide_eq_false (fun q => h0 q.1)]
          · by_cases h0 : c = 0 ∧ 0 < i
            · rw [decide_eq_true h0, if_pos h0]
              exact Ev.step (f := fun _ => some (0, 0, 3)) (fun k => by simp only [impl_getNum.j2]; rw [if_pos trivial]) (ev_eq rfl)
            · rw [decide_eq_false h0, if_neg h0]
              refine Ev.step (f := fun _ => some (Go.bits .xor .i64 (wrap64 (((u + c * 128 ^ i : Nat) : Int) / 2)) (wrap64 (-(wrap64 (Go.bits .and .u64 ((u + c * 128 ^ i : Nat) : Int) 1)))), wrap64 ((wrap64 ((p : Int) + (i : Int))) + 1), 0)) (fun k => ?_) (ev_eq ?_)
              · simp only [impl_getNum.j2]
                rw [if_neg (by simp), if_pos (by omega)]
              · have h8 : 128 ^ i ≤ 128 ^ 8 := Nat.pow_le_pow_right (by decide) (by omega)
                have : c * 128 ^ i ≤ 127 * 128 ^ 8 := Nat.mul_le_mul (by omega) h8
                rw [unfold_eq _ (by omega), e1, w64 (by omega) (by omega)]
                unfold gout
                rw [if_pos rfl]
                simp only [Prod.mk.injEq, true_and]
                exact ⟨by omega, trivial⟩
        · rw [if_neg h128, show c % 128 = c - 128 by omega]
          have hu' : u + (c - 128) * 128 ^ i < 128 ^ (i + 1) := by
            have : (c - 128) * 128 ^ i ≤ 127 * 128 ^ i := Nat.mul_le_mul_right _ (by omega)
            rw [Nat.pow_succ]
            omega
          have hr := ih (i + 1) (u + (c - 128) * 128 ^ i) (by omega) hu'
          refine Ev.step (f := fun k => impl_getNum.j2 k x (p : Int) ((u + (c - 128) * 128 ^ i : Nat) : Int) (i : Int) (c : Int) false) (fun k => ?_) ?_
          · simp only [impl_getNum.j1]
            rw [if_neg (by simp), if_neg (by omega)]
          · refine Ev.step (fun k => ?_) hr
            simp only [impl_getNum.j2]
            rw [if_neg (by simp), if_neg (by omega), wnat' i 10 (by omega) (by decide)]
    · rw [List.drop_eq_nil_of_le (by rw [bl_length]; omega)]
      refine Ev.step (f := fun _ => some (0, 0, 4)) (fun k => ?_) (ev_eq rfl)
      simp only [impl_getNum.l0, impl_long.f, Option.bind_some]
      rw [if_pos (by unfold wrap64; omega)]
theorem getNum_i (x : ByteArray) (p : Nat) (hx : x.size ≤ 4611686018427387904) (hp : p ≤ 4611686018427387904) : Ev (fun k => impl_getNum.f k x (p : Int)) (gout p (gN 0 0 ((bl x).drop p))) :=
  ev_if_neg (by omega) (getNum_i_l0 x p hx hp 9 0 0 rfl (by decide))
theorem unfold_range (u : Nat) (h : u < 18446744073709551616) : -9223372036854775808 ≤ unfold' u ∧ unfold' u ≤ 9223372036854775807 := by
  unfold unfold'
  split <;> omega
theorem unfold_fold (n : Int) : unfold' (fold n) = n := by
  unfold unfold' fold
  by_cases h : n < 0
  · rw [if_pos h, if_pos (by omega)]; omega
  · rw [if_neg h, if_neg (by omega)]; omega
/-- what is got of bytes as a number is right, if its code is. -/
theorem gout_ok (x : ByteArray) (p : Nat) (hp : p ≤ x.size) (h : (gout p (gN 0 0 ((bl x).drop p))).2.2 = 0) : ∃ (n : Int) (q : Nat), gout p (gN 0 0 ((bl x).drop p)) = (n, (q : Int), 0) ∧ p < q ∧ q ≤ x.size ∧ -9223372036854775808 ≤ n ∧ n ≤ 9223372036854775807 := by
  unfold gout at h ⊢
  by_cases c : (gN 0 0 ((bl x).drop p)).1 = 0
  · obtain ⟨q1, q2, q3⟩ := gN_ok ((bl x).drop p) 0 0 (by decide) (by decide) (fun c hc => bl_lt x c (List.mem_of_mem_drop hc)) c
    rw [if_pos c]
    have := unfold_range _ q3
    rw [List.length_drop, bl_length] at q2
    exact ⟨_, _, rfl, by omega, by omega, this.1, this.2⟩
  · rw [if_neg c] at h
    exact absurd h c
def tout (x : ByteArray) (r : Int × Int × Int) : ByteArray × Int × Int := if r.2.2 = 0 then (if 0 ≤ r.1 ∧ r.1 ≤ 20000 then (if r.2.1 + r.1 > (x.size : Int) then ((⟨#[]⟩ : ByteArray), 0, 4) else (x.extract r.2.1.toNat (r.2.1 + r.1).toNat, r.2.1 + r.1, 0)) else ((⟨#[]⟩ : ByteArray), 0, 3)) else ((⟨#[]⟩ : ByteArray), 0, r.2.2)
theorem getText_i (x : ByteArray) (p : Nat) (hx : x.size ≤ 4611686018427387904) (hp : p ≤ x.size) : Ev (fun k => impl_getText.f k x (p : Int)) (tout x (gout p (gN 0 0 ((bl x).drop p)))) := by
  have hg := getNum_i x p hx (by omega)
  have hok := gout_ok x p hp
  generalize gout p (gN 0 0 ((bl x).drop p)) = g at hg hok ⊢
  refine Ev.bind hg ?_
  by_cases c : g.2.2 = 0
  · obtain ⟨n, q, rfl, hq1, hq2, hn1, hn2⟩ := hok c
    refine ev_if_pos c (ev_bind1 (within_eq _ _ _) ?_)
    simp only
    by_cases c2 : 0 ≤ n ∧ n ≤ 20000
    · rw [decide_eq_true c2.1, decide_eq_true c2.2]
      refine ev_if_pos rfl (ev_bind1 rfl ?_)
      have e : wrap64 ((q : Int) + n) = (q : Int) + n := w64 (by omega) (by omega)
      rw [e]
      by_cases c3 : (q : Int) + n > (x.size : Int)
      · exact ev_if_pos c3 (ev_eq (by unfold tout; rw [if_pos rfl, if_pos c2, if_pos c3]))
      · exact ev_if_neg c3 (ev_if_pos (by omega) (ev_if_pos (by omega) (ev_if_pos (by omega) (ev_eq (by unfold tout; rw [if_pos rfl, if_pos c2, if_neg c3])))))
    · refine ev_if_neg ?_ (ev_eq (by unfold tout; rw [if_pos rfl, if_neg c2]))
      intro q
      simp only [Bool.and_eq_true, decide_eq_true_eq] at q
      exact c2 q
  · exact ev_if_neg c (ev_eq (by unfold tout; rw [if_neg c]))
theorem tmod128 (c : Nat) : Int.tmod (c : Int) 128 = ((c % 128 : Nat) : Int) := by rw [Int.tmod_eq_emod_of_nonneg (by omega)]; omega
theorem u7_eq (i : Nat) (h : i ≤ 9) : IntKind.u64.wrap (wrap64 (7 * (i : Int))) = 7 * (i : Int) := by
  rw [w64 (by omega) (by omega)]
  simp only [IntKind.wrap_u64]
  omega
theorem shl_pow (a i : Nat) (hi : i ≤ 9) (h : a * 128 ^ i < 18446744073709551616) : shl .u64 (a : Int) (7 * (i : Int)) = ((a * 128 ^ i : Nat) : Int) := by
  have e2 : (2 : Nat) ^ (7 * i) = 128 ^ i := by rw [Nat.pow_mul]
  unfold shl
  rw [show (7 * (i : Int)).toNat = 7 * i by omega, show IntKind.u64.bits = 64 from rfl, Nat.min_eq_left (by omega)]
  rw [show (2 : Int) ^ (7 * i) = ((128 ^ i : Nat) : Int) by rw [← e2]; simp, ← Int.natCast_mul]
  generalize a * 128 ^ i = b at h ⊢
  simp only [IntKind.wrap_u64]
  omega
theorem add_shl (u c i : Nat) (hu : u < 128 ^ i) (h : i ≤ 8 ∧ c < 256 ∨ i = 9 ∧ c ≤ 1) : IntKind.u64.wrap ((u : Int) + (shl .u64 (Int.tmod (c : Int) 128) (IntKind.u64.wrap (wrap64 (7 * (i : Int)))))) = ((u + c % 128 * 128 ^ i : Nat) : Int) := by
  have hb : c % 128 * 128 ^ i + u < 18446744073709551616 := by
    rcases h with ⟨h, hc⟩ | ⟨rfl, hc⟩
    · have h8 : 128 ^ i ≤ 128 ^ 8 := Nat.pow_le_pow_right (by decide) h
      have : c % 128 * 128 ^ i ≤ 127 * 128 ^ 8 := Nat.mul_le_mul (by omega) h8
      omega
    · have : c % 128 * 128 ^ 9 ≤ 1 * 128 ^ 9 := Nat.mul_le_mul_right _ (by omega)
      omega
  rw [tmod128, u7_eq i (by omega), shl_pow _ i (by omega) (by omega)]
  generalize c % 128 * 128 ^ i = b at hb ⊢
  simp only [IntKind.wrap_u64]
  omega
theorem w_add (a b : Nat) (h : a + b ≤ 1000000) : wrap64 ((a : Int) + (b : Int)) = ((a + b : Nat) : Int) := by rw [w64 (by omega) (by omega)]; omega
theorem w_sub (a b : Nat) (h : a ≤ 1000000) (h2 : b ≤ 1000000) : wrap64 ((a : Int) - (b : Int)) = (a : Int) - (b : Int) := w64 (by omega) (by omega)
theorem u64_id (c : Nat) (h : c < 256) : IntKind.u64.wrap (c : Int) = (c : Int) := by simp only [IntKind.wrap_u64]; omega
theorem u7 (i : Nat) (h : i ≤ 9) : 0 ≤ IntKind.u64.wrap (wrap64 (7 * (i : Int))) := by
  rw [w64 (by omega) (by omega)]
  simp only [IntKind.wrap_u64]
  omega
theorem tmod2 (u : Nat) : Int.tmod (u : Int) 2 = ((u % 2 : Nat) : Int) := by rw [Int.tmod_eq_emod_of_nonneg (by omega)]; omega
theorem tdiv2 (u : Nat) (hu : u < 18446744073709551616) : IntKind.u64.wrap (Int.tdiv (u : Int) 2) = ((u / 2 : Nat) : Int) := by
  rw [Int.tdiv_eq_ediv_of_nonneg (by omega)]
  simp only [IntKind.wrap_u64]
  omega
theorem next_w (p i : Nat) (hp : p ≤ 20000) (hi : i ≤ 9) : wrap64 ((wrap64 ((p : Int) + (i : Int))) + 1) = ((p + (i + 1) : Nat) : Int) := by
  rw [w_add p i (by omega), w64 (by omega) (by omega)]
  omega
theorem neg_w (v : Nat) (hv : v < 9223372036854775808) : wrap64 ((wrap64 (-(wrap64 (v : Int)))) - 1) = -(v : Int) - 1 := by
  rw [w64 (n := (v : Int)) (by omega) (by omega), w64 (n := -(v : Int)) (by omega) (by omega), w64 (by omega) (by omega)]
theorem j2_s (p i u : Nat) (hu : u < 18446744073709551616) (hp : p ≤ 20000) (hi : i ≤ 9) (b : Bool) : Ev (fun k => spec_GetNum.j2 k (p : Int) (u : Int) (i : Int) b) (if b = true then (0, 0, 3) else (unfold' u, ((p + (i + 1) : Nat) : Int), 0)) := by
  cases b
  · refine Ev.step (f := fun _ => some (unfold' u, ((p + (i + 1) : Nat) : Int), 0)) (fun k => ?_) (ev_eq (by rw [if_neg (by simp)]))
    simp only [spec_GetNum.j2, tmod2, tdiv2 u hu, next_w p i hp hi]
    rw [if_neg (by simp)]
    unfold unfold'
    by_cases q : u % 2 = 1
    · rw [if_pos (by omega), if_pos q, neg_w (u / 2) (by omega)]
    · rw [if_neg (by omega), if_neg q, w64 (by omega) (by omega)]
  · exact Ev.step (f := fun _ => some (0, 0, 3)) (fun k => by simp only [spec_GetNum.j2]; rw [if_pos trivial]) (ev_eq (by rw [if_pos rfl]))
theorem j2_bad (p i u : Nat) (hu : u < 18446744073709551616) (hp : p ≤ 20000) (hi : i ≤ 9) : Ev (fun k => spec_GetNum.j2 k (p : Int) (u : Int) (i : Int) true) (0, 0, 3) := by
  have := j2_s p i u hu hp hi true
  rwa [if_pos rfl] at this
theorem j2_ok (p i u : Nat) (hu : u < 18446744073709551616) (hp : p ≤ 20000) (hi : i ≤ 9) : Ev (fun k => spec_GetNum.j2 k (p : Int) (u : Int) (i : Int) false) (unfold' u, ((p + (i + 1) : Nat) : Int), 0) := by
  have := j2_s p i u hu hp hi false
  rwa [if_neg (by simp)] at this
theorem gout_bad (p : Nat) : gout p (3, 0, 0) = (0, 0, 3) := rfl
theorem gout_short (p : Nat) : gout p (4, 0, 0) = (0, 0, 4) := rfl
theorem gout_good (p u n : Nat) : gout p (0, u, n) = (unfold' u, ((p + n : Nat) : Int), 0) := by unfold gout; rw [if_pos rfl]
/-- one byte of a number, as the reference reads it. -/
theorem getNum_s_end (x : ByteArray) (p i u c : Nat) (hp : p ≤ 20000) (hi : i ≤ 9) (hu : u < 128 ^ i) (h : i ≤ 8 ∧ c < 128 ∨ i = 9 ∧ c ≤ 1) : Ev (fun k => spec_GetNum.j1 k x (p : Int) (u : Int) (i : Int) (c : Int) false) (if c = 0 ∧ 0 < i then (0, 0, 3) else (unfold' (u + c * 128 ^ i), ((p + (i + 1) : Nat) : Int), 0)) := by
  have hc : c < 128 := by omega
  have hb : u + c * 128 ^ i < 18446744073709551616 := by
    rcases h with ⟨h, _⟩ | ⟨rfl, h1⟩
    · have h8 : 128 ^ i ≤ 128 ^ 8 := Nat.pow_le_pow_right (by decide) h
      have : c * 128 ^ i ≤ 127 * 128 ^ 8 := Nat.mul_le_mul (by omega) h8
      omega
    · have : c * 128 ^ 9 ≤ 1 * 128 ^ 9 := Nat.mul_le_mul_right _ h1
      omega
  have ha := add_shl u c i hu (by omega)
  rw [Nat.mod_eq_of_lt hc] at ha
  have hbad := j2_bad p i (u + c * 128 ^ i) hb hp hi
  have hok := j2_ok p i (u + c * 128 ^ i) hb hp hi
  generalize u + c * 128 ^ i = v at ha hbad hok ⊢
  have st : ∀ k, spec_GetNum.j1 (k + 1) x (p : Int) (u : Int) (i : Int) (c : Int) false = if (c : Int) = 0 then spec_GetNum.j2 k (p : Int) (v : Int) (i : Int) (decide ((i : Int) > 0)) else spec_GetNum.j2 k (p : Int) (v : Int) (i : Int) false := by
    intro k
    simp only [spec_GetNum.j1, ha]
    rw [if_neg (by simp), if_pos (u7 i hi)]
    exact if_pos (by clear ha; omega)
  clear ha
  by_cases h0 : c = 0
  · by_cases hi0 : 0 < i
    · rw [if_pos ⟨h0, hi0⟩]
      exact Ev.step (fun k => (st k).trans ((if_pos (by omega)).trans (by rw [decide_eq_true (show (i : Int) > 0 by omega)]))) hbad
    · rw [if_neg (fun q => hi0 q.2)]
      exact Ev.step (fun k => (st k).trans ((if_pos (by omega)).trans (by rw [decide_eq_false (show ¬ (i : Int) > 0 by omega)]))) hok
  · rw [if_neg (fun q => h0 q.1)]
    exact Ev.step (fun k => (st k).trans (if_neg (by omega))) hok
theorem getNum_s_more (x : ByteArray) (p i u c k : Nat) (hi : i ≤ 8) (hu : u < 128 ^ i) (hc : c < 256) (h : ¬ c < 128) : spec_GetNum.j1 (k + 1) x (p : Int) (u : Int) (i : Int) (c : Int) false = spec_GetNum.l0 k x (p : Int) ((u + (c - 128) * 128 ^ i : Nat) : Int) ((i + 1 : Nat) : Int) := by
  have ha := add_shl u c i hu (.inl ⟨hi, hc⟩)
  rw [show c % 128 = c - 128 by omega] at ha
  generalize u + (c - 128) * 128 ^ i = v at ha ⊢
  simp only [spec_GetNum.j1, ha]
  clear ha
  rw [if_neg (by simp), if_pos (u7 i (by omega)), if_neg (by omega), wnat' i 10 (by omega) (by decide)]
theorem getNum_s_in (x : ByteArray) (p i u c k : Nat) (hx : x.size ≤ 20000) (hp : p ≤ 20000) (hi : i ≤ 9) (h : p + i < x.size) (hbt : bt x ((p + i : Nat) : Int) = (c : Int)) (hc : c < 256) : spec_GetNum.l0 (k + 1) x (p : Int) (u : Int) (i : Int) = if i = 9 then spec_GetNum.j1 k x (p : Int) (u : Int) (i : Int) (c : Int) (decide (1 < c)) else spec_GetNum.j1 k x (p : Int) (u : Int) (i : Int) (c : Int) false := by
  simp only [spec_GetNum.l0, w_add p i (by omega), w_sub x.size i (by omega) (by omega), hbt, u64_id c hc]
  rw [if_pos (by omega), if_neg (by omega), if_pos (by omega), if_pos (by omega)]
  by_cases h9 : i = 9
  · rw [if_pos (by omega), if_pos h9]
    congr 1
    by_cases h1 : 1 < c
    · rw [decide_eq_true h1, decide_eq_true (by omega)]
    · rw [decide_eq_false h1, decide_eq_false (by omega)]
  · rw [if_neg (by omega), if_neg h9]
theorem getNum_s_out (x : ByteArray) (p i u k : Nat) (hx : x.size ≤ 20000) (hp : p ≤ 20000) (hi : i ≤ 9) (h : ¬ p + i < x.size) : spec_GetNum.l0 (k + 1) x (p : Int) (u : Int) (i : Int) = some (0, 0, 4) := by
  simp only [spec_GetNum.l0, w_sub x.size i (by omega) (by omega)]
  rw [if_pos (by omega), if_pos (by omega)]
theorem getNum_s_l0 (x : ByteArray) (p : Nat) (hx : x.size ≤ 20000) (hp : p ≤ 20000) : ∀ (m i u : Nat), i + m = 9 → u < 128 ^ i → Ev (fun k => spec_GetNum.l0 k x (p : Int) (u : Int) (i : Int)) (gout p (gN i u ((bl x).drop (p + i)))) := by
  intro m
  induction m with
  | zero =>
    intro i u hi hu
    have hi9 : i = 9 := by omega
    by_cases h : p + i < x.size
    · have hc : p + i < (bl x).length := by rw [bl_length]; exact h
      have hb := bl_lt x (bl x)[p + i] (List.getElem_mem hc)
      have hbt := bt_bl x (p + i) h
      rw [List.drop_eq_getElem_cons hc]
      generalize (bl x)[p + i] = c at hb hbt ⊢
      by_cases h1 : 1 < c
      · refine Ev.step (fun k => (getNum_s_in x p i u c k hx hp (by omega) h hbt hb).trans ((if_pos hi9).trans (by rw [decide_eq_true h1]))) (Ev.step (f := fun _ => some (0, 0, 3)) (fun k => by simp only [spec_GetNum.j1]; rw [if_pos trivial]) (ev_eq ?_))
        unfold gN
        rw [if_pos ⟨hi9, h1⟩, gout_bad]
      · refine Ev.step (fun k => (getNum_s_in x p i u c k hx hp (by omega) h hbt hb).trans ((if_pos hi9).trans (by rw [decide_eq_false h1]))) ?_
        have he := getNum_s_end x p i u c hp (by omega) hu (.inr ⟨hi9, by omega⟩)
        unfold gN
        rw [if_neg (fun q => h1 q.2), if_pos (by omega)]
        by_cases h0 : c = 0 ∧ 0 < i
        · rw [if_pos h0] at he ⊢
          rw [gout_bad]; exact he
        · rw [if_neg h0] at he ⊢
          rw [gout_good]; exact he
    · rw [List.drop_eq_nil_of_le (by rw [bl_length]; omega)]
      refine Ev.step (f := fun _ => some (0, 0, 4)) (fun k => getNum_s_out x p i u k hx hp (by omega) h) (ev_eq ?_)
      unfold gN
      rw [gout_short]
  | succ m ih =>
    intro i u hi hu
    by_cases h : p + i < x.size
    · have hc : p + i < (bl x).length := by rw [bl_length]; exact h
      have hb := bl_lt x (bl x)[p + i] (List.getElem_mem hc)
      have hbt := bt_bl x (p + i) h
      rw [List.drop_eq_getElem_cons hc]
      generalize (bl x)[p + i] = c at hb hbt ⊢
      have hi9 : ¬ i = 9 := by omega
      refine Ev.step (fun k => (getNum_s_in x p i u c k hx hp (by omega) h hbt hb).trans (if_neg hi9)) ?_
      unfold gN
      rw [if_neg (fun q => hi9 q.1)]
      by_cases h128 : c < 128
      · rw [if_pos h128]
        have he := getNum_s_end x p i u c hp (by omega) hu (.inl ⟨by omega, h128⟩)
        by_cases h0 : c = 0 ∧ 0 < i
        · rw [if_pos h0] at he ⊢
          rw [gout_bad]; exact he
        · rw [if_neg h0] at he ⊢
          rw [gout_good]; exact he
      · rw [if_neg h128]
        have hu' : u + (c - 128) * 128 ^ i < 128 ^ (i + 1) := by
          have : (c - 128) * 128 ^ i ≤ 127 * 128 ^ i := Nat.mul_le_mul_right _ (by omega)
          rw [Nat.pow_succ]
          omega
        exact Ev.step (fun k => getNum_s_more x p i u c k (by omega) hu hb h128) (ih (i + 1) (u + (c - 128) * 128 ^ i) (by omega) hu')
    · rw [List.drop_eq_nil_of_le (by rw [bl_length]; omega)]
      refine Ev.step (f := fun _ => some (0, 0, 4)) (fun k => getNum_s_out x p i u k hx hp (by omega) h) (ev_eq ?_)
      unfold gN
      rw [gout_short]
theorem getNum_s (x : ByteArray) (p : Nat) (hx : x.size ≤ 20000) (hp : p ≤ 20000) : Ev (fun k => spec_GetNum.f k x (p : Int)) (gout p (gN 0 0 ((bl x).drop p))) :=
  ev_if_neg (by omega) (ev_if_neg (by omega) (getNum_s_l0 x p hx hp 9 0 0 rfl (by decide)))
theorem getText_s (x : ByteArray) (p : Nat) (hx : x.size ≤ 20000) (hp : p ≤ x.size) : Ev (fun k => spec_GetText.f k x (p : Int)) (tout x (gout p (gN 0 0 ((bl x).drop p)))) := by
  have hg := getNum_s x p hx (by omega)
  have hok := gout_ok x p hp
  generalize gout p (gN 0 0 ((bl x).drop p)) = g at hg hok ⊢
  refine Ev.bind hg ?_
  by_cases c : g.2.2 = 0
  · obtain ⟨n, q, rfl, hq1, hq2, hn1, hn2⟩ := hok c
    refine ev_if_pos c ?_
    have bad : ¬ (0 ≤ n ∧ n ≤ 20000) → Ev (fun k => spec_GetText.j0 k x true n (q : Int) 0) (tout x (n, (q : Int), 0)) := fun hc => Ev.step (f := fun _ => some ((⟨#[]⟩ : ByteArray), 0, 3)) (fun k => by simp only [spec_GetText.j0]; rw [if_pos trivial]) (ev_eq (by unfold tout; rw [if_pos rfl, if_neg hc]))
    by_cases c0 : n < 0
    · exact ev_if_pos c0 (bad (by omega))
    refine ev_if_neg c0 ?_
    by_cases c1 : n > 20000
    · rw [decide_eq_true c1]
      exact bad (by omega)
    rw [decide_eq_false c1]
    by_cases c3 : (q : Int) + n > (x.size : Int)
    · refine Ev.step (f := fun _ => some ((⟨#[]⟩ : ByteArray), 0, 4)) (fun k => ?_) (ev_eq (by unfold tout; rw [if_pos rfl, if_pos ⟨by omega, by omega⟩, if_pos c3]))
      simp only [spec_GetText.j0, Bool.false_eq_true, if_false]
      rw [w64 (n := (x.size : Int) - n) (by omega) (by omega), if_pos (by omega)]
    · refine Ev.step (f := fun _ => some (x.extract (q : Int).toNat ((q : Int) + n).toNat, (q : Int) + n, 0)) (fun k => ?_) (ev_eq (by unfold tout; rw [if_pos rfl, if_pos ⟨by omega, by omega⟩, if_neg c3]))
      simp only [spec_GetText.j0, Bool.false_eq_true, if_false]
      rw [w64 (n := (x.size : Int) - n) (by omega) (by omega), w64 (n := (q : Int) + n) (by omega) (by omega), if_neg (by omega), if_pos (by omega), if_pos (by omega), if_pos (by omega)]
  · exact ev_if_neg c (ev_eq (by unfold tout; rw [if_neg c]))
def rNum (x : ByteArray) (p : Nat) (bad : Bool) : Int × ByteArray × Int × Bool := if bad = true then (0, x, (p : Int), true) else if (gout p (gN 0 0 ((bl x).drop p))).2.2 = 0 then ((gout p (gN 0 0 ((bl x).drop p))).1, x, (gout p (gN 0 0 ((bl x).drop p))).2.1, bad) else (0, x, (p : Int), true)
def rText (x : ByteArray) (p : Nat) (bad : Bool) : ByteArray × ByteArray × Int × Bool := if bad = true then ((⟨#[]⟩ : ByteArray), x, (p : Int), true) else if (tout x (gout p (gN 0 0 ((bl x).drop p)))).2.2 = 0 then ((tout x (gout p (gN 0 0 ((bl x).drop p)))).1, x, (tout x (gout p (gN 0 0 ((bl x).drop p)))).2.1, bad) else ((⟨#[]⟩ : ByteArray), x, (p : Int), true)
def rBytes (x : ByteArray) (p : Nat) (bad : Bool) (n : Nat) : ByteArray × ByteArray × Int × Bool := if bad = true then ((⟨#[]⟩ : ByteArray), x, (p : Int), true) else if p + n > x.size then ((⟨#[]⟩ : ByteArray), x, (p : Int), true) else (x.extract p (p + n), x, ((p + n : Nat) : Int), bad)
/-- where a reader stands. -/
def At (x : ByteArray) (s : ByteArray × Int × Bool) : Prop := ∃ (q : Nat) (b : Bool), s = (x, (q : Int), b) ∧ q ≤ x.size
theorem rNum_at (x : ByteArray) (p : Nat) (bad : Bool) (hp : p ≤ x.size) : At x (rNum x p bad).2 := by
  unfold rNum
  by_cases h : bad = true
  · rw [if_pos h]; exact ⟨p, true, rfl, hp⟩
  rw [if_neg h]
  by_cases c : (gout p (gN 0 0 ((bl x).drop p))).2.2 = 0
  · obtain ⟨n, q, e, h1, h2, _⟩ := gout_ok x p hp c
    rw [if_pos c, e]
    exact ⟨q, bad, rfl, h2⟩
  · rw [if_neg c]; exact ⟨p, true, rfl, hp⟩
theorem rBytes_at (x : ByteArray) (p : Nat) (bad : Bool) (n : Nat) (hp : p ≤ x.size) : At x (rBytes x p bad n).2 := by
  unfold rBytes
  by_cases h : bad = true
  · rw [if_pos h]; exact ⟨p, true, rfl, hp⟩
  rw [if_neg h]
  by_cases c : p + n > x.size
  · rw [if_pos c]; exact ⟨p, true, rfl, hp⟩
  · rw [if_neg c]; exact ⟨p + n, bad, rfl, by omega⟩
theorem tout_ok (x : ByteArray) (p : Nat) (hp : p ≤ x.size) (h : (tout x (gout p (gN 0 0 ((bl x).drop p)))).2.2 = 0) : ∃ (t : ByteArray) (q : Nat), tout x (gout p (gN 0 0 ((bl x).drop p))) = (t, (q : Int), 0) ∧ q ≤ x.size ∧ t.size ≤ x.size := by
  have hok := gout_ok x p hp
  generalize gout p (gN 0 0 ((bl x).drop p)) = g at hok h ⊢
  unfold tout at h ⊢
  by_cases c : g.2.2 = 0
  · obtain ⟨n, q, rfl, h1, h2, _⟩ := hok c
    rw [if_pos c] at h ⊢
    simp only at h ⊢
    by_cases c2 : 0 ≤ n ∧ n ≤ 20000
    · rw [if_pos c2] at h ⊢
      by_cases c3 : (q : Int) + n > (x.size : Int)
      · rw [if_pos c3] at h; simp at h
      · rw [if_neg c3]
        refine ⟨_, ((q : Int) + n).toNat, by rw [show ((((q : Int) + n).toNat : Nat) : Int) = (q : Int) + n by omega], by omega, ?_⟩
        rw [ByteArray.size_extract]
        omega
    · rw [if_neg c2] at h; simp at h
  · rw [if_neg c] at h
    exact absurd h c
theorem rText_at (x : ByteArray) (p : Nat) (bad : Bool) (hp : p ≤ x.size) : At x (rText x p bad).2 ∧ (rText x p bad).1.size ≤ x.size := by
  unfold rText
  by_cases h : bad = true
  · rw [if_pos h]; exact ⟨⟨p, true, rfl, hp⟩, Nat.zero_le _⟩
  rw [if_neg h]
  by_cases c : (tout x (gout p (gN 0 0 ((bl x).drop p)))).2.2 = 0
  · obtain ⟨t, q, e, h1, h2⟩ := tout_ok x p hp c
    rw [if_pos c, e]
    exact ⟨⟨q, bad, rfl, h1⟩, h2⟩
  · rw [if_neg c]; exact ⟨⟨p, true, rfl, hp⟩, Nat.zero_le _⟩
theorem num_s (x : ByteArray) (hx : x.size ≤ 20000) (p : Nat) (bad : Bool) (hp : p ≤ x.size) : Ev (fun k => spec_l10Reader_num.f k x (p : Int) bad) (rNum x p bad) := by
  refine Ev.bind (getNum_s x p hx (by omega)) ?_
  unfold rNum
  by_cases h : bad = true
  · exact ev_if_pos h (ev_eq (by rw [if_pos h]))
  · refine ev_if_neg h ?_
    by_cases c : (gout p (gN 0 0 ((bl x).drop p))).2.2 = 0
    · exact ev_if_pos c (ev_eq (by rw [if_neg h, if_pos c]))
    · exact ev_if_neg c (ev_eq (by rw [if_neg h, if_neg c]))
theorem num_i (x : ByteArray) (hx : x.size ≤ 20000) (p : Nat) (bad : Bool) (hp : p ≤ x.size) : Ev (fun k => impl_reader_num.f k x (p : Int) bad) (rNum x p bad) := by
  refine Ev.bind (getNum_i x p (by omega) (by omega)) ?_
  unfold rNum
  by_cases h : bad = true
  · exact ev_if_pos h (ev_eq (by rw [if_pos h]))
  · refine ev_if_neg h ?_
    by_cases c : (gout p (gN 0 0 ((bl x).drop p))).2.2 = 0
    · exact ev_if_pos c (ev_eq (by rw [if_neg h, if_pos c]))
    · exact ev_if_neg c (ev_eq (by rw [if_neg h, if_neg c]))
theorem text_s (x : ByteArray) (hx : x.size ≤ 20000) (p : Nat) (bad : Bool) (hp : p ≤ x.size) : Ev (fun k => spec_l10Reader_text.f k x (p : Int) bad) (rText x p bad) := by
  refine Ev.bind (getText_s x p hx hp) ?_
  unfold rText
  generalize tout x (gout p (gN 0 0 ((bl x).drop p))) = r
  by_cases h : bad = true
  · exact ev_if_pos h (ev_eq (by rw [if_pos h]))
  · refine ev_if_neg h ?_
    by_cases c : r.2.2 = 0
    · exact ev_if_pos c (ev_eq (by rw [if_neg h, if_pos c]))
    · exact ev_if_neg c (ev_eq (by rw [if_neg h, if_neg c]))
theorem text_i (x : ByteArray) (hx : x.size ≤ 20000) (p : Nat) (bad : Bool) (hp : p ≤ x.size) : Ev (fun k => impl_reader_string.f k x (p : Int) bad) (rText x p bad) := by
  refine Ev.bind (getText_i x p (by omega) hp) ?_
  unfold rText
  generalize tout x (gout p (gN 0 0 ((bl x).drop p))) = r
  by_cases h : bad = true
  · exact ev_if_pos h (ev_eq (by rw [if_pos h]))
  · refine ev_if_neg h ?_
    by_cases c : r.2.2 = 0
    · exact ev_if_pos c (ev_eq (by rw [if_neg h, if_pos c]))
    · exact ev_if_neg c (ev_eq (by rw [if_neg h, if_neg c]))
theorem bytes_s (x : ByteArray) (hx : x.size ≤ 20000) (p : Nat) (bad : Bool) (n : Nat) (hn : n ≤ 20000) (hp : p ≤ x.size) : spec_l10Reader_bytes.f x (p : Int) bad (n : Int) = some (rBytes x p bad n) := by
  unfold spec_l10Reader_bytes.f rBytes
  by_cases h : bad = true
  · rw [if_pos h, if_pos h]
  · rw [if_neg h, if_neg h, w64 (n := (x.size : Int) - (n : Int)) (by omega) (by omega), w64 (n := (p : Int) + (n : Int)) (by omega) (by omega), w64 (n := (p : Int) + (n : Int) - (n : Int)) (by omega) (by omega)]
    by_cases c : p + n > x.size
    · rw [if_pos (by omega), if_pos c]
    · rw [if_neg (by omega), if_pos (by omega), if_pos (by omega), if_pos (by omega), if_neg c, show ((p : Int) + (n : Int) - (n : Int)).toNat = p by omega, show ((p : Int) + (n : Int)).toNat = p + n by omega]
      rfl
theorem bytes_i (x : ByteArray) (hx : x.size ≤ 20000) (p : Nat) (bad : Bool) (n : Nat) (hn : n ≤ 20000) (hp : p ≤ x.size) : impl_reader_take.f x (p : Int) bad (n : Int) = some (rBytes x p bad n) := by
  unfold impl_reader_take.f rBytes impl_long.f
  by_cases h : bad = true
  · rw [if_pos h, if_pos h]
  · rw [if_neg h, if_neg h, Option.bind_some, w64 (n := (x.size : Int) - (p : Int)) (by omega) (by omega), w64 (n := (p : Int) + (n : Int)) (by omega) (by omega), w64 (n := (p : Int) + (n : Int) - (n : Int)) (by omega) (by omega)]
    by_cases c : p + n > x.size
    · rw [if_pos (by omega), if_pos c]
    · rw [if_neg (by omega), if_pos (by omega), if_pos (by omega), if_pos (by omega), if_neg c, show ((p : Int) + (n : Int) - (n : Int)).toNat = p by omega, show ((p : Int) + (n : Int)).toNat = p + n by omega]
      rfl
theorem nameRight_l0 (s : ByteArray) (hs : s.size ≤ 9223372036854775807) (d : Nat) : ∀ (i k : Nat), i + d = s.size → d < k → spec_NameRight.l0 k s (i : Int) = some (nameOk s d i) := by
  induction d with
  | zero =>
    intro i k hi hk
    obtain ⟨k, rfl⟩ : ∃ m, k = m + 1 := ⟨k - 1, by omega⟩
    simp only [spec_NameRight.l0]
    rw [if_neg (by omega)]
    rfl
  | succ d ih =>
    intro i k hi hk
    obtain ⟨k, rfl⟩ : ∃ m, k = m + 1 := ⟨k - 1, by omega⟩
    have e : wrap64 ((i : Int) + 1) = ((i + 1 : Nat) : Int) := by rw [w64 (by omega) (by omega)]; omega
    have h := ih (i + 1) k (by omega) (by omega)
    simp only [spec_NameRight.l0, e, h]
    rw [if_pos (by omega), if_pos (by omega)]
    exact nameStep _ _ _
theorem nameRight_ev (s : ByteArray) (hs : s.size ≤ 9223372036854775807) : Ev (fun k => spec_NameRight.f k s) (isName s 80) := by
  refine ev_from (s.size + 3) fun k hk => ?_
  obtain ⟨k, rfl⟩ : ∃ m, k = m + 1 := ⟨k - 1, by omega⟩
  have h := nameRight_l0 s hs s.size 0 k (by omega) (by omega)
  simp only [spec_NameRight.f, spec_NameRight.j0]
  have h' : spec_NameRight.l0 k s 0 = some (nameOk s s.size 0) := h
  rw [h']
  unfold isName
  generalize nameOk s s.size 0 = X
  grind
theorem isName_l0 (s : ByteArray) (most : Int) (hs : s.size ≤ 9223372036854775807) (d : Nat) : ∀ (i k : Nat), i + d = s.size → d < k → impl_isName.l0 k s most s.size (i : Int) = some (nameOk s d i && (decide ((s.size : Int) ≥ 1) && decide ((s.size : Int) ≤ most))) := by
  induction d with
  | zero =>
    intro i k hi hk
    obtain ⟨k, rfl⟩ : ∃ m, k = m + 1 := ⟨k - 1, by omega⟩
    simp only [impl_isName.l0, impl_long.f, impl_within.f, Option.bind_some, nameOk]
    rw [if_neg (by omega)]
    grind
  | succ d ih =>
    intro i k hi hk
    obtain ⟨k, rfl⟩ : ∃ m, k = m + 1 := ⟨k - 1, by omega⟩
    have e : wrap64 ((i : Int) + 1) = ((i + 1 : Nat) : Int) := by rw [w64 (by omega) (by omega)]; omega
    have h := ih (i + 1) k (by omega) (by omega)
    simp only [impl_isName.l0, e, h]
    rw [if_pos (by omega), if_pos (by omega), if_pos (by omega)]
    refine (nameStep _ _ _).trans ?_
    simp [nameOk, Bool.and_assoc]
theorem isName_ev (s : ByteArray) (most : Int) (hs : s.size ≤ 9223372036854775807) : Ev (fun k => impl_isName.f k s most) (isName s most) := by
  refine ev_from (s.size + 3) fun k hk => ?_
  have h := isName_l0 s most hs s.size 0 k (by omega) (by omega)
  simp only [impl_isName.f]
  exact h
abbrev IN := S74
abbrev zN := z74
theorem rdOf_nat (l : List ByteArray) (i : Nat) (h : i < l.length) : rdOf ByteArray.empty l (i : Int) = l[i] := by
  simp [rdOf, h]
theorem eqStringS_same (l : List ByteArray) (hl : l.length ≤ 9223372036854775807) : Ev (fun k => laws_eqStringS.f k l l) true := by
  unfold laws_eqStringS.f
  refine ev_if_pos rfl ?_
  have h := loop_all (fun k i => laws_eqStringS.l0 k l l i) l.length hl 0 (fun _ => true) (fun k i hi _ hw => by simp only [laws_eqStringS.l0, hw]; rw [if_pos (by omega), if_pos (by omega), if_pos (by omega), if_pos trivial]) (fun k => by simp only [laws_eqStringS.l0]; rw [if_neg (by omega)])
  have e : (List.range l.length).all (fun _ => true) = true := by simp
  rw [e] at h
  exact h
theorem rdN_nat (l : List IN) (i : Nat) : rd_T74 l (i : Int) = l.getD i zN := by
  unfold rd_T74
  rw [Int.toNat_natCast]
theorem memN (l : List IN) (i : Nat) (h : i < l.length) : l.getD i zN ∈ l := by
  rw [List.getD_eq_getElem?_getD, List.getElem?_eq_getElem h]
  exact List.getElem_mem h
theorem eqNodeS_refl (l : List IN) (hl : l.length ≤ 9223372036854775807) (hk : ∀ x ∈ l, x.f3.length ≤ 9223372036854775807) : Ev (fun k => laws_eqNodeS.f k l l) true := by
  unfold laws_eqNodeS.f
  refine ev_if_pos rfl (Evs.ev (loop_evx (fun k (_ : Unit) i => laws_eqNodeS.l0 k l l i) l.length (fun _ _ => True) _ (fun i s hi _ => ?_) (fun s _ => ?_) () trivial))
  · refine .inl ⟨(), trivial, fun v h => ?_⟩
    have ht := eqStringS_same (l.getD i zN).f3 (hk _ (memN l i hi))
    refine Ev.step (f := fun k => (laws_eqStringS.f k (l.getD i zN).f3 (l.getD i zN).f3).bind fun t => if t = true then laws_eqNodeS.l0 k l l ((i + 1 : Nat) : Int) else some false) (fun k => ?_) (Ev.bind ht (ev_if_pos rfl h))
    simp only [laws_eqNodeS.l0, rdN_nat, wnat' i _ hi hl, laws_eqNode.f]
    rw [if_pos (by omega), if_pos (by omega), if_pos (by omega), if_pos trivial, if_neg (by simp), if_pos trivial]
    cases laws_eqStringS.f k (l.getD i zN).f3 (l.getD i zN).f3 with
    | none => rfl
    | some t => cases t <;> rfl
  · refine ⟨_, Ev.step (f := fun _ => some true) (fun k => ?_) (Ev.now _), rfl⟩
    simp only [laws_eqNodeS.l0]
    rw [if_neg (by omega)]
def keysOk (l : List ByteArray) : Bool := l.all (fun s => decide ((s.size : Int) = 32))
def restOk (x : IN) : Bool := !((x.f1 && (!decide (x.f2 = 0) || !decide ((x.f3.length : Int) = 1))) || !(decide (0 ≤ x.f2) && decide (x.f2 ≤ 1500)) || decide (100 < (x.f3.length : Int)))
def nodeOk (x : IN) : Bool := isName x.f0 80 && (keysOk x.f3 && restOk x)
def nodeAt (l : List IN) (i : Nat) : Bool := nodeOk (l.getD i zN) && (i == 0 || Op.bytesLess (l.getD (i - 1) zN).f0.toList (l.getD i zN).f0.toList)
def nodesRight (l : List IN) : Bool := decide (l.length ≤ 20) && (List.range l.length).all (nodeAt l)
theorem keys_range (l : List ByteArray) : (List.range l.length).all (fun i => decide (((l.getD i ByteArray.empty).size : Int) = 32)) = keysOk l := by
  unfold keysOk
  rw [Bool.eq_iff_iff, List.all_eq_true, List.all_eq_true]
  constructor
  · intro h x hx
    obtain ⟨j, hj, rfl⟩ := List.mem_iff_getElem.1 hx
    have := h j (List.mem_range.2 hj)
    rw [List.getD_eq_getElem?_getD, List.getElem?_eq_getElem hj] at this
    exact this
  · intro h i hi
    have hi := List.mem_range.1 hi
    rw [List.getD_eq_getElem?_getD, List.getElem?_eq_getElem hi]
    exact h _ (List.getElem_mem hi)
theorem rdOf_getD (l : List ByteArray) (i : Nat) : rdOf ByteArray.empty l (i : Int) = l.getD i ByteArray.empty := by
  simp [rdOf]
theorem l11_l0 (x : IN) (hl : x.f3.length ≤ 9223372036854775807) : Ev (fun k => spec_l11NodeRight.l0 k 0 x.f0 x.f1 x.f2 x.f3) (keysOk x.f3) := by
  rw [← keys_range]
  refine loop_all (fun k i => spec_l11NodeRight.l0 k i x.f0 x.f1 x.f2 x.f3) x.f3.length hl 0 _ (fun k i hi _ hw => ?_) (fun k => by simp only [spec_l11NodeRight.l0]; rw [if_neg (by omega)])
  simp only [spec_l11NodeRight.l0, rdOf_getD, hw]
  rw [if_pos (by omega), if_pos (by omega)]
  by_cases c : ((x.f3.getD i ByteArray.empty).size : Int) = 32
  · rw [if_pos c, if_pos (decide_eq_true c)]
  · rw [if_neg c, if_neg (by simpa using c)]
theorem l11Node_ev (x : IN) (hn : x.f0.size ≤ 9223372036854775807) (hl : x.f3.length ≤ 9223372036854775807) : Ev (fun k => spec_l11NodeRight.f k x.f0 x.f1 x.f2 x.f3) (nodeOk x) := by
  have bad : Ev (fun k => spec_l11NodeRight.j0 k true x.f0 x.f1 x.f2 x.f3) false := Ev.step (f := fun _ => some false) (fun k => by simp only [spec_l11NodeRight.j0]; rfl) (Ev.now _)
  have good : Ev (fun k => spec_l11NodeRight.j0 k false x.f0 x.f1 x.f2 x.f3) (keysOk x.f3) := Ev.step (fun k => by simp only [spec_l11NodeRight.j0]; rfl) (l11_l0 x hl)
  have last : ∀ v : Bool, (v = if x.f2 > 1500 then false else keysOk x.f3) → Ev (fun k => spec_l11NodeRight.j0 k (decide (x.f2 > 1500)) x.f0 x.f1 x.f2 x.f3) v := by
    intro v hv
    by_cases c : x.f2 > 1500
    · rw [if_pos c] at hv
      rw [decide_eq_true c, hv]
      exact bad
    · rw [if_neg c] at hv
      rw [decide_eq_false c, hv]
      exact good
  obtain ⟨v, hv⟩ : ∃ v, nodeOk x = v := ⟨_, rfl⟩
  rw [hv]
  unfold nodeOk restOk at hv
  have badv : v = false → Ev (fun k => spec_l11NodeRight.j0 k true x.f0 x.f1 x.f2 x.f3) v := fun h => h ▸ bad
  unfold spec_l11NodeRight.f
  refine Ev.bind (nameRight_ev x.f0 hn) ?_
  by_cases c0 : isName x.f0 80 = true
  case neg => exact ev_if_neg c0 (badv (by rw [← hv]; simp [c0]))
  refine ev_if_pos c0 ?_
  by_cases c1 : (x.f3.length : Int) > 100
  · exact ev_if_pos c1 (badv (by rw [← hv, decide_eq_true (show 100 < (x.f3.length : Int) from c1)]; simp))
  refine ev_if_neg c1 ?_
  rw [c0, decide_eq_false (show ¬ 100 < (x.f3.length : Int) from c1)] at hv
  by_cases c2 : x.f1 = true
  · refine ev_if_pos c2 ?_
    rw [c2] at hv
    by_cases c3 : x.f2 = 0
    · refine ev_if_pos c3 ?_
      by_cases c4 : (x.f3.length : Int) = 1
      · refine ev_if_pos c4 (ev_if_neg (by omega) (last _ ?_))
        rw [← hv, decide_eq_true c3, decide_eq_true c4, decide_eq_true (show 0 ≤ x.f2 by omega), decide_eq_true (show x.f2 ≤ 1500 by omega), if_neg (by omega)]
        simp
      · refine ev_if_neg c4 (badv ?_)
        rw [← hv, decide_eq_false c4]
        simp
    · refine ev_if_neg c3 (badv ?_)
      rw [← hv, decide_eq_false c3]
      simp
  · refine ev_if_neg c2 ?_
    rw [Bool.not_eq_true] at c2
    rw [c2] at hv
    by_cases c5 : x.f2 < 0
    · refine ev_if_pos c5 (badv ?_)
      rw [← hv, decide_eq_false (show ¬ 0 ≤ x.f2 by omega)]
      simp
    · refine ev_if_neg c5 (last _ ?_)
      rw [← hv, decide_eq_true (show 0 ≤ x.f2 by omega)]
      by_cases c6 : x.f2 > 1500
      · rw [if_pos c6, decide_eq_false (show ¬ x.f2 ≤ 1500 by omega)]
        simp
      · rw [if_neg c6, decide_eq_true (show x.f2 ≤ 1500 by omega)]
        simp
theorem prevN (l : List IN) (i : Nat) (h0 : 0 < i) (h : i < l.length) (hl : l.length ≤ 20) : rd_T74 l (wrap64 ((i : Int) - 1)) = l.getD (i - 1) zN ∧ 0 ≤ wrap64 ((i : Int) - 1) ∧ wrap64 ((i : Int) - 1) < (l.length : Int) := getD_prev l i _ h0 h (by omega)
theorem nodesRight_s (l : List IN) (hs : ∀ x ∈ l, x.f0.size ≤ 9223372036854775807 ∧ x.f3.length ≤ 9223372036854775807) : Ev (fun k => spec_NodesRight.f k l) (nodesRight l) := by
  unfold spec_NodesRight.f nodesRight
  by_cases h : (l.length : Int) > 20
  · refine ev_if_pos h ?_
    rw [decide_eq_false (by omega)]
    exact Ev.now _
  refine ev_if_neg h ?_
  rw [decide_eq_true (by omega), Bool.true_and]
  obtain ⟨K, hK⟩ := ev_all (fun (x : IN) k => spec_l11NodeRight.f k x.f0 x.f1 x.f2 x.f3) (fun x => nodeOk x) l (fun x hx => l11Node_ev _ (hs x hx).1 (hs x hx).2)
  refine loop_all (fun k i => spec_NodesRight.l0 k l i) l.length (by omega) K (nodeAt l) (fun k i hi hk hw => ?_) (fun k => by simp only [spec_NodesRight.l0]; rw [if_neg (by omega)])
  have hr := hK _ (memN l i hi) k hk
  simp only [spec_NodesRight.l0, rdN_nat, hr, hw, nodeAt, Option.bind_some]
  rw [if_pos (by omega), if_pos (by omega)]
  by_cases hx : nodeOk (l.getD i zN) = true
  · rw [if_pos hx]
    by_cases h0 : 0 < i
    · obtain ⟨h1, h2, h3⟩ := prevN l i h0 hi (by omega)
      rw [if_pos (by omega), if_pos h2, if_pos h3, h1]
      have hi0 : (i == 0) = false := beq_eq_false_iff_ne.2 (by omega)
      simp only [hx, hi0, Bool.true_and, Bool.false_or]
    · obtain rfl : i = 0 := by omega
      rw [if_neg (by omega)]
      simp only [hx, Bool.true_and, beq_self_eq_true, Bool.true_or, if_true]
  · rw [if_neg hx]
    rw [Bool.not_eq_true] at hx
    simp only [hx, Bool.false_and]
    rfl
theorem keys_k0 (l : List ByteArray) (hl : l.length ≤ 9223372036854775807) : Ev (fun k => impl_NodesRight.keys k l) (!keysOk l) := by
  unfold impl_NodesRight.keys
  have main : Evs (fun k => impl_NodesRight.k0 k l 0) (fun j => decide (0 ≤ j) = !keysOk l) := by
    refine loop_evx (fun k (_ : Unit) i => impl_NodesRight.k0 k l i) l.length (fun i _ => ∀ j, j < i → (((l.getD j ByteArray.empty).size : Int) = 32)) _ (fun i s hi hv => ?_) (fun s hv => ?_) () (fun j hj => absurd hj (by omega))
    · by_cases c : ((l.getD i ByteArray.empty).size : Int) = 32
      · refine .inl ⟨(), fun j hj => ?_, fun v h => Ev.step (fun k => ?_) h⟩
        · by_cases e : j = i
          · subst e
            exact c
          · exact hv j (by omega)
        · simp only [impl_NodesRight.k0, rdOf_getD, wnat' i _ hi hl]
          rw [if_pos (by omega), if_pos (by omega), if_pos c]
      · refine .inr ⟨(i : Int), Ev.step (f := fun _ => some (i : Int)) (fun k => ?_) (Ev.now _), ?_⟩
        · simp only [impl_NodesRight.k0, rdOf_getD]
          rw [if_pos (by omega), if_pos (by omega), if_neg c]
        · have hf : keysOk l = false := by
            rw [← keys_range, Bool.eq_false_iff]
            intro h
            rw [List.all_eq_true] at h
            exact c (of_decide_eq_true (h i (List.mem_range.2 hi)))
          show decide ((0 : Int) ≤ (i : Int)) = !keysOk l
          rw [hf, decide_eq_true (by omega)]
          rfl
    · refine ⟨-1, Ev.step (f := fun _ => some (-1)) (fun k => ?_) (Ev.now _), ?_⟩
      · simp only [impl_NodesRight.k0]
        rw [if_neg (by omega)]
      · have hf : keysOk l = true := by
          rw [← keys_range, List.all_eq_true]
          intro i hi
          exact decide_eq_true (hv i (List.mem_range.1 hi))
        rw [hf]
        rfl
  obtain ⟨j, h1, h2⟩ := main
  exact Ev.bind h1 (ev_eq h2)
theorem nodesRight_i (l : List IN) (hs : ∀ x ∈ l, x.f0.size ≤ 9223372036854775807 ∧ x.f3.length ≤ 9223372036854775807) : Ev (fun k => impl_NodesRight.f k l) (nodesRight l) := by
  unfold impl_NodesRight.f nodesRight
  by_cases h : (l.length : Int) > 20
  · refine ev_if_pos h ?_
    rw [decide_eq_false (by omega)]
    exact Ev.now _
  refine ev_if_neg h ?_
  rw [decide_eq_true (by omega), Bool.true_and]
  obtain ⟨K, hK⟩ := ev_all (fun (x : IN) k => impl_NameRight.f k x.f0) (fun x => isName x.f0 80) l (fun x hx => Ev.bind (isName_ev _ 80 (hs x hx).1) (Ev.now _))
  obtain ⟨K2, hK2⟩ := ev_all (fun (x : IN) k => impl_NodesRight.keys k x.f3) (fun x => !keysOk x.f3) l (fun x hx => keys_k0 _ (hs x hx).2)
  refine loop_all (fun k i => impl_NodesRight.l0 k l i) l.length (by omega) (K + K2) (nodeAt l) (fun k i hi hk hw => ?_) (fun k => by simp only [impl_NodesRight.l0]; rw [if_neg (by omega)])
  have hr := hK _ (memN l i hi) k (by omega)
  have hr2 := hK2 _ (memN l i hi) k (by omega)
  simp only [impl_NodesRight.l0, rdN_nat, hr, hr2, hw, Option.bind_some]
  rw [if_pos (by omega), if_pos (by omega)]
  have e : impl_NodesRight.rest (l.getD i zN) = restOk (l.getD i zN) := rfl
  have hP : (isName (l.getD i zN).f0 80 && ((!decide (0 < (i : Int)) || Op.bytesLess (rd_T74 l (wrap64 ((i : Int) - 1))).f0.toList (l.getD i zN).f0.toList) && (!(!keysOk (l.getD i zN).f3) && impl_NodesRight.rest (l.getD i zN)))) = nodeAt l i := by
    rw [e]
    unfold nodeAt nodeOk
    by_cases h0 : 0 < i
    · obtain ⟨h1, h2, h3⟩ := prevN l i h0 hi (by omega)
      have hi0 : (i == 0) = false := beq_eq_false_iff_ne.2 (by omega)
      rw [h1, hi0, decide_eq_true (show (0 : Int) < (i : Int) by omega)]
      generalize isName (l.getD i zN).f0 80 = a
      generalize keysOk (l.getD i zN).f3 = b
      generalize restOk (l.getD i zN) = c
      generalize Op.bytesLess _ _ = d
      cases a <;> cases b <;> cases c <;> cases d <;> rfl
    · obtain rfl : i = 0 := by omega
      rw [decide_eq_false (show ¬ (0 : Int) < ((0 : Nat) : Int) by omega)]
      generalize isName (l.getD 0 zN).f0 80 = a
      generalize keysOk (l.getD 0 zN).f3 = b
      generalize restOk (l.getD 0 zN) = c
      cases a <;> cases b <;> cases c <;> rfl
  rw [hP]
/-- one more letter. -/
theorem one_size (a : Int) : (strOfNums [a]).size = 1 := by
  simp [strOfNums, ByteArray.size]
theorem markText_l0 : ∀ (b : Nat) (n : Nat) (x : ByteArray), n ≤ b → b ≤ 4611686018427387904 → x.size + n ≤ 4611686018427387904 → ∃ v, Ev (fun k => laws_markText.l0 k (n : Int) x) v := by
  intro b
  induction b with
  | zero =>
    intro n x hn _ hx
    obtain rfl : n = 0 := by omega
    refine ⟨(⟨#[109]⟩ : ByteArray) ++ x, Ev.step (f := fun _ => some ((⟨#[109]⟩ : ByteArray) ++ x)) (fun k => ?_) (Ev.now _)⟩
    simp only [laws_markText.l0]
    rw [if_neg (by omega), if_pos (by omega)]
  | succ b ih =>
    intro n x hn hb hx
    by_cases h0 : n = 0
    · subst h0
      refine ⟨(⟨#[109]⟩ : ByteArray) ++ x, Ev.step (f := fun _ => some ((⟨#[109]⟩ : ByteArray) ++ x)) (fun k => ?_) (Ev.now _)⟩
      simp only [laws_markText.l0]
      rw [if_neg (by omega), if_pos (by omega)]
    · have e : wrap64 (Int.tdiv (n : Int) 10) = ((n / 10 : Nat) : Int) := by
        rw [show Int.tdiv (n : Int) 10 = ((n / 10 : Nat) : Int) from rfl]
        exact w64 (by omega) (by omega)
      have hs : ∀ y : ByteArray, (strOfNums [(wrap64 (48 + Int.tmod (n : Int) 10)) % 256] ++ y).size = 1 + y.size := by
        intro y
        rw [ByteArray.size_append, one_size]
      obtain ⟨v, hv⟩ := ih (n / 10) (strOfNums [(wrap64 (48 + Int.tmod (n : Int) 10)) % 256] ++ x) (by omega) (by omega) (by rw [hs]; omega)
      refine ⟨v, Ev.step (fun k => ?_) hv⟩
      simp only [laws_markText.l0, Option.bind_some, e]
      rw [if_pos (by omega), if_pos (by rw [one_size]; omega)]
theorem markText_ex (n : Nat) (hn : n ≤ 4611686018427387904) : ∃ v, Ev (fun k => laws_markText.f k (n : Int)) v := by
  by_cases h0 : n = 0
  · refine ⟨_, ev_if_pos (show (n : Int) ≤ 0 by omega) (Ev.now (⟨#[109, 48]⟩ : ByteArray))⟩
  · obtain ⟨v, hv⟩ := markText_l0 n n (⟨#[]⟩ : ByteArray) (by omega) hn (by show 0 + n ≤ _; omega)
    exact ⟨v, ev_if_neg (show ¬ (n : Int) ≤ 0 by omega) hv⟩
/-- the mark of number n: what text it is does not matter. -/
noncomputable def mText (n : Nat) : ByteArray := if h : n ≤ 4611686018427387904 then Classical.choose (markText_ex n h) else default
theorem mText_ev (n : Nat) (hn : n ≤ 4611686018427387904) : Ev (fun k => laws_markText.f k (n : Int)) (mText n) := by
  unfold mText
  rw [dif_pos hn]
  exact Classical.choose_spec (markText_ex n hn)
/-- a loop whose rounds each end, with what is known of where it stands. -/
theorem loop_evs {σ ρ : Type} (F : Nat → σ → Int → Option ρ) (n : Nat) (inv : Nat → σ → Prop) (Q : ρ → Prop)
    (hstep : ∀ (i : Nat) (s : σ), i < n → inv i s → (∃ s', inv (i + 1) s' ∧ ∀ v, Ev (fun k => F k s' ((i + 1 : Nat) : Int)) v → Ev (fun k => F k s (i : Int)) v))
    (hend : ∀ (s : σ), inv n s → Evs (fun k => F k s (n : Int)) Q) : ∀ (s : σ), inv 0 s → Evs (fun k => F k s 0) Q := by
  have main : ∀ (d i : Nat) (s : σ), i + d = n → inv i s → Evs (fun k => F k s (i : Int)) Q := by
    intro d
    induction d with
    | zero =>
      intro i s hi hv
      obtain rfl : i = n := by omega
      exact hend s hv
    | succ d ih =>
      intro i s hi hv
      obtain ⟨s', hs', hv'⟩ := hstep i s (by omega) hv
      obtain ⟨v, h1, h2⟩ := ih (i + 1) s' (by omega) hs'
      exact ⟨v, hv' v h1, h2⟩
  intro s hs
  exact main n 0 s (by omega) hs
theorem wnat (i : Nat) (hi : i ≤ 9223372036854775806) : wrap64 ((i : Int) + 1) = ((i + 1 : Nat) : Int) := by rw [w64 (by omega) (by omega)]; omega
noncomputable def markedS (n m : Nat) : List ByteArray := (List.range n).map (fun i => mText (m + i))
theorem markStringS_ev (l : List ByteArray) (m : Nat) (hl : l.length ≤ 4294967296) (hm : m ≤ 4294967296) : Ev (fun k => laws_markStringS.f k l (m : Int)) (((m + l.length : Nat) : Int), markedS l.length m) := by
  unfold laws_markStringS.f
  refine Evs.ev (loop_evs (fun k (s : List ByteArray × Int) i => laws_markStringS.l0 k s.1 s.2 i) l.length (fun i s => s.2 = ((m + i : Nat) : Int) ∧ s.1.length = l.length ∧ ∀ j, j < i → s.1[j]? = (markedS l.length m)[j]?) _ (fun i s hi hv => ?_) (fun s hv => ?_) (l, (m : Int)) ⟨rfl, rfl, fun j hj => absurd hj (by omega)⟩)
  · obtain ⟨x, k1⟩ := s
    obtain ⟨rfl, h2, h3⟩ := hv
    simp only at h2 h3 ⊢
    refine ⟨(x.set i (mText (m + i)), ((m + (i + 1) : Nat) : Int)), ⟨rfl, by simp [h2], fun j hj => ?_⟩, fun v hv => ?_⟩
    · show (x.set i (mText (m + i)))[j]? = _
      rw [List.getElem?_set]
      by_cases e : i = j
      · subst e
        rw [if_pos rfl, if_pos (by omega)]
        simp [markedS, hi]
      · rw [if_neg e]
        exact h3 j (by omega)
    · obtain ⟨K1, g1⟩ := mText_ev (m + i) (by omega)
      obtain ⟨K2, g2⟩ := hv
      refine ev_from (K1 + K2 + 1) fun k hk => ?_
      obtain ⟨k, rfl⟩ : ∃ q, k = q + 1 := ⟨k - 1, by omega⟩
      have g1' : laws_markText.f k ((m + i : Nat) : Int) = some (mText (m + i)) := g1 k (by omega)
      simp only [laws_markStringS.l0, Int.toNat_natCast, wnat i (by omega), wnat (m + i) (by omega), g1', Option.bind_some]
      rw [if_pos (by omega), if_pos (by omega)]
      exact g2 k (by omega)
  · obtain ⟨x, k1⟩ := s
    obtain ⟨rfl, h2, h3⟩ := hv
    simp only at h2 h3 ⊢
    refine ⟨_, Ev.step (f := fun _ => some (((m + l.length : Nat) : Int), x)) (fun k => ?_) (Ev.now _), ?_⟩
    · simp only [laws_markStringS.l0]
      rw [if_neg (by omega)]
    · congr 1
      refine List.ext_getElem? fun j => ?_
      by_cases hj : j < l.length
      · exact h3 j hj
      · rw [List.getElem?_eq_none (by omega), List.getElem?_eq_none (by simp [markedS]; omega)]
theorem heldStringS_ev (n m : Nat) (hl : n ≤ 4294967296) (hm : m ≤ 4294967296) : Ev (fun k => laws_heldStringS.f k (markedS n m) (m : Int)) ((m + n : Nat) : Int) := by
  unfold laws_heldStringS.f
  have hlen : (markedS n m).length = n := by simp [markedS]
  refine Evs.ev (loop_evs (fun k (s : Int) i => laws_heldStringS.l0 k (markedS n m) s i) n (fun i s => s = ((m + i : Nat) : Int)) _ (fun i s hi hv => ?_) (fun s hv => ?_) (m : Int) rfl)
  · subst hv
    refine ⟨((m + (i + 1) : Nat) : Int), rfl, fun v hv => ?_⟩
    have e : rdOf ByteArray.empty (markedS n m) (i : Int) = mText (m + i) := by
      simp [rdOf, markedS, hi]
    obtain ⟨K1, g1⟩ := mText_ev (m + i) (by omega)
    obtain ⟨K2, g2⟩ := hv
    refine ev_from (K1 + K2 + 1) fun k hk => ?_
    obtain ⟨k, rfl⟩ : ∃ q, k = q + 1 := ⟨k - 1, by omega⟩
    have g1' : laws_markText.f k ((m + i : Nat) : Int) = some (mText (m + i)) := g1 k (by omega)
    simp only [laws_heldStringS.l0, wnat i (by omega), wnat (m + i) (by omega), e, hlen, g1', Option.bind_some]
    rw [if_pos (by omega), if_pos (by omega), if_pos trivial]
    exact g2 k (by omega)
  · subst hv
    refine ⟨_, Ev.step (f := fun _ => some ((m + n : Nat) : Int)) (fun k => ?_) (Ev.now _), rfl⟩
    simp only [laws_heldStringS.l0, hlen]
    rw [if_neg (by omega)]
theorem eqStringS_refl (l : List ByteArray) (hl : l.length ≤ 9223372036854775807) : Ev (fun k => laws_eqStringS.f k l l) true := by
  unfold laws_eqStringS.f
  refine ev_if_pos rfl ?_
  have h := loop_all (fun k i => laws_eqStringS.l0 k l l i) l.length hl 0 (fun _ => true) (fun k i hi _ hw => by simp only [laws_eqStringS.l0, hw]; rw [if_pos (by omega), if_pos (by omega), if_pos (by omega), if_pos trivial]) (fun k => by simp only [laws_eqStringS.l0]; rw [if_neg (by omega)])
  have e : (List.range l.length).all (fun _ => true) = true := by simp
  rw [e] at h
  exact h
noncomputable def markN (q c : Nat) : IN := ⟨mText q, (Int.tmod ((q + 1 : Nat) : Int) 3 == 0), ((q + 2 : Nat) : Int), markedS c (q + 3)⟩
def offN (l : List IN) (m : Nat) : Nat → Nat
  | 0 => m
  | i + 1 => offN l m i + (3 + (l.getD i zN).f3.length)
noncomputable def markedN (l : List IN) (m : Nat) : List IN := (List.range l.length).map (fun i => markN (offN l m i) (l.getD i zN).f3.length)
theorem offN_le (l : List IN) (m : Nat) (hk : ∀ x ∈ l, x.f3.length ≤ 1000) : ∀ i, i ≤ l.length → offN l m i ≤ m + 1003 * i
  | 0, _ => Nat.le_refl _
  | i + 1, hi => by
    have h1 := offN_le l m hk i (by omega)
    have h2 := hk _ (memN l i (by omega))
    unfold offN
    omega
theorem markNodeS_ev (l : List IN) (m : Nat) (hl : l.length ≤ 1000) (hk : ∀ x ∈ l, x.f3.length ≤ 1000) (hm : m ≤ 1000) : Ev (fun k => laws_markNodeS.f k l (m : Int)) (((offN l m l.length : Nat) : Int), markedN l m) := by
  unfold laws_markNodeS.f
  refine Evs.ev (loop_evs (fun k (s : List IN × Int) i => laws_markNodeS.l0 k s.1 s.2 i) l.length (fun i s => s.2 = ((offN l m i : Nat) : Int) ∧ s.1.length = l.length ∧ (∀ j, j < i → s.1[j]? = (markedN l m)[j]?) ∧ ∀ j, i ≤ j → s.1[j]? = l[j]?) _ (fun i s hi hv => ?_) (fun s hv => ?_) (l, (m : Int)) ⟨rfl, rfl, fun j hj => absurd hj (by omega), fun _ _ => rfl⟩)
  · obtain ⟨x, k1⟩ := s
    obtain ⟨rfl, h2, h3, h4⟩ := hv
    simp only at h2 h3 h4 ⊢
    have ho := offN_le l m hk i (by omega)
    have hki := hk _ (memN l i hi)
    have e : rd_T74 x (i : Int) = l.getD i zN := by
      rw [rdN_nat, List.getD_eq_getElem?_getD, List.getD_eq_getElem?_getD, h4 i (Nat.le_refl _)]
    refine ⟨(x.set i (markN (offN l m i) (l.getD i zN).f3.length), ((offN l m (i + 1) : Nat) : Int)), ⟨rfl, by simp [h2], fun j hj => ?_, fun j hj => ?_⟩, fun v hv => ?_⟩
    · show (x.set i _)[j]? = _
      rw [List.getElem?_set]
      by_cases e : i = j
      · subst e
        rw [if_pos rfl, if_pos (by omega)]
        simp [markedN, hi]
      · rw [if_neg e]
        exact h3 j (by omega)
    · show (x.set i _)[j]? = _
      rw [List.getElem?_set, if_neg (by omega)]
      exact h4 j (by omega)
    · obtain ⟨K1, g1⟩ := mText_ev (offN l m i) (by omega)
      obtain ⟨K3, g3⟩ := markStringS_ev (l.getD i zN).f3 (offN l m i + 3) (by omega) (by omega)
      obtain ⟨K2, g2⟩ := hv
      refine ev_from (K1 + K2 + K3 + 1) fun k hk => ?_
      obtain ⟨k, rfl⟩ : ∃ q, k = q + 1 := ⟨k - 1, by omega⟩
      have g1' : laws_markText.f k ((offN l m i : Nat) : Int) = some (mText (offN l m i)) := g1 k (by omega)
      have g3' : laws_markStringS.f k (l.getD i zN).f3 ((offN l m i + 1 + 1 + 1 : Nat) : Int) = some (((offN l m i + 3 + (l.getD i zN).f3.length : Nat) : Int), markedS (l.getD i zN).f3.length (offN l m i + 3)) := g3 k (by omega)
      simp only [laws_markNodeS.l0, Int.toNat_natCast, e, wnat i (by omega), wnat (offN l m i) (by omega), wnat (offN l m i + 1) (by omega), wnat (offN l m i + 1 + 1) (by omega), g1', g3', Option.bind_some]
      rw [if_pos (by omega), if_pos (by omega)]
      have e2 : ((offN l m i + 3 + (l.getD i zN).f3.length : Nat) : Int) = ((offN l m (i + 1) : Nat) : Int) := by
        show _ = ((offN l m i + (3 + (l.getD i zN).f3.length) : Nat) : Int)
        rw [Nat.add_assoc]
      rw [e2]
      exact g2 k (by omega)
  · obtain ⟨x, k1⟩ := s
    obtain ⟨rfl, h2, h3, h4⟩ := hv
    simp only at h2 h3 ⊢
    refine ⟨_, Ev.step (f := fun _ => some (((offN l m l.length : Nat) : Int), x)) (fun k => ?_) (Ev.now _), ?_⟩
    · simp only [laws_markNodeS.l0]
      rw [if_neg (by omega)]
    · congr 1
      refine List.ext_getElem? fun j => ?_
      by_cases hj : j < l.length
      · exact h3 j hj
      · rw [List.getElem?_eq_none (by omega), List.getElem?_eq_none (by simp [markedN]; omega)]
theorem heldNodeS_ev (l : List IN) (m : Nat) (hl : l.length ≤ 1000) (hk : ∀ x ∈ l, x.f3.length ≤ 1000) (hm : m ≤ 1000) : Ev (fun k => laws_heldNodeS.f k (markedN l m) (m : Int)) ((offN l m l.length : Nat) : Int) := by
  unfold laws_heldNodeS.f
  have hlen : (markedN l m).length = l.length := by simp [markedN]
  refine Evs.ev (loop_evs (fun k (s : Int) i => laws_heldNodeS.l0 k (markedN l m) s i) l.length (fun i s => s = ((offN l m i : Nat) : Int)) _ (fun i s hi hv => ?_) (fun s hv => ?_) (m : Int) rfl)
  · subst hv
    refine ⟨((offN l m (i + 1) : Nat) : Int), rfl, fun v hv => ?_⟩
    have ho := offN_le l m hk i (by omega)
    have hki := hk _ (memN l i hi)
    have e : rd_T74 (markedN l m) (i : Int) = markN (offN l m i) (l.getD i zN).f3.length := by
      rw [rdN_nat]
      simp [markedN, hi]
    obtain ⟨K1, g1⟩ := mText_ev (offN l m i) (by omega)
    obtain ⟨K3, g3⟩ := heldStringS_ev (l.getD i zN).f3.length (offN l m i + 3) (by omega) (by omega)
    obtain ⟨K2, g2⟩ := hv
    refine ev_from (K1 + K2 + K3 + 1) fun k hk => ?_
    obtain ⟨k, rfl⟩ : ∃ q, k = q + 1 := ⟨k - 1, by omega⟩
    have g1' : laws_markText.f k ((offN l m i : Nat) : Int) = some (mText (offN l m i)) := g1 k (by omega)
    have g3' : laws_heldStringS.f k (markedS (l.getD i zN).f3.length (offN l m i + 3)) ((offN l m i + 1 + 1 + 1 : Nat) : Int) = some ((offN l m i + 3 + (l.getD i zN).f3.length : Nat) : Int) := g3 k (by omega)
    simp only [laws_heldNodeS.l0, wnat i (by omega), wnat (offN l m i) (by omega), wnat (offN l m i + 1) (by omega), wnat (offN l m i + 1 + 1) (by omega), e, hlen, g1', Option.bind_some, markN]
    rw [if_pos (by omega), if_pos (by omega), if_pos trivial, if_neg (by simp), if_pos trivial, g3']
    have e2 : ((offN l m i + 3 + (l.getD i zN).f3.length : Nat) : Int) = ((offN l m (i + 1) : Nat) : Int) := by
      show _ = ((offN l m i + (3 + (l.getD i zN).f3.length) : Nat) : Int)
      rw [Nat.add_assoc]
    simp only [Option.bind_some]
    rw [if_neg (by omega), e2]
    exact g2 k (by omega)
  · subst hv
    refine ⟨_, Ev.step (f := fun _ => some ((offN l m l.length : Nat) : Int)) (fun k => ?_) (Ev.now _), rfl⟩
    simp only [laws_heldNodeS.l0, hlen]
    rw [if_neg (by omega)]
structure Okp (x : ByteArray) (p : IN) : Prop where
  name : p.f0.size ≤ x.size
  keys : p.f3.length ≤ 101
def sFin (x : ByteArray) (l : List IN) (q : Nat) (b : Bool) : List IN × Bool := if b = true then (l, false) else if q = x.size then (l, nodesRight l) else (l, false)
def iFin (x : ByteArray) (n : Int) (l : List IN) (q : Nat) (b : Bool) : List IN × Bool := if n = (l.length : Int) then (if b = true then ([], false) else if q = x.size then (if nodesRight l = true then (l, true) else ([], false)) else ([], false)) else ([], false)
theorem okS (x : ByteArray) (hx : x.size ≤ 20000) (l : List IN) (h : ∀ p ∈ l, Okp x p) : ∀ p ∈ l, p.f0.size ≤ 9223372036854775807 ∧ p.f3.length ≤ 9223372036854775807 := fun p hp => by
  have h1 := (h p hp).name
  have h2 := (h p hp).keys
  omega
theorem sFin_ev (x : ByteArray) (hx : x.size ≤ 20000) (l : List IN) (n : Int) (q : Nat) (b : Bool) (hs : ∀ p ∈ l, Okp x p) : Ev (fun k => spec_l11Read.j3 k x l n false x (q : Int) b) (sFin x l q b) := by
  refine Ev.step (f := fun k => if b = true then some (l, false) else if (q : Int) = (x.size : Int) then ((spec_NodesRight.f k l).bind fun t => some (l, t)) else some (l, false)) (fun k => by simp only [spec_l11Read.j3]; rw [if_neg (by simp)]) ?_
  unfold sFin
  by_cases hb : b = true
  · rw [if_pos hb]; exact ev_if_pos hb (Ev.now _)
  rw [if_neg hb]
  refine ev_if_neg hb ?_
  by_cases hq : q = x.size
  · rw [if_pos hq]
    exact ev_if_pos (by omega) (Ev.bind (nodesRight_s l (okS x hx l hs)) (Ev.now _))
  · rw [if_neg hq]
    exact ev_if_neg (by omega) (Ev.now _)
theorem iFin_ev (x : ByteArray) (hx : x.size ≤ 20000) (l : List IN) (n i : Int) (q : Nat) (b : Bool) (hs : ∀ p ∈ l, Okp x p) : Ev (fun k => impl_readNodes.j1 k n l i false x (q : Int) b) (iFin x n l q b) := by
  refine Ev.step (f := fun k => ((some (l.length : Int)).bind fun t => (if n = t then ((impl_reader_isDone.f x (q : Int) b).bind fun bt => (if bt.1 = true then ((impl_NodesRight.f k l).bind fun t => (if t = true then (some (l, true)) else (some (([] : List IN), false)))) else (some (([] : List IN), false)))) else (some (([] : List IN), false))))) (fun k => by simp only [impl_readNodes.j1]; rw [if_neg (by simp)]; rfl) ?_
  unfold iFin
  refine ev_bind1 (a := (l.length : Int)) rfl ?_
  by_cases hn : n = (l.length : Int)
  rotate_left
  · rw [if_neg hn]; exact ev_if_neg hn (Ev.now _)
  rw [if_pos hn]
  refine ev_if_pos hn ?_
  by_cases hb : b = true
  · rw [if_pos hb]
    refine ev_bind1 (a := (false, x, (q : Int), b)) (by unfold impl_reader_isDone.f; rw [if_pos hb]) ?_
    exact ev_if_neg (by simp) (Ev.now _)
  rw [if_neg hb]
  refine ev_bind1 (a := (((q : Int) == (x.size : Int)), x, (q : Int), b)) (by unfold impl_reader_isDone.f impl_long.f; rw [if_neg hb]; rfl) ?_
  by_cases hq : q = x.size
  rotate_left
  · rw [if_neg hq]; exact ev_if_neg (by simp; omega) (Ev.now _)
  rw [if_pos hq]
  refine ev_if_pos (by simp; omega) (Ev.bind (nodesRight_i l (okS x hx l hs)) ?_)
  by_cases hr : nodesRight l = true
  · exact ev_if_pos hr (ev_eq (by rw [if_pos hr]))
  · exact ev_if_neg hr (ev_eq (by rw [if_neg hr]))
/-! ### one node -/
theorem bytes_one (x : ByteArray) (hx : x.size ≤ 20000) (q : Nat) (b : Bool) (hq : q ≤ x.size) : ∃ (t : ByteArray) (q' : Nat) (b' : Bool), q' ≤ x.size ∧ spec_l10Reader_bytes.f x (q : Int) b 32 = some (t, x, (q' : Int), b') ∧ impl_reader_take.f x (q : Int) b 32 = some (t, x, (q' : Int), b') := by
  have a1 := rBytes_at x q b 32 hq
  have b1s := bytes_s x hx q b 32 (by decide) hq
  have b1i := bytes_i x hx q b 32 (by decide) hq
  obtain ⟨t1, s1⟩ : ∃ t, t = rBytes x q b 32 := ⟨_, rfl⟩
  rw [← s1] at a1 b1s b1i
  clear s1
  obtain ⟨key, x1, p1, f1⟩ := t1
  obtain ⟨q1, g1, e1, h1⟩ := a1
  simp only [Prod.mk.injEq] at e1
  obtain ⟨rfl, rfl, rfl⟩ := e1
  exact ⟨key, q1, f1, h1, b1s, b1i⟩
theorem keys_both (x : ByteArray) (hx : x.size ≤ 20000) (nm : ByteArray) (d : Bool) (sz : Int) : ∀ (m : Nat) (ks : List ByteArray) (q : Nat) (b : Bool), q ≤ x.size → ks.length + m ≤ 100 →
    ∃ (ks' : List ByteArray) (q' : Nat) (b' : Bool), q' ≤ x.size ∧ ks'.length ≤ 100 ∧
      (∀ (l : List IN) (n : Int) v, l.length < 2513169434916 → Ev (fun k => spec_l11Read.l0 k x (l ++ [⟨nm, d, sz, ks'⟩]) (wrap64 (n - 1)) x (q' : Int) b') v → Ev (fun k => spec_l11Read.l1 k x l n (m : Int) x (q : Int) b nm d sz ks) v) ∧
      (∀ (l : List IN) (many i : Int) v, l.length < 2513169434916 → Ev (fun k => impl_readNodes.l0 k many (l ++ [⟨nm, d, sz, ks'⟩]) (wrap64 (i + 1)) x (q' : Int) b') v → Ev (fun k => impl_readNodes.l1 k many l i ((ks.length + m : Nat) : Int) (ks.length : Int) x (q : Int) b nm d sz ks) v) := by
  intro m
  induction m with
  | zero =>
    intro ks q b hq hk
    refine ⟨ks, q, b, hq, by omega, fun l n v hl h => ?_, fun l many i v hl h => ?_⟩
    · exact Ev.step (fun k => by simp only [spec_l11Read.l1]; rw [if_neg (by omega), if_pos hl]) h
    · refine Ev.step (fun k => ?_) h
      simp only [impl_readNodes.l1]
      rw [if_neg (by omega)]
      cases b with
      | true => rw [if_pos rfl, if_pos hl]
      | false =>
        rw [if_neg (by simp)]
        unfold impl_size_string.f
        simp only [Option.bind_some]
        rw [if_pos hl]
        simp
  | succ m ih =>
    intro ks q b hq hk
    cases b with
    | true =>
      refine ⟨ks, q, true, hq, by omega, fun l n v hl h => ?_, fun l many i v hl h => ?_⟩
      · exact Ev.step (fun k => by simp only [spec_l11Read.l1]; rw [if_pos (by omega), if_pos trivial, if_pos hl]) h
      · exact Ev.step (fun k => by simp only [impl_readNodes.l1]; rw [if_pos (by omega), if_pos (by omega), if_pos trivial, if_pos hl]) h
    | false =>
      obtain ⟨t, q1, b1, h1, hs, hi⟩ := bytes_one x hx q false hq
      obtain ⟨ks', q', b', r1, r2, r3, r4⟩ := ih (ks ++ [t]) q1 b1 h1 (by simp; omega)
      have e1 : wrap64 (((m + 1 : Nat) : Int) - 1) = (m : Int) := by rw [w64 (by omega) (by omega)]; omega
      refine ⟨ks', q', b', r1, r2, fun l n v hl h => ?_, fun l many i v hl h => ?_⟩
      · refine Ev.step (fun k => ?_) (r3 l n v hl h)
        simp only [spec_l11Read.l1]
        rw [if_pos (by omega), if_neg (by simp), hs]
        simp only [Option.bind_some, e1]
        rw [if_pos (by omega)]
      · refine Ev.step (fun k => ?_) (r4 l many i v hl h)
        simp only [impl_readNodes.l1]
        rw [if_pos (by omega), if_pos (by omega), if_neg (by simp), hi]
        simp only [Option.bind_some]
        rw [if_pos (by omega), wnat ks.length (by omega)]
        simp only [List.length_append, List.length_singleton]
        rw [show ks.length + 1 + m = ks.length + (m + 1) by omega]
theorem keys_many (x : ByteArray) (hx : x.size ≤ 20000) (nm : ByteArray) (d : Bool) (sz kc : Int) (hkc : kc > 100) : ∀ (m : Nat) (ks : List ByteArray) (q : Nat) (b : Bool), q ≤ x.size → ks.length + m = 101 →
    ∃ (ks' : List ByteArray) (q' : Nat) (b' : Bool), q' ≤ x.size ∧ ks'.length ≤ 101 ∧ (b' = true ∨ ks'.length = 101) ∧
      (∀ (l : List IN) (many i : Int) v, l.length < 2513169434916 → Ev (fun k => impl_readNodes.l0 k many (l ++ [⟨nm, d, sz, ks'⟩]) (wrap64 (i + 1)) x (q' : Int) b') v → Ev (fun k => impl_readNodes.l1 k many l i kc (ks.length : Int) x (q : Int) b nm d sz ks) v) := by
  intro m
  induction m with
  | zero =>
    intro ks q b hq hk
    cases b with
    | true =>
      refine ⟨ks, q, true, hq, by omega, .inl rfl, fun l many i v hl h => Ev.step (fun k => ?_) h⟩
      simp only [impl_readNodes.l1]
      by_cases c : (ks.length : Int) < kc
      · rw [if_pos c, if_neg (by omega), if_pos trivial, if_pos hl]
      · rw [if_neg c, if_pos trivial, if_pos hl]
    | false =>
      refine ⟨ks, q, (kc != (ks.length : Int)), hq, by omega, .inr (by omega), fun l many i v hl h => Ev.step (fun k => ?_) h⟩
      simp only [impl_readNodes.l1, impl_size_string.f, Option.bind_some]
      by_cases c : (ks.length : Int) < kc
      · rw [if_pos c, if_neg (by omega), if_neg (by simp), if_pos hl]
      · rw [if_neg c, if_neg (by simp), if_pos hl]
  | succ m ih =>
    intro ks q b hq hk
    cases b with
    | true =>
      refine ⟨ks, q, true, hq, by omega, .inl rfl, fun l many i v hl h => Ev.step (fun k => ?_) h⟩
      simp only [impl_readNodes.l1]
      rw [if_pos (by omega), if_pos (by omega), if_pos trivial, if_pos hl]
    | false =>
      obtain ⟨t, q1, b1, h1, hs, hi⟩ := bytes_one x hx q false hq
      obtain ⟨ks', q', b', r1, r2, r3, r4⟩ := ih (ks ++ [t]) q1 b1 h1 (by simp; omega)
      refine ⟨ks', q', b', r1, r2, r3, fun l many i v hl h => Ev.step (fun k => ?_) (r4 l many i v hl h)⟩
      simp only [impl_readNodes.l1]
      rw [if_pos (by omega), if_pos (by omega), if_neg (by simp), hi]
      simp only [Option.bind_some]
      rw [if_pos (by omega), wnat ks.length (by omega)]
      simp only [List.length_append, List.length_singleton]
theorem spec_bad (x : ByteArray) (nm : ByteArray) (d b : Bool) (sz kc n : Int) (l : List IN) (q : Nat) (v) (hl : l.length < 2513169434916) (h : Ev (fun k => spec_l11Read.l0 k x (l ++ [⟨nm, d, sz, []⟩]) (wrap64 (n - 1)) x (q : Int) true) v) : Ev (fun k => spec_l11Read.j4 k x l n kc true x (q : Int) b nm d sz) v := by
  refine Ev.step (f := fun k => spec_l11Read.j5 k x l n kc x (q : Int) true nm d sz) (fun k => by simp only [spec_l11Read.j4]; exact if_pos trivial) ?_
  refine Ev.step (f := fun k => spec_l11Read.l1 k x l n kc x (q : Int) true nm d sz []) (fun k => by simp only [spec_l11Read.j5]) ?_
  refine Ev.step (fun k => ?_) h
  simp only [spec_l11Read.l1]
  by_cases c : kc > 0
  · rw [if_pos c, if_pos trivial, if_pos hl]
  · rw [if_neg c, if_pos hl]
theorem impl_bad (x : ByteArray) (nm : ByteArray) (d : Bool) (sz kc many i : Int) (l : List IN) (q : Nat) (v) (hl : l.length < 2513169434916) (h : Ev (fun k => impl_readNodes.l0 k many (l ++ [⟨nm, d, sz, []⟩]) (wrap64 (i + 1)) x (q : Int) true) v) : Ev (fun k => impl_readNodes.l1 k many l i kc 0 x (q : Int) true nm d sz []) v := by
  refine Ev.step (fun k => ?_) h
  simp only [impl_readNodes.l1]
  by_cases c : 0 < kc
  · rw [if_pos c, if_pos (by omega), if_pos trivial, if_pos hl]
  · rw [if_neg c, if_pos trivial, if_pos hl]
theorem num_two (x : ByteArray) (hx : x.size ≤ 20000) (q : Nat) (f : Bool) (h : q ≤ x.size) : ∃ (n : Int) (q' : Nat) (f' : Bool), q' ≤ x.size ∧ (f = true → n = 0 ∧ q' = q ∧ f' = true) ∧ Ev (fun k => spec_l10Reader_num.f k x (q : Int) f) (n, x, (q' : Int), f') ∧ Ev (fun k => impl_reader_num.f k x (q : Int) f) (n, x, (q' : Int), f') := by
  have a3 := rNum_at x q f h
  have b3s := num_s x hx q f h
  have b3i := num_i x hx q f h
  have hz : f = true → rNum x q f = (0, x, (q : Int), true) := fun e => by unfold rNum; rw [if_pos e]
  obtain ⟨t3, s3⟩ : ∃ t, t = rNum x q f := ⟨_, rfl⟩
  rw [← s3] at a3 b3s b3i hz
  obtain ⟨n, x3, p3, f3⟩ := t3
  obtain ⟨q3, g3, e3, h3⟩ := a3
  simp only [Prod.mk.injEq] at e3
  obtain ⟨rfl, rfl, rfl⟩ := e3
  refine ⟨n, q3, f3, h3, fun e => ?_, b3s, b3i⟩
  have := hz e
  simp only [Prod.mk.injEq] at this
  exact ⟨this.1, by omega, this.2.2.2⟩
theorem step_node (x : ByteArray) (hx : x.size ≤ 20000) (q : Nat) (hq : q ≤ x.size) : ∃ (pS : IN) (qS : Nat) (bS : Bool) (pI : IN) (qI : Nat) (bI : Bool), qS ≤ x.size ∧ qI ≤ x.size ∧ Okp x pS ∧ Okp x pI ∧ ((pS = pI ∧ qS = qI ∧ bS = bI) ∨ (bS = true ∧ (bI = true ∨ pI.f3.length = 101))) ∧
    (∀ (l : List IN) (n : Int) (v : List IN × Bool), 0 < n → l.length < 2513169434916 → Ev (fun k => spec_l11Read.l0 k x (l ++ [pS]) (wrap64 (n - 1)) x (qS : Int) bS) v → Ev (fun k => spec_l11Read.l0 k x l n x (q : Int) false) v) ∧
    (∀ (l : List IN) (many : Int) (i : Nat) (v : List IN × Bool), (i : Int) < many → i ≤ 20 → l.length < 2513169434916 → Ev (fun k => impl_readNodes.l0 k many (l ++ [pI]) (wrap64 ((i : Int) + 1)) x (qI : Int) bI) v → Ev (fun k => impl_readNodes.l0 k many l (i : Int) x (q : Int) false) v) := by
  obtain ⟨t2, s2⟩ : ∃ t, t = rText x q false := ⟨_, rfl⟩
  have a2 := rText_at x q false hq
  have b2s := text_s x hx q false hq
  have b2i := text_i x hx q false hq
  rw [← s2] at a2 b2s b2i
  clear s2
  obtain ⟨nm, x2, p2, f2⟩ := t2
  obtain ⟨⟨q2, g2, e2, h2⟩, hname⟩ := a2
  simp only [Prod.mk.injEq] at e2
  obtain ⟨rfl, rfl, rfl⟩ := e2
  simp only at hname
  obtain ⟨dir, q3, f3, h3, z3, c1, d1⟩ := num_two x2 hx q2 f2 h2
  obtain ⟨sz, q4, f4, h4, z4, c2, d2⟩ := num_two x2 hx q3 f3 h3
  obtain ⟨kc, q5, f5, h5, z5, c3, d3⟩ := num_two x2 hx q4 f4 h4
  have hS : ∀ (l : List IN) (n : Int) (v : List IN × Bool), 0 < n → Ev (fun k => if dir < 0 then (spec_l11Read.j4 k x2 l n kc true x2 (q5 : Int) f5 nm (dir == 1) sz) else (if dir > 1 then (spec_l11Read.j4 k x2 l n kc true x2 (q5 : Int) f5 nm (dir == 1) sz) else (if kc < 0 then (spec_l11Read.j4 k x2 l n kc true x2 (q5 : Int) f5 nm (dir == 1) sz) else (spec_l11Read.j4 k x2 l n kc (decide (kc > 100)) x2 (q5 : Int) f5 nm (dir == 1) sz)))) v → Ev (fun k => spec_l11Read.l0 k x2 l n x2 (q : Int) false) v := by
    intro l n v hn h
    refine Ev.step (f := fun k => spec_l11Read.j3 k x2 l n true x2 (q : Int) false) (fun k => by simp only [spec_l11Read.l0]; rw [if_pos hn]; rfl) ?_
    exact Ev.step (fun k => by simp only [spec_l11Read.j3]; rw [if_pos trivial]) (Ev.bind b2s (Ev.bind c1 (Ev.bind c2 (Ev.bind c3 h))))
  have hI : ∀ (l : List IN) (many : Int) (i : Nat) (v : List IN × Bool), (i : Int) < many → i ≤ 20 → Ev (fun k => if f4 = true then (impl_readNodes.j2 k many l (i : Int) x2 (q4 : Int) true nm (dir == 1) sz) else ((impl_within.f dir 0 1).bind fun t => (impl_readNodes.j2 k many l (i : Int) x2 (q4 : Int) (!t) nm (dir == 1) sz))) v → Ev (fun k => impl_readNodes.l0 k many l (i : Int) x2 (q : Int) false) v := by
    intro l many i v hi hi2 h
    refine Ev.step (f := fun k => impl_readNodes.j1 k many l (i : Int) true x2 (q : Int) false) (fun k => by simp only [impl_readNodes.l0]; rw [if_pos hi, if_pos (by omega)]; rfl) ?_
    exact Ev.step (fun k => by simp only [impl_readNodes.j1]; rw [if_pos trivial]) (Ev.bind b2i (Ev.bind d1 (Ev.bind d2 h)))
  have hIb : ∀ (l : List IN) (many : Int) (i : Nat) (v : List IN × Bool), l.length < 2513169434916 → Ev (fun k => impl_readNodes.l0 k many (l ++ [⟨nm, (dir == 1), sz, []⟩]) (wrap64 ((i : Int) + 1)) x2 (q4 : Int) true) v → Ev (fun k => impl_readNodes.j2 k many l (i : Int) x2 (q4 : Int) true nm (dir == 1) sz) v := by
    intro l many i v hl h
    have hz : Ev (fun k => impl_reader_num.f k x2 (q4 : Int) true) (0, x2, (q4 : Int), true) := by
      have := num_i x2 hx q4 true h4
      unfold rNum at this
      rwa [if_pos rfl] at this
    exact Ev.step (fun k => by simp only [impl_readNodes.j2]; rfl) (Ev.bind hz (impl_bad x2 nm (dir == 1) sz 0 many i l q4 v hl h))
  have okE : Okp x2 (⟨nm, (dir == 1), sz, []⟩ : IN) := ⟨hname, by simp⟩
  by_cases hf4 : f4 = true
  · obtain ⟨rfl, rfl, rfl⟩ := z5 hf4
    refine ⟨⟨nm, (dir == 1), sz, []⟩, q5, true, ⟨nm, (dir == 1), sz, []⟩, q5, true, h5, h5, okE, okE, .inl ⟨rfl, rfl, rfl⟩, fun l n v hn hl h => hS l n v hn ?_, fun l many i v hi hi2 hl h => hI l many i v hi hi2 (ev_if_pos hf4 (hIb l many i v hl h))⟩
    have hb := spec_bad x2 nm (dir == 1) true sz 0 n l q5 v hl h
    by_cases g1 : dir < 0
    · exact ev_if_pos g1 hb
    by_cases g2 : dir > 1
    · exact ev_if_neg g1 (ev_if_pos g2 hb)
    refine ev_if_neg g1 (ev_if_neg g2 (ev_if_neg (by omega) ?_))
    rw [decide_eq_false (by omega)]
    refine Ev.step (f := fun k => spec_l11Read.j5 k x2 l n 0 x2 (q5 : Int) true nm (dir == 1) sz) (fun k => by simp only [spec_l11Read.j4]; rw [if_neg (by simp)]) ?_
    refine Ev.step (f := fun k => spec_l11Read.l1 k x2 l n 0 x2 (q5 : Int) true nm (dir == 1) sz []) (fun k => by simp only [spec_l11Read.j5]) ?_
    exact Ev.step (fun k => by simp only [spec_l11Read.l1]; rw [if_neg (by omega), if_pos hl]) h
  by_cases hd : 0 ≤ dir ∧ dir ≤ 1
  rotate_left
  · refine ⟨⟨nm, (dir == 1), sz, []⟩, q5, true, ⟨nm, (dir == 1), sz, []⟩, q4, true, h5, h4, okE, okE, .inr ⟨rfl, .inl rfl⟩, fun l n v hn hl h => hS l n v hn ?_, fun l many i v hi hi2 hl h => hI l many i v hi hi2 (ev_if_neg hf4 (ev_bind1 (a := false) ?_ (hIb l many i v hl h)))⟩
    · have hb := spec_bad x2 nm (dir == 1) f5 sz kc n l q5 v hl h
      by_cases g1 : dir < 0
      · exact ev_if_pos g1 hb
      · exact ev_if_neg g1 (ev_if_pos (by omega) hb)
    · unfold impl_within.f
      by_cases g1 : dir ≥ 0
      · rw [if_pos g1, decide_eq_false (by omega)]
      · rw [if_neg g1]
  have hw : impl_within.f dir 0 1 = some true := by
    unfold impl_within.f
    rw [if_pos (by omega), decide_eq_true (by omega)]
  rw [Bool.not_eq_true] at hf4
  subst hf4
  have hJ : ∀ (l : List IN) (many : Int) (i : Nat) (v : List IN × Bool), (i : Int) < many → i ≤ 20 → Ev (fun k => impl_readNodes.l1 k many l (i : Int) kc 0 x2 (q5 : Int) f5 nm (dir == 1) sz []) v → Ev (fun k => impl_readNodes.l0 k many l (i : Int) x2 (q : Int) false) v := by
    intro l many i v hi hi2 h
    exact hI l many i v hi hi2 (ev_if_neg (by simp) (ev_bind1 hw (Ev.step (fun k => by simp only [impl_readNodes.j2]; rfl) (Ev.bind d3 h))))
  by_cases hk0 : kc < 0
  · refine ⟨⟨nm, (dir == 1), sz, []⟩, q5, true, ⟨nm, (dir == 1), sz, []⟩, q5, true, h5, h5, okE, okE, .inr ⟨rfl, .inl rfl⟩, fun l n v hn hl h => hS l n v hn ?_, fun l many i v hi hi2 hl h => hJ l many i v hi hi2 ?_⟩
    · exact ev_if_neg (by omega) (ev_if_neg (by omega) (ev_if_pos hk0 (spec_bad x2 nm (dir == 1) f5 sz kc n l q5 v hl h)))
    · cases f5 with
      | true => exact impl_bad x2 nm (dir == 1) sz kc many i l q5 v hl h
      | false =>
        refine Ev.step (fun k => ?_) h
        simp only [impl_readNodes.l1, impl_size_string.f, Option.bind_some]
        rw [if_neg (by omega), if_neg (by simp), if_pos hl]
        have : (kc != (([] : List ByteArray).length : Int)) = true := bne_iff_ne.2 (by simp; omega)
        rw [this]
  by_cases hk1 : kc > 100
  · obtain ⟨ks', q', b', r1, r2, r3, r4⟩ := keys_many x2 hx nm (dir == 1) sz kc hk1 101 [] q5 f5 h5 rfl
    refine ⟨⟨nm, (dir == 1), sz, []⟩, q5, true, ⟨nm, (dir == 1), sz, ks'⟩, q', b', h5, r1, okE, ⟨hname, r2⟩, .inr ⟨rfl, r3⟩, fun l n v hn hl h => hS l n v hn ?_, fun l many i v hi hi2 hl h => hJ l many i v hi hi2 (r4 l many i v hl h)⟩
    refine ev_if_neg (by omega) (ev_if_neg (by omega) (ev_if_neg hk0 ?_))
    rw [decide_eq_true hk1]
    exact spec_bad x2 nm (dir == 1) f5 sz kc n l q5 v hl h
  obtain ⟨m, rfl⟩ : ∃ m : Nat, kc = (m : Int) := ⟨kc.toNat, by omega⟩
  obtain ⟨ks', q', b', r1, r2, r3, r4⟩ := keys_both x2 hx nm (dir == 1) sz m [] q5 f5 h5 (by simp; omega)
  have okK : Okp x2 (⟨nm, (dir == 1), sz, ks'⟩ : IN) := ⟨hname, by show ks'.length ≤ 101; omega⟩
  refine ⟨⟨nm, (dir == 1), sz, ks'⟩, q', b', ⟨nm, (dir == 1), sz, ks'⟩, q', b', r1, r1, okK, okK, .inl ⟨rfl, rfl, rfl⟩, fun l n v hn hl h => hS l n v hn ?_, fun l many i v hi hi2 hl h => hJ l many i v hi hi2 ?_⟩
  · refine ev_if_neg (by omega) (ev_if_neg (by omega) (ev_if_neg hk0 ?_))
    rw [decide_eq_false hk1]
    refine Ev.step (f := fun k => spec_l11Read.j5 k x2 l n (m : Int) x2 (q5 : Int) f5 nm (dir == 1) sz) (fun k => by simp only [spec_l11Read.j4]; rw [if_neg (by simp)]) ?_
    exact Ev.step (f := fun k => spec_l11Read.l1 k x2 l n (m : Int) x2 (q5 : Int) f5 nm (dir == 1) sz []) (fun k => by simp only [spec_l11Read.j5]) (r3 l n v hl h)
  · have := r4 l many i v hl h
    rwa [show ((([] : List ByteArray).length + m : Nat) : Int) = (m : Int) by simp] at this
theorem ok_snoc (x : ByteArray) (l : List IN) (p : IN) (hs : ∀ z ∈ l, Okp x z) (hp : Okp x p) : ∀ z ∈ l ++ [p], Okp x z := fun z hz => by
  rcases List.mem_append.1 hz with h | h
  · exact hs z h
  · obtain rfl := List.mem_singleton.1 h
    exact hp
/-- what the implementation comes to from anywhere. -/
theorem impl_any (x : ByteArray) (hx : x.size ≤ 20000) (many : Int) : ∀ (d i : Nat) (l : List IN) (q : Nat) (b : Bool), q ≤ x.size → i + d = 21 → l.length = i → (∀ p ∈ l, Okp x p) →
    ∃ (more : List IN) (q' : Nat) (b' : Bool), (b = true → b' = true) ∧ Ev (fun k => impl_readNodes.l0 k many l (i : Int) x (q : Int) b) (iFin x many (l ++ more) q' b') := by
  have stop : ∀ (i : Nat) (l : List IN) (q : Nat) (b : Bool), (∀ p ∈ l, Okp x p) → (∀ k, impl_readNodes.l0 (k + 1) many l (i : Int) x (q : Int) b = impl_readNodes.j1 k many l (i : Int) false x (q : Int) b) → ∃ (more : List IN) (q' : Nat) (b' : Bool), (b = true → b' = true) ∧ Ev (fun k => impl_readNodes.l0 k many l (i : Int) x (q : Int) b) (iFin x many (l ++ more) q' b') := by
    intro i l q b hs h
    refine ⟨[], q, b, fun h => h, Ev.step h ?_⟩
    rw [List.append_nil]
    exact iFin_ev x hx l many i q b hs
  intro d
  induction d with
  | zero =>
    intro i l q b hq hi hl hs
    refine stop i l q b hs (fun k => ?_)
    simp only [impl_readNodes.l0]
    by_cases c : (i : Int) < many
    · rw [if_pos c, if_neg (by omega)]
    · rw [if_neg c]
  | succ d ih =>
    intro i l q b hq hi hl hs
    by_cases c : (i : Int) < many
    rotate_left
    · exact stop i l q b hs (fun k => by simp only [impl_readNodes.l0]; rw [if_neg c])
    cases b with
    | true => exact stop i l q true hs (fun k => by simp only [impl_readNodes.l0]; rw [if_pos c, if_pos (by omega)]; rfl)
    | false =>
      obtain ⟨pS, qS, bS, pI, qI, bI, r1, r2, r3, r4, r5, r6, r7⟩ := step_node x hx q hq
      obtain ⟨more, q', b', g1, g2⟩ := ih (i + 1) (l ++ [pI]) qI bI r2 (by omega) (by simp [hl]) (ok_snoc x l pI hs r4)
      refine ⟨pI :: more, q', b', fun h => by simp at h, r7 l many i _ c (by omega) (by omega) ?_⟩
      rw [wnat i (by omega), show l ++ pI :: more = l ++ [pI] ++ more by simp]
      exact g2
theorem right_get (l : List IN) (h : nodesRight l = true) : l.length ≤ 20 ∧ ∀ x ∈ l, x.f3.length ≤ 100 := by
  unfold nodesRight at h
  simp only [Bool.and_eq_true, decide_eq_true_eq, List.all_eq_true] at h
  refine ⟨h.1, fun x hx => ?_⟩
  obtain ⟨i, hi, rfl⟩ := List.mem_iff_getElem.1 hx
  have h2 := h.2 i (List.mem_range.2 hi)
  unfold nodeAt at h2
  rw [Bool.and_eq_true] at h2
  have h3 := h2.1
  rw [List.getD_eq_getElem?_getD, List.getElem?_eq_getElem hi] at h3
  change nodeOk l[i] = true at h3
  unfold nodeOk restOk at h3
  simp only [Bool.and_eq_true, Bool.not_eq_true', Bool.or_eq_false_iff, decide_eq_false_iff_not] at h3
  have h4 := h3.2.2.2
  omega
theorem iFin_not (x : ByteArray) (many : Int) (l : List IN) (q : Nat) (b : Bool) (h : b = true ∨ nodesRight l = false) : iFin x many l q b = ([], false) := by
  unfold iFin
  rcases h with h | h
  · subst h
    rw [if_pos rfl]
    split <;> rfl
  · rw [h, if_neg (show ¬ (false = true) by decide)]
    repeat' (first | split | rfl)
theorem both (x : ByteArray) (hx : x.size ≤ 20000) (n : Nat) (hn : n ≤ 20) : ∀ (m i : Nat) (l : List IN) (q : Nat) (b : Bool), q ≤ x.size → i + m = n → l.length = i → (∀ p ∈ l, Okp x p) →
    ∃ s r : List IN × Bool, s.2 = r.2 ∧ (s.2 = true → s.1 = r.1 ∧ nodesRight s.1 = true) ∧ Ev (fun k => spec_l11Read.l0 k x l (m : Int) x (q : Int) b) s ∧ Ev (fun k => impl_readNodes.l0 k (n : Int) l (i : Int) x (q : Int) b) r := by
  intro m
  induction m with
  | zero =>
    intro i l q b hq hi hl hs
    refine ⟨sFin x l q b, iFin x (n : Int) l q b, ?_, ?_, ?_, ?_⟩
    · have hn' : (n : Int) = (l.length : Int) := by omega
      unfold sFin iFin
      rw [if_pos hn']
      cases b with
      | true => rfl
      | false =>
        by_cases c : q = x.size
        · cases hr : nodesRight l <;> simp [c, hr]
        · simp [c]
    · have hn' : (n : Int) = (l.length : Int) := by omega
      unfold sFin iFin
      rw [if_pos hn']
      cases b with
      | true => simp
      | false =>
        by_cases c : q = x.size
        · cases hr : nodesRight l <;> simp [c, hr]
        · simp [c]
    · refine Ev.step (f := fun k => spec_l11Read.j3 k x l ((0 : Nat) : Int) false x (q : Int) b) (fun k => by simp only [spec_l11Read.l0]; rw [if_neg (by omega)]) (sFin_ev x hx l _ q b hs)
    · exact Ev.step (f := fun k => impl_readNodes.j1 k (n : Int) l (i : Int) false x (q : Int) b) (fun k => by simp only [impl_readNodes.l0]; rw [if_neg (by omega)]) (iFin_ev x hx l _ i q b hs)
  | succ m ih =>
    intro i l q b hq hi hl hs
    have hin : (i : Int) < (n : Int) := by omega
    cases b with
    | true =>
      refine ⟨sFin x l q true, iFin x (n : Int) l q true, ?_, ?_, ?_, ?_⟩
      · rw [iFin_not _ _ _ _ _ (.inl rfl)]
        rfl
      · intro h
        exact absurd h (by simp [sFin])
      · exact Ev.step (f := fun k => spec_l11Read.j3 k x l ((m + 1 : Nat) : Int) false x (q : Int) true) (fun k => by simp only [spec_l11Read.l0]; rw [if_pos (by omega)]; rfl) (sFin_ev x hx l _ q true hs)
      · exact Ev.step (f := fun k => impl_readNodes.j1 k (n : Int) l (i : Int) false x (q : Int) true) (fun k => by simp only [impl_readNodes.l0]; rw [if_pos hin, if_pos (by omega)]; rfl) (iFin_ev x hx l _ i q true hs)
    | false =>
      obtain ⟨pS, qS, bS, pI, qI, bI, r1, r2, r3, r4, r5, r6, r7⟩ := step_node x hx q hq
      have e1 : wrap64 (((m + 1 : Nat) : Int) - 1) = (m : Int) := by rw [w64 (by omega) (by omega)]; omega
      rcases r5 with ⟨rfl, rfl, rfl⟩ | ⟨rfl, h5⟩
      · obtain ⟨s, r, g1, g2, g3, g4⟩ := ih (i + 1) (l ++ [pS]) qS bS r1 (by omega) (by simp [hl]) (ok_snoc x l pS hs r3)
        refine ⟨s, r, g1, g2, r6 l _ _ (by omega) (by omega) ?_, r7 l _ i _ hin (by omega) (by omega) ?_⟩
        · rw [e1]
          exact g3
        · rw [wnat i (by omega)]
          exact g4
      · obtain ⟨more, q', b', g1, g2⟩ := impl_any x hx (n : Int) (20 - i) (i + 1) (l ++ [pI]) qI bI r2 (by omega) (by simp [hl]) (ok_snoc x l pI hs r4)
        refine ⟨(l ++ [pS], false), ([], false), rfl, (fun h => absurd h (by simp)), r6 l _ _ (by omega) (by omega) ?_, r7 l _ i _ hin (by omega) (by omega) ?_⟩
        · rw [e1]
          have hz := sFin_ev x hx (l ++ [pS]) (m : Int) qS true (ok_snoc x l pS hs r3)
          refine Ev.step (f := fun k => spec_l11Read.j3 k x (l ++ [pS]) (m : Int) false x (qS : Int) true) (fun k => ?_) hz
          simp only [spec_l11Read.l0]
          split <;> rfl
        · rw [wnat i (by omega)]
          rw [iFin_not x (n : Int) (l ++ [pI] ++ more) q' b' ?_] at g2
          · exact g2
          · rcases h5 with h5 | h5
            · exact .inl (g1 h5)
            · refine .inr ?_
              cases hr : nodesRight (l ++ [pI] ++ more) with
              | false => rfl
              | true =>
                have := (right_get _ hr).2 pI (by simp)
                omega
theorem same (x : ByteArray) : ∃ v : List IN × Int, v.1.length ≤ 20 ∧ (∀ p ∈ v.1, p.f3.length ≤ 100) ∧ Ev (fun k => spec_NodesRead.f k x) v ∧ Ev (fun k => impl_NodesRead.f k x) v := by
  by_cases hl : (x.size : Int) > 20000
  · exact ⟨([], 2), by simp, by simp, ev_if_pos hl (Ev.now _), ev_bind1 (a := decide ((x.size : Int) > 20000)) rfl (ev_if_pos (decide_eq_true hl) (Ev.now _))⟩
  have hx : x.size ≤ 20000 := by omega
  have key : ∃ s r : List IN × Bool, s.2 = r.2 ∧ (s.2 = true → s.1 = r.1 ∧ nodesRight s.1 = true) ∧ Ev (fun k => spec_l11Read.f k x) s ∧ Ev (fun k => impl_readNodes.f k x) r := by
    obtain ⟨n, q, f, h3, _, b3s, b3i⟩ := num_two x hx 0 false (Nat.zero_le _)
    have hS : ∀ v, Ev (fun k => if n < 0 then (spec_l11Read.j0 k x [] n true x (q : Int) f) else (spec_l11Read.j0 k x [] n (decide (n > 20)) x (q : Int) f)) v → Ev (fun k => spec_l11Read.f k x) v := fun v hv => ev_bind1 (a := ([] : List IN)) rfl (Ev.bind b3s hv)
    have hI : ∀ v, Ev (fun k => impl_readNodes.l0 k n [] 0 x (q : Int) f) v → Ev (fun k => impl_readNodes.f k x) v := fun v hv => Ev.bind b3i hv
    have hbad : ∀ n : Int, Ev (fun k => spec_l11Read.j0 k x [] n true x (q : Int) f) (([] : List IN), false) := by
      intro n
      refine Ev.step (f := fun k => spec_l11Read.j1 k x [] n x (q : Int) true) (fun k => by simp only [spec_l11Read.j0]; rw [if_pos trivial]) ?_
      refine Ev.step (f := fun k => spec_l11Read.l0 k x [] n x (q : Int) true) (fun k => by simp only [spec_l11Read.j1]) ?_
      refine Ev.step (f := fun k => spec_l11Read.j3 k x [] n false x (q : Int) true) (fun k => by simp only [spec_l11Read.l0]; split <;> rfl) ?_
      have := sFin_ev x hx [] n q true (by simp)
      unfold sFin at this
      rw [if_pos rfl] at this
      exact this
    by_cases hn : n < 0
    · refine ⟨([], false), ([], false), rfl, (fun h => absurd h (by simp)), hS _ (ev_if_pos hn (hbad n)), hI _ ?_⟩
      refine Ev.step (f := fun k => impl_readNodes.j1 k n [] 0 false x (q : Int) f) (fun k => by simp only [impl_readNodes.l0]; rw [if_neg (by omega)]) ?_
      have := iFin_ev x hx [] n 0 q f (by simp)
      unfold iFin at this
      rw [if_neg (by simp; omega)] at this
      exact this
    obtain ⟨m, rfl⟩ : ∃ m : Nat, n = (m : Int) := ⟨n.toNat, by omega⟩
    by_cases hm : m > 20
    · obtain ⟨more, q', b', g1, g2⟩ := impl_any x hx (m : Int) 21 0 [] q f h3 (by omega) rfl (by simp)
      have hz : iFin x (m : Int) ([] ++ more) q' b' = ([], false) := by
        by_cases h1 : (m : Int) = (([] ++ more : List IN).length : Int)
        · refine iFin_not _ _ _ _ _ (.inr ?_)
          cases hr : nodesRight ([] ++ more) with
          | false => rfl
          | true =>
            have := (right_get _ hr).1
            omega
        · unfold iFin
          rw [if_neg h1]
      rw [hz] at g2
      exact ⟨([], false), ([], false), rfl, (fun h => absurd h (by simp)), hS _ (ev_if_neg hn (by rw [decide_eq_true (show (m : Int) > 20 by omega)]; exact hbad _)), hI _ g2⟩
    · obtain ⟨s, r, g1, g2, g3, g4⟩ := both x hx m (by omega) m 0 [] q f h3 (by omega) rfl (by simp)
      refine ⟨s, r, g1, g2, hS _ (ev_if_neg hn ?_), hI _ g4⟩
      rw [decide_eq_false (show ¬ (m : Int) > 20 by omega)]
      refine Ev.step (f := fun k => spec_l11Read.j1 k x [] (m : Int) x (q : Int) f) (fun k => by simp only [spec_l11Read.j0]; rw [if_neg (by simp)]) ?_
      exact Ev.step (f := fun k => spec_l11Read.l0 k x [] (m : Int) x (q : Int) f) (fun k => by simp only [spec_l11Read.j1]) g3
  obtain ⟨⟨s1, s2⟩, ⟨r1, r2⟩, h1, h2, h3, h4⟩ := key
  simp only at h1 h2
  subst h1
  cases s2 with
  | true =>
    obtain ⟨rfl, hr⟩ := h2 rfl
    have g := right_get _ hr
    exact ⟨(s1, 0), g.1, g.2, ev_if_neg hl (Ev.bind h3 (ev_if_pos rfl (Ev.now _))), ev_bind1 (a := decide ((x.size : Int) > 20000)) rfl (ev_if_neg (by simp; omega) (Ev.bind h4 (ev_if_pos rfl (Ev.now _))))⟩
  | false =>
    exact ⟨([], 3), by simp, by simp, ev_if_neg hl (Ev.bind h3 (ev_if_neg (by simp) (Ev.now _))), ev_bind1 (a := decide ((x.size : Int) > 20000)) rfl (ev_if_neg (by simp; omega) (Ev.bind h4 (ev_if_neg (by simp) (Ev.now _))))⟩
theorem FnExactNodesRead : laws_FnExactNodesRead.Pure := by
  intro x _
  refine Ev.rounds (g := fun k => laws_FnExactNodesRead.f k x) (Evs.ev ?_)
  unfold laws_FnExactNodesRead.f
  refine Evs.ite (fun _ => Evs.now _ rfl) (fun _ => ?_)
  obtain ⟨⟨l, c⟩, hlen, hks, hs, hi⟩ := same x
  simp only at hlen hks
  have he : Ev (fun k => laws_eqNodesOut.f k l c l c) true := by
    unfold laws_eqNodesOut.f
    exact Ev.bind (eqNodeS_refl l (by omega) (fun p hp => by have := hks p hp; omega)) (ev_if_pos rfl (ev_if_pos rfl (Ev.now _)))
  have hks' : ∀ p ∈ l, p.f3.length ≤ 1000 := fun p hp => by have := hks p hp; omega
  have hm : Ev (fun k => laws_markNodesOut.f k l c 1) (((offN l 1 l.length : Nat) : Int), markedN l 1) := markNodeS_ev l 1 (by omega) hks' (by omega)
  have hh : Ev (fun k => laws_heldNodesOut.f k (markedN l 1) c 1) ((offN l 1 l.length : Nat) : Int) := by
    unfold laws_heldNodesOut.f
    exact Ev.bind (heldNodeS_ev l 1 (by omega) hks' (by omega)) (ev_if_neg (by omega) (Ev.now _))
  exact ⟨true, Ev.bind hs (Ev.bind hi (Ev.bind he (ev_if_pos rfl (Ev.bind hm (Ev.bind hh (ev_if_neg (by omega) (ev_if_pos rfl (Ev.bind hi (Ev.bind he (ev_if_pos rfl (Ev.bind hh (ev_if_neg (by omega) (ev_if_pos rfl (Ev.now _)))))))))))))), rfl⟩
end Go.Proofs.Ytggbpjfgfenpdaa.Pure
