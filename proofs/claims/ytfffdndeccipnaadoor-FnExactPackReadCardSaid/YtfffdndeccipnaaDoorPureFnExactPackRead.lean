/- The plain law of FnExactPackRead: of every text PackRead reads the blobs that the reference reads, and what it gives shares nothing. -/
import Derived.Test.YtfffdndeccipnaaDoorPFnExactPackReadx14
import Derived.Test.YtfffdndeccipnaaDoorVLibFnExactPackRead
namespace Go.Proofs.YtfffdndeccipnaaDoor.Pure
open Go.RowKit Go.Proofs.YtfffdndeccipnaaDoor.PFnExactPackRead Go.Proofs.YtfffdndeccipnaaDoor.Lib Go.Proofs.YtfffdndeccipnaaDoorW.PrintWords Go.Proofs.YtfffdndeccipnaaDoorW.PrintLast Go.Proofs.YtfffdndeccipnaaDoorW.PrintMore
set_option linter.unusedVariables false
set_option linter.unusedSimpArgs false
/-- a loop whose rounds each go on or end. -/
theorem loop_evx {σ ρ : Type} (F : Nat → σ → Int → Option ρ) (n : Nat) (inv : Nat → σ → Prop) (Q : ρ → Prop)
    (hstep : ∀ (i : Nat) (s : σ), i < n → inv i s → (∃ s', inv (i + 1) s' ∧ ∀ v, Ev (fun k => F k s' ((i + 1 : Nat) : Int)) v → Ev (fun k => F k s (i : Int)) v) ∨ Evs (fun k => F k s (i : Int)) Q)
    (hend : ∀ (s : σ), inv n s → Evs (fun k => F k s (n : Int)) Q) : ∀ (s : σ), inv 0 s → Evs (fun k => F k s 0) Q := by
  have main : ∀ (d i : Nat) (s : σ), i + d = n → inv i s → Evs (fun k => F k s (i : Int)) Q := by
    intro d
    induction d with
    | zero =>
      intro i s hi hv
      obtain rfl : i = n := by omega
      exact hend s hv
    | succ d ih =>
      intro i s hi hv
      rcases hstep i s (by omega) hv with ⟨s', hs', hv'⟩ | h
      · obtain ⟨v, h1, h2⟩ := ih (i + 1) s' (by omega) hs'
        exact ⟨v, hv' v h1, h2⟩
      · exact h
  intro s hs
  exact main n 0 s (by omega) hs
theorem wnat' (i n : Nat) (hi : i < n) (hn : n ≤ 9223372036854775807) : wrap64 ((i : Int) + 1) = ((i + 1 : Nat) : Int) := by rw [w64 (by omega) (by omega)]; omega
/-- what is read of bytes: a code, the number's fold, and how many bytes. -/
def gN : Nat → Nat → List Nat → Int × Nat × Nat
  | _, _, [] => (4, 0, 0)
  | i, u, c :: cs => if i = 9 ∧ 1 < c then (3, 0, 0) else if c < 128 then (if c = 0 ∧ 0 < i then (3, 0, 0) else (0, u + c * 128 ^ i, i + 1)) else gN (i + 1) (u + (c - 128) * 128 ^ i) cs
theorem gN_ok : ∀ (l : List Nat) (i u : Nat), i ≤ 9 → u < 128 ^ i → (∀ c ∈ l, c < 256) → (gN i u l).1 = 0 → i < (gN i u l).2.2 ∧ (gN i u l).2.2 ≤ i + l.length ∧ (gN i u l).2.1 < 18446744073709551616 := by
  intro l
  induction l with
  | nil => intro i u _ _ _ h; simp [gN] at h
  | cons c cs ih =>
    intro i u hi hu hl h
    have hc := hl c (by simp)
    unfold gN at h ⊢
    by_cases h1 : i = 9 ∧ 1 < c
    · rw [if_pos h1] at h; simp at h
    rw [if_neg h1] at h ⊢
    have hp : 128 ^ i ≤ 128 ^ 9 := Nat.pow_le_pow_right (by decide) hi
    by_cases h2 : c < 128
    · rw [if_pos h2] at h ⊢
      by_cases h3 : c = 0 ∧ 0 < i
      · rw [if_pos h3] at h; simp at h
      rw [if_neg h3]
      refine ⟨by simp, by simp, ?_⟩
      show u + c * 128 ^ i < _
      by_cases h9 : i = 9
      · subst h9
        have : c ≤ 1 := by omega
        have : c * 128 ^ 9 ≤ 1 * 128 ^ 9 := Nat.mul_le_mul_right _ this
        omega
      · have hp8 : 128 ^ i ≤ 128 ^ 8 := Nat.pow_le_pow_right (by decide) (by omega)
        have : c * 128 ^ i ≤ 127 * 128 ^ 8 := Nat.mul_le_mul (by omega) hp8
        omega
    · rw [if_neg h2] at h ⊢
      have hi9 : i < 9 := by
        by_cases e : i = 9
        · exact absurd ⟨e, by omega⟩ h1
        · omega
      have hu' : u + (c - 128) * 128 ^ i < 128 ^ (i + 1) := by
        have : (c - 128) * 128 ^ i ≤ 127 * 128 ^ i := Nat.mul_le_mul_right _ (by omega)
        rw [Nat.pow_succ]
        omega
      obtain ⟨q1, q2, q3⟩ := ih (i + 1) _ (by omega) hu' (fun x hx => hl x (by simp [hx])) h
      exact ⟨by omega, by simp only [List.length_cons]; omega, q3⟩
/-- a number that was put is got back. -/
theorem gN_put (m : Nat) : ∀ (v i u : Nat) (rest : List Nat), i + m = 9 → v < 128 ^ (m + 1) → v * 128 ^ i < 18446744073709551616 → (0 < i → 0 < v) → gN i u ((numL v).map Int.toNat ++ rest) = (0, u + v * 128 ^ i, i + (numL v).length) := by
  induction m with
  | zero =>
    intro v i u rest hi hv hw h0
    obtain rfl : i = 9 := by omega
    have hv1 : v ≤ 1 := by omega
    rw [numL_lt (by omega)]
    simp only [List.map_cons, List.map_nil, List.cons_append, List.nil_append, Int.toNat_natCast, gN, List.length_cons, List.length_nil]
    rw [if_neg (by omega), if_pos (by omega), if_neg (by have := h0 (by omega); omega)]
  | succ m ih =>
    intro v i u rest hi hv hw h0
    by_cases h : v < 128
    · rw [numL_lt h]
      simp only [List.map_cons, List.map_nil, List.cons_append, List.nil_append, Int.toNat_natCast, gN, List.length_cons, List.length_nil]
      rw [if_neg (by omega), if_pos (by omega), if_neg (by intro q; have := h0 q.2; omega)]
    · rw [numL_ge h]
      simp only [List.map_cons, List.cons_append, Int.toNat_natCast, gN, List.length_cons]
      rw [if_neg (by omega), if_neg (by omega)]
      have e : v / 128 * 128 ^ (i + 1) + v % 128 * 128 ^ i = v * 128 ^ i := by
        rw [Nat.pow_succ, Nat.mul_comm (128 ^ i) 128, ← Nat.mul_assoc, ← Nat.add_mul]
        congr 1
        omega
      rw [ih (v / 128) (i + 1) _ rest (by omega) (by rw [Nat.div_lt_iff_lt_mul (by decide), ← Nat.pow_succ]; exact hv) (by omega) (by intro _; omega)]
      congr 2
      · have : v % 128 + 128 - 128 = v % 128 := by omega
        rw [this]
        omega
      · omega
/-- of a number whose last bytes are gone nothing is got. -/
theorem gN_short (m : Nat) : ∀ (v i u n : Nat), i + m = 9 → v < 128 ^ (m + 1) → n < (numL v).length → gN i u (((numL v).map Int.toNat).take n) = (4, 0, 0) := by
  induction m with
  | zero =>
    intro v i u n hi hv hn
    rw [numL_lt (Nat.lt_of_lt_of_le hv (by decide))] at hn ⊢
    obtain rfl : n = 0 := by simpa using hn
    rfl
  | succ m ih =>
    intro v i u n hi hv hn
    by_cases h : v < 128
    · rw [numL_lt h] at hn ⊢
      obtain rfl : n = 0 := by simpa using hn
      rfl
    · rw [numL_ge h] at hn ⊢
      cases n with
      | zero => rfl
      | succ n =>
        simp only [List.map_cons, List.take_succ_cons, Int.toNat_natCast, gN]
        rw [if_neg (by omega), if_neg (by omega)]
        exact ih (v / 128) (i + 1) _ n (by omega) (by rw [Nat.div_lt_iff_lt_mul (by decide), ← Nat.pow_succ]; exact hv) (by simpa using hn)
/-- the number of a fold. -/
def unfold' (u : Nat) : Int := if u % 2 = 1 then -((u / 2 : Nat) : Int) - 1 else ((u / 2 : Nat) : Int)
/-- a text as numbers. -/
def bl (t : ByteArray) : List Nat := t.data.toList.map UInt8.toNat
theorem bl_length (t : ByteArray) : (bl t).length = t.size := by unfold bl; rw [List.length_map]; exact data_length t
theorem bl_append (a b : ByteArray) : bl (a ++ b) = bl a ++ bl b := by simp [bl, ByteArray.data_append]
theorem bl_lt (t : ByteArray) : ∀ c ∈ bl t, c < 256 := by
  intro c hc
  obtain ⟨x, _, rfl⟩ := List.mem_map.1 hc
  exact x.toNat_lt
theorem bl_extract (t : ByteArray) (i j : Nat) : bl (t.extract i j) = ((bl t).take j).drop i := by
  simp only [bl, ByteArray.data_extract, Array.toList_extract, List.extract_eq_take_drop, List.map_take, List.map_drop]
  rw [List.drop_take]
theorem bl_inj {a b : ByteArray} (h : bl a = bl b) : a = b := by
  have h2 : a.data.toList = b.data.toList := by
    unfold bl at h
    exact (List.map_inj_right (fun x y q => UInt8.toNat_inj.1 q)).1 h
  cases a; cases b
  simp only at h2
  congr 1
  exact Array.toList_inj.1 h2
theorem bt_bl (t : ByteArray) (i : Nat) (h : i < t.size) : bt t (i : Int) = (((bl t)[i]'(by rw [bl_length]; exact h) : Nat) : Int) := by
  unfold bt
  simp only [Int.toNat_natCast]
  rw [dif_pos h]
  simp [bl]
  rfl
theorem bl_strOfNums (l : List Int) (h : ∀ x ∈ l, 0 ≤ x ∧ x < 256) : bl (strOfNums l) = l.map Int.toNat := by
  unfold bl strOfNums
  simp only [List.map_map]
  refine List.map_congr_left (fun x hx => ?_)
  have := h x hx
  simp only [Function.comp]
  rw [UInt8.toNat_ofNat']
  omega
theorem numL_range (m : Nat) : ∀ u, u < 128 ^ (m + 1) → ∀ x ∈ numL u, 0 ≤ x ∧ x < 256 := by
  induction m with
  | zero =>
    intro u hu x hx
    rw [numL_lt (by simpa using hu)] at hx
    simp at hx; subst hx
    simp at hu
    omega
  | succ m ih =>
    intro u hu x hx
    by_cases h : u < 128
    · rw [numL_lt h] at hx
      simp at hx; omega
    · rw [numL_ge h, List.mem_cons] at hx
      rcases hx with rfl | hx
      · omega
      · exact ih (u / 128) (by rw [Nat.div_lt_iff_lt_mul (by decide), ← Nat.pow_succ]; exact hu) x hx
theorem bl_putNum (n : Int) (h0 : -9223372036854775808 ≤ n) (h1 : n ≤ 9223372036854775807) : bl (putNum n) = (numL (fold n)).map Int.toNat :=
  bl_strOfNums _ (numL_range 9 _ (Nat.lt_of_lt_of_le (fold_lt n h0 h1) (by decide)))
theorem empty_list : ((⟨#[]⟩ : ByteArray).toList == ([] : List UInt8)) = true := by
  rw [ByteArray.toList_eq]; rfl
theorem not_empty (p : ByteArray) (h : 0 < p.size) : (p.toList == ([] : List UInt8)) = false := by
  refine beq_eq_false_iff_ne.2 (fun q => ?_)
  rw [ByteArray.toList_eq] at q
  have := congrArg List.length q
  rw [data_length] at this
  simp only [List.length_nil] at this
  omega
theorem extract_size (p : ByteArray) (n : Nat) (h : n ≤ p.size) : (p.extract 0 n).size = n := by
  rw [ByteArray.size_extract]; omega
theorem i64_xor_zero (x : Int) (h0 : -9223372036854775808 ≤ x) (h1 : x ≤ 9223372036854775807) : Go.bits .xor .i64 x 0 = x := by
  show IntKind.i64.wrap (((BitVec.ofInt 64 x) ^^^ (BitVec.ofInt 64 0)).toNat : Int) = x
  rw [show BitVec.ofInt 64 0 = 0#64 by decide, BitVec.xor_zero, BitVec.toNat_ofInt, i64_w]
  unfold wrap64
  omega
theorem i64_xor_ones (x : Int) (h0 : -9223372036854775808 ≤ x) (h1 : x ≤ 9223372036854775807) : Go.bits .xor .i64 x (-1) = -x - 1 := by
  show IntKind.i64.wrap (((BitVec.ofInt 64 x) ^^^ (BitVec.ofInt 64 (-1))).toNat : Int) = -x - 1
  rw [show BitVec.ofInt 64 (-1) = BitVec.allOnes 64 by decide, BitVec.xor_allOnes, BitVec.toNat_not, BitVec.toNat_ofInt, i64_w]
  unfold wrap64
  omega
theorem unfold_eq (u : Nat) (h : u < 18446744073709551616) : Go.bits .xor .i64 (wrap64 ((u : Int) / 2)) (wrap64 (-(wrap64 (Go.bits .and .u64 (u : Int) 1)))) = unfold' u := by
  have e : Go.bits .and .u64 (u : Int) 1 = ((u % 2 : Nat) : Int) := by
    refine (u64_and_nat u 1 h (by decide)).trans ?_
    rw [Nat.and_one_is_mod]
  rw [e, w64 (n := (u : Int) / 2) (by omega) (by omega), w64 (n := ((u % 2 : Nat) : Int)) (by omega) (by omega)]
  unfold unfold'
  by_cases q : u % 2 = 1
  · rw [if_pos q, q]
    rw [show wrap64 (-((1 : Nat) : Int)) = -1 by unfold wrap64; omega, i64_xor_ones _ (by omega) (by omega)]
    omega
  · rw [if_neg q, show u % 2 = 0 by omega]
    rw [show wrap64 (-((0 : Nat) : Int)) = 0 by unfold wrap64; omega, i64_xor_zero _ (by omega) (by omega)]
    omega
theorem or_shl (u c i : Nat) (hu : u < 128 ^ i) (h : i ≤ 8 ∧ c < 256 ∨ i = 9 ∧ c ≤ 1) : Go.bits .or .u64 (u : Int) (shl .u64 (IntKind.u64.wrap (Go.bits .and .u8 (c : Int) 127)) (wrap64 (7 * (i : Int)))) = ((u + c % 128 * 128 ^ i : Nat) : Int) := by
  have e1 : Go.bits .and .u8 (c : Int) 127 = ((c % 128 : Nat) : Int) := by
    refine (u8_and_nat c 127 (by omega) (by decide)).trans ?_
    rw [nat_mask7]
  have e2 : (2 : Nat) ^ (7 * i) = 128 ^ i := by rw [Nat.pow_mul]
  have hb : c % 128 * 128 ^ i < 18446744073709551616 := by
    rcases h with ⟨h, hc⟩ | ⟨rfl, hc⟩
    · have : 128 ^ i ≤ 128 ^ 8 := Nat.pow_le_pow_right (by decide) h
      have : c % 128 * 128 ^ i ≤ 127 * 128 ^ 8 := Nat.mul_le_mul (by omega) this
      omega
    · have : c % 128 * 128 ^ 9 ≤ 1 * 128 ^ 9 := Nat.mul_le_mul_right _ (by omega)
      omega
  have hub : u < 18446744073709551616 := by
    have : 128 ^ i ≤ 128 ^ 9 := Nat.pow_le_pow_right (by decide) (by omega)
    omega
  have e3 : shl .u64 (IntKind.u64.wrap (Go.bits .and .u8 (c : Int) 127)) (wrap64 (7 * (i : Int))) = ((c % 128 * 128 ^ i : Nat) : Int) := by
    rw [e1, w64 (by omega) (by omega)]
    unfold shl
    rw [show (7 * (i : Int)).toNat = 7 * i by omega, show IntKind.u64.bits = 64 from rfl, Nat.min_eq_left (by omega)]
    simp only [IntKind.wrap_u64]
    rw [show (2 : Int) ^ (7 * i) = ((128 ^ i : Nat) : Int) by rw [← e2]; simp]
    have : (((c % 128 : Nat) : Int) % 18446744073709551616) = ((c % 128 : Nat) : Int) := by omega
    rw [this, ← Int.natCast_mul]
    omega
  rw [e3, u64_or_nat _ _ hub hb, Nat.or_comm, nat_join (7 * i) _ _ (by rw [e2]; exact Nat.mul_mod_left _ _) (by rw [e2]; exact hu)]
  omega
/-- what is got of bytes: a number, the place behind it, a code. -/
def gout (p : Nat) (g : Int × Nat × Nat) : Int × Int × Int := if g.1 = 0 then (unfold' g.2.1, ((p + g.2.2 : Nat) : Int), 0) else (0, 0, g.1)
theorem getNum_i_l0 (x : ByteArray) (p : Nat) (hx : x.size ≤ 4611686018427387904) (hp : p ≤ 4611686018427387904) : ∀ (m i u : Nat), i + m = 9 → u < 128 ^ i → Ev (fun k => impl_getNum.l0 k x (p : Int) (u : Int) (i : Int)) (gout p (gN i u ((bl x).drop (p + i)))) := by
  intro m
  induction m with
  | zero =>
    intro i u hi hu
    obtain rfl : i = 9 := by omega
    by_cases h : p + 9 < x.size
    · have hc : p + 9 < (bl x).length := by rw [bl_length]; exact h
      have hb := bl_lt x (bl x)[p + 9] (List.getElem_mem hc)
      have hbt := bt_bl x (p + 9) h
      rw [List.drop_eq_getElem_cons hc]
      generalize (bl x)[p + 9] = c at hb hbt ⊢
      have e1 : wrap64 ((p : Int) + (9 : Nat)) = ((p + 9 : Nat) : Int) := by rw [w64 (by omega) (by omega)]; omega
      refine Ev.step (f := fun k => impl_getNum.j1 k x (p : Int) (Go.bits .or .u64 (u : Int) (shl .u64 (IntKind.u64.wrap (Go.bits .and .u8 (c : Int) 127)) (wrap64 (7 * ((9 : Nat) : Int))))) ((9 : Nat) : Int) (c : Int) (decide ((c : Int) > 1))) (fun k => ?_) ?_
      · simp only [impl_getNum.l0, impl_long.f, Option.bind_some, e1, hbt]
        rw [if_neg (by unfold wrap64; omega), if_pos (by omega), if_pos (by omega), if_pos (by rw [w64 (by omega) (by omega)]; omega), if_pos (by omega)]
      · by_cases h1 : 1 < c
        · rw [decide_eq_true (show (c : Int) > 1 by omega)]
          refine Ev.step (f := fun k => impl_getNum.j2 k x (p : Int) (Go.bits .or .u64 (u : Int) (shl .u64 (IntKind.u64.wrap (Go.bits .and .u8 (c : Int) 127)) (wrap64 (7 * ((9 : Nat) : Int))))) ((9 : Nat) : Int) (c : Int) true) (fun k => by simp only [impl_getNum.j1]; rw [if_pos trivial]) ?_
          refine Ev.step (f := fun _ => some (0, 0, 3)) (fun k => by simp only [impl_getNum.j2]; rw [if_pos trivial]) (ev_eq ?_)
          unfold gN
          rw [if_pos ⟨rfl, h1⟩]
          rfl
        · rw [decide_eq_false (show ¬ (c : Int) > 1 by omega), or_shl u c 9 hu (.inr ⟨rfl, by omega⟩), Nat.mod_eq_of_lt (show c < 128 by omega)]
          refine Ev.step (f := fun k => impl_getNum.j2 k x (p : Int) ((u + c * 128 ^ 9 : Nat) : Int) ((9 : Nat) : Int) (c : Int) (decide (c = 0))) (fun k => ?_) ?_
          · simp only [impl_getNum.j1]
            rw [if_neg (by simp)]
            by_cases h0 : c = 0
            · rw [if_pos (by omega), decide_eq_true h0]; rfl
            · rw [if_neg (by omega), decide_eq_false h0]
          · unfold gN
            rw [if_neg (by omega), if_pos (by omega)]
            by_cases h0 : c = 0
            · rw [decide_eq_true h0, if_pos ⟨h0, by decide⟩]
              exact Ev.step (f := fun _ => some (0, 0, 3)) (fun k => by simp only [impl_getNum.j2]; rw [if_pos trivial]) (ev_eq rfl)
            · rw [decide_eq_false h0, if_neg (fun q => h0 q.1)]
              refine Ev.step (f := fun _ => some (Go.bits .xor .i64 (wrap64 (((u + c * 128 ^ 9 : Nat) : Int) / 2)) (wrap64 (-(wrap64 (Go.bits .and .u64 ((u + c * 128 ^ 9 : Nat) : Int) 1)))), wrap64 ((wrap64 ((p : Int) + ((9 : Nat) : Int))) + 1), 0)) (fun k => ?_) (ev_eq ?_)
              · simp only [impl_getNum.j2]
                rw [if_neg (by simp), if_pos (by omega)]
              · have : c * 128 ^ 9 ≤ 1 * 128 ^ 9 := Nat.mul_le_mul_right _ (by omega)
                rw [unfold_eq _ (by omega), e1, w64 (by omega) (by omega)]
                unfold gout
                rw [if_pos rfl]
                simp only [Prod.mk.injEq, true_and]
                exact ⟨by omega, trivial⟩
    · rw [List.drop_eq_nil_of_le (by rw [bl_length]; omega)]
      refine Ev.step (f := fun _ => some (0, 0, 4)) (fun k => ?_) (ev_eq rfl)
      simp only [impl_getNum.l0, impl_long.f, Option.bind_some]
      rw [if_pos (by unfold wrap64; omega)]
  | succ m ih =>
    intro i u hi hu
    by_cases h : p + i < x.size
    · have hc : p + i < (bl x).length := by rw [bl_length]; exact h
      have hb := bl_lt x (bl x)[p + i] (List.getElem_mem hc)
      have hbt := bt_bl x (p + i) h
      rw [List.drop_eq_getElem_cons hc]
      generalize (bl x)[p + i] = c at hb hbt ⊢
      have e1 : wrap64 ((p : Int) + (i : Int)) = ((p + i : Nat) : Int) := by rw [w64 (by omega) (by omega)]; omega
      refine Ev.step (f := fun k => impl_getNum.j1 k x (p : Int) ((u + c % 128 * 128 ^ i : Nat) : Int) (i : Int) (c : Int) false) (fun k => ?_) ?_
      · simp only [impl_getNum.l0, impl_long.f, Option.bind_some, e1, hbt, or_shl u c i hu (.inl ⟨by omega, hb⟩)]
        rw [if_neg (by unfold wrap64; omega), if_pos (by omega), if_pos (by omega), if_pos (by rw [w64 (by omega) (by omega)]; omega), if_neg (by omega)]
      · unfold gN
        rw [if_neg (by omega)]
        by_cases h128 : c < 128
        · rw [Nat.mod_eq_of_lt h128, if_pos h128]
          refine Ev.step (f := fun k => impl_getNum.j2 k x (p : Int) ((u + c * 128 ^ i : Nat) : Int) (i : Int) (c : Int) (decide (c = 0 ∧ 0 < i))) (fun k => ?_) ?_
          · simp only [impl_getNum.j1]
            rw [if_neg (by simp)]
            by_cases h0 : c = 0
            · rw [if_pos (by omega)]
              congr 1
              by_cases hi0 : 0 < i
              · rw [decide_eq_true (show (i : Int) > 0 by omega), decide_eq_true ⟨h0, hi0⟩]
              · rw [decide_eq_false (show ¬ (i : Int) > 0 by omega), decide_eq_false (fun q => hi0 q.2)]
            · rw [if_neg (by omega), decide_eq_false (fun q => h0 q.1)]
          · by_cases h0 : c = 0 ∧ 0 < i
            · rw [decide_eq_true h0, if_pos h0]
              exact Ev.step (f := fun _ => some (0, 0, 3)) (fun k => by simp only [impl_getNum.j2]; rw [if_pos trivial]) (ev_eq rfl)
            · rw [decide_eq_false h0, if_neg h0]
              refine Ev.step (f := fun _ => some (Go.bits .xor .i64 (wrap64 (((u + c * 128 ^ i : Nat) : Int) / 2)) (wrap64 (-(wrap64 (Go.bits .and .u64 ((u + c * 128 ^ i : Nat) : Int) 1)))), wrap64 ((wrap64 ((p : Int) + (i : Int))) + 1), 0)) (fun k => ?_) (ev_eq ?_)
              · simp only [impl_getNum.j2]
                rw [if_neg (by simp), if_pos (by omega)]
              · have h8 : 128 ^ i ≤ 128 ^ 8 := Nat.pow_le_pow_right (by decide) (by omega)
                have : c * 128 ^ i ≤ 127 * 128 ^ 8 := Nat.mul_le_mul (by omega) h8
                rw [unfold_eq _ (by omega), e1, w64 (by omega) (by omega)]
                unfold gout
                rw [if_pos rfl]
                simp only [Prod.mk.injEq, true_and]
                exact ⟨by omega, trivial⟩
        · rw [if_neg h128, show c % 128 = c - 128 by omega]
          have hu' : u + (c - 128) * 128 ^ i < 128 ^ (i + 1) := by
            have : (c - 128) * 128 ^ i ≤ 127 * 128 ^ i := Nat.mul_le_mul_right _ (by omega)
            rw [Nat.pow_succ]
            omega
          have hr := ih (i + 1) (u + (c - 128) * 128 ^ i) (by omega) hu'
          refine Ev.step (f := fun k => impl_getNum.j2 k x (p : Int) ((u + (c - 128) * 128 ^ i : Nat) : Int) (i : Int) (c : Int) false) (fun k => ?_) ?_
          · simp only [impl_getNum.j1]
            rw [if_neg (by simp), if_neg (by omega)]
          · refine Ev.step (fun k => ?_) hr
            simp only [impl_getNum.j2]
            rw [if_neg (by simp), if_neg (by omega), wnat' i 10 (by omega) (by decide)]
    · rw [List.drop_eq_nil_of_le (by rw [bl_length]; omega)]
      refine Ev.step (f := fun _ => some (0, 0, 4)) (fun k => ?_) (ev_eq rfl)
      simp only [impl_getNum.l0, impl_long.f, Option.bind_some]
      rw [if_pos (by unfold wrap64; omega)]
theorem getNum_i (x : ByteArray) (p : Nat) (hx : x.size ≤ 4611686018427387904) (hp : p ≤ 4611686018427387904) : Ev (fun k => impl_getNum.f k x (p : Int)) (gout p (gN 0 0 ((bl x).drop p))) :=
  ev_if_neg (by omega) (getNum_i_l0 x p hx hp 9 0 0 rfl (by decide))
theorem tmod128 (c : Nat) : Int.tmod (c : Int) 128 = ((c % 128 : Nat) : Int) := by rw [Int.tmod_eq_emod_of_nonneg (by omega)]; omega
theorem u7_eq (i : Nat) (h : i ≤ 9) : IntKind.u64.wrap (wrap64 (7 * (i : Int))) = 7 * (i : Int) := by
  rw [w64 (by omega) (by omega)]
  simp only [IntKind.wrap_u64]
  omega
theorem shl_pow (a i : Nat) (hi : i ≤ 9) (h : a * 128 ^ i < 18446744073709551616) : shl .u64 (a : Int) (7 * (i : Int)) = ((a * 128 ^ i : Nat) : Int) := by
  have e2 : (2 : Nat) ^ (7 * i) = 128 ^ i := by rw [Nat.pow_mul]
  unfold shl
  rw [show (7 * (i : Int)).toNat = 7 * i by omega, show IntKind.u64.bits = 64 from rfl, Nat.min_eq_left (by omega)]
  rw [show (2 : Int) ^ (7 * i) = ((128 ^ i : Nat) : Int) by rw [← e2]; simp, ← Int.natCast_mul]
  generalize a * 128 ^ i = b at h ⊢
  simp only [IntKind.wrap_u64]
  omega
theorem add_shl (u c i : Nat) (hu : u < 128 ^ i) (h : i ≤ 8 ∧ c < 256 ∨ i = 9 ∧ c ≤ 1) : IntKind.u64.wrap ((u : Int) + (shl .u64 (Int.tmod (c : Int) 128) (IntKind.u64.wrap (wrap64 (7 * (i : Int)))))) = ((u + c % 128 * 128 ^ i : Nat) : Int) := by
  have hb : c % 128 * 128 ^ i + u < 18446744073709551616 := by
    rcases h with ⟨h, hc⟩ | ⟨rfl, hc⟩
    · have h8 : 128 ^ i ≤ 128 ^ 8 := Nat.pow_le_pow_right (by decide) h
      have : c % 128 * 128 ^ i ≤ 127 * 128 ^ 8 := Nat.mul_le_mul (by omega) h8
      omega
    · have : c % 128 * 128 ^ 9 ≤ 1 * 128 ^ 9 := Nat.mul_le_mul_right _ (by omega)
      omega
  rw [tmod128, u7_eq i (by omega), shl_pow _ i (by omega) (by omega)]
  generalize c % 128 * 128 ^ i = b at hb ⊢
  simp only [IntKind.wrap_u64]
  omega
theorem w_add (a b : Nat) (h : a + b ≤ 1000000) : wrap64 ((a : Int) + (b : Int)) = ((a + b : Nat) : Int) := by rw [w64 (by omega) (by omega)]; omega
theorem w_sub (a b : Nat) (h : a ≤ 1000000) (h2 : b ≤ 1000000) : wrap64 ((a : Int) - (b : Int)) = (a : Int) - (b : Int) := w64 (by omega) (by omega)
theorem u64_id (c : Nat) (h : c < 256) : IntKind.u64.wrap (c : Int) = (c : Int) := by simp only [IntKind.wrap_u64]; omega
theorem u7 (i : Nat) (h : i ≤ 9) : 0 ≤ IntKind.u64.wrap (wrap64 (7 * (i : Int))) := by
  rw [w64 (by omega) (by omega)]
  simp only [IntKind.wrap_u64]
  omega
theorem tmod2 (u : Nat) : Int.tmod (u : Int) 2 = ((u % 2 : Nat) : Int) := by rw [Int.tmod_eq_emod_of_nonneg (by omega)]; omega
theorem tdiv2 (u : Nat) (hu : u < 18446744073709551616) : IntKind.u64.wrap (Int.tdiv (u : Int) 2) = ((u / 2 : Nat) : Int) := by
  rw [Int.tdiv_eq_ediv_of_nonneg (by omega)]
  simp only [IntKind.wrap_u64]
  omega
theorem next_w (p i : Nat) (hp : p ≤ 20000) (hi : i ≤ 9) : wrap64 ((wrap64 ((p : Int) + (i : Int))) + 1) = ((p + (i + 1) : Nat) : Int) := by
  rw [w_add p i (by omega), w64 (by omega) (by omega)]
  omega
theorem neg_w (v : Nat) (hv : v < 9223372036854775808) : wrap64 ((wrap64 (-(wrap64 (v : Int)))) - 1) = -(v : Int) - 1 := by
  rw [w64 (n := (v : Int)) (by omega) (by omega), w64 (n := -(v : Int)) (by omega) (by omega), w64 (by omega) (by omega)]
theorem j2_s (p i u : Nat) (hu : u < 18446744073709551616) (hp : p ≤ 20000) (hi : i ≤ 9) (b : Bool) : Ev (fun k => spec_GetNum.j2 k (p : Int) (u : Int) (i : Int) b) (if b = true then (0, 0, 3) else (unfold' u, ((p + (i + 1) : Nat) : Int), 0)) := by
  cases b
  · refine Ev.step (f := fun _ => some (unfold' u, ((p + (i + 1) : Nat) : Int), 0)) (fun k => ?_) (ev_eq (by rw [if_neg (by simp)]))
    simp only [spec_GetNum.j2, tmod2, tdiv2 u hu, next_w p i hp hi]
    rw [if_neg (by simp)]
    unfold unfold'
    by_cases q : u % 2 = 1
    · rw [if_pos (by omega), if_pos q, neg_w (u / 2) (by omega)]
    · rw [if_neg (by omega), if_neg q, w64 (by omega) (by omega)]
  · exact Ev.step (f := fun _ => some (0, 0, 3)) (fun k => by simp only [spec_GetNum.j2]; rw [if_pos trivial]) (ev_eq (by rw [if_pos rfl]))
theorem j2_bad (p i u : Nat) (hu : u < 18446744073709551616) (hp : p ≤ 20000) (hi : i ≤ 9) : Ev (fun k => spec_GetNum.j2 k (p : Int) (u : Int) (i : Int) true) (0, 0, 3) := by
  have := j2_s p i u hu hp hi true
  rwa [if_pos rfl] at this
theorem j2_ok (p i u : Nat) (hu : u < 18446744073709551616) (hp : p ≤ 20000) (hi : i ≤ 9) : Ev (fun k => spec_GetNum.j2 k (p : Int) (u : Int) (i : Int) false) (unfold' u, ((p + (i + 1) : Nat) : Int), 0) := by
  have := j2_s p i u hu hp hi false
  rwa [if_neg (by simp)] at this
theorem gout_bad (p : Nat) : gout p (3, 0, 0) = (0, 0, 3) := rfl
theorem gout_short (p : Nat) : gout p (4, 0, 0) = (0, 0, 4) := rfl
theorem gout_good (p u n : Nat) : gout p (0, u, n) = (unfold' u, ((p + n : Nat) : Int), 0) := by unfold gout; rw [if_pos rfl]
/-- one byte of a number, as the reference reads it. -/
theorem getNum_s_end (x : ByteArray) (p i u c : Nat) (hp : p ≤ 20000) (hi : i ≤ 9) (hu : u < 128 ^ i) (h : i ≤ 8 ∧ c < 128 ∨ i = 9 ∧ c ≤ 1) : Ev (fun k => spec_GetNum.j1 k x (p : Int) (u : Int) (i : Int) (c : Int) false) (if c = 0 ∧ 0 < i then (0, 0, 3) else (unfold' (u + c * 128 ^ i), ((p + (i + 1) : Nat) : Int), 0)) := by
  have hc : c < 128 := by omega
  have hb : u + c * 128 ^ i < 18446744073709551616 := by
    rcases h with ⟨h, _⟩ | ⟨rfl, h1⟩
    · have h8 : 128 ^ i ≤ 128 ^ 8 := Nat.pow_le_pow_right (by decide) h
      have : c * 128 ^ i ≤ 127 * 128 ^ 8 := Nat.mul_le_mul (by omega) h8
      omega
    · have : c * 128 ^ 9 ≤ 1 * 128 ^ 9 := Nat.mul_le_mul_right _ h1
      omega
  have ha := add_shl u c i hu (by omega)
  rw [Nat.mod_eq_of_lt hc] at ha
  have hbad := j2_bad p i (u + c * 128 ^ i) hb hp hi
  have hok := j2_ok p i (u + c * 128 ^ i) hb hp hi
  generalize u + c * 128 ^ i = v at ha hbad hok ⊢
  have st : ∀ k, spec_GetNum.j1 (k + 1) x (p : Int) (u : Int) (i : Int) (c : Int) false = if (c : Int) = 0 then spec_GetNum.j2 k (p : Int) (v : Int) (i : Int) (decide ((i : Int) > 0)) else spec_GetNum.j2 k (p : Int) (v : Int) (i : Int) false := by
    intro k
    simp only [spec_GetNum.j1, ha]
    rw [if_neg (by simp), if_pos (u7 i hi)]
    exact if_pos (by clear ha; omega)
  clear ha
  by_cases h0 : c = 0
  · by_cases hi0 : 0 < i
    · rw [if_pos ⟨h0, hi0⟩]
      exact Ev.step (fun k => (st k).trans ((if_pos (by omega)).trans (by rw [decide_eq_true (show (i : Int) > 0 by omega)]))) hbad
    · rw [if_neg (fun q => hi0 q.2)]
      exact Ev.step (fun k => (st k).trans ((if_pos (by omega)).trans (by rw [decide_eq_false (show ¬ (i : Int) > 0 by omega)]))) hok
  · rw [if_neg (fun q => h0 q.1)]
    exact Ev.step (fun k => (st k).trans (if_neg (by omega))) hok
theorem getNum_s_more (x : ByteArray) (p i u c k : Nat) (hi : i ≤ 8) (hu : u < 128 ^ i) (hc : c < 256) (h : ¬ c < 128) : spec_GetNum.j1 (k + 1) x (p : Int) (u : Int) (i : Int) (c : Int) false = spec_GetNum.l0 k x (p : Int) ((u + (c - 128) * 128 ^ i : Nat) : Int) ((i + 1 : Nat) : Int) := by
  have ha := add_shl u c i hu (.inl ⟨hi, hc⟩)
  rw [show c % 128 = c - 128 by omega] at ha
  generalize u + (c - 128) * 128 ^ i = v at ha ⊢
  simp only [spec_GetNum.j1, ha]
  clear ha
  rw [if_neg (by simp), if_pos (u7 i (by omega)), if_neg (by omega), wnat' i 10 (by omega) (by decide)]
theorem getNum_s_in (x : ByteArray) (p i u c k : Nat) (hx : x.size ≤ 20000) (hp : p ≤ 20000) (hi : i ≤ 9) (h : p + i < x.size) (hbt : bt x ((p + i : Nat) : Int) = (c : Int)) (hc : c < 256) : spec_GetNum.l0 (k + 1) x (p : Int) (u : Int) (i : Int) = if i = 9 then spec_GetNum.j1 k x (p : Int) (u : Int) (i : Int) (c : Int) (decide (1 < c)) else spec_GetNum.j1 k x (p : Int) (u : Int) (i : Int) (c : Int) false := by
  simp only [spec_GetNum.l0, w_add p i (by omega), w_sub x.size i (by omega) (by omega), hbt, u64_id c hc]
  rw [if_pos (by omega), if_neg (by omega), if_pos (by omega), if_pos (by omega)]
  by_cases h9 : i = 9
  · rw [if_pos (by omega), if_pos h9]
    congr 1
    by_cases h1 : 1 < c
    · rw [decide_eq_true h1, decide_eq_true (by omega)]
    · rw [decide_eq_false h1, decide_eq_false (by omega)]
  · rw [if_neg (by omega), if_neg h9]
theorem getNum_s_out (x : ByteArray) (p i u k : Nat) (hx : x.size ≤ 20000) (hp : p ≤ 20000) (hi : i ≤ 9) (h : ¬ p + i < x.size) : spec_GetNum.l0 (k + 1) x (p : Int) (u : Int) (i : Int) = some (0, 0, 4) := by
  simp only [spec_GetNum.l0, w_sub x.size i (by omega) (by omega)]
  rw [if_pos (by omega), if_pos (by omega)]
theorem getNum_s_l0 (x : ByteArray) (p : Nat) (hx : x.size ≤ 20000) (hp : p ≤ 20000) : ∀ (m i u : Nat), i + m = 9 → u < 128 ^ i → Ev (fun k => spec_GetNum.l0 k x (p : Int) (u : Int) (i : Int)) (gout p (gN i u ((bl x).drop (p + i)))) := by
  intro m
  induction m with
  | zero =>
    intro i u hi hu
    have hi9 : i = 9 := by omega
    by_cases h : p + i < x.size
    · have hc : p + i < (bl x).length := by rw [bl_length]; exact h
      have hb := bl_lt x (bl x)[p + i] (List.getElem_mem hc)
      have hbt := bt_bl x (p + i) h
      rw [List.drop_eq_getElem_cons hc]
      generalize (bl x)[p + i] = c at hb hbt ⊢
      by_cases h1 : 1 < c
      · refine Ev.step (fun k => (getNum_s_in x p i u c k hx hp (by omega) h hbt hb).trans ((if_pos hi9).trans (by rw [decide_eq_true h1]))) (Ev.step (f := fun _ => some (0, 0, 3)) (fun k => by simp only [spec_GetNum.j1]; rw [if_pos trivial]) (ev_eq ?_))
        unfold gN
        rw [if_pos ⟨hi9, h1⟩, gout_bad]
      · refine Ev.step (fun k => (getNum_s_in x p i u c k hx hp (by omega) h hbt hb).trans ((if_pos hi9).trans (by rw [decide_eq_false h1]))) ?_
        have he := getNum_s_end x p i u c hp (by omega) hu (.inr ⟨hi9, by omega⟩)
        unfold gN
        rw [if_neg (fun q => h1 q.2), if_pos (by omega)]
        by_cases h0 : c = 0 ∧ 0 < i
        · rw [if_pos h0] at he ⊢
          rw [gout_bad]; exact he
        · rw [if_neg h0] at he ⊢
          rw [gout_good]; exact he
    · rw [List.drop_eq_nil_of_le (by rw [bl_length]; omega)]
      refine Ev.step (f := fun _ => some (0, 0, 4)) (fun k => getNum_s_out x p i u k hx hp (by omega) h) (ev_eq ?_)
      unfold gN
      rw [gout_short]
  | succ m ih =>
    intro i u hi hu
    by_cases h : p + i < x.size
    · have hc : p + i < (bl x).length := by rw [bl_length]; exact h
      have hb := bl_lt x (bl x)[p + i] (List.getElem_mem hc)
      have hbt := bt_bl x (p + i) h
      rw [List.drop_eq_getElem_cons hc]
      generalize (bl x)[p + i] = c at hb hbt ⊢
      have hi9 : ¬ i = 9 := by omega
      refine Ev.step (fun k => (getNum_s_in x p i u c k hx hp (by omega) h hbt hb).trans (if_neg hi9)) ?_
      unfold gN
      rw [if_neg (fun q => hi9 q.1)]
      by_cases h128 : c < 128
      · rw [if_pos h128]
        have he := getNum_s_end x p i u c hp (by omega) hu (.inl ⟨by omega, h128⟩)
        by_cases h0 : c = 0 ∧ 0 < i
        · rw [if_pos h0] at he ⊢
          rw [gout_bad]; exact he
        · rw [if_neg h0] at he ⊢
          rw [gout_good]; exact he
      · rw [if_neg h128]
        have hu' : u + (c - 128) * 128 ^ i < 128 ^ (i + 1) := by
          have : (c - 128) * 128 ^ i ≤ 127 * 128 ^ i := Nat.mul_le_mul_right _ (by omega)
          rw [Nat.pow_succ]
          omega
        exact Ev.step (fun k => getNum_s_more x p i u c k (by omega) hu hb h128) (ih (i + 1) (u + (c - 128) * 128 ^ i) (by omega) hu')
    · rw [List.drop_eq_nil_of_le (by rw [bl_length]; omega)]
      refine Ev.step (f := fun _ => some (0, 0, 4)) (fun k => getNum_s_out x p i u k hx hp (by omega) h) (ev_eq ?_)
      unfold gN
      rw [gout_short]
theorem getNum_s (x : ByteArray) (p : Nat) (hx : x.size ≤ 20000) (hp : p ≤ 20000) : Ev (fun k => spec_GetNum.f k x (p : Int)) (gout p (gN 0 0 ((bl x).drop p))) :=
  ev_if_neg (by omega) (ev_if_neg (by omega) (getNum_s_l0 x p hx hp 9 0 0 rfl (by decide)))
theorem within_eq (a b c : Int) : impl_within.f a b c = some (decide (b ≤ a) && decide (a ≤ c)) := by
  unfold impl_within.f
  by_cases h : a ≥ b <;> simp [h]
theorem unfold_range (u : Nat) (h : u < 18446744073709551616) : -9223372036854775808 ≤ unfold' u ∧ unfold' u ≤ 9223372036854775807 := by
  unfold unfold'
  split <;> omega
theorem unfold_fold (n : Int) : unfold' (fold n) = n := by
  unfold unfold' fold
  by_cases h : n < 0
  · rw [if_pos h, if_pos (by omega)]; omega
  · rw [if_neg h, if_neg (by omega)]; omega
/-- what is got of bytes as a number is right, if its code is. -/
theorem gout_ok (x : ByteArray) (p : Nat) (hp : p ≤ x.size) (h : (gout p (gN 0 0 ((bl x).drop p))).2.2 = 0) : ∃ (n : Int) (q : Nat), gout p (gN 0 0 ((bl x).drop p)) = (n, (q : Int), 0) ∧ p < q ∧ q ≤ x.size ∧ -9223372036854775808 ≤ n ∧ n ≤ 9223372036854775807 := by
  unfold gout at h ⊢
  by_cases c : (gN 0 0 ((bl x).drop p)).1 = 0
  · obtain ⟨q1, q2, q3⟩ := gN_ok ((bl x).drop p) 0 0 (by decide) (by decide) (fun c hc => bl_lt x c (List.mem_of_mem_drop hc)) c
    rw [if_pos c]
    have := unfold_range _ q3
    rw [List.length_drop, bl_length] at q2
    exact ⟨_, _, rfl, by omega, by omega, this.1, this.2⟩
  · rw [if_neg c] at h
    exact absurd h c
def tout (x : ByteArray) (r : Int × Int × Int) : ByteArray × Int × Int := if r.2.2 = 0 then (if 0 ≤ r.1 ∧ r.1 ≤ 20000 then (if r.2.1 + r.1 > (x.size : Int) then ((⟨#[]⟩ : ByteArray), 0, 4) else (x.extract r.2.1.toNat (r.2.1 + r.1).toNat, r.2.1 + r.1, 0)) else ((⟨#[]⟩ : ByteArray), 0, 3)) else ((⟨#[]⟩ : ByteArray), 0, r.2.2)
theorem getText_i (x : ByteArray) (p : Nat) (hx : x.size ≤ 4611686018427387904) (hp : p ≤ x.size) : Ev (fun k => impl_getText.f k x (p : Int)) (tout x (gout p (gN 0 0 ((bl x).drop p)))) := by
  have hg := getNum_i x p hx (by omega)
  have hok := gout_ok x p hp
  generalize gout p (gN 0 0 ((bl x).drop p)) = g at hg hok ⊢
  refine Ev.bind hg ?_
  by_cases c : g.2.2 = 0
  · obtain ⟨n, q, rfl, hq1, hq2, hn1, hn2⟩ := hok c
    refine ev_if_pos c (ev_bind1 (within_eq _ _ _) ?_)
    simp only
    by_cases c2 : 0 ≤ n ∧ n ≤ 20000
    · rw [decide_eq_true c2.1, decide_eq_true c2.2]
      refine ev_if_pos rfl (ev_bind1 rfl ?_)
      have e : wrap64 ((q : Int) + n) = (q : Int) + n := w64 (by omega) (by omega)
      rw [e]
      by_cases c3 : (q : Int) + n > (x.size : Int)
      · exact ev_if_pos c3 (ev_eq (by unfold tout; rw [if_pos rfl, if_pos c2, if_pos c3]))
      · exact ev_if_neg c3 (ev_if_pos (by omega) (ev_if_pos (by omega) (ev_if_pos (by omega) (ev_eq (by unfold tout; rw [if_pos rfl, if_pos c2, if_neg c3])))))
    · refine ev_if_neg ?_ (ev_eq (by unfold tout; rw [if_pos rfl, if_neg c2]))
      intro q
      simp only [Bool.and_eq_true, decide_eq_true_eq] at q
      exact c2 q
  · exact ev_if_neg c (ev_eq (by unfold tout; rw [if_neg c]))
def rNum (x : ByteArray) (p : Nat) (bad : Bool) : Int × ByteArray × Int × Bool := if bad = true then (0, x, (p : Int), true) else if (gout p (gN 0 0 ((bl x).drop p))).2.2 = 0 then ((gout p (gN 0 0 ((bl x).drop p))).1, x, (gout p (gN 0 0 ((bl x).drop p))).2.1, bad) else (0, x, (p : Int), true)
def rBytes (x : ByteArray) (p : Nat) (bad : Bool) (n : Nat) : ByteArray × ByteArray × Int × Bool := if bad = true then ((⟨#[]⟩ : ByteArray), x, (p : Int), true) else if p + n > x.size then ((⟨#[]⟩ : ByteArray), x, (p : Int), true) else (x.extract p (p + n), x, ((p + n : Nat) : Int), bad)
/-- where a reader stands. -/
def At (x : ByteArray) (s : ByteArray × Int × Bool) : Prop := ∃ (q : Nat) (b : Bool), s = (x, (q : Int), b) ∧ q ≤ x.size
theorem rNum_at (x : ByteArray) (p : Nat) (bad : Bool) (hp : p ≤ x.size) : At x (rNum x p bad).2 := by
  unfold rNum
  by_cases h : bad = true
  · rw [if_pos h]; exact ⟨p, true, rfl, hp⟩
  rw [if_neg h]
  by_cases c : (gout p (gN 0 0 ((bl x).drop p))).2.2 = 0
  · obtain ⟨n, q, e, h1, h2, _⟩ := gout_ok x p hp c
    rw [if_pos c, e]
    exact ⟨q, bad, rfl, h2⟩
  · rw [if_neg c]; exact ⟨p, true, rfl, hp⟩
theorem rBytes_at (x : ByteArray) (p : Nat) (bad : Bool) (n : Nat) (hp : p ≤ x.size) : At x (rBytes x p bad n).2 := by
  unfold rBytes
  by_cases h : bad = true
  · rw [if_pos h]; exact ⟨p, true, rfl, hp⟩
  rw [if_neg h]
  by_cases c : p + n > x.size
  · rw [if_pos c]; exact ⟨p, true, rfl, hp⟩
  · rw [if_neg c]; exact ⟨p + n, bad, rfl, by omega⟩
theorem num_i (x : ByteArray) (hx : x.size ≤ 20000) (p : Nat) (bad : Bool) (hp : p ≤ x.size) : Ev (fun k => impl_reader_num.f k x (p : Int) bad) (rNum x p bad) := by
  refine Ev.bind (getNum_i x p (by omega) (by omega)) ?_
  unfold rNum
  by_cases h : bad = true
  · exact ev_if_pos h (ev_eq (by rw [if_pos h]))
  · refine ev_if_neg h ?_
    by_cases c : (gout p (gN 0 0 ((bl x).drop p))).2.2 = 0
    · exact ev_if_pos c (ev_eq (by rw [if_neg h, if_pos c]))
    · exact ev_if_neg c (ev_eq (by rw [if_neg h, if_neg c]))
theorem bytes_i (x : ByteArray) (hx : x.size ≤ 20000) (p : Nat) (bad : Bool) (n : Nat) (hn : n ≤ 20000) (hp : p ≤ x.size) : impl_reader_take.f x (p : Int) bad (n : Int) = some (rBytes x p bad n) := by
  unfold impl_reader_take.f rBytes impl_long.f
  by_cases h : bad = true
  · rw [if_pos h, if_pos h]
  · rw [if_neg h, if_neg h, Option.bind_some, w64 (n := (x.size : Int) - (p : Int)) (by omega) (by omega), w64 (n := (p : Int) + (n : Int)) (by omega) (by omega), w64 (n := (p : Int) + (n : Int) - (n : Int)) (by omega) (by omega)]
    by_cases c : p + n > x.size
    · rw [if_pos (by omega), if_pos c]
    · rw [if_neg (by omega), if_pos (by omega), if_pos (by omega), if_pos (by omega), if_neg c, show ((p : Int) + (n : Int) - (n : Int)).toNat = p by omega, show ((p : Int) + (n : Int)).toNat = p + n by omega]
      rfl
def rText (x : ByteArray) (p : Nat) (bad : Bool) : ByteArray × ByteArray × Int × Bool := if bad = true then ((⟨#[]⟩ : ByteArray), x, (p : Int), true) else if (tout x (gout p (gN 0 0 ((bl x).drop p)))).2.2 = 0 then ((tout x (gout p (gN 0 0 ((bl x).drop p)))).1, x, (tout x (gout p (gN 0 0 ((bl x).drop p)))).2.1, bad) else ((⟨#[]⟩ : ByteArray), x, (p : Int), true)
theorem tout_ok (x : ByteArray) (p : Nat) (hp : p ≤ x.size) (h : (tout x (gout p (gN 0 0 ((bl x).drop p)))).2.2 = 0) : ∃ (t : ByteArray) (q : Nat), tout x (gout p (gN 0 0 ((bl x).drop p))) = (t, (q : Int), 0) ∧ q ≤ x.size ∧ t.size ≤ x.size := by
  have hok := gout_ok x p hp
  generalize gout p (gN 0 0 ((bl x).drop p)) = g at hok h ⊢
  unfold tout at h ⊢
  by_cases c : g.2.2 = 0
  · obtain ⟨n, q, rfl, h1, h2, _⟩ := hok c
    rw [if_pos c] at h ⊢
    simp only at h ⊢
    by_cases c2 : 0 ≤ n ∧ n ≤ 20000
    · rw [if_pos c2] at h ⊢
      by_cases c3 : (q : Int) + n > (x.size : Int)
      · rw [if_pos c3] at h; simp at h
      · rw [if_neg c3]
        refine ⟨_, ((q : Int) + n).toNat, by rw [show ((((q : Int) + n).toNat : Nat) : Int) = (q : Int) + n by omega], by omega, ?_⟩
        rw [ByteArray.size_extract]
        omega
    · rw [if_neg c2] at h; simp at h
  · rw [if_neg c] at h
    exact absurd h c
theorem rText_at (x : ByteArray) (p : Nat) (bad : Bool) (hp : p ≤ x.size) : At x (rText x p bad).2 ∧ (rText x p bad).1.size ≤ x.size := by
  unfold rText
  by_cases h : bad = true
  · rw [if_pos h]; exact ⟨⟨p, true, rfl, hp⟩, Nat.zero_le _⟩
  rw [if_neg h]
  by_cases c : (tout x (gout p (gN 0 0 ((bl x).drop p)))).2.2 = 0
  · obtain ⟨t, q, e, h1, h2⟩ := tout_ok x p hp c
    rw [if_pos c, e]
    exact ⟨⟨q, bad, rfl, h1⟩, h2⟩
  · rw [if_neg c]; exact ⟨⟨p, true, rfl, hp⟩, Nat.zero_le _⟩
theorem text_i (x : ByteArray) (hx : x.size ≤ 20000) (p : Nat) (bad : Bool) (hp : p ≤ x.size) : Ev (fun k => impl_reader_string.f k x (p : Int) bad) (rText x p bad) := by
  refine Ev.bind (getText_i x p (by omega) hp) ?_
  unfold rText
  generalize tout x (gout p (gN 0 0 ((bl x).drop p))) = r
  by_cases h : bad = true
  · exact ev_if_pos h (ev_eq (by rw [if_pos h]))
  · refine ev_if_neg h ?_
    by_cases c : r.2.2 = 0
    · exact ev_if_pos c (ev_eq (by rw [if_neg h, if_pos c]))
    · exact ev_if_neg c (ev_eq (by rw [if_neg h, if_neg c]))
theorem putNum_s_l0 (m : Nat) : ∀ (v k : Nat) (acc : List Int), v < 128 ^ (m + 1) → v < 18446744073709551616 → acc.length + m + 1 ≤ 140737488355328 → m < k → spec_PutNum.l0 k (v : Int) acc = some (strOfNums (acc ++ numL v)) := by
  induction m with
  | zero =>
    intro v k acc hv hv2 ha hk
    obtain ⟨k, rfl⟩ : ∃ m, k = m + 1 := ⟨k - 1, by omega⟩
    have hv' : v < 128 := by simpa using hv
    simp only [spec_PutNum.l0]
    rw [if_neg (by omega), if_pos (by omega), numL_lt hv']
    congr 4
    omega
  | succ m ih =>
    intro v k acc hv hv2 ha hk
    obtain ⟨k, rfl⟩ : ∃ m, k = m + 1 := ⟨k - 1, by omega⟩
    by_cases h : v < 128
    · simp only [spec_PutNum.l0]
      rw [if_neg (by omega), if_pos (by omega), numL_lt h]
      congr 4
      omega
    · have e1 : IntKind.u64.wrap (Int.tdiv (v : Int) 128) = ((v / 128 : Nat) : Int) := by
        rw [Int.tdiv_eq_ediv_of_nonneg (by omega), IntKind.wrap_u64]
        omega
      have e2 : (IntKind.u64.wrap ((Int.tmod (v : Int) 128) + 128)) % 256 = ((v % 128 + 128 : Nat) : Int) := by
        rw [Int.tmod_eq_emod_of_nonneg (by omega), IntKind.wrap_u64]
        omega
      simp only [spec_PutNum.l0, e1, e2]
      rw [if_pos (by omega), if_pos (by omega), ih (v / 128) k _ (by rw [Nat.div_lt_iff_lt_mul (by decide)]; rw [← Nat.pow_succ]; exact hv) (by omega) (by simp; omega) (by omega), numL_ge h]
      simp
theorem putNum_s (n : Int) (h0 : -9223372036854775808 ≤ n) (h1 : n ≤ 9223372036854775807) (k : Nat) (hk : 10 ≤ k) : spec_PutNum.f k n = some (putNum n) := by
  have e : spec_l01Fold.f n = some ((fold n : Nat) : Int) := by
    unfold spec_l01Fold.f fold
    by_cases h : n < 0
    · rw [if_pos h, if_pos h]
      simp only [IntKind.wrap_u64, wrap64]
      congr 1
      omega
    · rw [if_neg h, if_neg h]
      simp only [IntKind.wrap_u64]
      congr 1
      omega
  have hf := fold_lt n h0 h1
  unfold spec_PutNum.f
  rw [e, Option.bind_some, putNum_s_l0 9 _ k _ (Nat.lt_of_lt_of_le hf (by decide)) hf (by simp) (by omega)]
  simp [putNum]
theorem or128 (y : Nat) (h : y < 128) : Go.bits .or .u8 (((y : Nat) : Int) % 256) 128 = ((y + 128 : Nat) : Int) := by
  have e : ((y : Nat) : Int) % 256 = (y : Int) := by omega
  rw [e]
  refine (u8_or_nat y 128 (by omega) (by omega)).trans ?_
  have := nat_join 7 128 y (by decide) (by omega)
  rw [Nat.or_comm, this]
  congr 1
  omega
theorem putNum_i_l0 (m : Nat) : ∀ (v k : Nat) (acc : List Int), v < 128 ^ (m + 1) → v < 18446744073709551616 → acc.length + m + 1 ≤ 140737488355328 → m < k → impl_PutNum.l0 k (v : Int) acc = some (strOfNums (acc ++ numL v)) := by
  induction m with
  | zero =>
    intro v k acc hv hv2 ha hk
    obtain ⟨k, rfl⟩ : ∃ m, k = m + 1 := ⟨k - 1, by omega⟩
    have hv' : v < 128 := by simpa using hv
    simp only [impl_PutNum.l0]
    rw [if_neg (by omega), if_pos (by omega), numL_lt hv']
    congr 4
    omega
  | succ m ih =>
    intro v k acc hv hv2 ha hk
    obtain ⟨k, rfl⟩ : ∃ m, k = m + 1 := ⟨k - 1, by omega⟩
    by_cases h : v < 128
    · simp only [impl_PutNum.l0]
      rw [if_neg (by omega), if_pos (by omega), numL_lt h]
      congr 4
      omega
    · have e1 : (v : Int) / 128 = ((v / 128 : Nat) : Int) := by omega
      have e2 : Go.bits .or .u8 ((Go.bits .and .u64 (v : Int) 127) % 256) 128 = ((v % 128 + 128 : Nat) : Int) := by
        have e3 : Go.bits .and .u64 (v : Int) 127 = ((v % 128 : Nat) : Int) := by
          have := u64_and_nat v 127 hv2 (by decide)
          rw [nat_mask7] at this
          exact this
        rw [e3, or128 _ (by omega)]
      simp only [impl_PutNum.l0, e1, e2]
      rw [if_pos (by omega), if_pos (by omega), ih (v / 128) k _ (by rw [Nat.div_lt_iff_lt_mul (by decide)]; rw [← Nat.pow_succ]; exact hv) (by omega) (by simp; omega) (by omega), numL_ge h]
      simp
theorem fold_bits (n : Int) (h0 : -9223372036854775808 ≤ n) (h1 : n ≤ 9223372036854775807) : Go.bits .xor .u64 (IntKind.u64.wrap ((IntKind.u64.wrap n) * 2)) (IntKind.u64.wrap (n / 9223372036854775808)) = ((fold n : Nat) : Int) := by
  simp only [IntKind.wrap_u64]
  unfold fold
  by_cases h : n < 0
  · rw [if_pos h]
    have e1 : n / 9223372036854775808 % 18446744073709551616 = ((18446744073709551615 : Nat) : Int) := by omega
    have e2 : n % 18446744073709551616 * 2 % 18446744073709551616 = (((n % 18446744073709551616 * 2 % 18446744073709551616).toNat : Nat) : Int) := by omega
    rw [e1, e2, u64_xor_nat _ _ (by omega) (by omega), xor_ones _ (by omega)]
    omega
  · rw [if_neg h]
    have e1 : n / 9223372036854775808 % 18446744073709551616 = ((0 : Nat) : Int) := by omega
    have e2 : n % 18446744073709551616 * 2 % 18446744073709551616 = (((2 * n).toNat : Nat) : Int) := by omega
    rw [e1, e2, u64_xor_nat _ _ (by omega) (by omega)]
    simp
theorem putNum_i (n : Int) (h0 : -9223372036854775808 ≤ n) (h1 : n ≤ 9223372036854775807) (k : Nat) (hk : 10 ≤ k) : impl_PutNum.f k n = some (putNum n) := by
  have hf := fold_lt n h0 h1
  unfold impl_PutNum.f
  rw [fold_bits n h0 h1, putNum_i_l0 9 _ k _ (Nat.lt_of_lt_of_le hf (by decide)) hf (by simp) (by omega)]
  simp [putNum]
theorem sn_len (l : List Int) : (strOfNums l).size = l.length := by
  unfold strOfNums
  show (List.toArray _).size = _
  simp
theorem outK_rng (S T : List Int) : ∀ n, ∀ x ∈ Hand.outK S T n, 0 ≤ x ∧ x < 4294967296
  | 0, x, h => by simp [Hand.outK] at h
  | n + 1, x, h => by
    rw [Hand.outK, List.mem_append] at h
    rcases h with h | h
    · exact outK_rng S T n x h
    · obtain rfl := List.mem_singleton.1 h
      omega
theorem taken_rng (s : List Int) (b : ByteArray) (hs : s.length = 8) : ∀ x ∈ Hand.takenL s b, 0 ≤ x ∧ x < 4294967296 := by
  have hT : (Hand.sAll (Hand.wAll b 64) s 64).length = 8 := by
    obtain ⟨a, b1, c, d, e, f, g, h, eS⟩ := Hand.sAll_eight (Hand.wAll b 64) s hs 64
    rw [eS]; rfl
  unfold Hand.takenL
  rw [← Hand.outK_eq s _ hs hT]
  exact outK_rng _ _ 8
theorem eat_rng (s : List Int) (b : ByteArray) (hs : s.length = 8) (hr : ∀ x ∈ s, 0 ≤ x ∧ x < 4294967296) : ∀ n, ∀ x ∈ Hand.eat s b n, 0 ≤ x ∧ x < 4294967296
  | 0 => hr
  | n + 1 => taken_rng _ _ (by rw [Hand.eat_length]; exact hs)
theorem map_mod (s : List Int) (hr : ∀ x ∈ s, 0 ≤ x ∧ x < 4294967296) : s.map (· % 4294967296) = s := by
  have : s.map (· % 4294967296) = s.map id := List.map_congr_left (fun x hx => by have := hr x hx; simp only [id]; omega)
  rw [this, List.map_id]
theorem block_ok (s : List Int) (b : ByteArray) (hs : s.length = 8) (hr : ∀ x ∈ s, 0 ≤ x ∧ x < 4294967296) (hb : b.size = 64) : spec_l05Block.f s b = some (Hand.takenL s b) := by
  unfold spec_l05Block.f
  rw [if_pos ⟨hs, hb⟩, map_mod s hr]
theorem more_l (s : List Int) (t : ByteArray) (n : Int) (hs : s.length = 8) (hr : ∀ x ∈ s, 0 ≤ x ∧ x < 4294967296) (ht : t.size ≤ 2147483648) : ∀ (d i : Nat), i + d = t.size / 64 →
    Ev (fun k => spec_l05More.l0 k ((64 * i : Nat) : Int) (Hand.eat s t i) t n) (Hand.eat s t (t.size / 64), t.extract (64 * (t.size / 64)) t.size, n) := by
  intro d
  induction d with
  | zero =>
    intro i hi
    obtain rfl : i = t.size / 64 := by omega
    refine Ev.step (f := fun _ => some (Hand.eat s t (t.size / 64), t.extract (64 * (t.size / 64)) t.size, n)) (fun k => ?_) (Ev.now _)
    simp only [spec_l05More.l0]
    rw [w64 (by omega) (by omega), if_neg (by omega), if_pos (by omega), if_pos (by omega), Int.toNat_natCast]
  | succ d ih =>
    intro i hi
    have hr1 := ih (i + 1) (by omega)
    have ew : wrap64 (((64 * i : Nat) : Int) + 64) = ((64 * (i + 1) : Nat) : Int) := by rw [w64 (by omega) (by omega)]; omega
    have hb : (t.extract (64 * i) (64 * i + 64)).size = 64 := by rw [ByteArray.size_extract]; omega
    refine Ev.step (fun k => ?_) hr1
    simp only [spec_l05More.l0]
    rw [ew, w64 (by omega) (by omega), if_pos (by omega), if_pos (by omega), if_pos (by omega), if_pos (by omega), Int.toNat_natCast, Int.toNat_natCast]
    rw [show 64 * (i + 1) = 64 * i + 64 from rfl, block_ok _ _ (by rw [Hand.eat_length]; exact hs) (eat_rng s t hs hr i) hb, Option.bind_some]
    rfl
theorem more_ok (s : List Int) (r m : ByteArray) (n : Int) (hs : s.length = 8) (hr : ∀ x ∈ s, 0 ≤ x ∧ x < 4294967296) (hn : 0 ≤ n) (hn2 : n ≤ 1073741824) (hrs : r.size ≤ 1000) (hms : m.size ≤ 1073741824) :
    Ev (fun k => spec_l05More.f k s r n m) (Hand.eat s (r ++ m) ((r ++ m).size / 64), (r ++ m).extract (64 * ((r ++ m).size / 64)) (r ++ m).size, n + (m.size : Int)) := by
  unfold spec_l05More.f
  refine ev_bind1 rfl (ev_if_pos (by simp [hs]) (ev_if_pos (by omega) ?_))
  rw [w64 (by omega) (by omega), List.nil_append]
  have h := more_l s (r ++ m) (n + (m.size : Int)) hs hr (by rw [ByteArray.size_append]; omega) ((r ++ m).size / 64) 0 (by omega)
  exact h
/-- the bytes of a length in bits. -/
def lenL (n : Int) : Nat → List Int
  | 0 => []
  | j + 1 => lenL n j ++ [(wrap64 (n * 8) / 2 ^ (8 * (7 - j))) % 256]
theorem lenL_length (n : Int) : ∀ j, (lenL n j).length = j
  | 0 => rfl
  | j + 1 => by rw [lenL, List.length_append, lenL_length n j]; rfl
theorem lenL_rng (n : Int) : ∀ j, ∀ x ∈ lenL n j, 0 ≤ x ∧ x < 256
  | 0, x, h => by simp [lenL] at h
  | j + 1, x, h => by
    rw [lenL, List.mem_append] at h
    rcases h with h | h
    · exact lenL_rng n j x h
    · obtain rfl := List.mem_singleton.1 h
      omega
theorem bl_lenB (n : Int) : ∀ j, bl (Hand.lenB n j) = (lenL n j).map Int.toNat
  | 0 => rfl
  | j + 1 => by
    rw [Hand.lenB, bl_append, bl_lenB n j, lenL, List.map_append, bl_strOfNums _ (fun x hx => by obtain rfl := List.mem_singleton.1 hx; omega)]
theorem bl_zeros : ∀ z, bl (Hand.zeros z) = List.replicate z 0
  | 0 => rfl
  | z + 1 => by
    have h := bl_zeros z
    unfold Hand.zeros bl at h ⊢
    rw [Lib.repeatL, List.replicate_succ, ← h]
    rfl
def zs (r : ByteArray) : Nat := (120 - (r.size + 1)) % 64
def padL (r : ByteArray) (n : Int) : List Int := [128] ++ List.replicate (zs r) 0 ++ lenL n 8
theorem pad_eq (r : ByteArray) (n : Int) : r ++ strOfNums (padL r n) = Hand.pad r n := by
  apply bl_inj
  have hrng : ∀ x ∈ padL r n, 0 ≤ x ∧ x < 256 := by
    intro x hx
    unfold padL at hx
    rw [List.mem_append, List.mem_append] at hx
    rcases hx with (h | h) | h
    · obtain rfl := List.mem_singleton.1 h
      omega
    · have := (List.mem_replicate.1 h).2
      omega
    · exact lenL_rng n 8 x h
  rw [bl_append, bl_strOfNums _ hrng]
  unfold Hand.pad Hand.pad2 Hand.pad1
  rw [bl_append, bl_append, bl_append, bl_zeros, bl_lenB]
  unfold padL zs
  rw [List.map_append, List.map_append, List.map_replicate]
  simp only [List.append_assoc]
  rfl
theorem out_l (A : List Int) (r : ByteArray) (n : Int) (hA : A.length = 8) : ∀ (d i : Nat), i + d = 8 → Ev (fun k => spec_l05End.l2 k (Hand.outL A i) (i : Int) A r n) (strOfNums (Hand.outL A 8)) := by
  intro d
  induction d with
  | zero =>
    intro i hi
    obtain rfl : i = 8 := by omega
    refine Ev.step (f := fun _ => some (strOfNums (Hand.outL A 8))) (fun k => ?_) (Ev.now _)
    simp only [spec_l05End.l2]
    rw [if_neg (by omega)]
  | succ d ih =>
    intro i hi
    have hr := ih (i + 1) (by omega)
    have hl := Hand.outL_length A i
    refine Ev.step (fun k => ?_) hr
    simp only [spec_l05End.l2]
    rw [if_pos (by omega), if_pos (by omega), if_pos (by omega), Option.bind_some, if_pos (by simp; omega), w64 (by omega) (by omega)]
    rfl
theorem sh_ok (n : Int) (j : Nat) (hj : j < 8) (h0 : 0 ≤ n) (h1 : n ≤ 1073741824) : shr .u64 (IntKind.u64.wrap (wrap64 (8 * n))) (IntKind.u64.wrap (((8 * (7 - j) : Nat) : Int))) % 256 = (wrap64 (n * 8) / 2 ^ (8 * (7 - j))) % 256 := by
  rw [w64 (by omega) (by omega), w64 (by omega) (by omega), IntKind.wrap_u64, IntKind.wrap_u64]
  unfold shr
  rw [show (8 * n) % 18446744073709551616 = n * 8 by omega, show (((8 * (7 - j) : Nat) : Int)) % 18446744073709551616 = ((8 * (7 - j) : Nat) : Int) by omega, Int.toNat_natCast]
  rw [show min (8 * (7 - j)) IntKind.u64.bits = 8 * (7 - j) by show min _ 64 = _; omega]
theorem end_l1 (s : List Int) (r : ByteArray) (n : Int) (hs : s.length = 8) (hr : ∀ x ∈ s, 0 ≤ x ∧ x < 4294967296) (h0 : 0 ≤ n) (h1 : n ≤ 1000000) (hrs : r.size ≤ 1000) : ∀ (d j : Nat), j + d = 8 →
    Ev (fun k => spec_l05End.l1 k ([128] ++ List.replicate (zs r) 0 ++ lenL n j) (IntKind.u64.wrap (wrap64 (8 * n))) (56 - 8 * (j : Int)) s r n) (Hand.summedL s r n) := by
  have hz : zs r < 64 := by unfold zs; omega
  intro d
  induction d with
  | zero =>
    intro j hj
    obtain rfl : j = 8 := by omega
    have hm : (strOfNums (padL r n)).size ≤ 1073741824 := by
      rw [sn_len]; unfold padL; simp only [List.length_append, List.length_replicate, lenL_length, List.length_singleton]; omega
    have h := more_ok s r (strOfNums (padL r n)) n hs hr h0 (by omega) hrs hm
    rw [pad_eq] at h
    refine Ev.step (f := fun k => (spec_l05More.f k s r n (strOfNums (padL r n))).bind fun bt126 => (spec_l05End.l2 k (([] : List Int)) 0 bt126.1 bt126.2.1 bt126.2.2)) (fun k => ?_) (Ev.bind h ?_)
    · simp only [spec_l05End.l1]
      rw [if_neg (by omega)]
      rfl
    · have ho := out_l (Hand.eat s (Hand.pad r n) ((Hand.pad r n).size / 64)) ((Hand.pad r n).extract (64 * ((Hand.pad r n).size / 64)) (Hand.pad r n).size) (n + ((strOfNums (padL r n)).size : Int)) (by rw [Hand.eat_length]; exact hs) 8 0 (by omega)
      exact ho
  | succ d ih =>
    intro j hj
    have h := ih (j + 1) (by omega)
    have e1 : (56 - 8 * (j : Int)) = ((8 * (7 - j) : Nat) : Int) := by omega
    have e2 : wrap64 (((8 * (7 - j) : Nat) : Int) - 8) = 56 - 8 * ((j + 1 : Nat) : Int) := by rw [w64 (by omega) (by omega)]; omega
    refine Ev.step (fun k => ?_) h
    simp only [spec_l05End.l1, e1]
    rw [if_pos (by omega), if_pos (by rw [IntKind.wrap_u64]; omega), if_pos (by simp only [List.length_append, List.length_replicate, lenL_length, List.length_singleton]; omega), sh_ok n j (by omega) h0 (by omega), e2, lenL, List.append_assoc ([128] ++ List.replicate (zs r) 0)]
theorem end_ok (s : List Int) (r : ByteArray) (n : Int) (hs : s.length = 8) (hr : ∀ x ∈ s, 0 ≤ x ∧ x < 4294967296) (h0 : 0 ≤ n) (h1 : n ≤ 1000000) (hrn : (r.size : Int) = n % 64) : Ev (fun k => spec_l05End.f k s r n) (Hand.summedL s r n) := by
  have hz : zs r = (120 - (r.size + 1)) % 64 := rfl
  have hz2 : zs r < 64 := by omega
  have main : ∀ (d j : Nat), j + d = zs r → Ev (fun k => spec_l05End.l0 k ([128] ++ List.replicate j 0) s r n) (Hand.summedL s r n) := by
    intro d
    induction d with
    | zero =>
      intro j hj
      obtain rfl : j = zs r := by omega
      have h := end_l1 s r n hs hr h0 h1 (by omega) 8 0 (by omega)
      refine Ev.step (fun k => ?_) h
      simp only [spec_l05End.l0]
      rw [w64 (by simp only [List.length_append, List.length_replicate, List.length_singleton]; omega) (by simp only [List.length_append, List.length_replicate, List.length_singleton]; omega), Int.tmod_eq_emod_of_nonneg (by omega), if_pos (by simp only [List.length_append, List.length_replicate, List.length_singleton]; omega)]
      simp only [lenL, List.append_nil]
      rfl
    | succ d ih =>
      intro j hj
      have h := ih (j + 1) (by omega)
      refine Ev.step (fun k => ?_) h
      simp only [spec_l05End.l0]
      rw [w64 (by simp only [List.length_append, List.length_replicate, List.length_singleton]; omega) (by simp only [List.length_append, List.length_replicate, List.length_singleton]; omega), Int.tmod_eq_emod_of_nonneg (by omega), if_neg (by simp only [List.length_append, List.length_replicate, List.length_singleton]; omega), if_pos (by simp only [List.length_append, List.length_replicate, List.length_singleton]; omega)]
      rw [List.append_assoc, ← List.replicate_succ']
  have h := main (zs r) 0 (by omega)
  unfold spec_l05End.f
  exact h
theorem first_ok : Hand.firstL.length = 8 ∧ ∀ x ∈ Hand.firstL, 0 ≤ x ∧ x < 4294967296 := by decide
theorem nil_app (a : ByteArray) : (⟨#[]⟩ : ByteArray) ++ a = a := bl_inj (by rw [bl_append]; rfl)
theorem digest_i (a : ByteArray) (h : a.size ≤ 20000) : impl_digest.f a = some (Hand.digestL a) := by
  unfold impl_digest.f
  rw [if_pos (by omega)]
theorem digest_size (a : ByteArray) : (Hand.digestL a).size = 32 := by
  unfold Hand.digestL Hand.summedL
  rw [sn_len, Hand.outL_length]
theorem digest_s (a : ByteArray) (h : a.size ≤ 20000) : Ev (fun k => spec_Digest.f k a) (Hand.digestL a) := by
  unfold spec_Digest.f
  refine ev_if_neg (by omega) (ev_bind1 rfl ?_)
  have hm := more_ok Hand.firstL ⟨#[]⟩ a 0 first_ok.1 first_ok.2 (by omega) (by omega) (by show 0 ≤ 1000; omega) (by omega)
  rw [nil_app, Int.zero_add] at hm
  refine Ev.bind hm ?_
  have he := end_ok (Hand.eat Hand.firstL a (a.size / 64)) (a.extract (64 * (a.size / 64)) a.size) (a.size : Int) (by rw [Hand.eat_length]; exact first_ok.1) (eat_rng _ _ first_ok.1 first_ok.2 _) (by omega) (by omega) (by rw [ByteArray.size_extract]; omega)
  exact Ev.bind he (Ev.now _)
theorem ba_inj {a b : ByteArray} (h : a.toList = b.toList) : a = b := by
  rw [ByteArray.toList_eq, ByteArray.toList_eq] at h
  exact ByteArray.ext (Array.toList_inj.1 h)
def keyB (kind : Int) (text : ByteArray) : ByteArray := Hand.digestL (putNum kind ++ text)
/-- a number at a place, and the place behind it. -/
def rdn (x : ByteArray) (p : Nat) : Option (Int × Nat) := if (gout p (gN 0 0 ((bl x).drop p))).2.2 = 0 then some ((gout p (gN 0 0 ((bl x).drop p))).1, (gout p (gN 0 0 ((bl x).drop p))).2.1.toNat) else none
theorem rdn_cases (x : ByteArray) (p : Nat) (hp : p ≤ x.size) : (∃ (n : Int) (q : Nat), rdn x p = some (n, q) ∧ gout p (gN 0 0 ((bl x).drop p)) = (n, (q : Int), 0) ∧ p < q ∧ q ≤ x.size ∧ -9223372036854775808 ≤ n ∧ n ≤ 9223372036854775807) ∨ (rdn x p = none ∧ (gout p (gN 0 0 ((bl x).drop p))).2.2 ≠ 0) := by
  unfold rdn
  by_cases c : (gout p (gN 0 0 ((bl x).drop p))).2.2 = 0
  · obtain ⟨n, q, e, h1, h2, h3, h4⟩ := gout_ok x p hp c
    refine Or.inl ⟨n, q, ?_, e, h1, h2, h3, h4⟩
    rw [if_pos c, e]
    simp
  · exact Or.inr ⟨if_neg c, c⟩
/-- the record at a place: kind, text, key, the text's place, and the place behind it. -/
def recAt (x : ByteArray) (p : Nat) : Option (Int × ByteArray × ByteArray × Nat × Nat) :=
  if p + 33 ≤ x.size ∧ bt x (p : Int) = 66 then
    (rdn x (p + 33)).bind fun a => if a.1 = 1 ∨ a.1 = 2 then (rdn x a.2).bind fun b => if 0 ≤ b.1 ∧ b.1 ≤ 2000 ∧ (b.2 : Int) + b.1 ≤ (x.size : Int) then (if keyB a.1 (x.extract b.2 (b.2 + b.1.toNat)) = x.extract (p + 1) (p + 33) then some (a.1, x.extract b.2 (b.2 + b.1.toNat), x.extract (p + 1) (p + 33), b.2, b.2 + b.1.toNat) else none) else none else none
  else none
theorem recAt_some (x : ByteArray) (p : Nat) (kind : Int) (text key : ByteArray) (a b : Nat) (h : recAt x p = some (kind, text, key, a, b)) : (kind = 1 ∨ kind = 2) ∧ text.size ≤ 2000 ∧ p + 33 < a ∧ a + text.size = b ∧ b ≤ x.size ∧ text = x.extract a b ∧ key = keyB kind text ∧ key.size = 32 := by
  unfold recAt at h
  by_cases c0 : p + 33 ≤ x.size ∧ bt x (p : Int) = 66
  rotate_left
  · rw [if_neg c0] at h; simp at h
  rw [if_pos c0] at h
  rcases rdn_cases x (p + 33) c0.1 with ⟨n1, q1, e1, _, g1, g2, _, _⟩ | ⟨e1, _⟩
  rotate_left
  · rw [e1] at h; simp at h
  rw [e1, Option.bind_some] at h
  by_cases c1 : n1 = 1 ∨ n1 = 2
  rotate_left
  · rw [if_neg c1] at h; simp at h
  rw [if_pos c1] at h
  simp only at h
  rcases rdn_cases x q1 g2 with ⟨n2, q2, e2, _, g3, g4, _, _⟩ | ⟨e2, _⟩
  rotate_left
  · rw [e2] at h; simp at h
  rw [e2, Option.bind_some] at h
  by_cases c2 : 0 ≤ n2 ∧ n2 ≤ 2000 ∧ (q2 : Int) + n2 ≤ (x.size : Int)
  rotate_left
  · rw [if_neg c2] at h; simp at h
  rw [if_pos c2] at h
  simp only at h
  by_cases c3 : keyB n1 (x.extract q2 (q2 + n2.toNat)) = x.extract (p + 1) (p + 33)
  rotate_left
  · rw [if_neg c3] at h; simp at h
  rw [if_pos c3] at h
  simp only [Option.some.injEq, Prod.mk.injEq] at h
  obtain ⟨rfl, rfl, rfl, rfl, rfl⟩ := h
  refine ⟨c1, ?_, by omega, ?_, by omega, rfl, c3.symm, ?_⟩ <;> rw [ByteArray.size_extract] <;> omega
theorem blobRight_s (kind : Int) (text : ByteArray) : spec_BlobRight.f kind text = some ((decide (kind = 1) || decide (kind = 2)) && decide ((text.size : Int) ≤ 2000)) := by
  unfold spec_BlobRight.f
  by_cases h1 : kind = 1 <;> by_cases h2 : kind = 2 <;> simp [h1, h2]
theorem blobRight_i (kind : Int) (text : ByteArray) : impl_BlobRight.f kind text = some ((decide (kind = 1) || decide (kind = 2)) && decide ((text.size : Int) ≤ 2000)) := by
  unfold impl_BlobRight.f impl_isKind.f
  by_cases h1 : kind = 1
  · simp [h1]
  · by_cases h2 : kind = 2 <;> simp [h1, h2]
theorem kind_rng {kind : Int} (h : kind = 1 ∨ kind = 2) : -9223372036854775808 ≤ kind ∧ kind ≤ 9223372036854775807 := by omega
theorem blobKey_s (kind : Int) (text : ByteArray) (hk : kind = 1 ∨ kind = 2) (ht : text.size ≤ 2000) : Ev (fun k => spec_BlobKey.f k kind text) (keyB kind text) := by
  have hr := kind_rng hk
  have hz := putNum_size kind hr.1 hr.2
  refine ev_bind1 (blobRight_s kind text) (ev_if_pos ?_ (Ev.bind (ev_from 10 (fun k hk => putNum_s kind hr.1 hr.2 k hk)) (ev_if_pos (by omega) (Ev.bind (digest_s (putNum kind ++ text) (by rw [ByteArray.size_append]; omega)) (Ev.now _)))))
  rcases hk with rfl | rfl <;> simp <;> omega
theorem blobKey_i (kind : Int) (text : ByteArray) (hk : kind = 1 ∨ kind = 2) (ht : text.size ≤ 2000) : Ev (fun k => impl_Blob_key.f k kind text) (keyB kind text) := by
  have hr := kind_rng hk
  have hz := putNum_size kind hr.1 hr.2
  exact Ev.bind (ev_from 10 (fun k hk => putNum_i kind hr.1 hr.2 k hk)) (ev_if_pos (by omega) (ev_bind1 (digest_i (putNum kind ++ text) (by rw [ByteArray.size_append]; omega)) (Ev.now _)))
theorem keyB_size (kind : Int) (text : ByteArray) : (keyB kind text).size = 32 := digest_size _
theorem take_b (x : ByteArray) (p n : Int) : impl_reader_take.f x p true n = some ((⟨#[]⟩ : ByteArray), x, p, true) := by
  unfold impl_reader_take.f
  rw [if_pos rfl]
theorem take_ok (x : ByteArray) (hx : x.size ≤ 20000) (p n : Nat) (h : p + n ≤ x.size) : impl_reader_take.f x (p : Int) false (n : Int) = some (x.extract p (p + n), x, ((p + n : Nat) : Int), false) := by
  rw [bytes_i x hx p false n (by omega) (by omega)]
  unfold rBytes
  rw [if_neg (by simp), if_neg (by omega)]
theorem take_no (x : ByteArray) (hx : x.size ≤ 20000) (p n : Nat) (hn : n ≤ 20000) (hp : p ≤ x.size) (h : ¬ p + n ≤ x.size) : impl_reader_take.f x (p : Int) false (n : Int) = some ((⟨#[]⟩ : ByteArray), x, (p : Int), true) := by
  rw [bytes_i x hx p false n hn hp]
  unfold rBytes
  rw [if_neg (by simp), if_pos (by omega)]
theorem num_b (x : ByteArray) (hx : x.size ≤ 20000) (p : Nat) (hp : p ≤ x.size) : Ev (fun k => impl_reader_num.f k x (p : Int) true) (0, x, (p : Int), true) := num_i x hx p true hp
theorem text_b (x : ByteArray) (hx : x.size ≤ 20000) (p : Nat) (hp : p ≤ x.size) : Ev (fun k => impl_reader_string.f k x (p : Int) true) ((⟨#[]⟩ : ByteArray), x, (p : Int), true) := text_i x hx p true hp
/-- the byte at a place, as a text of one. -/
theorem one_byte (x : ByteArray) (p : Nat) (h : p + 1 ≤ x.size) : ((x.extract p (p + 1)).toList = ([66] : List UInt8)) ↔ bt x (p : Int) = 66 := by
  have hb := bt_bl x p (by omega)
  have e : bl (x.extract p (p + 1)) = [(bl x)[p]'(by rw [bl_length]; omega)] := by
    rw [bl_extract, List.drop_take, show p + 1 - p = 1 by omega, List.drop_eq_getElem_cons (by rw [bl_length]; omega)]
    rfl
  constructor
  · intro h1
    have h2 : x.extract p (p + 1) = ⟨#[66]⟩ := ba_inj (by rw [h1, ByteArray.toList_eq])
    rw [h2] at e
    have e3 : (66 : Nat) = (bl x)[p]'(by rw [bl_length]; omega) := by
      have : [66] = [(bl x)[p]'(by rw [bl_length]; omega)] := e
      simpa using this
    rw [hb, ← e3]
    rfl
  · intro h1
    have h2 : x.extract p (p + 1) = ⟨#[66]⟩ := by
      apply bl_inj
      rw [e]
      have : ((bl x)[p]'(by rw [bl_length]; omega)) = 66 := by omega
      rw [this]
      rfl
    rw [h2, ByteArray.toList_eq]
abbrev IR := Int × ByteArray × ByteArray × Int × Int × Int × Int × Bool
theorem rec_i (x : ByteArray) (hx : x.size ≤ 20000) (p : Nat) (hp : p < x.size) : ∃ ri : IR, Ev (fun k => impl_readRecord.f k x (p : Int)) ri ∧ ((recAt x p = none ∧ ri.2.2.2.2.2.2.2 = false) ∨ ∃ kind text key a b, recAt x p = some (kind, text, key, a, b) ∧ ri = (kind, text, key, kind, (a : Int), (text.size : Int), (b : Int), true)) := by
  have bad : ∀ (a : ByteArray) (b : ByteArray) (c : Int) (d : Bool) (e : Int) (f : ByteArray), Ev (fun k => impl_readRecord.j0 k a true b c d e f) ((0 : Int), (⟨#[]⟩ : ByteArray), (⟨#[]⟩ : ByteArray), 0, 0, 0, 0, false) := fun a b c d e f =>
    Ev.step (f := fun _ => some _) (fun k => by simp only [impl_readRecord.j0]; rw [if_pos trivial]) (Ev.now _)
  unfold impl_readRecord.f
  by_cases h33 : p + 33 ≤ x.size
  rotate_left
  · refine ⟨_, ev_bind1 (take_ok x hx p 1 (by omega)) (ev_bind1 (take_no x hx (p + 1) 32 (by omega) (by omega) (by omega)) (Ev.bind (num_b x hx _ (by omega)) (Ev.bind (text_b x hx _ (by omega)) (ev_if_pos rfl (bad _ _ _ _ _ _))))), Or.inl ⟨?_, rfl⟩⟩
    unfold recAt
    rw [if_neg (by omega)]
  have t1 := take_ok x hx p 1 (by omega)
  have t2 := take_ok x hx (p + 1) 32 (by omega)
  rw [show p + 1 + 32 = p + 33 by omega] at t2
  have hn := num_i x hx (p + 33) false h33
  rcases rdn_cases x (p + 33) h33 with ⟨n1, q1, r1, o1, z1, z2, _, _⟩ | ⟨r1, o1⟩
  rotate_left
  · have e1 : rNum x (p + 33) false = (0, x, ((p + 33 : Nat) : Int), true) := by
      unfold rNum
      rw [if_neg (by simp), if_neg o1]
    rw [e1] at hn
    refine ⟨_, ev_bind1 t1 (ev_bind1 t2 (Ev.bind hn (Ev.bind (text_b x hx _ (by omega)) (ev_if_pos rfl (bad _ _ _ _ _ _))))), Or.inl ⟨?_, rfl⟩⟩
    unfold recAt
    rw [r1]
    split <;> rfl
  have e1 : rNum x (p + 33) false = (n1, x, (q1 : Int), false) := by
    unfold rNum
    rw [if_neg (by simp), o1, if_pos rfl]
  rw [e1] at hn
  have ht := text_i x hx q1 false z2
  have nope : ∀ (o : Option (Int × Nat)), rdn x q1 = o → (∀ n q, o = some (n, q) → ¬ (0 ≤ n ∧ n ≤ 2000 ∧ (q : Int) + n ≤ (x.size : Int))) → recAt x p = none := by
    intro o ho h
    unfold recAt
    split
    · rw [r1, Option.bind_some]
      split
      · simp only
        rw [ho]
        cases o with
        | none => rfl
        | some v =>
          obtain ⟨n, q⟩ := v
          rw [Option.bind_some, if_neg (h n q rfl)]
      · rfl
    · rfl
  rcases rdn_cases x q1 z2 with ⟨n2, q2, r2, o2, z3, z4, z5, z6⟩ | ⟨r2, o2⟩
  rotate_left
  · have hto : (tout x (gout q1 (gN 0 0 ((bl x).drop q1)))).2.2 ≠ 0 := by
      unfold tout
      rw [if_neg o2]
      exact o2
    have e2 : rText x q1 false = ((⟨#[]⟩ : ByteArray), x, (q1 : Int), true) := by
      unfold rText
      rw [if_neg (by simp), if_neg hto]
    rw [e2] at ht
    exact ⟨_, ev_bind1 t1 (ev_bind1 t2 (Ev.bind hn (Ev.bind ht (ev_if_pos rfl (bad _ _ _ _ _ _))))), Or.inl ⟨nope _ r2 (fun n q h => by simp at h), rfl⟩⟩
  by_cases c2 : 0 ≤ n2 ∧ n2 ≤ 20000 ∧ (q2 : Int) + n2 ≤ (x.size : Int)
  rotate_left
  · have hto : (tout x (n2, (q2 : Int), 0)).2.2 ≠ 0 := by
      unfold tout
      rw [if_pos rfl]
      by_cases d : 0 ≤ n2 ∧ n2 ≤ 20000
      · rw [if_pos d]
        simp only
        rw [if_pos (by omega)]
        simp
      · rw [if_neg d]
        simp
    have e2 : rText x q1 false = ((⟨#[]⟩ : ByteArray), x, (q1 : Int), true) := by
      unfold rText
      rw [if_neg (by simp), o2, if_neg hto]
    rw [e2] at ht
    exact ⟨_, ev_bind1 t1 (ev_bind1 t2 (Ev.bind hn (Ev.bind ht (ev_if_pos rfl (bad _ _ _ _ _ _))))), Or.inl ⟨nope _ r2 (fun n q h => by
      simp only [Option.some.injEq, Prod.mk.injEq] at h
      obtain ⟨rfl, rfl⟩ := h
      omega), rfl⟩⟩
  obtain ⟨m, rfl⟩ : ∃ m : Nat, n2 = (m : Int) := ⟨n2.toNat, by omega⟩
  have hto : tout x ((m : Int), (q2 : Int), 0) = (x.extract q2 (q2 + m), ((q2 + m : Nat) : Int), 0) := by
    unfold tout
    rw [if_pos rfl, if_pos (by simp only; omega)]
    simp only
    rw [if_neg (by omega), Int.toNat_natCast, show ((q2 : Int) + (m : Int)) = ((q2 + m : Nat) : Int) by omega, Int.toNat_natCast]
  have e2 : rText x q1 false = (x.extract q2 (q2 + m), x, ((q2 + m : Nat) : Int), false) := by
    unfold rText
    rw [if_neg (by simp), o2, hto, if_pos rfl]
  rw [e2] at ht
  have hts : (x.extract q2 (q2 + m)).size = m := by rw [ByteArray.size_extract]; omega
  by_cases h66 : bt x (p : Int) = 66
  rotate_left
  · refine ⟨_, ev_bind1 t1 (ev_bind1 t2 (Ev.bind hn (Ev.bind ht (ev_if_neg (by simp) (ev_if_neg (fun h => h66 ((one_byte x p (by omega)).1 h)) (bad _ _ _ _ _ _)))))), Or.inl ⟨?_, rfl⟩⟩
    unfold recAt
    rw [if_neg (fun h => h66 h.2)]
  have hrec : recAt x p = if n1 = 1 ∨ n1 = 2 then (if 0 ≤ (m : Int) ∧ (m : Int) ≤ 2000 ∧ (q2 : Int) + (m : Int) ≤ (x.size : Int) then (if keyB n1 (x.extract q2 (q2 + m)) = x.extract (p + 1) (p + 33) then some (n1, x.extract q2 (q2 + m), x.extract (p + 1) (p + 33), q2, q2 + m) else none) else none) else none := by
    unfold recAt
    rw [if_pos ⟨h33, h66⟩, r1, Option.bind_some]
    simp only
    rw [r2, Option.bind_some]
    simp only [Int.toNat_natCast]
  have hbr := blobRight_i n1 (x.extract q2 (q2 + m))
  by_cases c1 : (n1 = 1 ∨ n1 = 2) ∧ m ≤ 2000
  rotate_left
  · have ef : ((decide (n1 = 1) || decide (n1 = 2)) && decide (((x.extract q2 (q2 + m)).size : Int) ≤ 2000)) = false := by
      rw [hts]
      by_cases a1 : n1 = 1 <;> by_cases a2 : n1 = 2 <;> simp [a1, a2] <;> omega
    rw [ef] at hbr
    refine ⟨_, ev_bind1 t1 (ev_bind1 t2 (Ev.bind hn (Ev.bind ht (ev_if_neg (by simp) (ev_if_pos ((one_byte x p (by omega)).2 h66) (ev_bind1 hbr (ev_if_neg (by simp) (bad _ _ _ _ _ _)))))))), Or.inl ⟨?_, rfl⟩⟩
    rw [hrec]
    by_cases a1 : n1 = 1 ∨ n1 = 2
    · rw [if_pos a1, if_neg (by omega)]
    · rw [if_neg a1]
  have et : ((decide (n1 = 1) || decide (n1 = 2)) && decide (((x.extract q2 (q2 + m)).size : Int) ≤ 2000)) = true := by
    rw [hts, decide_eq_true (show (m : Int) ≤ 2000 by omega)]
    rcases c1.1 with rfl | rfl <;> rfl
  rw [et] at hbr
  rw [if_pos c1.1, if_pos (by omega)] at hrec
  have hk := blobKey_i n1 (x.extract q2 (q2 + m)) c1.1 (by omega)
  have fin : ∀ r : IR, Ev (fun k => impl_readRecord.j0 k (x.extract (p + 1) (p + 33)) ((keyB n1 (x.extract q2 (q2 + m))).toList != (x.extract (p + 1) (p + 33)).toList) x ((q2 + m : Nat) : Int) false n1 (x.extract q2 (q2 + m))) r → Ev (fun k => impl_readRecord.f k x (p : Int)) r := by
    intro r hr
    unfold impl_readRecord.f
    exact ev_bind1 t1 (ev_bind1 t2 (Ev.bind hn (Ev.bind ht (ev_if_neg (by simp) (ev_if_pos ((one_byte x p (by omega)).2 h66) (ev_bind1 hbr (ev_if_pos rfl (Ev.bind hk hr))))))))
  unfold impl_readRecord.f at fin
  by_cases c3 : keyB n1 (x.extract q2 (q2 + m)) = x.extract (p + 1) (p + 33)
  · rw [if_pos c3] at hrec
    refine ⟨(n1, x.extract q2 (q2 + m), x.extract (p + 1) (p + 33), n1, (q2 : Int), (m : Int), ((q2 + m : Nat) : Int), true), fin _ ?_, Or.inr ⟨_, _, _, _, _, hrec, by rw [hts]⟩⟩
    rw [c3, show ((x.extract (p + 1) (p + 33)).toList != (x.extract (p + 1) (p + 33)).toList) = false by simp]
    refine Ev.step (f := fun _ => some _) (fun k => ?_) (Ev.now _)
    simp only [impl_readRecord.j0, impl_long.f, Option.bind_some, hts]
    rw [if_neg (by simp), w64 (by omega) (by omega), show ((q2 + m : Nat) : Int) - (m : Int) = (q2 : Int) by omega]
  · rw [if_neg c3] at hrec
    refine ⟨((0 : Int), (⟨#[]⟩ : ByteArray), (⟨#[]⟩ : ByteArray), 0, 0, 0, 0, false), fin _ ?_, Or.inl ⟨hrec, rfl⟩⟩
    rw [show ((keyB n1 (x.extract q2 (q2 + m))).toList != (x.extract (p + 1) (p + 33)).toList) = true by simp; exact fun e => c3 (ba_inj e)]
    exact bad _ _ _ _ _ _
theorem j0_bad (x : ByteArray) (p : Nat) : Ev (fun k => spec_l07At.j0 k x (p : Int) true 0 (⟨#[]⟩ : ByteArray)) ((⟨#[]⟩ : ByteArray), 0, 0, 0, 0, (⟨#[]⟩ : ByteArray), 0, false) :=
  Ev.step (f := fun _ => some _) (fun k => by simp only [spec_l07At.j0]; rw [if_pos trivial]) (Ev.now _)
theorem j1_bad (x : ByteArray) (p a b c : Int) : Ev (fun k => spec_l07At.j1 k x p true 0 (⟨#[]⟩ : ByteArray) a b c) ((⟨#[]⟩ : ByteArray), 0, 0, 0, 0, (⟨#[]⟩ : ByteArray), 0, false) :=
  Ev.step (f := fun _ => some _) (fun k => by simp only [spec_l07At.j1]; rw [if_pos trivial]) (Ev.now _)
abbrev SR := ByteArray × Int × Int × Int × Int × ByteArray × Int × Bool
theorem at_s (x : ByteArray) (hx : x.size ≤ 20000) (p : Nat) (hp : p < x.size) : ∃ rs : SR, Ev (fun k => spec_l07At.f k x (p : Int)) rs ∧ ((recAt x p = none ∧ rs.2.2.2.2.2.2.2 = false) ∨ ∃ kind text key a b, recAt x p = some (kind, text, key, a, b) ∧ rs = (key, kind, (a : Int), (text.size : Int), kind, text, (b : Int), true)) := by
  have e33 : wrap64 ((p : Int) + 33) = ((p + 33 : Nat) : Int) := by rw [w64 (by omega) (by omega)]; omega
  have e1 : wrap64 ((p : Int) + 1) = ((p + 1 : Nat) : Int) := by rw [w64 (by omega) (by omega)]; omega
  unfold spec_l07At.f
  by_cases h33 : p + 33 ≤ x.size
  rotate_left
  · refine ⟨_, ev_if_pos (by omega) (j0_bad x p), Or.inl ⟨?_, rfl⟩⟩
    unfold recAt
    rw [if_neg (by omega)]
  by_cases h66 : bt x (p : Int) = 66
  rotate_left
  · refine ⟨_, ev_if_neg (by omega) (ev_if_pos (by omega) (ev_if_pos (by omega) (by rw [show (bt x (p : Int) != 66) = true by simpa using h66]; exact j0_bad x p))), Or.inl ⟨?_, rfl⟩⟩
    unfold recAt
    rw [if_neg (fun h => h66 h.2)]
  have start : ∀ r : SR, Ev (fun k => (spec_GetNum.f k x ((p + 33 : Nat) : Int)).bind fun bt179 => (if bt179.2.2 = 0 then (if bt179.1 = 1 then (spec_l07At.j1 k x (p : Int) false 0 (⟨#[]⟩ : ByteArray) bt179.1 bt179.2.1 bt179.2.2) else (spec_l07At.j1 k x (p : Int) (bt179.1 != 2) 0 (⟨#[]⟩ : ByteArray) bt179.1 bt179.2.1 bt179.2.2)) else (spec_l07At.j1 k x (p : Int) true 0 (⟨#[]⟩ : ByteArray) bt179.1 bt179.2.1 bt179.2.2))) r → Ev (fun k => if wrap64 ((p : Int) + 33) > (x.size : Int) then (spec_l07At.j0 k x (p : Int) true 0 (⟨#[]⟩ : ByteArray)) else (if 0 ≤ (p : Int) then (if (p : Int) < (x.size : Int) then (spec_l07At.j0 k x (p : Int) ((bt x (p : Int)) != 66) 0 (⟨#[]⟩ : ByteArray)) else (none)) else (none))) r := by
    intro r hr
    refine ev_if_neg (by omega) (ev_if_pos (by omega) (ev_if_pos (by omega) ?_))
    rw [show (bt x (p : Int) != 66) = false by rw [h66]; rfl]
    exact Ev.step (fun k => by simp only [spec_l07At.j0, e33]; rw [if_neg (by simp)]) hr
  have g1 := getNum_s x (p + 33) hx (by omega)
  have hrec : recAt x p = (rdn x (p + 33)).bind fun a => if a.1 = 1 ∨ a.1 = 2 then (rdn x a.2).bind fun b => if 0 ≤ b.1 ∧ b.1 ≤ 2000 ∧ (b.2 : Int) + b.1 ≤ (x.size : Int) then (if keyB a.1 (x.extract b.2 (b.2 + b.1.toNat)) = x.extract (p + 1) (p + 33) then some (a.1, x.extract b.2 (b.2 + b.1.toNat), x.extract (p + 1) (p + 33), b.2, b.2 + b.1.toNat) else none) else none else none := by
    unfold recAt
    rw [if_pos ⟨h33, h66⟩]
  rcases rdn_cases x (p + 33) h33 with ⟨n1, q1, r1, o1, z1, z2, _, _⟩ | ⟨r1, o1⟩
  rotate_left
  · exact ⟨_, start _ (Ev.bind g1 (ev_if_neg o1 (j1_bad x _ _ _ _))), Or.inl ⟨by rw [hrec, r1]; rfl, rfl⟩⟩
  rw [o1] at g1
  rw [r1, Option.bind_some] at hrec
  by_cases c1 : n1 = 1 ∨ n1 = 2
  rotate_left
  · refine ⟨((⟨#[]⟩ : ByteArray), 0, 0, 0, 0, (⟨#[]⟩ : ByteArray), 0, false), start _ (Ev.bind g1 (ev_if_pos rfl (ev_if_neg (fun e => c1 (Or.inl e)) ?_))), Or.inl ⟨by rw [hrec, if_neg c1], rfl⟩⟩
    rw [show (n1 != 2) = true by simp; exact fun e => c1 (Or.inr e)]
    exact j1_bad x _ _ _ _
  rw [if_pos c1] at hrec
  simp only at hrec
  have start2 : ∀ r : SR, Ev (fun k => spec_l07At.j1 k x (p : Int) false 0 (⟨#[]⟩ : ByteArray) n1 (q1 : Int) 0) r → Ev (fun k => (spec_GetNum.f k x ((p + 33 : Nat) : Int)).bind fun bt179 => (if bt179.2.2 = 0 then (if bt179.1 = 1 then (spec_l07At.j1 k x (p : Int) false 0 (⟨#[]⟩ : ByteArray) bt179.1 bt179.2.1 bt179.2.2) else (spec_l07At.j1 k x (p : Int) (bt179.1 != 2) 0 (⟨#[]⟩ : ByteArray) bt179.1 bt179.2.1 bt179.2.2)) else (spec_l07At.j1 k x (p : Int) true 0 (⟨#[]⟩ : ByteArray) bt179.1 bt179.2.1 bt179.2.2))) r := by
    intro r hr
    refine Ev.bind g1 (ev_if_pos rfl ?_)
    by_cases e : n1 = 1
    · exact ev_if_pos e hr
    · refine ev_if_neg e ?_
      rw [show (n1 != 2) = false by simp; omega]
      exact hr
  have g2 := getNum_s x q1 hx (by omega)
  have stepj : ∀ (f : Nat → Option SR) (r : SR), (∀ k, spec_l07At.j1 (k + 1) x (p : Int) false 0 (⟨#[]⟩ : ByteArray) n1 (q1 : Int) 0 = f k) → Ev f r → Ev (fun k => spec_l07At.j1 k x (p : Int) false 0 (⟨#[]⟩ : ByteArray) n1 (q1 : Int) 0) r := fun f r h hr => Ev.step h hr
  rcases rdn_cases x q1 z2 with ⟨n2, q2, r2, o2, z3, z4, z5, z6⟩ | ⟨r2, o2⟩
  rotate_left
  · refine ⟨_, start _ (start2 _ (stepj _ _ (fun k => by simp only [spec_l07At.j1]; rw [if_neg (by simp)]) (Ev.bind g2 (ev_if_neg o2 (Ev.now _))))), Or.inl ⟨by rw [hrec, r2]; rfl, rfl⟩⟩
  rw [o2] at g2
  rw [r2, Option.bind_some] at hrec
  by_cases c2 : 0 ≤ n2 ∧ n2 ≤ 2000 ∧ (q2 : Int) + n2 ≤ (x.size : Int)
  rotate_left
  · refine ⟨((⟨#[]⟩ : ByteArray), 0, 0, 0, 0, (⟨#[]⟩ : ByteArray), 0, false), start _ (start2 _ (stepj _ _ (fun k => by simp only [spec_l07At.j1]; rw [if_neg (by simp)]) (Ev.bind g2 (ev_if_pos rfl ?_)))), Or.inl ⟨by rw [hrec, if_neg c2], rfl⟩⟩
    simp only
    by_cases d1 : n2 < 0
    · exact ev_if_pos d1 (Ev.now _)
    refine ev_if_neg d1 ?_
    by_cases d2 : n2 > 2000
    · exact ev_if_pos d2 (Ev.now _)
    refine ev_if_neg d2 (ev_if_pos ?_ (Ev.now _))
    rw [w64 (by omega) (by omega)]
    omega
  rw [if_pos c2] at hrec
  simp only at hrec
  obtain ⟨m, rfl⟩ : ∃ m : Nat, n2 = (m : Int) := ⟨n2.toNat, by omega⟩
  simp only [Int.toNat_natCast] at hrec
  have eq2 : wrap64 ((q2 : Int) + (m : Int)) = ((q2 + m : Nat) : Int) := by rw [w64 (by omega) (by omega)]; omega
  have esz : wrap64 ((x.size : Int) - (m : Int)) = (x.size : Int) - (m : Int) := by rw [w64 (by omega) (by omega)]
  have hts : (x.extract q2 (q2 + m)).size = m := by rw [ByteArray.size_extract]; omega
  have hk := blobKey_s n1 (x.extract q2 (q2 + m)) c1 (by omega)
  have fin : Ev (fun k => spec_l07At.f k x (p : Int)) (x.extract (p + 1) (p + 33), n1, (q2 : Int), (m : Int), n1, x.extract q2 (q2 + m), ((q2 + m : Nat) : Int), ((keyB n1 (x.extract q2 (q2 + m))).toList == (x.extract (p + 1) (p + 33)).toList)) := by
    unfold spec_l07At.f
    refine start _ (start2 _ (stepj _ _ (fun k => by simp only [spec_l07At.j1]; rw [if_neg (by simp)]) (Ev.bind g2 (ev_if_pos rfl ?_))))
    simp only [e1, e33, eq2, esz, Int.toNat_natCast]
    exact ev_if_neg (by omega) (ev_if_neg (by omega) (ev_if_neg (by omega) (ev_if_pos (by omega) (ev_if_pos (by omega) (ev_if_pos (by omega) (ev_if_pos (by omega) (ev_if_pos (by omega) (ev_if_pos (by omega) (Ev.bind hk (Ev.now _))))))))))
  unfold spec_l07At.f at fin
  refine ⟨_, fin, ?_⟩
  by_cases c3 : keyB n1 (x.extract q2 (q2 + m)) = x.extract (p + 1) (p + 33)
  · rw [if_pos c3] at hrec
    refine Or.inr ⟨_, _, _, _, _, hrec, ?_⟩
    rw [c3, hts]
    simp
  · rw [if_neg c3] at hrec
    refine Or.inl ⟨hrec, ?_⟩
    simp only [beq_eq_false_iff_ne, ne_eq]
    exact fun e => c3 (ba_inj e)
abbrev IB := S60
def rightB (b : IB) : Prop := (b.f0 = 1 ∨ b.f0 = 2) ∧ b.f1.size ≤ 2000
/-- the record of a blob. -/
def recB (b : IB) : ByteArray := (((⟨#[66]⟩ : ByteArray) ++ keyB b.f0 b.f1) ++ putNum b.f0) ++ (putNum (b.f1.size : Int) ++ b.f1)
def catB : List IB → ByteArray
  | [] => ⟨#[]⟩
  | b :: l => recB b ++ catB l
theorem recB_cat (b : IB) (rest : ByteArray) : recB b ++ rest = (⟨#[66]⟩ : ByteArray) ++ (keyB b.f0 b.f1 ++ (putNum b.f0 ++ (putNum (b.f1.size : Int) ++ (b.f1 ++ rest)))) := by
  unfold recB
  simp only [ByteArray.append_assoc]
theorem size_rng (n : Nat) (h : n ≤ 20000) : -9223372036854775808 ≤ (n : Int) ∧ (n : Int) ≤ 9223372036854775807 := by omega
theorem recB_size (b : IB) (h : rightB b) : (recB b).size = 33 + (putNum b.f0).size + (putNum (b.f1.size : Int)).size + b.f1.size ∧ (recB b).size ≤ 3000 := by
  have hr := kind_rng h.1
  have z1 := putNum_size b.f0 hr.1 hr.2
  have h2 := h.2
  have hr2 := size_rng b.f1.size (by omega)
  have z2 := putNum_size (b.f1.size : Int) hr2.1 hr2.2
  have z3 := keyB_size b.f0 b.f1
  have ez : ((⟨#[66]⟩ : ByteArray)).size = 1 := rfl
  unfold recB
  simp only [ByteArray.size_append, ez]
  omega
theorem ext_mid (a m c : ByteArray) : (a ++ (m ++ c)).extract a.size (a.size + m.size) = m := by
  apply bl_inj
  rw [bl_extract, bl_append, bl_append, List.drop_take, ← bl_length a, List.drop_left' rfl, show (bl a).length + m.size - (bl a).length = m.size by omega, ← bl_length m, List.take_left' rfl]
theorem rdn_put (a c : ByteArray) (n : Int) (h0 : -9223372036854775808 ≤ n) (h1 : n ≤ 9223372036854775807) : rdn (a ++ (putNum n ++ c)) a.size = some (n, a.size + (putNum n).size) := by
  have hd : (bl (a ++ (putNum n ++ c))).drop a.size = (numL (fold n)).map Int.toNat ++ bl c := by
    rw [bl_append, bl_append, ← bl_length a, List.drop_left' rfl, bl_putNum n h0 h1]
  have hf := fold_lt n h0 h1
  have hg := gN_put 9 (fold n) 0 0 (bl c) rfl (Nat.lt_of_lt_of_le hf (by decide)) (by omega) (fun h => absurd h (by omega))
  rw [← hd] at hg
  have hz : (numL (fold n)).length = (putNum n).size := by unfold putNum; rw [strOfNums_size]
  unfold rdn
  rw [hg, show (0 + fold n * 128 ^ 0) = fold n by omega, Nat.zero_add]
  unfold gout
  rw [if_pos rfl, if_pos rfl, unfold_fold, hz]
  simp only [Int.toNat_natCast]
/-- the record that was put is read. -/
theorem recAt_put (pre rest : ByteArray) (b : IB) (h : rightB b) : recAt (pre ++ (recB b ++ rest)) pre.size = some (b.f0, b.f1, keyB b.f0 b.f1, pre.size + 33 + (putNum b.f0).size + (putNum (b.f1.size : Int)).size, pre.size + (recB b).size) := by
  have hr := kind_rng h.1
  have h2 := h.2
  have hr2 := size_rng b.f1.size (by omega)
  have z0 := recB_size b h
  have z3 := keyB_size b.f0 b.f1
  have ez : ((⟨#[66]⟩ : ByteArray)).size = 1 := rfl
  have hx : (pre ++ (recB b ++ rest)).size = pre.size + (recB b).size + rest.size := by simp only [ByteArray.size_append]; omega
  have e1 : pre ++ (recB b ++ rest) = pre ++ ((⟨#[66]⟩ : ByteArray) ++ (keyB b.f0 b.f1 ++ (putNum b.f0 ++ (putNum (b.f1.size : Int) ++ (b.f1 ++ rest))))) := by rw [recB_cat]
  have e2 : pre ++ (recB b ++ rest) = (pre ++ (⟨#[66]⟩ : ByteArray)) ++ (keyB b.f0 b.f1 ++ (putNum b.f0 ++ (putNum (b.f1.size : Int) ++ (b.f1 ++ rest)))) := by rw [e1]; simp only [ByteArray.append_assoc]
  have e3 : pre ++ (recB b ++ rest) = ((pre ++ (⟨#[66]⟩ : ByteArray)) ++ keyB b.f0 b.f1) ++ (putNum b.f0 ++ (putNum (b.f1.size : Int) ++ (b.f1 ++ rest))) := by rw [e1]; simp only [ByteArray.append_assoc]
  have e4 : pre ++ (recB b ++ rest) = (((pre ++ (⟨#[66]⟩ : ByteArray)) ++ keyB b.f0 b.f1) ++ putNum b.f0) ++ (putNum (b.f1.size : Int) ++ (b.f1 ++ rest)) := by rw [e1]; simp only [ByteArray.append_assoc]
  have e5 : pre ++ (recB b ++ rest) = ((((pre ++ (⟨#[66]⟩ : ByteArray)) ++ keyB b.f0 b.f1) ++ putNum b.f0) ++ putNum (b.f1.size : Int)) ++ (b.f1 ++ rest) := by rw [e1]; simp only [ByteArray.append_assoc]
  have x1 := ext_mid pre (⟨#[66]⟩ : ByteArray) (keyB b.f0 b.f1 ++ (putNum b.f0 ++ (putNum (b.f1.size : Int) ++ (b.f1 ++ rest))))
  rw [← e1, ez] at x1
  have x2 := ext_mid (pre ++ (⟨#[66]⟩ : ByteArray)) (keyB b.f0 b.f1) (putNum b.f0 ++ (putNum (b.f1.size : Int) ++ (b.f1 ++ rest)))
  rw [← e2, ByteArray.size_append, ez, z3] at x2
  have x3 := rdn_put ((pre ++ (⟨#[66]⟩ : ByteArray)) ++ keyB b.f0 b.f1) (putNum (b.f1.size : Int) ++ (b.f1 ++ rest)) b.f0 hr.1 hr.2
  rw [← e3, ByteArray.size_append, ByteArray.size_append, ez, z3] at x3
  have x4 := rdn_put (((pre ++ (⟨#[66]⟩ : ByteArray)) ++ keyB b.f0 b.f1) ++ putNum b.f0) (b.f1 ++ rest) (b.f1.size : Int) hr2.1 hr2.2
  rw [← e4, ByteArray.size_append, ByteArray.size_append, ByteArray.size_append, ez, z3] at x4
  have x5 := ext_mid ((((pre ++ (⟨#[66]⟩ : ByteArray)) ++ keyB b.f0 b.f1) ++ putNum b.f0) ++ putNum (b.f1.size : Int)) b.f1 rest
  rw [← e5, ByteArray.size_append, ByteArray.size_append, ByteArray.size_append, ByteArray.size_append, ez, z3] at x5
  have h66 : bt (pre ++ (recB b ++ rest)) (pre.size : Int) = 66 := (one_byte _ _ (by omega)).1 (by rw [x1, ByteArray.toList_eq])
  generalize pre ++ (recB b ++ rest) = x at *
  unfold recAt
  rw [if_pos ⟨by omega, h66⟩, show pre.size + 33 = pre.size + 1 + 32 by omega, x3, Option.bind_some, if_pos h.1]
  simp only
  rw [x4, Option.bind_some, if_pos (by simp only; omega)]
  simp only [Int.toNat_natCast]
  rw [x5, show pre.size + 1 + 32 = pre.size + 1 + 32 from rfl, x2, if_pos rfl, z0.1]
  congr 5
  omega
theorem sn_append (a b : List Int) : strOfNums (a ++ b) = strOfNums a ++ strOfNums b := by
  apply ByteArray.ext
  simp [strOfNums, ByteArray.data_append]
theorem sn_bytesOf (t : ByteArray) : strOfNums (bytesOf t) = t := by
  apply bl_inj
  rw [bl_strOfNums]
  · unfold bytesOf bl
    rw [List.map_map]
    rfl
  · intro x hx
    unfold bytesOf at hx
    obtain ⟨c, _, rfl⟩ := List.mem_map.1 hx
    have := c.toNat_lt
    omega
theorem putText_s (t : ByteArray) (h : t.size ≤ 20000) : Ev (fun k => spec_PutText.f k t) (putNum (t.size : Int) ++ t) := by
  have hr := size_rng t.size h
  have hz := putNum_size (t.size : Int) hr.1 hr.2
  exact ev_if_neg (by omega) (Ev.bind (ev_from 10 (fun k hk => putNum_s _ hr.1 hr.2 k hk)) (ev_if_pos (by omega) (Ev.now _)))
theorem record_s (b : IB) (h : rightB b) : Ev (fun k => spec_l07Record.f k b.f0 b.f1) (recB b) := by
  have hr := kind_rng h.1
  have h2 := h.2
  have z1 := putNum_size b.f0 hr.1 hr.2
  have hr2 := size_rng b.f1.size (by omega)
  have z2 := putNum_size (b.f1.size : Int) hr2.1 hr2.2
  have z3 := keyB_size b.f0 b.f1
  have ez : ((⟨#[66]⟩ : ByteArray)).size = 1 := rfl
  exact Ev.bind (blobKey_s b.f0 b.f1 h.1 h.2) (ev_if_pos (by omega) (Ev.bind (ev_from 10 (fun k hk => putNum_s _ hr.1 hr.2 k hk)) (ev_if_pos (by simp only [ByteArray.size_append, ez]; omega) (Ev.bind (putText_s b.f1 (by omega)) (ev_if_pos (by simp only [ByteArray.size_append, ez]; omega) (Ev.now _))))))
theorem in_ok (ks : List ByteArray) (t : ByteArray) (h : ks.length ≤ 1000) : ∃ v, Ev (fun k => spec_l07In.f k ks t) v := by
  unfold spec_l07In.f
  have main : ∀ (d i : Nat), i + d = ks.length → ∃ v, Ev (fun k => spec_l07In.l0 k ks t (i : Int)) v := by
    intro d
    induction d with
    | zero =>
      intro i hi
      exact ⟨false, Ev.step (f := fun _ => some false) (fun k => by simp only [spec_l07In.l0]; rw [if_neg (by omega)]) (Ev.now _)⟩
    | succ d ih =>
      intro i hi
      by_cases e : (rdOf ByteArray.empty ks (i : Int)).toList = t.toList
      · exact ⟨true, Ev.step (f := fun _ => some true) (fun k => by simp only [spec_l07In.l0]; rw [if_pos (by omega), if_pos (by omega), if_pos e]) (Ev.now _)⟩
      · obtain ⟨v, hv⟩ := ih (i + 1) (by omega)
        refine ⟨v, Ev.step (fun k => ?_) hv⟩
        simp only [spec_l07In.l0]
        rw [if_pos (by omega), if_pos (by omega), if_neg e, show wrap64 ((i : Int) + 1) = ((i + 1 : Nat) : Int) by rw [w64 (by omega) (by omega)]; omega]
  exact main ks.length 0 (by omega)
abbrev rdB := rd_T60
theorem rdB_nat (l : List IB) (i : Nat) (h : i < l.length) : rdB l (i : Int) = l[i] := by
  unfold rdB rd_T60
  exact getD_nat l i _ h
def PackQ (bs : List IB) (t : ByteArray) : Prop := t = ⟨#[]⟩ ∨ ((∀ b ∈ bs, rightB b) ∧ t = catB bs ∧ t.size ≤ 12000 ∧ bs ≠ [])
theorem pack_l0 (bs : List IB) (hb : bs.length ≤ 40) : ∀ (d i : Nat) (acc : List Int) (ks : List ByteArray), i + d = bs.length → ks.length = i → acc.length ≤ 3000 * i →
    Evs (fun k => spec_l07Pack.l0 k bs acc ks (i : Int)) (fun r => r.2 = true → (∀ b ∈ bs.drop i, rightB b) ∧ r.1 = strOfNums acc ++ catB (bs.drop i) ∧ r.1.size ≤ 12000) := by
  intro d
  induction d with
  | zero =>
    intro i acc ks hi hk ha
    refine ⟨(strOfNums acc, decide ((acc.length : Int) ≤ 12000)), Ev.step (f := fun _ => some (strOfNums acc, decide ((acc.length : Int) ≤ 12000))) (fun k => by simp only [spec_l07Pack.l0]; rw [if_neg (by omega)]) (Ev.now _), fun h => ?_⟩
    rw [List.drop_eq_nil_of_le (by omega)]
    refine ⟨by simp, ?_, ?_⟩
    · simp only [catB]
      apply bl_inj
      rw [bl_append]
      simp [bl]
    · simp only at h ⊢
      rw [strOfNums_size]
      have := of_decide_eq_true h
      omega
  | succ d ih =>
    intro i acc ks hi hk ha
    have hlt : i < bs.length := by omega
    obtain ⟨b, hbi⟩ : ∃ b, bs[i] = b := ⟨_, rfl⟩
    have e := rdB_nat bs i hlt
    rw [hbi] at e
    have hbr := blobRight_s b.f0 b.f1
    have no : Evs (fun _ : Nat => some ((⟨#[]⟩ : ByteArray), false)) (fun r => r.2 = true → (∀ b ∈ bs.drop i, rightB b) ∧ r.1 = strOfNums acc ++ catB (bs.drop i) ∧ r.1.size ≤ 12000) := Evs.now _ (fun h => by simp at h)
    have step : ∀ P, Evs (fun k => ((spec_BlobRight.f b.f0 b.f1).bind fun t368 => (if t368 = true then ((spec_BlobKey.f k b.f0 b.f1).bind fun t370 => ((spec_l07In.f k ks t370).bind fun t371 => (if t371 = true then (some ((⟨#[]⟩ : ByteArray), false)) else (if ks.length < 8796093022208 then ((spec_l07Record.f k b.f0 b.f1).bind fun t376 => (if acc.length + t376.size < 140737488355328 then (spec_l07Pack.l0 k bs (acc ++ bytesOf t376) (ks ++ [t370]) ((i + 1 : Nat) : Int)) else (none))) else (none))))) else (some ((⟨#[]⟩ : ByteArray), false))))) P → Evs (fun k => spec_l07Pack.l0 k bs acc ks (i : Int)) P := by
      intro P hP
      obtain ⟨r, hr, hp⟩ := hP
      refine ⟨r, Ev.step (fun k => ?_) hr, hp⟩
      simp only [spec_l07Pack.l0]
      have e' : rd_T60 bs (i : Int) = b := e
      rw [if_pos (by omega), if_pos (by omega), e', show wrap64 ((i : Int) + 1) = ((i + 1 : Nat) : Int) by rw [w64 (by omega) (by omega)]; omega]
    refine step _ ?_
    by_cases hR : rightB b
    rotate_left
    · refine Evs.bind1 hbr (Evs.if_neg ?_ no)
      unfold rightB at hR
      by_cases a1 : b.f0 = 1 <;> by_cases a2 : b.f0 = 2 <;> simp [a1, a2] at hR ⊢ <;> omega
    have et : ((decide (b.f0 = 1) || decide (b.f0 = 2)) && decide ((b.f1.size : Int) ≤ 2000)) = true := by
      have := hR.2
      rw [decide_eq_true (show (b.f1.size : Int) ≤ 2000 by omega)]
      rcases hR.1 with h | h <;> rw [h] <;> rfl
    rw [et] at hbr
    refine Evs.bind1 hbr (Evs.if_pos rfl (Evs.bind (Evs.of (blobKey_s b.f0 b.f1 hR.1 hR.2)) (fun key hkey => ?_)))
    subst hkey
    obtain ⟨v, hv⟩ := in_ok ks (keyB b.f0 b.f1) (by omega)
    refine Evs.bind (Evs.of hv) (fun v' hv' => Evs.ite (fun _ => no) (fun _ => Evs.if_pos (by omega) (Evs.bind (Evs.of (record_s b hR)) (fun r hr => ?_))))
    subst hr
    have hz := recB_size b hR
    refine Evs.if_pos (by omega) ((ih (i + 1) (acc ++ bytesOf (recB b)) (ks ++ [keyB b.f0 b.f1]) (by omega) (by simp [hk]) (by rw [List.length_append, bytesOf_length]; omega)).mono (fun r hr ht => ?_))
    obtain ⟨q1, q2, q3⟩ := hr ht
    rw [List.drop_eq_getElem_cons hlt, hbi]
    refine ⟨fun c hc => ?_, ?_, q3⟩
    · rcases List.mem_cons.1 hc with rfl | hc
      · exact hR
      · exact q1 c hc
    · rw [q2, sn_append, sn_bytesOf, ByteArray.append_assoc]
      rfl
/-! ### a pack of blobs: both sides alike -/
instance (b : IB) : Decidable (rightB b) := by unfold rightB; infer_instance
def packGo : List IB → List ByteArray → ByteArray → ByteArray × Bool
  | [], _, out => (out, decide ((out.size : Int) ≤ 12000))
  | b :: l, ks, out => if rightB b then (if (ks.any fun u => u.toList == (keyB b.f0 b.f1).toList) = true then (⟨#[]⟩, false) else packGo l (keyB b.f0 b.f1 :: ks) (out ++ recB b)) else (⟨#[]⟩, false)
def packB (l : List IB) : ByteArray × Bool := if 1 ≤ l.length ∧ l.length ≤ 40 then packGo l [] ⟨#[]⟩ else (⟨#[]⟩, false)
theorem right_flag (b : IB) : ((decide (b.f0 = 1) || decide (b.f0 = 2)) && decide ((b.f1.size : Int) ≤ 2000)) = decide (rightB b) := by
  by_cases h : rightB b
  · rw [decide_eq_true h, decide_eq_true (show (b.f1.size : Int) ≤ 2000 by have := h.2; omega)]
    rcases h.1 with e | e <;> rw [e] <;> rfl
  · rw [decide_eq_false h]
    unfold rightB at h
    by_cases a1 : b.f0 = 1 <;> by_cases a2 : b.f0 = 2 <;> simp [a1, a2] at h ⊢ <;> omega
theorem putTextP_i (t : ByteArray) (h : t.size ≤ 20000) : Ev (fun k => impl_putText.f k t) (putNum (t.size : Int) ++ t) := by
  have hr := size_rng t.size h
  have hz := putNum_size (t.size : Int) hr.1 hr.2
  unfold impl_putText.f impl_long.f
  exact ev_bind1 rfl (Ev.bind (ev_from 10 (fun k hk => putNum_i _ hr.1 hr.2 k hk)) (ev_if_pos (by omega) (Ev.now _)))
theorem record_i (b : IB) (h : rightB b) : Ev (fun k => impl_Blob_record.f k b.f0 b.f1) (recB b) := by
  have hr := kind_rng h.1
  have h2 := h.2
  have z1 := putNum_size b.f0 hr.1 hr.2
  have hr2 := size_rng b.f1.size (by omega)
  have z2 := putNum_size (b.f1.size : Int) hr2.1 hr2.2
  have z3 := keyB_size b.f0 b.f1
  have ez : ((⟨#[66]⟩ : ByteArray)).size = 1 := rfl
  exact Ev.bind (blobKey_i b.f0 b.f1 h.1 h.2) (ev_if_pos (by omega) (Ev.bind (ev_from 10 (fun k hk => putNum_i _ hr.1 hr.2 k hk)) (ev_if_pos (by simp only [ByteArray.size_append, ez]; omega) (Ev.bind (putTextP_i b.f1 (by omega)) (ev_if_pos (by simp only [ByteArray.size_append, ez]; omega) (Ev.now _))))))
theorem in_is (ks : List ByteArray) (t : ByteArray) (h : ks.length ≤ 1000) : Ev (fun k => spec_l07In.f k ks t) (ks.any fun u => u.toList == t.toList) := by
  unfold spec_l07In.f
  have main : ∀ (d i : Nat), i + d = ks.length → Ev (fun k => spec_l07In.l0 k ks t (i : Int)) ((ks.drop i).any fun u => u.toList == t.toList) := by
    intro d
    induction d with
    | zero =>
      intro i hi
      rw [List.drop_eq_nil_of_le (by omega)]
      exact Ev.step (f := fun _ => some false) (fun k => by simp only [spec_l07In.l0]; rw [if_neg (by omega)]) (Ev.now _)
    | succ d ih =>
      intro i hi
      have hlt : i < ks.length := by omega
      have er : rdOf ByteArray.empty ks (i : Int) = ks[i] := by simp [rdOf, hlt]
      rw [List.drop_eq_getElem_cons hlt, List.any_cons]
      by_cases e : (ks[i]).toList = t.toList
      · rw [beq_iff_eq.2 e, Bool.true_or]
        exact Ev.step (f := fun _ => some true) (fun k => by simp only [spec_l07In.l0, er]; rw [if_pos (by omega), if_pos (by omega), if_pos e]) (Ev.now _)
      · rw [beq_eq_false_iff_ne.2 e, Bool.false_or]
        refine Ev.step (fun k => ?_) (ih (i + 1) (by omega))
        simp only [spec_l07In.l0, er]
        rw [if_pos (by omega), if_pos (by omega), if_neg e, show wrap64 ((i : Int) + 1) = ((i + 1 : Nat) : Int) by rw [w64 (by omega) (by omega)]; omega]
  have := main ks.length 0 (by omega)
  simpa using this
theorem any_rev (ks : List ByteArray) (t : ByteArray) : (ks.reverse.any fun u => u.toList == t.toList) = (ks.any fun u => u.toList == t.toList) := by simp
theorem go_both (bs : List IB) (hb : bs.length ≤ 40) : ∀ (d i : Nat) (out : ByteArray) (ks : List ByteArray), i + d = bs.length → ks.length = i → out.size ≤ 3000 * i →
    Ev (fun k => spec_l07Pack.l0 k bs (bytesOf out) ks.reverse (i : Int)) (packGo (bs.drop i) ks out) ∧ Ev (fun k => impl_packed.l0 k bs ks out (i : Int)) (packGo (bs.drop i) ks out) := by
  intro d
  induction d with
  | zero =>
    intro i out ks hi hk ho
    rw [List.drop_eq_nil_of_le (by omega)]
    have el : (bytesOf out).length = out.size := bytesOf_length out
    refine ⟨?_, ?_⟩
    · refine Ev.step (f := fun _ => some (out, decide ((out.size : Int) ≤ 12000))) (fun k => ?_) (Ev.now _)
      simp only [spec_l07Pack.l0]
      rw [if_neg (by omega), sn_bytesOf, el]
    · exact Ev.step (f := fun _ => some (out, decide ((out.size : Int) ≤ 12000))) (fun k => by simp only [impl_packed.l0]; rw [if_neg (by omega)]) (Ev.now _)
  | succ d ih =>
    intro i out ks hi hk ho
    have hlt : i < bs.length := by omega
    obtain ⟨b, hbi⟩ : ∃ b, bs[i] = b := ⟨_, rfl⟩
    have e : rd_T60 bs (i : Int) = b := (rdB_nat bs i hlt).trans hbi
    have hbs := blobRight_s b.f0 b.f1
    have hbI := blobRight_i b.f0 b.f1
    rw [right_flag] at hbs hbI
    have ew : wrap64 ((i : Int) + 1) = ((i + 1 : Nat) : Int) := by rw [w64 (by omega) (by omega)]; omega
    rw [List.drop_eq_getElem_cons hlt, hbi]
    unfold packGo
    by_cases hR : rightB b
    rotate_left
    · rw [if_neg hR]
      rw [decide_eq_false hR] at hbs hbI
      refine ⟨?_, ?_⟩
      · refine Ev.step (f := fun _ => some ((⟨#[]⟩ : ByteArray), false)) (fun k => ?_) (Ev.now _)
        simp only [spec_l07Pack.l0, e, hbs, Option.bind_some]
        rw [if_pos (by omega), if_pos (by omega), if_neg (by simp)]
      · refine Ev.step (f := fun _ => some ((⟨#[]⟩ : ByteArray), false)) (fun k => ?_) (Ev.now _)
        simp only [impl_packed.l0, e, hbI, Option.bind_some]
        rw [if_pos (by omega), if_pos (by omega), if_neg (by simp)]
    rw [if_pos hR]
    rw [decide_eq_true hR] at hbs hbI
    have zk := keyB_size b.f0 b.f1
    have zr := recB_size b hR
    have hin := in_is ks.reverse (keyB b.f0 b.f1) (by simp; omega)
    rw [any_rev] at hin
    obtain ⟨any, hany⟩ : ∃ q, (ks.any fun u => u.toList == (keyB b.f0 b.f1).toList) = q := ⟨_, rfl⟩
    rw [hany] at hin ⊢
    have hS : ∀ v, Ev (fun k => if any = true then some ((⟨#[]⟩ : ByteArray), false) else (if ks.reverse.length < 8796093022208 then ((spec_l07Record.f k b.f0 b.f1).bind fun t => (if (bytesOf out).length + t.size < 140737488355328 then (spec_l07Pack.l0 k bs (bytesOf out ++ bytesOf t) (ks.reverse ++ [keyB b.f0 b.f1]) ((i + 1 : Nat) : Int)) else none)) else none)) v → Ev (fun k => spec_l07Pack.l0 k bs (bytesOf out) ks.reverse (i : Int)) v := by
      intro v hv
      refine Ev.step (f := fun k => (spec_BlobKey.f k b.f0 b.f1).bind fun t205 => ((spec_l07In.f k ks.reverse t205).bind fun t206 => (if t206 = true then (some ((⟨#[]⟩ : ByteArray), false)) else (if ks.reverse.length < 8796093022208 then ((spec_l07Record.f k b.f0 b.f1).bind fun t => (if (bytesOf out).length + t.size < 140737488355328 then (spec_l07Pack.l0 k bs (bytesOf out ++ bytesOf t) (ks.reverse ++ [t205]) ((i + 1 : Nat) : Int)) else none)) else none)))) (fun k => ?_) (Ev.bind (blobKey_s b.f0 b.f1 hR.1 hR.2) (Ev.bind hin hv))
      simp only [spec_l07Pack.l0, e, hbs, Option.bind_some, ew]
      rw [if_pos (by omega), if_pos (by omega), if_pos trivial]
    have hI : ∀ v, Ev (fun k => if any = true then some ((⟨#[]⟩ : ByteArray), false) else ((impl_Blob_record.f k b.f0 b.f1).bind fun rc => (if out.size + rc.size ≤ 9223372036854775807 then (if ks.length < 1000 then (impl_packed.l0 k bs (keyB b.f0 b.f1 :: ks) (out ++ rc) ((i + 1 : Nat) : Int)) else none) else none))) v → Ev (fun k => impl_packed.l0 k bs ks out (i : Int)) v := by
      intro v hv
      refine Ev.step (f := fun k => (impl_Blob_key.f k b.f0 b.f1).bind fun t => (if t.size ≤ 140737488355328 then (if (ks.any fun u => u.toList == t.toList) = true then (some (⟨#[]⟩, false)) else ((impl_Blob_record.f k b.f0 b.f1).bind fun rc => (if out.size + rc.size ≤ 9223372036854775807 then (if ks.length < 1000 then (impl_packed.l0 k bs (t :: ks) (out ++ rc) ((i + 1 : Nat) : Int)) else (none)) else (none)))) else (none))) (fun k => ?_) (Ev.bind (blobKey_i b.f0 b.f1 hR.1 hR.2) (ev_if_pos (by omega) (by rw [hany]; exact hv)))
      simp only [impl_packed.l0, e, hbI, Option.bind_some, ew]
      rw [if_pos (by omega), if_pos (by omega), if_pos trivial]
    cases any with
    | true =>
      rw [if_pos rfl]
      exact ⟨hS _ (ev_if_pos rfl (Ev.now _)), hI _ (ev_if_pos rfl (Ev.now _))⟩
    | false =>
      rw [if_neg (by simp)]
      obtain ⟨g1, g2⟩ := ih (i + 1) (out ++ recB b) (keyB b.f0 b.f1 :: ks) (by omega) (by simp [hk]) (by rw [ByteArray.size_append]; omega)
      have el : (bytesOf out).length = out.size := bytesOf_length out
      have ea : bytesOf (out ++ recB b) = bytesOf out ++ bytesOf (recB b) := by unfold bytesOf; simp [ByteArray.data_append]
      rw [ea, List.reverse_cons] at g1
      refine ⟨hS _ (ev_if_neg (by simp) (ev_if_pos (by simp; omega) (Ev.bind (record_s b hR) (ev_if_pos (by omega) g1)))), hI _ (ev_if_neg (by simp) (Ev.bind (record_i b hR) (ev_if_pos (by omega) (ev_if_pos (by omega) g2))))⟩
theorem pack_s (bs : List IB) (hb : bs.length ≤ 9223372036854775807) : Ev (fun k => spec_l07Pack.f k bs) (packB bs) := by
  unfold spec_l07Pack.f packB
  have bad : Ev (fun k => spec_l07Pack.j0 k bs true) ((⟨#[]⟩ : ByteArray), false) := Ev.step (f := fun _ => some ((⟨#[]⟩ : ByteArray), false)) (fun k => by simp only [spec_l07Pack.j0]; exact if_pos trivial) (Ev.now _)
  by_cases c1 : (bs.length : Int) < 1
  · rw [if_neg (by omega)]
    exact ev_if_pos c1 bad
  refine ev_if_neg c1 ?_
  by_cases c2 : (bs.length : Int) > 40
  · rw [if_neg (by omega), decide_eq_true c2]
    exact bad
  · rw [if_pos (by omega), decide_eq_false c2]
    have h := (go_both bs (by omega) bs.length 0 ⟨#[]⟩ [] (by omega) rfl (by decide)).1
    exact Ev.step (f := fun k => spec_l07Pack.l0 k bs ([] : List Int) ([] : List ByteArray) 0) (fun k => by simp only [spec_l07Pack.j0]; rw [if_neg (by simp)]) h
theorem pack_i (bs : List IB) (hb : bs.length ≤ 9223372036854775807) : Ev (fun k => impl_packed.f k bs) (packB bs) := by
  unfold impl_packed.f packB
  have ew : impl_within.f (bs.length : Int) 1 40 = some (decide (1 ≤ bs.length ∧ bs.length ≤ 40)) := by
    unfold impl_within.f
    by_cases c : (bs.length : Int) ≥ 1
    · rw [if_pos c]
      congr 1
      by_cases c2 : bs.length ≤ 40
      · rw [decide_eq_true (show (bs.length : Int) ≤ 40 by omega), decide_eq_true (by omega)]
      · rw [decide_eq_false (show ¬ (bs.length : Int) ≤ 40 by omega), decide_eq_false (by omega)]
    · rw [if_neg c, decide_eq_false (by omega)]
  refine ev_bind1 ew ?_
  by_cases c : 1 ≤ bs.length ∧ bs.length ≤ 40
  · rw [if_pos c]
    exact ev_if_pos (decide_eq_true c) (go_both bs (by omega) bs.length 0 ⟨#[]⟩ [] (by omega) rfl (by decide)).2
  · rw [if_neg c]
    exact ev_if_neg (by simpa using c) (Ev.now _)
/-- one more letter. -/
theorem one_size (a : Int) : (strOfNums [a]).size = 1 := by
  simp [strOfNums, ByteArray.size]
theorem markText_l0 : ∀ (b : Nat) (n : Nat) (x : ByteArray), n ≤ b → b ≤ 4611686018427387904 → x.size + n ≤ 4611686018427387904 → ∃ v, Ev (fun k => laws_markText.l0 k (n : Int) x) v := by
  intro b
  induction b with
  | zero =>
    intro n x hn _ hx
    obtain rfl : n = 0 := by omega
    refine ⟨(⟨#[109]⟩ : ByteArray) ++ x, Ev.step (f := fun _ => some ((⟨#[109]⟩ : ByteArray) ++ x)) (fun k => ?_) (Ev.now _)⟩
    simp only [laws_markText.l0]
    rw [if_neg (by omega), if_pos (by omega)]
  | succ b ih =>
    intro n x hn hb hx
    by_cases h0 : n = 0
    · subst h0
      refine ⟨(⟨#[109]⟩ : ByteArray) ++ x, Ev.step (f := fun _ => some ((⟨#[109]⟩ : ByteArray) ++ x)) (fun k => ?_) (Ev.now _)⟩
      simp only [laws_markText.l0]
      rw [if_neg (by omega), if_pos (by omega)]
    · have e : wrap64 (Int.tdiv (n : Int) 10) = ((n / 10 : Nat) : Int) := by
        rw [show Int.tdiv (n : Int) 10 = ((n / 10 : Nat) : Int) from rfl]
        exact w64 (by omega) (by omega)
      have hs : ∀ y : ByteArray, (strOfNums [(wrap64 (48 + Int.tmod (n : Int) 10)) % 256] ++ y).size = 1 + y.size := by
        intro y
        rw [ByteArray.size_append, one_size]
      obtain ⟨v, hv⟩ := ih (n / 10) (strOfNums [(wrap64 (48 + Int.tmod (n : Int) 10)) % 256] ++ x) (by omega) (by omega) (by rw [hs]; omega)
      refine ⟨v, Ev.step (fun k => ?_) hv⟩
      simp only [laws_markText.l0, Option.bind_some, e]
      rw [if_pos (by omega), if_pos (by rw [one_size]; omega)]
theorem markText_ex (n : Nat) (hn : n ≤ 4611686018427387904) : ∃ v, Ev (fun k => laws_markText.f k (n : Int)) v := by
  by_cases h0 : n = 0
  · refine ⟨_, ev_if_pos (show (n : Int) ≤ 0 by omega) (Ev.now (⟨#[109, 48]⟩ : ByteArray))⟩
  · obtain ⟨v, hv⟩ := markText_l0 n n (⟨#[]⟩ : ByteArray) (by omega) hn (by show 0 + n ≤ _; omega)
    exact ⟨v, ev_if_neg (show ¬ (n : Int) ≤ 0 by omega) hv⟩
/-- the mark of number n: what text it is does not matter. -/
noncomputable def mText (n : Nat) : ByteArray := if h : n ≤ 4611686018427387904 then Classical.choose (markText_ex n h) else default
theorem mText_ev (n : Nat) (hn : n ≤ 4611686018427387904) : Ev (fun k => laws_markText.f k (n : Int)) (mText n) := by
  unfold mText
  rw [dif_pos hn]
  exact Classical.choose_spec (markText_ex n hn)
/-- a loop whose rounds each end, with what is known of where it stands. -/
theorem loop_evs {σ ρ : Type} (F : Nat → σ → Int → Option ρ) (n : Nat) (inv : Nat → σ → Prop) (Q : ρ → Prop)
    (hstep : ∀ (i : Nat) (s : σ), i < n → inv i s → (∃ s', inv (i + 1) s' ∧ ∀ v, Ev (fun k => F k s' ((i + 1 : Nat) : Int)) v → Ev (fun k => F k s (i : Int)) v))
    (hend : ∀ (s : σ), inv n s → Evs (fun k => F k s (n : Int)) Q) : ∀ (s : σ), inv 0 s → Evs (fun k => F k s 0) Q := by
  have main : ∀ (d i : Nat) (s : σ), i + d = n → inv i s → Evs (fun k => F k s (i : Int)) Q := by
    intro d
    induction d with
    | zero =>
      intro i s hi hv
      obtain rfl : i = n := by omega
      exact hend s hv
    | succ d ih =>
      intro i s hi hv
      obtain ⟨s', hs', hv'⟩ := hstep i s (by omega) hv
      obtain ⟨v, h1, h2⟩ := ih (i + 1) s' (by omega) hs'
      exact ⟨v, hv' v h1, h2⟩
  intro s hs
  exact main n 0 s (by omega) hs
theorem wnat (i : Nat) (hi : i ≤ 9223372036854775806) : wrap64 ((i : Int) + 1) = ((i + 1 : Nat) : Int) := by rw [w64 (by omega) (by omega)]; omega
noncomputable def markB (q : Nat) : IB := ⟨((q : Nat) : Int), mText (q + 1)⟩
noncomputable def markedB (n m : Nat) : List IB := (List.range n).map (fun i => markB (m + 2 * i))
theorem rdBl_nat (l : List IB) (i : Nat) : rd_T60 l (i : Int) = l.getD i z60 := by
  unfold rd_T60
  rw [Int.toNat_natCast]
theorem rdBl_set (x : List IB) (i : Nat) (v : IB) (h : i < x.length) : rd_T60 (x.set i v) (i : Int) = v := by
  rw [rdBl_nat, List.getD_eq_getElem?_getD, List.getElem?_set_self h]
  rfl
theorem markBlobS_ev (l : List IB) (m : Nat) (hl : l.length ≤ 4294967296) (hm : m ≤ 4294967296) : Ev (fun k => laws_markBlobS.f k l (m : Int)) (((m + 2 * l.length : Nat) : Int), markedB l.length m) := by
  unfold laws_markBlobS.f
  refine Evs.ev (loop_evs (fun k (s : List IB × Int) i => laws_markBlobS.l0 k s.1 s.2 i) l.length (fun i s => s.2 = ((m + 2 * i : Nat) : Int) ∧ s.1.length = l.length ∧ ∀ j, j < i → s.1[j]? = (markedB l.length m)[j]?) _ (fun i s hi hv => ?_) (fun s hv => ?_) (l, (m : Int)) ⟨rfl, rfl, fun j hj => absurd hj (by omega)⟩)
  · obtain ⟨x, k1⟩ := s
    obtain ⟨rfl, h2, h3⟩ := hv
    simp only at h2 h3 ⊢
    refine ⟨(x.set i (markB (m + 2 * i)), ((m + 2 * (i + 1) : Nat) : Int)), ⟨rfl, by simp [h2], fun j hj => ?_⟩, fun v hv => ?_⟩
    · show (x.set i (markB (m + 2 * i)))[j]? = _
      rw [List.getElem?_set]
      by_cases e : i = j
      · subst e
        rw [if_pos rfl, if_pos (by omega)]
        simp [markedB, hi]
      · rw [if_neg e]
        exact h3 j (by omega)
    · obtain ⟨K1, g1⟩ := mText_ev (m + 2 * i + 1) (by omega)
      obtain ⟨K2, g2⟩ := hv
      refine ev_from (K1 + K2 + 1) fun k hk => ?_
      obtain ⟨k, rfl⟩ : ∃ q, k = q + 1 := ⟨k - 1, by omega⟩
      have g1' : laws_markText.f k ((m + 2 * i + 1 : Nat) : Int) = some (mText (m + 2 * i + 1)) := g1 k (by omega)
      have r : ∀ (y : List IB) (v : IB), y.length = l.length → rd_T60 (y.set i v) (i : Int) = v := fun y v hy => rdBl_set y i v (by omega)
      simp only [laws_markBlobS.l0, Int.toNat_natCast, wnat i (by omega), wnat (m + 2 * i) (by omega), wnat (m + 2 * i + 1) (by omega), g1', Option.bind_some]
      rw [if_pos (by omega), if_pos (by omega)]
      simp only [r x _ h2, List.set_set]
      exact g2 k (by omega)
  · obtain ⟨x, k1⟩ := s
    obtain ⟨rfl, h2, h3⟩ := hv
    simp only at h2 h3 ⊢
    refine ⟨_, Ev.step (f := fun _ => some (((m + 2 * l.length : Nat) : Int), x)) (fun k => ?_) (Ev.now _), ?_⟩
    · simp only [laws_markBlobS.l0]
      rw [if_neg (by omega)]
    · congr 1
      refine List.ext_getElem? fun j => ?_
      by_cases hj : j < l.length
      · exact h3 j hj
      · rw [List.getElem?_eq_none (by omega), List.getElem?_eq_none (by simp [markedB]; omega)]
theorem heldBlobS_ev (n m : Nat) (hl : n ≤ 4294967296) (hm : m ≤ 4294967296) : Ev (fun k => laws_heldBlobS.f k (markedB n m) (m : Int)) ((m + 2 * n : Nat) : Int) := by
  unfold laws_heldBlobS.f
  have hlen : (markedB n m).length = n := by simp [markedB]
  refine Evs.ev (loop_evs (fun k (s : Int) i => laws_heldBlobS.l0 k (markedB n m) s i) n (fun i s => s = ((m + 2 * i : Nat) : Int)) _ (fun i s hi hv => ?_) (fun s hv => ?_) (m : Int) rfl)
  · subst hv
    refine ⟨((m + 2 * (i + 1) : Nat) : Int), rfl, fun v hv => ?_⟩
    have e : rd_T60 (markedB n m) (i : Int) = markB (m + 2 * i) := by
      rw [rdBl_nat]
      simp [markedB, hi]
    obtain ⟨K1, g1⟩ := mText_ev (m + 2 * i + 1) (by omega)
    obtain ⟨K2, g2⟩ := hv
    refine ev_from (K1 + K2 + 1) fun k hk => ?_
    obtain ⟨k, rfl⟩ : ∃ q, k = q + 1 := ⟨k - 1, by omega⟩
    have g1' : laws_markText.f k ((m + 2 * i + 1 : Nat) : Int) = some (mText (m + 2 * i + 1)) := g1 k (by omega)
    simp only [laws_heldBlobS.l0, wnat i (by omega), wnat (m + 2 * i) (by omega), wnat (m + 2 * i + 1) (by omega), e, hlen, g1', Option.bind_some]
    rw [if_pos (by omega), if_pos (by omega)]
    simp only [markB, if_true]
    exact g2 k (by omega)
  · subst hv
    refine ⟨_, Ev.step (f := fun _ => some ((m + 2 * n : Nat) : Int)) (fun k => ?_) (Ev.now _), rfl⟩
    simp only [laws_heldBlobS.l0, hlen]
    rw [if_neg (by omega)]
theorem eqBlob_refl (x : IB) : laws_eqBlob.f x.f0 x.f1 x.f0 x.f1 = some true := by
  unfold laws_eqBlob.f
  simp
theorem eqBlobS_refl' (l : List IB) (hl : l.length ≤ 9223372036854775807) : Ev (fun k => laws_eqBlobS.f k l l) true := by
  unfold laws_eqBlobS.f
  refine ev_if_pos rfl ?_
  have h := loop_all (fun k i => laws_eqBlobS.l0 k l l i) l.length hl 0 (fun _ => true) (fun k i hi _ hw => by simp only [laws_eqBlobS.l0, hw, eqBlob_refl, Option.bind_some]; rw [if_pos (by omega), if_pos (by omega), if_pos (by omega), if_pos trivial]) (fun k => by simp only [laws_eqBlobS.l0]; rw [if_neg (by omega)])
  have e : (List.range l.length).all (fun _ => true) = true := by simp
  rw [e] at h
  exact h
theorem right_s (bs : List IB) (hb : bs.length ≤ 1000000) : Ev (fun k => spec_PackRight.f k bs) (packB bs).2 := by
  unfold spec_PackRight.f
  by_cases c : (bs.length : Int) > 400
  · refine ev_if_pos c (ev_eq ?_)
    unfold packB
    rw [if_neg (by omega)]
  · exact ev_if_neg c (Ev.bind (pack_s bs (by omega)) (Ev.now _))
theorem right_i (bs : List IB) (hb : bs.length ≤ 1000000) : Ev (fun k => impl_PackRight.f k bs) (packB bs).2 := by
  unfold impl_PackRight.f
  exact Ev.bind (pack_i bs (by omega)) (Ev.now _)
theorem read_both (x : ByteArray) (hx : x.size ≤ 20000) : ∀ (d p : Nat) (acc : List IB), x.size ≤ p + d → p ≤ x.size → acc.length + d ≤ 1000000 →
    ∃ v : List IB × Int × Int, v.1.length ≤ 1000000 ∧ Ev (fun k => spec_PackRead.l0 k x acc (p : Int)) v ∧ Ev (fun k => impl_PackRead.l0 k x acc (p : Int)) v := by
  have done : ∀ (p : Nat) (acc : List IB), p = x.size → acc.length ≤ 1000000 → ∃ v : List IB × Int × Int, v.1.length ≤ 1000000 ∧ Ev (fun k => spec_PackRead.l0 k x acc (p : Int)) v ∧ Ev (fun k => impl_PackRead.l0 k x acc (p : Int)) v := by
    intro p acc hp ha
    refine ⟨if (packB acc).2 = true then (acc, 0, 0) else ([], 0, 1), ?_, ?_, ?_⟩
    · split
      · exact ha
      · simp
    · refine Ev.step (f := fun k => (spec_PackRight.f k acc).bind fun t => (if t = true then (some (acc, (0 : Int), (0 : Int))) else (some (([] : List IB), 0, 1)))) (fun k => by simp only [spec_PackRead.l0]; rw [if_neg (by omega)]) (Ev.bind (right_s acc ha) ?_)
      by_cases c : (packB acc).2 = true
      · exact ev_if_pos c (ev_eq (by rw [if_pos c]))
      · exact ev_if_neg c (ev_eq (by rw [if_neg c]))
    · refine Ev.step (f := fun k => (impl_PackRight.f k acc).bind fun t => (if t = true then (some (acc, (0 : Int), (0 : Int))) else (some (([] : List IB), 0, 1)))) (fun k => by simp only [impl_PackRead.l0, impl_long.f, Option.bind_some]; rw [if_neg (by omega)]) (Ev.bind (right_i acc ha) ?_)
      by_cases c : (packB acc).2 = true
      · exact ev_if_pos c (ev_eq (by rw [if_pos c]))
      · exact ev_if_neg c (ev_eq (by rw [if_neg c]))
  intro d
  induction d with
  | zero => exact fun p acc h1 h2 h3 => done p acc (by omega) (by omega)
  | succ d ih =>
    intro p acc h1 h2 h3
    by_cases hp : p = x.size
    · exact done p acc hp (by omega)
    obtain ⟨rs, hs, hsr⟩ := at_s x hx p (by omega)
    obtain ⟨ri, hi, hir⟩ := rec_i x hx p (by omega)
    have hS : ∀ v, Ev (fun k => if rs.2.2.2.2.2.2.2 = true then (if acc.length < 5864062014805 then (spec_PackRead.l0 k x (acc ++ [(⟨rs.2.2.2.2.1, rs.2.2.2.2.2.1⟩ : IB)]) rs.2.2.2.2.2.2.1) else none) else (some (([] : List IB), (p : Int), 3))) v → Ev (fun k => spec_PackRead.l0 k x acc (p : Int)) v := fun v hv => Ev.step (fun k => by simp only [spec_PackRead.l0]; rw [if_pos (by omega)]) (Ev.bind hs hv)
    have hI : ∀ v, Ev (fun k => if ri.2.2.2.2.2.2.2 = true then (if acc.length < 5864062014805 then (impl_PackRead.l0 k x (acc ++ [(⟨ri.1, ri.2.1⟩ : IB)]) ri.2.2.2.2.2.2.1) else none) else (some (([] : List IB), (p : Int), 3))) v → Ev (fun k => impl_PackRead.l0 k x acc (p : Int)) v := fun v hv => Ev.step (fun k => by simp only [impl_PackRead.l0, impl_long.f, Option.bind_some]; rw [if_pos (by omega)]) (Ev.bind hi hv)
    rcases hsr with ⟨hn, hf⟩ | ⟨kind, text, key, a, b, hr, rfl⟩
    · rcases hir with ⟨_, hf2⟩ | ⟨kind, text, key, a, b, hr, _⟩
      · exact ⟨([], (p : Int), 3), by simp, hS _ (ev_if_neg (by rw [hf]; simp) (Ev.now _)), hI _ (ev_if_neg (by rw [hf2]; simp) (Ev.now _))⟩
      · rw [hn] at hr
        cases hr
    · rcases hir with ⟨hn, _⟩ | ⟨kind', text', key', a', b', hr', rfl⟩
      · rw [hn] at hr
        cases hr
      · rw [hr] at hr'
        simp only [Option.some.injEq, Prod.mk.injEq] at hr'
        obtain ⟨rfl, rfl, rfl, rfl, rfl⟩ := hr'
        have g := recAt_some x p kind text key a b hr
        obtain ⟨v, v1, v2, v3⟩ := ih b (acc ++ [(⟨kind, text⟩ : IB)]) (by omega) (by omega) (by simp; omega)
        exact ⟨v, v1, hS _ (ev_if_pos rfl (ev_if_pos (by omega) v2)), hI _ (ev_if_pos rfl (ev_if_pos (by omega) v3))⟩
theorem FnExactPackRead : laws_FnExactPackRead.Pure := by
  intro x _
  refine Ev.rounds (g := fun k => laws_FnExactPackRead.f k x) (Evs.ev ?_)
  unfold laws_FnExactPackRead.f
  refine Evs.ite (fun _ => Evs.now _ rfl) (fun _ => ?_)
  have same : ∃ v : List IB × Int × Int, v.1.length ≤ 1000000 ∧ Ev (fun k => spec_PackRead.f k x) v ∧ Ev (fun k => impl_PackRead.f k x) v := by
    unfold spec_PackRead.f impl_PackRead.f
    by_cases hl : (x.size : Int) > 20000
    · exact ⟨([], 0, 2), by simp, ev_if_pos hl (Ev.now _), ev_bind1 (a := decide ((x.size : Int) > 20000)) rfl (ev_if_pos (decide_eq_true hl) (Ev.now _))⟩
    · obtain ⟨v, h1, h2, h3⟩ := read_both x (by omega) x.size 0 [] (by omega) (by omega) (by simp; omega)
      exact ⟨v, h1, ev_if_neg hl h2, ev_bind1 (a := decide ((x.size : Int) > 20000)) rfl (ev_if_neg (by simp; omega) h3)⟩
  obtain ⟨⟨l, c, e⟩, hlen, hs, hi⟩ := same
  simp only at hlen
  have he : Ev (fun k => laws_eqBlobsOut.f k l c e l c e) true := by
    unfold laws_eqBlobsOut.f
    exact Ev.bind (eqBlobS_refl' l (by omega)) (ev_if_pos rfl (ev_if_pos rfl (ev_if_pos rfl (Ev.now _))))
  have hm : Ev (fun k => laws_markBlobsOut.f k l c e 1) (((1 + 2 * l.length : Nat) : Int), markedB l.length 1) := by
    unfold laws_markBlobsOut.f
    exact Ev.bind (markBlobS_ev l 1 (by omega) (by omega)) (Ev.now _)
  have hh : Ev (fun k => laws_heldBlobsOut.f k (markedB l.length 1) c e 1) ((1 + 2 * l.length : Nat) : Int) := by
    unfold laws_heldBlobsOut.f
    exact Ev.bind (heldBlobS_ev l.length 1 (by omega) (by omega)) (ev_if_neg (by omega) (Ev.now _))
  exact ⟨true, Ev.bind hs (Ev.bind hi (Ev.bind he (ev_if_pos rfl (Ev.bind hm (Ev.bind hh (ev_if_neg (by omega) (ev_if_pos rfl (Ev.bind hi (Ev.bind he (ev_if_pos rfl (Ev.bind hh (ev_if_neg (by omega) (ev_if_pos rfl (Ev.now _)))))))))))))), rfl⟩
end Go.Proofs.YtfffdndeccipnaaDoor.Pure
