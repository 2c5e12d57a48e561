/- The plain law of FnScan: of a right pack behind bytes among which no record begins all records are found, and by what is found the blobs are got. -/
import Derived.Test.YtddapeieolfolaaDoorPFnScanx17
import Derived.Test.YtddapeieolfolaaDoorVLibFnScan
namespace Go.Proofs.YtddapeieolfolaaDoor.Pure
open Go.RowKit Go.Proofs.YtddapeieolfolaaDoor.PFnScan Go.Proofs.YtddapeieolfolaaDoor.Lib Go.Proofs.YtddapeieolfolaaDoorW.PrintWords Go.Proofs.YtddapeieolfolaaDoorW.PrintLast Go.Proofs.YtddapeieolfolaaDoorW.PrintMore
set_option linter.unusedVariables false
set_option linter.unusedSimpArgs false
theorem within_eq (a b c : Int) : impl_within.f a b c = some (decide (b ≤ a) && decide (a ≤ c)) := by
  unfold impl_within.f
  by_cases h : a ≥ b <;> simp [h]
/-- a loop whose rounds each go on or end. -/
theorem loop_evx {σ ρ : Type} (F : Nat → σ → Int → Option ρ) (n : Nat) (inv : Nat → σ → Prop) (Q : ρ → Prop)
    (hstep : ∀ (i : Nat) (s : σ), i < n → inv i s → (∃ s', inv (i + 1) s' ∧ ∀ v, Ev (fun k => F k s' ((i + 1 : Nat) : Int)) v → Ev (fun k => F k s (i : Int)) v) ∨ Evs (fun k => F k s (i : Int)) Q)
    (hend : ∀ (s : σ), inv n s → Evs (fun k => F k s (n : Int)) Q) : ∀ (s : σ), inv 0 s → Evs (fun k => F k s 0) Q := by
  have main : ∀ (d i : Nat) (s : σ), i + d = n → inv i s → Evs (fun k => F k s (i : Int)) Q := by
    intro d
    induction d with
    | zero =>
      intro i s hi hv
      obtain rfl : i = n := by omega
      exact hend s hv
    | succ d ih =>
      intro i s hi hv
      rcases hstep i s (by omega) hv with ⟨s', hs', hv'⟩ | h
      · obtain ⟨v, h1, h2⟩ := ih (i + 1) s' (by omega) hs'
        exact ⟨v, hv' v h1, h2⟩
      · exact h
  intro s hs
  exact main n 0 s (by omega) hs
theorem wnat' (i n : Nat) (hi : i < n) (hn : n ≤ 9223372036854775807) : wrap64 ((i : Int) + 1) = ((i + 1 : Nat) : Int) := by rw [w64 (by omega) (by omega)]; omega
/-- what is read of bytes: a code, the number's fold, and how many bytes. -/
def gN : Nat → Nat → List Nat → Int × Nat × Nat
  | _, _, [] => (4, 0, 0)
  | i, u, c :: cs => if i = 9 ∧ 1 < c then (3, 0, 0) else if c < 128 then (if c = 0 ∧ 0 < i then (3, 0, 0) else (0, u + c * 128 ^ i, i + 1)) else gN (i + 1) (u + (c - 128) * 128 ^ i) cs
theorem gN_ok : ∀ (l : List Nat) (i u : Nat), i ≤ 9 → u < 128 ^ i → (∀ c ∈ l, c < 256) → (gN i u l).1 = 0 → i < (gN i u l).2.2 ∧ (gN i u l).2.2 ≤ i + l.length ∧ (gN i u l).2.1 < 18446744073709551616 := by
  intro l
  induction l with
  | nil => intro i u _ _ _ h; simp [gN] at h
  | cons c cs ih =>
    intro i u hi hu hl h
    have hc := hl c (by simp)
    unfold gN at h ⊢
    by_cases h1 : i = 9 ∧ 1 < c
    · rw [if_pos h1] at h; simp at h
    rw [if_neg h1] at h ⊢
    have hp : 128 ^ i ≤ 128 ^ 9 := Nat.pow_le_pow_right (by decide) hi
    by_cases h2 : c < 128
    · rw [if_pos h2] at h ⊢
      by_cases h3 : c = 0 ∧ 0 < i
      · rw [if_pos h3] at h; simp at h
      rw [if_neg h3]
      refine ⟨by simp, by simp, ?_⟩
      show u + c * 128 ^ i < _
      by_cases h9 : i = 9
      · subst h9
        have : c ≤ 1 := by omega
        have : c * 128 ^ 9 ≤ 1 * 128 ^ 9 := Nat.mul_le_mul_right _ this
        omega
      · have hp8 : 128 ^ i ≤ 128 ^ 8 := Nat.pow_le_pow_right (by decide) (by omega)
        have : c * 128 ^ i ≤ 127 * 128 ^ 8 := Nat.mul_le_mul (by omega) hp8
        omega
    · rw [if_neg h2] at h ⊢
      have hi9 : i < 9 := by
        by_cases e : i = 9
        · exact absurd ⟨e, by omega⟩ h1
        · omega
      have hu' : u + (c - 128) * 128 ^ i < 128 ^ (i + 1) := by
        have : (c - 128) * 128 ^ i ≤ 127 * 128 ^ i := Nat.mul_le_mul_right _ (by omega)
        rw [Nat.pow_succ]
        omega
      obtain ⟨q1, q2, q3⟩ := ih (i + 1) _ (by omega) hu' (fun x hx => hl x (by simp [hx])) h
      exact ⟨by omega, by simp only [List.length_cons]; omega, q3⟩
/-- a number that was put is got back. -/
theorem gN_put (m : Nat) : ∀ (v i u : Nat) (rest : List Nat), i + m = 9 → v < 128 ^ (m + 1) → v * 128 ^ i < 18446744073709551616 → (0 < i → 0 < v) → gN i u ((numL v).map Int.toNat ++ rest) = (0, u + v * 128 ^ i, i + (numL v).length) := by
  induction m with
  | zero =>
    intro v i u rest hi hv hw h0
    obtain rfl : i = 9 := by omega
    have hv1 : v ≤ 1 := by omega
    rw [numL_lt (by omega)]
    simp only [List.map_cons, List.map_nil, List.cons_append, List.nil_append, Int.toNat_natCast, gN, List.length_cons, List.length_nil]
    rw [if_neg (by omega), if_pos (by omega), if_neg (by have := h0 (by omega); omega)]
  | succ m ih =>
    intro v i u rest hi hv hw h0
    by_cases h : v < 128
    · rw [numL_lt h]
      simp only [List.map_cons, List.map_nil, List.cons_append, List.nil_append, Int.toNat_natCast, gN, List.length_cons, List.length_nil]
      rw [if_neg (by omega), if_pos (by omega), if_neg (by intro q; have := h0 q.2; omega)]
    · rw [numL_ge h]
      simp only [List.map_cons, List.cons_append, Int.toNat_natCast, gN, List.length_cons]
      rw [if_neg (by omega), if_neg (by omega)]
      have e : v / 128 * 128 ^ (i + 1) + v % 128 * 128 ^ i = v * 128 ^ i := by
        rw [Nat.pow_succ, Nat.mul_comm (128 ^ i) 128, ← Nat.mul_assoc, ← Nat.add_mul]
        congr 1
        omega
      rw [ih (v / 128) (i + 1) _ rest (by omega) (by rw [Nat.div_lt_iff_lt_mul (by decide), ← Nat.pow_succ]; exact hv) (by omega) (by intro _; omega)]
      congr 2
      · have : v % 128 + 128 - 128 = v % 128 := by omega
        rw [this]
        omega
      · omega
/-- of a number whose last bytes are gone nothing is got. -/
theorem gN_short (m : Nat) : ∀ (v i u n : Nat), i + m = 9 → v < 128 ^ (m + 1) → n < (numL v).length → gN i u (((numL v).map Int.toNat).take n) = (4, 0, 0) := by
  induction m with
  | zero =>
    intro v i u n hi hv hn
    rw [numL_lt (Nat.lt_of_lt_of_le hv (by decide))] at hn ⊢
    obtain rfl : n = 0 := by simpa using hn
    rfl
  | succ m ih =>
    intro v i u n hi hv hn
    by_cases h : v < 128
    · rw [numL_lt h] at hn ⊢
      obtain rfl : n = 0 := by simpa using hn
      rfl
    · rw [numL_ge h] at hn ⊢
      cases n with
      | zero => rfl
      | succ n =>
        simp only [List.map_cons, List.take_succ_cons, Int.toNat_natCast, gN]
        rw [if_neg (by omega), if_neg (by omega)]
        exact ih (v / 128) (i + 1) _ n (by omega) (by rw [Nat.div_lt_iff_lt_mul (by decide), ← Nat.pow_succ]; exact hv) (by simpa using hn)
/-- the number of a fold. -/
def unfold' (u : Nat) : Int := if u % 2 = 1 then -((u / 2 : Nat) : Int) - 1 else ((u / 2 : Nat) : Int)
/-- a text as numbers. -/
def bl (t : ByteArray) : List Nat := t.data.toList.map UInt8.toNat
theorem bl_length (t : ByteArray) : (bl t).length = t.size := by unfold bl; rw [List.length_map]; exact data_length t
theorem bl_append (a b : ByteArray) : bl (a ++ b) = bl a ++ bl b := by simp [bl, ByteArray.data_append]
theorem bl_lt (t : ByteArray) : ∀ c ∈ bl t, c < 256 := by
  intro c hc
  obtain ⟨x, _, rfl⟩ := List.mem_map.1 hc
  exact x.toNat_lt
theorem bl_extract (t : ByteArray) (i j : Nat) : bl (t.extract i j) = ((bl t).take j).drop i := by
  simp only [bl, ByteArray.data_extract, Array.toList_extract, List.extract_eq_take_drop, List.map_take, List.map_drop]
  rw [List.drop_take]
theorem bl_inj {a b : ByteArray} (h : bl a = bl b) : a = b := by
  have h2 : a.data.toList = b.data.toList := by
    unfold bl at h
    exact (List.map_inj_right (fun x y q => UInt8.toNat_inj.1 q)).1 h
  cases a; cases b
  simp only at h2
  congr 1
  exact Array.toList_inj.1 h2
theorem bt_bl (t : ByteArray) (i : Nat) (h : i < t.size) : bt t (i : Int) = (((bl t)[i]'(by rw [bl_length]; exact h) : Nat) : Int) := by
  unfold bt
  simp only [Int.toNat_natCast]
  rw [dif_pos h]
  simp [bl]
  rfl
theorem bl_strOfNums (l : List Int) (h : ∀ x ∈ l, 0 ≤ x ∧ x < 256) : bl (strOfNums l) = l.map Int.toNat := by
  unfold bl strOfNums
  simp only [List.map_map]
  refine List.map_congr_left (fun x hx => ?_)
  have := h x hx
  simp only [Function.comp]
  rw [UInt8.toNat_ofNat']
  omega
theorem numL_range (m : Nat) : ∀ u, u < 128 ^ (m + 1) → ∀ x ∈ numL u, 0 ≤ x ∧ x < 256 := by
  induction m with
  | zero =>
    intro u hu x hx
    rw [numL_lt (by simpa using hu)] at hx
    simp at hx; subst hx
    simp at hu
    omega
  | succ m ih =>
    intro u hu x hx
    by_cases h : u < 128
    · rw [numL_lt h] at hx
      simp at hx; omega
    · rw [numL_ge h, List.mem_cons] at hx
      rcases hx with rfl | hx
      · omega
      · exact ih (u / 128) (by rw [Nat.div_lt_iff_lt_mul (by decide), ← Nat.pow_succ]; exact hu) x hx
theorem bl_putNum (n : Int) (h0 : -9223372036854775808 ≤ n) (h1 : n ≤ 9223372036854775807) : bl (putNum n) = (numL (fold n)).map Int.toNat :=
  bl_strOfNums _ (numL_range 9 _ (Nat.lt_of_lt_of_le (fold_lt n h0 h1) (by decide)))
theorem empty_list : ((⟨#[]⟩ : ByteArray).toList == ([] : List UInt8)) = true := by
  rw [ByteArray.toList_eq]; rfl
theorem not_empty (p : ByteArray) (h : 0 < p.size) : (p.toList == ([] : List UInt8)) = false := by
  refine beq_eq_false_iff_ne.2 (fun q => ?_)
  rw [ByteArray.toList_eq] at q
  have := congrArg List.length q
  rw [data_length] at this
  simp only [List.length_nil] at this
  omega
theorem extract_size (p : ByteArray) (n : Nat) (h : n ≤ p.size) : (p.extract 0 n).size = n := by
  rw [ByteArray.size_extract]; omega
theorem i64_xor_zero (x : Int) (h0 : -9223372036854775808 ≤ x) (h1 : x ≤ 9223372036854775807) : Go.bits .xor .i64 x 0 = x := by
  show IntKind.i64.wrap (((BitVec.ofInt 64 x) ^^^ (BitVec.ofInt 64 0)).toNat : Int) = x
  rw [show BitVec.ofInt 64 0 = 0#64 by decide, BitVec.xor_zero, BitVec.toNat_ofInt, i64_w]
  unfold wrap64
  omega
theorem i64_xor_ones (x : Int) (h0 : -9223372036854775808 ≤ x) (h1 : x ≤ 9223372036854775807) : Go.bits .xor .i64 x (-1) = -x - 1 := by
  show IntKind.i64.wrap (((BitVec.ofInt 64 x) ^^^ (BitVec.ofInt 64 (-1))).toNat : Int) = -x - 1
  rw [show BitVec.ofInt 64 (-1) = BitVec.allOnes 64 by decide, BitVec.xor_allOnes, BitVec.toNat_not, BitVec.toNat_ofInt, i64_w]
  unfold wrap64
  omega
theorem unfold_eq (u : Nat) (h : u < 18446744073709551616) : Go.bits .xor .i64 (wrap64 ((u : Int) / 2)) (wrap64 (-(wrap64 (Go.bits .and .u64 (u : Int) 1)))) = unfold' u := by
  have e : Go.bits .and .u64 (u : Int) 1 = ((u % 2 : Nat) : Int) := by
    refine (u64_and_nat u 1 h (by decide)).trans ?_
    rw [Nat.and_one_is_mod]
  rw [e, w64 (n := (u : Int) / 2) (by omega) (by omega), w64 (n := ((u % 2 : Nat) : Int)) (by omega) (by omega)]
  unfold unfold'
  by_cases q : u % 2 = 1
  · rw [if_pos q, q]
    rw [show wrap64 (-((1 : Nat) : Int)) = -1 by unfold wrap64; omega, i64_xor_ones _ (by omega) (by omega)]
    omega
  · rw [if_neg q, show u % 2 = 0 by omega]
    rw [show wrap64 (-((0 : Nat) : Int)) = 0 by unfold wrap64; omega, i64_xor_zero _ (by omega) (by omega)]
    omega
theorem or_shl (u c i : Nat) (hu : u < 128 ^ i) (h : i ≤ 8 ∧ c < 256 ∨ i = 9 ∧ c ≤ 1) : Go.bits .or .u64 (u : Int) (shl .u64 (IntKind.u64.wrap (Go.bits .and .u8 (c : Int) 127)) (wrap64 (7 * (i : Int)))) = ((u + c % 128 * 128 ^ i : Nat) : Int) := by
  have e1 : Go.bits .and .u8 (c : Int) 127 = ((c % 128 : Nat) : Int) := by
    refine (u8_and_nat c 127 (by omega) (by decide)).trans ?_
    rw [nat_mask7]
  have e2 : (2 : Nat) ^ (7 * i) = 128 ^ i := by rw [Nat.pow_mul]
  have hb : c % 128 * 128 ^ i < 18446744073709551616 := by
    rcases h with ⟨h, hc⟩ | ⟨rfl, hc⟩
    · have : 128 ^ i ≤ 128 ^ 8 := Nat.pow_le_pow_right (by decide) h
      have : c % 128 * 128 ^ i ≤ 127 * 128 ^ 8 := Nat.mul_le_mul (by omega) this
      omega
    · have : c % 128 * 128 ^ 9 ≤ 1 * 128 ^ 9 := Nat.mul_le_mul_right _ (by omega)
      omega
  have hub : u < 18446744073709551616 := by
    have : 128 ^ i ≤ 128 ^ 9 := Nat.pow_le_pow_right (by decide) (by omega)
    omega
  have e3 : shl .u64 (IntKind.u64.wrap (Go.bits .and .u8 (c : Int) 127)) (wrap64 (7 * (i : Int))) = ((c % 128 * 128 ^ i : Nat) : Int) := by
    rw [e1, w64 (by omega) (by omega)]
    unfold shl
    rw [show (7 * (i : Int)).toNat = 7 * i by omega, show IntKind.u64.bits = 64 from rfl, Nat.min_eq_left (by omega)]
    simp only [IntKind.wrap_u64]
    rw [show (2 : Int) ^ (7 * i) = ((128 ^ i : Nat) : Int) by rw [← e2]; simp]
    have : (((c % 128 : Nat) : Int) % 18446744073709551616) = ((c % 128 : Nat) : Int) := by omega
    rw [this, ← Int.natCast_mul]
    omega
  rw [e3, u64_or_nat _ _ hub hb, Nat.or_comm, nat_join (7 * i) _ _ (by rw [e2]; exact Nat.mul_mod_left _ _) (by rw [e2]; exact hu)]
  omega
/-- what is got of bytes: a number, the place behind it, a code. -/
def gout (p : Nat) (g : Int × Nat × Nat) : Int × Int × Int := if g.1 = 0 then (unfold' g.2.1, ((p + g.2.2 : Nat) : Int), 0) else (0, 0, g.1)
theorem getNum_i_l0 (x : ByteArray) (p : Nat) (hx : x.size ≤ 4611686018427387904) (hp : p ≤ 4611686018427387904) : ∀ (m i u : Nat), i + m = 9 → u < 128 ^ i → Ev (fun k => impl_getNum.l0 k x (p : Int) (u : Int) (i : Int)) (gout p (gN i u ((bl x).drop (p + i)))) := by
  intro m
  induction m with
  | zero =>
    intro i u hi hu
    obtain rfl : i = 9 := by omega
    by_cases h : p + 9 < x.size
    · have hc : p + 9 < (bl x).length := by rw [bl_length]; exact h
      have hb := bl_lt x (bl x)[p + 9] (List.getElem_mem hc)
      have hbt := bt_bl x (p + 9) h
      rw [List.drop_eq_getElem_cons hc]
      generalize (bl x)[p + 9] = c at hb hbt ⊢
      have e1 : wrap64 ((p : Int) + (9 : Nat)) = ((p + 9 : Nat) : Int) := by rw [w64 (by omega) (by omega)]; omega
      refine Ev.step (f := fun k => impl_getNum.j1 k x (p : Int) (Go.bits .or .u64 (u : Int) (shl .u64 (IntKind.u64.wrap (Go.bits .and .u8 (c : Int) 127)) (wrap64 (7 * ((9 : Nat) : Int))))) ((9 : Nat) : Int) (c : Int) (decide ((c : Int) > 1))) (fun k => ?_) ?_
      · simp only [impl_getNum.l0, impl_long.f, Option.bind_some, e1, hbt]
        rw [if_neg (by unfold wrap64; omega), if_pos (by omega), if_pos (by omega), if_pos (by rw [w64 (by omega) (by omega)]; omega), if_pos (by omega)]
      · by_cases h1 : 1 < c
        · rw [decide_eq_true (show (c : Int) > 1 by omega)]
          refine Ev.step (f := fun k => impl_getNum.j2 k x (p : Int) (Go.bits .or .u64 (u : Int) (shl .u64 (IntKind.u64.wrap (Go.bits .and .u8 (c : Int) 127)) (wrap64 (7 * ((9 : Nat) : Int))))) ((9 : Nat) : Int) (c : Int) true) (fun k => by simp only [impl_getNum.j1]; rw [if_pos trivial]) ?_
          refine Ev.step (f := fun _ => some (0, 0, 3)) (fun k => by simp only [impl_getNum.j2]; rw [if_pos trivial]) (ev_eq ?_)
          unfold gN
          rw [if_pos ⟨rfl, h1⟩]
          rfl
        · rw [decide_eq_false (show ¬ (c : Int) > 1 by omega), or_shl u c 9 hu (.inr ⟨rfl, by omega⟩), Nat.mod_eq_of_lt (show c < 128 by omega)]
          refine Ev.step (f := fun k => impl_getNum.j2 k x (p : Int) ((u + c * 128 ^ 9 : Nat) : Int) ((9 : Nat) : Int) (c : Int) (decide (c = 0))) (fun k => ?_) ?_
          · simp only [impl_getNum.j1]
            rw [if_neg (by simp)]
            by_cases h0 : c = 0
            · rw [if_pos (by omega), decide_eq_true h0]; rfl
            · rw [if_neg (by omega), decide_eq_false h0]
          · unfold gN
            rw [if_neg (by omega), if_pos (by omega)]
            by_cases h0 : c = 0
            · rw [decide_eq_true h0, if_pos ⟨h0, by decide⟩]
              exact Ev.step (f := fun _ => some (0, 0, 3)) (fun k => by simp only [impl_getNum.j2]; rw [if_pos trivial]) (ev_eq rfl)
            · rw [decide_eq_false h0, if_neg (fun q => h0 q.1)]
              refine Ev.step (f := fun _ => some (Go.bits .xor .i64 (wrap64 (((u + c * 128 ^ 9 : Nat) : Int) / 2)) (wrap64 (-(wrap64 (Go.bits .and .u64 ((u + c * 128 ^ 9 : Nat) : Int) 1)))), wrap64 ((wrap64 ((p : Int) + ((9 : Nat) : Int))) + 1), 0)) (fun k => ?_) (ev_eq ?_)
              · simp only [impl_getNum.j2]
                rw [if_neg (by simp), if_pos (by omega)]
              · have : c * 128 ^ 9 ≤ 1 * 128 ^ 9 := Nat.mul_le_mul_right _ (by omega)
                rw [unfold_eq _ (by omega), e1, w64 (by omega) (by omega)]
                unfold gout
                rw [if_pos rfl]
                simp only [Prod.mk.injEq, true_and]
                exact ⟨by omega, trivial⟩
    · rw [List.drop_eq_nil_of_le (by rw [bl_length]; omega)]
      refine Ev.step (f := fun _ => some (0, 0, 4)) (fun k => ?_) (ev_eq rfl)
      simp only [impl_getNum.l0, impl_long.f, Option.bind_some]
      rw [if_pos (by unfold wrap64; omega)]
  | succ m ih =>
    intro i u hi hu
    by_cases h : p + i < x.size
    · have hc : p + i < (bl x).length := by rw [bl_length]; exact h
      have hb := bl_lt x (bl x)[p + i] (List.getElem_mem hc)
      have hbt := bt_bl x (p + i) h
      rw [List.drop_eq_getElem_cons hc]
      generalize (bl x)[p + i] = c at hb hbt ⊢
      have e1 : wrap64 ((p : Int) + (i : Int)) = ((p + i : Nat) : Int) := by rw [w64 (by omega) (by omega)]; omega
      refine Ev.step (f := fun k => impl_getNum.j1 k x (p : Int) ((u + c % 128 * 128 ^ i : Nat) : Int) (i : Int) (c : Int) false) (fun k => ?_) ?_
      · simp only [impl_getNum.l0, impl_long.f, Option.bind_some, e1, hbt, or_shl u c i hu (.inl ⟨by omega, hb⟩)]
        rw [if_neg (by unfold wrap64; omega), if_pos (by omega), if_pos (by omega), if_pos (by rw [w64 (by omega) (by omega)]; omega), if_neg (by omega)]
      · unfold gN
        rw [if_neg (by omega)]
        by_cases h128 : c < 128
        · rw [Nat.mod_eq_of_lt h128, if_pos h128]
          refine Ev.step (f := fun k => impl_getNum.j2 k x (p : Int) ((u + c * 128 ^ i : Nat) : Int) (i : Int) (c : Int) (decide (c = 0 ∧ 0 < i))) (fun k => ?_) ?_
          · simp only [impl_getNum.j1]
            rw [if_neg (by simp)]
            by_cases h0 : c = 0
            · rw [if_pos (by omega)]
              congr 1
              by_cases hi0 : 0 < i
              · rw [decide_eq_true (show (i : Int) > 0 by omega), decide_eq_true ⟨h0, hi0⟩]
              · rw [decide_eq_false (show ¬ (i : Int) > 0 by omega), decide_eq_false (fun q => hi0 q.2)]
            · rw [if_neg (by omega), decide_eq_false (fun q => h0 q.1)]
          · by_cases h0 : c = 0 ∧ 0 < i
            · rw [decide_eq_true h0, if_pos h0]
              exact Ev.step (f := fun _ => some (0, 0, 3)) (fun k => by simp only [impl_getNum.j2]; rw [if_pos trivial]) (ev_eq rfl)
            · rw [decide_eq_false h0, if_neg h0]
              refine Ev.step (f := fun _ => some (Go.bits .xor .i64 (wrap64 (((u + c * 128 ^ i : Nat) : Int) / 2)) (wrap64 (-(wrap64 (Go.bits .and .u64 ((u + c * 128 ^ i : Nat) : Int) 1)))), wrap64 ((wrap64 ((p : Int) + (i : Int))) + 1), 0)) (fun k => ?_) (ev_eq ?_)
              · simp only [impl_getNum.j2]
                rw [if_neg (by simp), if_pos (by omega)]
              · have h8 : 128 ^ i ≤ 128 ^ 8 := Nat.pow_le_pow_right (by decide) (by omega)
                have : c * 128 ^ i ≤ 127 * 128 ^ 8 := Nat.mul_le_mul (by omega) h8
                rw [unfold_eq _ (by omega), e1, w64 (by omega) (by omega)]
                unfold gout
                rw [if_pos rfl]
                simp only [Prod.mk.injEq, true_and]
                exact ⟨by omega, trivial⟩
        · rw [if_neg h128, show c % 128 = c - 128 by omega]
          have hu' : u + (c - 128) * 128 ^ i < 128 ^ (i + 1) := by
            have : (c - 128) * 128 ^ i ≤ 127 * 128 ^ i := Nat.mul_le_mul_right _ (by omega)
            rw [Nat.pow_succ]
            omega
          have hr := ih (i + 1) (u + (c - 128) * 128 ^ i) (by omega) hu'
          refine Ev.step (f := fun k => impl_getNum.j2 k x (p : Int) ((u + (c - 128) * 128 ^ i : Nat) : Int) (i : Int) (c : Int) false) (fun k => ?_) ?_
          · simp only [impl_getNum.j1]
            rw [if_neg (by simp), if_neg (by omega)]
          · refine Ev.step (fun k => ?_) hr
            simp only [impl_getNum.j2]
            rw [if_neg (by simp), if_neg (by omega), wnat' i 10 (by omega) (by decide)]
    · rw [List.drop_eq_nil_of_le (by rw [bl_length]; omega)]
      refine Ev.step (f := fun _ => some (0, 0, 4)) (fun k => ?_) (ev_eq rfl)
      simp only [impl_getNum.l0, impl_long.f, Option.bind_some]
      rw [if_pos (by unfold wrap64; omega)]
theorem getNum_i (x : ByteArray) (p : Nat) (hx : x.size ≤ 4611686018427387904) (hp : p ≤ 4611686018427387904) : Ev (fun k => impl_getNum.f k x (p : Int)) (gout p (gN 0 0 ((bl x).drop p))) :=
  ev_if_neg (by omega) (getNum_i_l0 x p hx hp 9 0 0 rfl (by decide))
theorem unfold_range (u : Nat) (h : u < 18446744073709551616) : -9223372036854775808 ≤ unfold' u ∧ unfold' u ≤ 9223372036854775807 := by
  unfold unfold'
  split <;> omega
theorem unfold_fold (n : Int) : unfold' (fold n) = n := by
  unfold unfold' fold
  by_cases h : n < 0
  · rw [if_pos h, if_pos (by omega)]; omega
  · rw [if_neg h, if_neg (by omega)]; omega
/-- what is got of bytes as a number is right, if its code is. -/
theorem gout_ok (x : ByteArray) (p : Nat) (hp : p ≤ x.size) (h : (gout p (gN 0 0 ((bl x).drop p))).2.2 = 0) : ∃ (n : Int) (q : Nat), gout p (gN 0 0 ((bl x).drop p)) = (n, (q : Int), 0) ∧ p < q ∧ q ≤ x.size ∧ -9223372036854775808 ≤ n ∧ n ≤ 9223372036854775807 := by
  unfold gout at h ⊢
  by_cases c : (gN 0 0 ((bl x).drop p)).1 = 0
  · obtain ⟨q1, q2, q3⟩ := gN_ok ((bl x).drop p) 0 0 (by decide) (by decide) (fun c hc => bl_lt x c (List.mem_of_mem_drop hc)) c
    rw [if_pos c]
    have := unfold_range _ q3
    rw [List.length_drop, bl_length] at q2
    exact ⟨_, _, rfl, by omega, by omega, this.1, this.2⟩
  · rw [if_neg c] at h
    exact absurd h c
def tout (x : ByteArray) (r : Int × Int × Int) : ByteArray × Int × Int := if r.2.2 = 0 then (if 0 ≤ r.1 ∧ r.1 ≤ 20000 then (if r.2.1 + r.1 > (x.size : Int) then ((⟨#[]⟩ : ByteArray), 0, 4) else (x.extract r.2.1.toNat (r.2.1 + r.1).toNat, r.2.1 + r.1, 0)) else ((⟨#[]⟩ : ByteArray), 0, 3)) else ((⟨#[]⟩ : ByteArray), 0, r.2.2)
theorem getText_i (x : ByteArray) (p : Nat) (hx : x.size ≤ 4611686018427387904) (hp : p ≤ x.size) : Ev (fun k => impl_getText.f k x (p : Int)) (tout x (gout p (gN 0 0 ((bl x).drop p)))) := by
  have hg := getNum_i x p hx (by omega)
  have hok := gout_ok x p hp
  generalize gout p (gN 0 0 ((bl x).drop p)) = g at hg hok ⊢
  refine Ev.bind hg ?_
  by_cases c : g.2.2 = 0
  · obtain ⟨n, q, rfl, hq1, hq2, hn1, hn2⟩ := hok c
    refine ev_if_pos c (ev_bind1 (within_eq _ _ _) ?_)
    simp only
    by_cases c2 : 0 ≤ n ∧ n ≤ 20000
    · rw [decide_eq_true c2.1, decide_eq_true c2.2]
      refine ev_if_pos rfl (ev_bind1 rfl ?_)
      have e : wrap64 ((q : Int) + n) = (q : Int) + n := w64 (by omega) (by omega)
      rw [e]
      by_cases c3 : (q : Int) + n > (x.size : Int)
      · exact ev_if_pos c3 (ev_eq (by unfold tout; rw [if_pos rfl, if_pos c2, if_pos c3]))
      · exact ev_if_neg c3 (ev_if_pos (by omega) (ev_if_pos (by omega) (ev_if_pos (by omega) (ev_eq (by unfold tout; rw [if_pos rfl, if_pos c2, if_neg c3])))))
    · refine ev_if_neg ?_ (ev_eq (by unfold tout; rw [if_pos rfl, if_neg c2]))
      intro q
      simp only [Bool.and_eq_true, decide_eq_true_eq] at q
      exact c2 q
  · exact ev_if_neg c (ev_eq (by unfold tout; rw [if_neg c]))
def rNum (x : ByteArray) (p : Nat) (bad : Bool) : Int × ByteArray × Int × Bool := if bad = true then (0, x, (p : Int), true) else if (gout p (gN 0 0 ((bl x).drop p))).2.2 = 0 then ((gout p (gN 0 0 ((bl x).drop p))).1, x, (gout p (gN 0 0 ((bl x).drop p))).2.1, bad) else (0, x, (p : Int), true)
def rBytes (x : ByteArray) (p : Nat) (bad : Bool) (n : Nat) : ByteArray × ByteArray × Int × Bool := if bad = true then ((⟨#[]⟩ : ByteArray), x, (p : Int), true) else if p + n > x.size then ((⟨#[]⟩ : ByteArray), x, (p : Int), true) else (x.extract p (p + n), x, ((p + n : Nat) : Int), bad)
/-- where a reader stands. -/
def At (x : ByteArray) (s : ByteArray × Int × Bool) : Prop := ∃ (q : Nat) (b : Bool), s = (x, (q : Int), b) ∧ q ≤ x.size
theorem rNum_at (x : ByteArray) (p : Nat) (bad : Bool) (hp : p ≤ x.size) : At x (rNum x p bad).2 := by
  unfold rNum
  by_cases h : bad = true
  · rw [if_pos h]; exact ⟨p, true, rfl, hp⟩
  rw [if_neg h]
  by_cases c : (gout p (gN 0 0 ((bl x).drop p))).2.2 = 0
  · obtain ⟨n, q, e, h1, h2, _⟩ := gout_ok x p hp c
    rw [if_pos c, e]
    exact ⟨q, bad, rfl, h2⟩
  · rw [if_neg c]; exact ⟨p, true, rfl, hp⟩
theorem rBytes_at (x : ByteArray) (p : Nat) (bad : Bool) (n : Nat) (hp : p ≤ x.size) : At x (rBytes x p bad n).2 := by
  unfold rBytes
  by_cases h : bad = true
  · rw [if_pos h]; exact ⟨p, true, rfl, hp⟩
  rw [if_neg h]
  by_cases c : p + n > x.size
  · rw [if_pos c]; exact ⟨p, true, rfl, hp⟩
  · rw [if_neg c]; exact ⟨p + n, bad, rfl, by omega⟩
theorem num_i (x : ByteArray) (hx : x.size ≤ 20000) (p : Nat) (bad : Bool) (hp : p ≤ x.size) : Ev (fun k => impl_reader_num.f k x (p : Int) bad) (rNum x p bad) := by
  refine Ev.bind (getNum_i x p (by omega) (by omega)) ?_
  unfold rNum
  by_cases h : bad = true
  · exact ev_if_pos h (ev_eq (by rw [if_pos h]))
  · refine ev_if_neg h ?_
    by_cases c : (gout p (gN 0 0 ((bl x).drop p))).2.2 = 0
    · exact ev_if_pos c (ev_eq (by rw [if_neg h, if_pos c]))
    · exact ev_if_neg c (ev_eq (by rw [if_neg h, if_neg c]))
theorem bytes_i (x : ByteArray) (hx : x.size ≤ 20000) (p : Nat) (bad : Bool) (n : Nat) (hn : n ≤ 20000) (hp : p ≤ x.size) : impl_reader_take.f x (p : Int) bad (n : Int) = some (rBytes x p bad n) := by
  unfold impl_reader_take.f rBytes impl_long.f
  by_cases h : bad = true
  · rw [if_pos h, if_pos h]
  · rw [if_neg h, if_neg h, Option.bind_some, w64 (n := (x.size : Int) - (p : Int)) (by omega) (by omega), w64 (n := (p : Int) + (n : Int)) (by omega) (by omega), w64 (n := (p : Int) + (n : Int) - (n : Int)) (by omega) (by omega)]
    by_cases c : p + n > x.size
    · rw [if_pos (by omega), if_pos c]
    · rw [if_neg (by omega), if_pos (by omega), if_pos (by omega), if_pos (by omega), if_neg c, show ((p : Int) + (n : Int) - (n : Int)).toNat = p by omega, show ((p : Int) + (n : Int)).toNat = p + n by omega]
      rfl
def rText (x : ByteArray) (p : Nat) (bad : Bool) : ByteArray × ByteArray × Int × Bool := if bad = true then ((⟨#[]⟩ : ByteArray), x, (p : Int), true) else if (tout x (gout p (gN 0 0 ((bl x).drop p)))).2.2 = 0 then ((tout x (gout p (gN 0 0 ((bl x).drop p)))).1, x, (tout x (gout p (gN 0 0 ((bl x).drop p)))).2.1, bad) else ((⟨#[]⟩ : ByteArray), x, (p : Int), true)
theorem tout_ok (x : ByteArray) (p : Nat) (hp : p ≤ x.size) (h : (tout x (gout p (gN 0 0 ((bl x).drop p)))).2.2 = 0) : ∃ (t : ByteArray) (q : Nat), tout x (gout p (gN 0 0 ((bl x).drop p))) = (t, (q : Int), 0) ∧ q ≤ x.size ∧ t.size ≤ x.size := by
  have hok := gout_ok x p hp
  generalize gout p (gN 0 0 ((bl x).drop p)) = g at hok h ⊢
  unfold tout at h ⊢
  by_cases c : g.2.2 = 0
  · obtain ⟨n, q, rfl, h1, h2, _⟩ := hok c
    rw [if_pos c] at h ⊢
    simp only at h ⊢
    by_cases c2 : 0 ≤ n ∧ n ≤ 20000
    · rw [if_pos c2] at h ⊢
      by_cases c3 : (q : Int) + n > (x.size : Int)
      · rw [if_pos c3] at h; simp at h
      · rw [if_neg c3]
        refine ⟨_, ((q : Int) + n).toNat, by rw [show ((((q : Int) + n).toNat : Nat) : Int) = (q : Int) + n by omega], by omega, ?_⟩
        rw [ByteArray.size_extract]
        omega
    · rw [if_neg c2] at h; simp at h
  · rw [if_neg c] at h
    exact absurd h c
theorem rText_at (x : ByteArray) (p : Nat) (bad : Bool) (hp : p ≤ x.size) : At x (rText x p bad).2 ∧ (rText x p bad).1.size ≤ x.size := by
  unfold rText
  by_cases h : bad = true
  · rw [if_pos h]; exact ⟨⟨p, true, rfl, hp⟩, Nat.zero_le _⟩
  rw [if_neg h]
  by_cases c : (tout x (gout p (gN 0 0 ((bl x).drop p)))).2.2 = 0
  · obtain ⟨t, q, e, h1, h2⟩ := tout_ok x p hp c
    rw [if_pos c, e]
    exact ⟨⟨q, bad, rfl, h1⟩, h2⟩
  · rw [if_neg c]; exact ⟨⟨p, true, rfl, hp⟩, Nat.zero_le _⟩
theorem text_i (x : ByteArray) (hx : x.size ≤ 20000) (p : Nat) (bad : Bool) (hp : p ≤ x.size) : Ev (fun k => impl_reader_string.f k x (p : Int) bad) (rText x p bad) := by
  refine Ev.bind (getText_i x p (by omega) hp) ?_
  unfold rText
  generalize tout x (gout p (gN 0 0 ((bl x).drop p))) = r
  by_cases h : bad = true
  · exact ev_if_pos h (ev_eq (by rw [if_pos h]))
  · refine ev_if_neg h ?_
    by_cases c : r.2.2 = 0
    · exact ev_if_pos c (ev_eq (by rw [if_neg h, if_pos c]))
    · exact ev_if_neg c (ev_eq (by rw [if_neg h, if_neg c]))
theorem putNum_s_l0 (m : Nat) : ∀ (v k : Nat) (acc : List Int), v < 128 ^ (m + 1) → v < 18446744073709551616 → acc.length + m + 1 ≤ 140737488355328 → m < k → spec_PutNum.l0 k (v : Int) acc = some (strOfNums (acc ++ numL v)) := by
  induction m with
  | zero =>
    intro v k acc hv hv2 ha hk
    obtain ⟨k, rfl⟩ : ∃ m, k = m + 1 := ⟨k - 1, by omega⟩
    have hv' : v < 128 := by simpa using hv
    simp only [spec_PutNum.l0]
    rw [if_neg (by omega), if_pos (by omega), numL_lt hv']
    congr 4
    omega
  | succ m ih =>
    intro v k acc hv hv2 ha hk
    obtain ⟨k, rfl⟩ : ∃ m, k = m + 1 := ⟨k - 1, by omega⟩
    by_cases h : v < 128
    · simp only [spec_PutNum.l0]
      rw [if_neg (by omega), if_pos (by omega), numL_lt h]
      congr 4
      omega
    · have e1 : IntKind.u64.wrap (Int.tdiv (v : Int) 128) = ((v / 128 : Nat) : Int) := by
        rw [Int.tdiv_eq_ediv_of_nonneg (by omega), IntKind.wrap_u64]
        omega
      have e2 : (IntKind.u64.wrap ((Int.tmod (v : Int) 128) + 128)) % 256 = ((v % 128 + 128 : Nat) : Int) := by
        rw [Int.tmod_eq_emod_of_nonneg (by omega), IntKind.wrap_u64]
        omega
      simp only [spec_PutNum.l0, e1, e2]
      rw [if_pos (by omega), if_pos (by omega), ih (v / 128) k _ (by rw [Nat.div_lt_iff_lt_mul (by decide)]; rw [← Nat.pow_succ]; exact hv) (by omega) (by simp; omega) (by omega), numL_ge h]
      simp
theorem putNum_s (n : Int) (h0 : -9223372036854775808 ≤ n) (h1 : n ≤ 9223372036854775807) (k : Nat) (hk : 10 ≤ k) : spec_PutNum.f k n = some (putNum n) := by
  have e : spec_l01Fold.f n = some ((fold n : Nat) : Int) := by
    unfold spec_l01Fold.f fold
    by_cases h : n < 0
    · rw [if_pos h, if_pos h]
      simp only [IntKind.wrap_u64, wrap64]
      congr 1
      omega
    · rw [if_neg h, if_neg h]
      simp only [IntKind.wrap_u64]
      congr 1
      omega
  have hf := fold_lt n h0 h1
  unfold spec_PutNum.f
  rw [e, Option.bind_some, putNum_s_l0 9 _ k _ (Nat.lt_of_lt_of_le hf (by decide)) hf (by simp) (by omega)]
  simp [putNum]
theorem or128 (y : Nat) (h : y < 128) : Go.bits .or .u8 (((y : Nat) : Int) % 256) 128 = ((y + 128 : Nat) : Int) := by
  have e : ((y : Nat) : Int) % 256 = (y : Int) := by omega
  rw [e]
  refine (u8_or_nat y 128 (by omega) (by omega)).trans ?_
  have := nat_join 7 128 y (by decide) (by omega)
  rw [Nat.or_comm, this]
  congr 1
  omega
theorem putNum_i_l0 (m : Nat) : ∀ (v k : Nat) (acc : List Int), v < 128 ^ (m + 1) → v < 18446744073709551616 → acc.length + m + 1 ≤ 140737488355328 → m < k → impl_PutNum.l0 k (v : Int) acc = some (strOfNums (acc ++ numL v)) := by
  induction m with
  | zero =>
    intro v k acc hv hv2 ha hk
    obtain ⟨k, rfl⟩ : ∃ m, k = m + 1 := ⟨k - 1, by omega⟩
    have hv' : v < 128 := by simpa using hv
    simp only [impl_PutNum.l0]
    rw [if_neg (by omega), if_pos (by omega), numL_lt hv']
    congr 4
    omega
  | succ m ih =>
    intro v k acc hv hv2 ha hk
    obtain ⟨k, rfl⟩ : ∃ m, k = m + 1 := ⟨k - 1, by omega⟩
    by_cases h : v < 128
    · simp only [impl_PutNum.l0]
      rw [if_neg (by omega), if_pos (by omega), numL_lt h]
      congr 4
      omega
    · have e1 : (v : Int) / 128 = ((v / 128 : Nat) : Int) := by omega
      have e2 : Go.bits .or .u8 ((Go.bits .and .u64 (v : Int) 127) % 256) 128 = ((v % 128 + 128 : Nat) : Int) := by
        have e3 : Go.bits .and .u64 (v : Int) 127 = ((v % 128 : Nat) : Int) := by
          have := u64_and_nat v 127 hv2 (by decide)
          rw [nat_mask7] at this
          exact this
        rw [e3, or128 _ (by omega)]
      simp only [impl_PutNum.l0, e1, e2]
      rw [if_pos (by omega), if_pos (by omega), ih (v / 128) k _ (by rw [Nat.div_lt_iff_lt_mul (by decide)]; rw [← Nat.pow_succ]; exact hv) (by omega) (by simp; omega) (by omega), numL_ge h]
      simp
theorem fold_bits (n : Int) (h0 : -9223372036854775808 ≤ n) (h1 : n ≤ 9223372036854775807) : Go.bits .xor .u64 (IntKind.u64.wrap ((IntKind.u64.wrap n) * 2)) (IntKind.u64.wrap (n / 9223372036854775808)) = ((fold n : Nat) : Int) := by
  simp only [IntKind.wrap_u64]
  unfold fold
  by_cases h : n < 0
  · rw [if_pos h]
    have e1 : n / 9223372036854775808 % 18446744073709551616 = ((18446744073709551615 : Nat) : Int) := by omega
    have e2 : n % 18446744073709551616 * 2 % 18446744073709551616 = (((n % 18446744073709551616 * 2 % 18446744073709551616).toNat : Nat) : Int) := by omega
    rw [e1, e2, u64_xor_nat _ _ (by omega) (by omega), xor_ones _ (by omega)]
    omega
  · rw [if_neg h]
    have e1 : n / 9223372036854775808 % 18446744073709551616 = ((0 : Nat) : Int) := by omega
    have e2 : n % 18446744073709551616 * 2 % 18446744073709551616 = (((2 * n).toNat : Nat) : Int) := by omega
    rw [e1, e2, u64_xor_nat _ _ (by omega) (by omega)]
    simp
theorem putNum_i (n : Int) (h0 : -9223372036854775808 ≤ n) (h1 : n ≤ 9223372036854775807) (k : Nat) (hk : 10 ≤ k) : impl_PutNum.f k n = some (putNum n) := by
  have hf := fold_lt n h0 h1
  unfold impl_PutNum.f
  rw [fold_bits n h0 h1, putNum_i_l0 9 _ k _ (Nat.lt_of_lt_of_le hf (by decide)) hf (by simp) (by omega)]
  simp [putNum]
theorem sn_len (l : List Int) : (strOfNums l).size = l.length := by
  unfold strOfNums
  show (List.toArray _).size = _
  simp
theorem outK_rng (S T : List Int) : ∀ n, ∀ x ∈ Hand.outK S T n, 0 ≤ x ∧ x < 4294967296
  | 0, x, h => by simp [Hand.outK] at h
  | n + 1, x, h => by
    rw [Hand.outK, List.mem_append] at h
    rcases h with h | h
    · exact outK_rng S T n x h
    · obtain rfl := List.mem_singleton.1 h
      omega
theorem taken_rng (s : List Int) (b : ByteArray) (hs : s.length = 8) : ∀ x ∈ Hand.takenL s b, 0 ≤ x ∧ x < 4294967296 := by
  have hT : (Hand.sAll (Hand.wAll b 64) s 64).length = 8 := by
    obtain ⟨a, b1, c, d, e, f, g, h, eS⟩ := Hand.sAll_eight (Hand.wAll b 64) s hs 64
    rw [eS]; rfl
  unfold Hand.takenL
  rw [← Hand.outK_eq s _ hs hT]
  exact outK_rng _ _ 8
theorem eat_rng (s : List Int) (b : ByteArray) (hs : s.length = 8) (hr : ∀ x ∈ s, 0 ≤ x ∧ x < 4294967296) : ∀ n, ∀ x ∈ Hand.eat s b n, 0 ≤ x ∧ x < 4294967296
  | 0 => hr
  | n + 1 => taken_rng _ _ (by rw [Hand.eat_length]; exact hs)
theorem map_mod (s : List Int) (hr : ∀ x ∈ s, 0 ≤ x ∧ x < 4294967296) : s.map (· % 4294967296) = s := by
  have : s.map (· % 4294967296) = s.map id := List.map_congr_left (fun x hx => by have := hr x hx; simp only [id]; omega)
  rw [this, List.map_id]
theorem block_ok (s : List Int) (b : ByteArray) (hs : s.length = 8) (hr : ∀ x ∈ s, 0 ≤ x ∧ x < 4294967296) (hb : b.size = 64) : spec_l05Block.f s b = some (Hand.takenL s b) := by
  unfold spec_l05Block.f
  rw [if_pos ⟨hs, hb⟩, map_mod s hr]
theorem more_l (s : List Int) (t : ByteArray) (n : Int) (hs : s.length = 8) (hr : ∀ x ∈ s, 0 ≤ x ∧ x < 4294967296) (ht : t.size ≤ 2147483648) : ∀ (d i : Nat), i + d = t.size / 64 →
    Ev (fun k => spec_l05More.l0 k ((64 * i : Nat) : Int) (Hand.eat s t i) t n) (Hand.eat s t (t.size / 64), t.extract (64 * (t.size / 64)) t.size, n) := by
  intro d
  induction d with
  | zero =>
    intro i hi
    obtain rfl : i = t.size / 64 := by omega
    refine Ev.step (f := fun _ => some (Hand.eat s t (t.size / 64), t.extract (64 * (t.size / 64)) t.size, n)) (fun k => ?_) (Ev.now _)
    simp only [spec_l05More.l0]
    rw [w64 (by omega) (by omega), if_neg (by omega), if_pos (by omega), if_pos (by omega), Int.toNat_natCast]
  | succ d ih =>
    intro i hi
    have hr1 := ih (i + 1) (by omega)
    have ew : wrap64 (((64 * i : Nat) : Int) + 64) = ((64 * (i + 1) : Nat) : Int) := by rw [w64 (by omega) (by omega)]; omega
    have hb : (t.extract (64 * i) (64 * i + 64)).size = 64 := by rw [ByteArray.size_extract]; omega
    refine Ev.step (fun k => ?_) hr1
    simp only [spec_l05More.l0]
    rw [ew, w64 (by omega) (by omega), if_pos (by omega), if_pos (by omega), if_pos (by omega), if_pos (by omega), Int.toNat_natCast, Int.toNat_natCast]
    rw [show 64 * (i + 1) = 64 * i + 64 from rfl, block_ok _ _ (by rw [Hand.eat_length]; exact hs) (eat_rng s t hs hr i) hb, Option.bind_some]
    rfl
theorem more_ok (s : List Int) (r m : ByteArray) (n : Int) (hs : s.length = 8) (hr : ∀ x ∈ s, 0 ≤ x ∧ x < 4294967296) (hn : 0 ≤ n) (hn2 : n ≤ 1073741824) (hrs : r.size ≤ 1000) (hms : m.size ≤ 1073741824) :
    Ev (fun k => spec_l05More.f k s r n m) (Hand.eat s (r ++ m) ((r ++ m).size / 64), (r ++ m).extract (64 * ((r ++ m).size / 64)) (r ++ m).size, n + (m.size : Int)) := by
  unfold spec_l05More.f
  refine ev_bind1 rfl (ev_if_pos (by simp [hs]) (ev_if_pos (by omega) ?_))
  rw [w64 (by omega) (by omega), List.nil_append]
  have h := more_l s (r ++ m) (n + (m.size : Int)) hs hr (by rw [ByteArray.size_append]; omega) ((r ++ m).size / 64) 0 (by omega)
  exact h
/-- the bytes of a length in bits. -/
def lenL (n : Int) : Nat → List Int
  | 0 => []
  | j + 1 => lenL n j ++ [(wrap64 (n * 8) / 2 ^ (8 * (7 - j))) % 256]
theorem lenL_length (n : Int) : ∀ j, (lenL n j).length = j
  | 0 => rfl
  | j + 1 => by rw [lenL, List.length_append, lenL_length n j]; rfl
theorem lenL_rng (n : Int) : ∀ j, ∀ x ∈ lenL n j, 0 ≤ x ∧ x < 256
  | 0, x, h => by simp [lenL] at h
  | j + 1, x, h => by
    rw [lenL, List.mem_append] at h
    rcases h with h | h
    · exact lenL_rng n j x h
    · obtain rfl := List.mem_singleton.1 h
      omega
theorem bl_lenB (n : Int) : ∀ j, bl (Hand.lenB n j) = (lenL n j).map Int.toNat
  | 0 => rfl
  | j + 1 => by
    rw [Hand.lenB, bl_append, bl_lenB n j, lenL, List.map_append, bl_strOfNums _ (fun x hx => by obtain rfl := List.mem_singleton.1 hx; omega)]
theorem bl_zeros : ∀ z, bl (Hand.zeros z) = List.replicate z 0
  | 0 => rfl
  | z + 1 => by
    have h := bl_zeros z
    unfold Hand.zeros bl at h ⊢
    rw [Lib.repeatL, List.replicate_succ, ← h]
    rfl
def zs (r : ByteArray) : Nat := (120 - (r.size + 1)) % 64
def padL (r : ByteArray) (n : Int) : List Int := [128] ++ List.replicate (zs r) 0 ++ lenL n 8
theorem pad_eq (r : ByteArray) (n : Int) : r ++ strOfNums (padL r n) = Hand.pad r n := by
  apply bl_inj
  have hrng : ∀ x ∈ padL r n, 0 ≤ x ∧ x < 256 := by
    intro x hx
    unfold padL at hx
    rw [List.mem_append, List.mem_append] at hx
    rcases hx with (h | h) | h
    · obtain rfl := List.mem_singleton.1 h
      omega
    · have := (List.mem_replicate.1 h).2
      omega
    · exact lenL_rng n 8 x h
  rw [bl_append, bl_strOfNums _ hrng]
  unfold Hand.pad Hand.pad2 Hand.pad1
  rw [bl_append, bl_append, bl_append, bl_zeros, bl_lenB]
  unfold padL zs
  rw [List.map_append, List.map_append, List.map_replicate]
  simp only [List.append_assoc]
  rfl
theorem out_l (A : List Int) (r : ByteArray) (n : Int) (hA : A.length = 8) : ∀ (d i : Nat), i + d = 8 → Ev (fun k => spec_l05End.l2 k (Hand.outL A i) (i : Int) A r n) (strOfNums (Hand.outL A 8)) := by
  intro d
  induction d with
  | zero =>
    intro i hi
    obtain rfl : i = 8 := by omega
    refine Ev.step (f := fun _ => some (strOfNums (Hand.outL A 8))) (fun k => ?_) (Ev.now _)
    simp only [spec_l05End.l2]
    rw [if_neg (by omega)]
  | succ d ih =>
    intro i hi
    have hr := ih (i + 1) (by omega)
    have hl := Hand.outL_length A i
    refine Ev.step (fun k => ?_) hr
    simp only [spec_l05End.l2]
    rw [if_pos (by omega), if_pos (by omega), if_pos (by omega), Option.bind_some, if_pos (by simp; omega), w64 (by omega) (by omega)]
    rfl
theorem sh_ok (n : Int) (j : Nat) (hj : j < 8) (h0 : 0 ≤ n) (h1 : n ≤ 1073741824) : shr .u64 (IntKind.u64.wrap (wrap64 (8 * n))) (IntKind.u64.wrap (((8 * (7 - j) : Nat) : Int))) % 256 = (wrap64 (n * 8) / 2 ^ (8 * (7 - j))) % 256 := by
  rw [w64 (by omega) (by omega), w64 (by omega) (by omega), IntKind.wrap_u64, IntKind.wrap_u64]
  unfold shr
  rw [show (8 * n) % 18446744073709551616 = n * 8 by omega, show (((8 * (7 - j) : Nat) : Int)) % 18446744073709551616 = ((8 * (7 - j) : Nat) : Int) by omega, Int.toNat_natCast]
  rw [show min (8 * (7 - j)) IntKind.u64.bits = 8 * (7 - j) by show min _ 64 = _; omega]
theorem end_l1 (s : List Int) (r : ByteArray) (n : Int) (hs : s.length = 8) (hr : ∀ x ∈ s, 0 ≤ x ∧ x < 4294967296) (h0 : 0 ≤ n) (h1 : n ≤ 1000000) (hrs : r.size ≤ 1000) : ∀ (d j : Nat), j + d = 8 →
    Ev (fun k => spec_l05End.l1 k ([128] ++ List.replicate (zs r) 0 ++ lenL n j) (IntKind.u64.wrap (wrap64 (8 * n))) (56 - 8 * (j : Int)) s r n) (Hand.summedL s r n) := by
  have hz : zs r < 64 := by unfold zs; omega
  intro d
  induction d with
  | zero =>
    intro j hj
    obtain rfl : j = 8 := by omega
    have hm : (strOfNums (padL r n)).size ≤ 1073741824 := by
      rw [sn_len]; unfold padL; simp only [List.length_append, List.length_replicate, lenL_length, List.length_singleton]; omega
    have h := more_ok s r (strOfNums (padL r n)) n hs hr h0 (by omega) hrs hm
    rw [pad_eq] at h
    refine Ev.step (f := fun k => (spec_l05More.f k s r n (strOfNums (padL r n))).bind fun bt126 => (spec_l05End.l2 k (([] : List Int)) 0 bt126.1 bt126.2.1 bt126.2.2)) (fun k => ?_) (Ev.bind h ?_)
    · simp only [spec_l05End.l1]
      rw [if_neg (by omega)]
      rfl
    · have ho := out_l (Hand.eat s (Hand.pad r n) ((Hand.pad r n).size / 64)) ((Hand.pad r n).extract (64 * ((Hand.pad r n).size / 64)) (Hand.pad r n).size) (n + ((strOfNums (padL r n)).size : Int)) (by rw [Hand.eat_length]; exact hs) 8 0 (by omega)
      exact ho
  | succ d ih =>
    intro j hj
    have h := ih (j + 1) (by omega)
    have e1 : (56 - 8 * (j : Int)) = ((8 * (7 - j) : Nat) : Int) := by omega
    have e2 : wrap64 (((8 * (7 - j) : Nat) : Int) - 8) = 56 - 8 * ((j + 1 : Nat) : Int) := by rw [w64 (by omega) (by omega)]; omega
    refine Ev.step (fun k => ?_) h
    simp only [spec_l05End.l1, e1]
    rw [if_pos (by omega), if_pos (by rw [IntKind.wrap_u64]; omega), if_pos (by simp only [List.length_append, List.length_replicate, lenL_length, List.length_singleton]; omega), sh_ok n j (by omega) h0 (by omega), e2, lenL, List.append_assoc ([128] ++ List.replicate (zs r) 0)]
theorem end_ok (s : List Int) (r : ByteArray) (n : Int) (hs : s.length = 8) (hr : ∀ x ∈ s, 0 ≤ x ∧ x < 4294967296) (h0 : 0 ≤ n) (h1 : n ≤ 1000000) (hrn : (r.size : Int) = n % 64) : Ev (fun k => spec_l05End.f k s r n) (Hand.summedL s r n) := by
  have hz : zs r = (120 - (r.size + 1)) % 64 := rfl
  have hz2 : zs r < 64 := by omega
  have main : ∀ (d j : Nat), j + d = zs r → Ev (fun k => spec_l05End.l0 k ([128] ++ List.replicate j 0) s r n) (Hand.summedL s r n) := by
    intro d
    induction d with
    | zero =>
      intro j hj
      obtain rfl : j = zs r := by omega
      have h := end_l1 s r n hs hr h0 h1 (by omega) 8 0 (by omega)
      refine Ev.step (fun k => ?_) h
      simp only [spec_l05End.l0]
      rw [w64 (by simp only [List.length_append, List.length_replicate, List.length_singleton]; omega) (by simp only [List.length_append, List.length_replicate, List.length_singleton]; omega), Int.tmod_eq_emod_of_nonneg (by omega), if_pos (by simp only [List.length_append, List.length_replicate, List.length_singleton]; omega)]
      simp only [lenL, List.append_nil]
      rfl
    | succ d ih =>
      intro j hj
      have h := ih (j + 1) (by omega)
      refine Ev.step (fun k => ?_) h
      simp only [spec_l05End.l0]
      rw [w64 (by simp only [List.length_append, List.length_replicate, List.length_singleton]; omega) (by simp only [List.length_append, List.length_replicate, List.length_singleton]; omega), Int.tmod_eq_emod_of_nonneg (by omega), if_neg (by simp only [List.length_append, List.length_replicate, List.length_singleton]; omega), if_pos (by simp only [List.length_append, List.length_replicate, List.length_singleton]; omega)]
      rw [List.append_assoc, ← List.replicate_succ']
  have h := main (zs r) 0 (by omega)
  unfold spec_l05End.f
  exact h
theorem first_ok : Hand.firstL.length = 8 ∧ ∀ x ∈ Hand.firstL, 0 ≤ x ∧ x < 4294967296 := by decide
theorem nil_app (a : ByteArray) : (⟨#[]⟩ : ByteArray) ++ a = a := bl_inj (by rw [bl_append]; rfl)
theorem digest_i (a : ByteArray) (h : a.size ≤ 20000) : impl_digest.f a = some (Hand.digestL a) := by
  unfold impl_digest.f
  rw [if_pos (by omega)]
theorem digest_size (a : ByteArray) : (Hand.digestL a).size = 32 := by
  unfold Hand.digestL Hand.summedL
  rw [sn_len, Hand.outL_length]
theorem digest_s (a : ByteArray) (h : a.size ≤ 20000) : Ev (fun k => spec_Digest.f k a) (Hand.digestL a) := by
  unfold spec_Digest.f
  refine ev_if_neg (by omega) (ev_bind1 rfl ?_)
  have hm := more_ok Hand.firstL ⟨#[]⟩ a 0 first_ok.1 first_ok.2 (by omega) (by omega) (by show 0 ≤ 1000; omega) (by omega)
  rw [nil_app, Int.zero_add] at hm
  refine Ev.bind hm ?_
  have he := end_ok (Hand.eat Hand.firstL a (a.size / 64)) (a.extract (64 * (a.size / 64)) a.size) (a.size : Int) (by rw [Hand.eat_length]; exact first_ok.1) (eat_rng _ _ first_ok.1 first_ok.2 _) (by omega) (by omega) (by rw [ByteArray.size_extract]; omega)
  exact Ev.bind he (Ev.now _)
theorem ba_inj {a b : ByteArray} (h : a.toList = b.toList) : a = b := by
  rw [ByteArray.toList_eq, ByteArray.toList_eq] at h
  exact ByteArray.ext (Array.toList_inj.1 h)
abbrev IE := S61
def keyB (kind : Int) (text : ByteArray) : ByteArray := Hand.digestL (putNum kind ++ text)
/-- a number at a place, and the place behind it. -/
def rdn (x : ByteArray) (p : Nat) : Option (Int × Nat) := if (gout p (gN 0 0 ((bl x).drop p))).2.2 = 0 then some ((gout p (gN 0 0 ((bl x).drop p))).1, (gout p (gN 0 0 ((bl x).drop p))).2.1.toNat) else none
theorem rdn_cases (x : ByteArray) (p : Nat) (hp : p ≤ x.size) : (∃ (n : Int) (q : Nat), rdn x p = some (n, q) ∧ gout p (gN 0 0 ((bl x).drop p)) = (n, (q : Int), 0) ∧ p < q ∧ q ≤ x.size ∧ -9223372036854775808 ≤ n ∧ n ≤ 9223372036854775807) ∨ (rdn x p = none ∧ (gout p (gN 0 0 ((bl x).drop p))).2.2 ≠ 0) := by
  unfold rdn
  by_cases c : (gout p (gN 0 0 ((bl x).drop p))).2.2 = 0
  · obtain ⟨n, q, e, h1, h2, h3, h4⟩ := gout_ok x p hp c
    refine Or.inl ⟨n, q, ?_, e, h1, h2, h3, h4⟩
    rw [if_pos c, e]
    simp
  · exact Or.inr ⟨if_neg c, c⟩
/-- the record at a place: kind, text, key, the text's place, and the place behind it. -/
def recAt (x : ByteArray) (p : Nat) : Option (Int × ByteArray × ByteArray × Nat × Nat) :=
  if p + 33 ≤ x.size ∧ bt x (p : Int) = 66 then
    (rdn x (p + 33)).bind fun a => if a.1 = 1 ∨ a.1 = 2 then (rdn x a.2).bind fun b => if 0 ≤ b.1 ∧ b.1 ≤ 2000 ∧ (b.2 : Int) + b.1 ≤ (x.size : Int) then (if keyB a.1 (x.extract b.2 (b.2 + b.1.toNat)) = x.extract (p + 1) (p + 33) then some (a.1, x.extract b.2 (b.2 + b.1.toNat), x.extract (p + 1) (p + 33), b.2, b.2 + b.1.toNat) else none) else none else none
  else none
def entryOf (r : Int × ByteArray × ByteArray × Nat × Nat) : IE := ⟨r.2.2.1, r.1, (r.2.2.2.1 : Int), (r.2.1.size : Int)⟩
theorem recAt_some (x : ByteArray) (p : Nat) (kind : Int) (text key : ByteArray) (a b : Nat) (h : recAt x p = some (kind, text, key, a, b)) : (kind = 1 ∨ kind = 2) ∧ text.size ≤ 2000 ∧ p + 33 < a ∧ a + text.size = b ∧ b ≤ x.size ∧ text = x.extract a b ∧ key = keyB kind text ∧ key.size = 32 := by
  unfold recAt at h
  by_cases c0 : p + 33 ≤ x.size ∧ bt x (p : Int) = 66
  rotate_left
  · rw [if_neg c0] at h; simp at h
  rw [if_pos c0] at h
  rcases rdn_cases x (p + 33) c0.1 with ⟨n1, q1, e1, _, g1, g2, _, _⟩ | ⟨e1, _⟩
  rotate_left
  · rw [e1] at h; simp at h
  rw [e1, Option.bind_some] at h
  by_cases c1 : n1 = 1 ∨ n1 = 2
  rotate_left
  · rw [if_neg c1] at h; simp at h
  rw [if_pos c1] at h
  simp only at h
  rcases rdn_cases x q1 g2 with ⟨n2, q2, e2, _, g3, g4, _, _⟩ | ⟨e2, _⟩
  rotate_left
  · rw [e2] at h; simp at h
  rw [e2, Option.bind_some] at h
  by_cases c2 : 0 ≤ n2 ∧ n2 ≤ 2000 ∧ (q2 : Int) + n2 ≤ (x.size : Int)
  rotate_left
  · rw [if_neg c2] at h; simp at h
  rw [if_pos c2] at h
  simp only at h
  by_cases c3 : keyB n1 (x.extract q2 (q2 + n2.toNat)) = x.extract (p + 1) (p + 33)
  rotate_left
  · rw [if_neg c3] at h; simp at h
  rw [if_pos c3] at h
  simp only [Option.some.injEq, Prod.mk.injEq] at h
  obtain ⟨rfl, rfl, rfl, rfl, rfl⟩ := h
  refine ⟨c1, ?_, by omega, ?_, by omega, rfl, c3.symm, ?_⟩ <;> rw [ByteArray.size_extract] <;> omega
theorem blobRight_s (kind : Int) (text : ByteArray) : spec_BlobRight.f kind text = some ((decide (kind = 1) || decide (kind = 2)) && decide ((text.size : Int) ≤ 2000)) := by
  unfold spec_BlobRight.f
  by_cases h1 : kind = 1 <;> by_cases h2 : kind = 2 <;> simp [h1, h2]
theorem blobRight_i (kind : Int) (text : ByteArray) : impl_BlobRight.f kind text = some ((decide (kind = 1) || decide (kind = 2)) && decide ((text.size : Int) ≤ 2000)) := by
  unfold impl_BlobRight.f impl_isKind.f
  by_cases h1 : kind = 1
  · simp [h1]
  · by_cases h2 : kind = 2 <;> simp [h1, h2]
theorem kind_rng {kind : Int} (h : kind = 1 ∨ kind = 2) : -9223372036854775808 ≤ kind ∧ kind ≤ 9223372036854775807 := by omega
theorem blobKey_s (kind : Int) (text : ByteArray) (hk : kind = 1 ∨ kind = 2) (ht : text.size ≤ 2000) : Ev (fun k => spec_BlobKey.f k kind text) (keyB kind text) := by
  have hr := kind_rng hk
  have hz := putNum_size kind hr.1 hr.2
  refine ev_bind1 (blobRight_s kind text) (ev_if_pos ?_ (Ev.bind (ev_from 10 (fun k hk => putNum_s kind hr.1 hr.2 k hk)) (ev_if_pos (by omega) (Ev.bind (digest_s (putNum kind ++ text) (by rw [ByteArray.size_append]; omega)) (Ev.now _)))))
  rcases hk with rfl | rfl <;> simp <;> omega
theorem blobKey_i (kind : Int) (text : ByteArray) (hk : kind = 1 ∨ kind = 2) (ht : text.size ≤ 2000) : Ev (fun k => impl_Blob_key.f k kind text) (keyB kind text) := by
  have hr := kind_rng hk
  have hz := putNum_size kind hr.1 hr.2
  exact Ev.bind (ev_from 10 (fun k hk => putNum_i kind hr.1 hr.2 k hk)) (ev_if_pos (by omega) (ev_bind1 (digest_i (putNum kind ++ text) (by rw [ByteArray.size_append]; omega)) (Ev.now _)))
theorem keyB_size (kind : Int) (text : ByteArray) : (keyB kind text).size = 32 := digest_size _
theorem take_b (x : ByteArray) (p n : Int) : impl_reader_take.f x p true n = some ((⟨#[]⟩ : ByteArray), x, p, true) := by
  unfold impl_reader_take.f
  rw [if_pos rfl]
theorem take_ok (x : ByteArray) (hx : x.size ≤ 20000) (p n : Nat) (h : p + n ≤ x.size) : impl_reader_take.f x (p : Int) false (n : Int) = some (x.extract p (p + n), x, ((p + n : Nat) : Int), false) := by
  rw [bytes_i x hx p false n (by omega) (by omega)]
  unfold rBytes
  rw [if_neg (by simp), if_neg (by omega)]
theorem take_no (x : ByteArray) (hx : x.size ≤ 20000) (p n : Nat) (hn : n ≤ 20000) (hp : p ≤ x.size) (h : ¬ p + n ≤ x.size) : impl_reader_take.f x (p : Int) false (n : Int) = some ((⟨#[]⟩ : ByteArray), x, (p : Int), true) := by
  rw [bytes_i x hx p false n hn hp]
  unfold rBytes
  rw [if_neg (by simp), if_pos (by omega)]
theorem num_b (x : ByteArray) (hx : x.size ≤ 20000) (p : Nat) (hp : p ≤ x.size) : Ev (fun k => impl_reader_num.f k x (p : Int) true) (0, x, (p : Int), true) := num_i x hx p true hp
theorem text_b (x : ByteArray) (hx : x.size ≤ 20000) (p : Nat) (hp : p ≤ x.size) : Ev (fun k => impl_reader_string.f k x (p : Int) true) ((⟨#[]⟩ : ByteArray), x, (p : Int), true) := text_i x hx p true hp
/-- the byte at a place, as a text of one. -/
theorem one_byte (x : ByteArray) (p : Nat) (h : p + 1 ≤ x.size) : ((x.extract p (p + 1)).toList = ([66] : List UInt8)) ↔ bt x (p : Int) = 66 := by
  have hb := bt_bl x p (by omega)
  have e : bl (x.extract p (p + 1)) = [(bl x)[p]'(by rw [bl_length]; omega)] := by
    rw [bl_extract, List.drop_take, show p + 1 - p = 1 by omega, List.drop_eq_getElem_cons (by rw [bl_length]; omega)]
    rfl
  constructor
  · intro h1
    have h2 : x.extract p (p + 1) = ⟨#[66]⟩ := ba_inj (by rw [h1, ByteArray.toList_eq])
    rw [h2] at e
    have e3 : (66 : Nat) = (bl x)[p]'(by rw [bl_length]; omega) := by
      have : [66] = [(bl x)[p]'(by rw [bl_length]; omega)] := e
      simpa using this
    rw [hb, ← e3]
    rfl
  · intro h1
    have h2 : x.extract p (p + 1) = ⟨#[66]⟩ := by
      apply bl_inj
      rw [e]
      have : ((bl x)[p]'(by rw [bl_length]; omega)) = 66 := by omega
      rw [this]
      rfl
    rw [h2, ByteArray.toList_eq]
abbrev IR := Int × ByteArray × ByteArray × Int × Int × Int × Int × Bool
theorem rec_i (x : ByteArray) (hx : x.size ≤ 20000) (p : Nat) (hp : p < x.size) : ∃ ri : IR, Ev (fun k => impl_readRecord.f k x (p : Int)) ri ∧ ((recAt x p = none ∧ ri.2.2.2.2.2.2.2 = false) ∨ ∃ kind text key a b, recAt x p = some (kind, text, key, a, b) ∧ ri = (kind, text, key, kind, (a : Int), (text.size : Int), (b : Int), true)) := by
  have bad : ∀ (a : ByteArray) (b : ByteArray) (c : Int) (d : Bool) (e : Int) (f : ByteArray), Ev (fun k => impl_readRecord.j0 k a true b c d e f) ((0 : Int), (⟨#[]⟩ : ByteArray), (⟨#[]⟩ : ByteArray), 0, 0, 0, 0, false) := fun a b c d e f =>
    Ev.step (f := fun _ => some _) (fun k => by simp only [impl_readRecord.j0]; rw [if_pos trivial]) (Ev.now _)
  unfold impl_readRecord.f
  by_cases h33 : p + 33 ≤ x.size
  rotate_left
  · refine ⟨_, ev_bind1 (take_ok x hx p 1 (by omega)) (ev_bind1 (take_no x hx (p + 1) 32 (by omega) (by omega) (by omega)) (Ev.bind (num_b x hx _ (by omega)) (Ev.bind (text_b x hx _ (by omega)) (ev_if_pos rfl (bad _ _ _ _ _ _))))), Or.inl ⟨?_, rfl⟩⟩
    unfold recAt
    rw [if_neg (by omega)]
  have t1 := take_ok x hx p 1 (by omega)
  have t2 := take_ok x hx (p + 1) 32 (by omega)
  rw [show p + 1 + 32 = p + 33 by omega] at t2
  have hn := num_i x hx (p + 33) false h33
  rcases rdn_cases x (p + 33) h33 with ⟨n1, q1, r1, o1, z1, z2, _, _⟩ | ⟨r1, o1⟩
  rotate_left
  · have e1 : rNum x (p + 33) false = (0, x, ((p + 33 : Nat) : Int), true) := by
      unfold rNum
      rw [if_neg (by simp), if_neg o1]
    rw [e1] at hn
    refine ⟨_, ev_bind1 t1 (ev_bind1 t2 (Ev.bind hn (Ev.bind (text_b x hx _ (by omega)) (ev_if_pos rfl (bad _ _ _ _ _ _))))), Or.inl ⟨?_, rfl⟩⟩
    unfold recAt
    rw [r1]
    split <;> rfl
  have e1 : rNum x (p + 33) false = (n1, x, (q1 : Int), false) := by
    unfold rNum
    rw [if_neg (by simp), o1, if_pos rfl]
  rw [e1] at hn
  have ht := text_i x hx q1 false z2
  have nope : ∀ (o : Option (Int × Nat)), rdn x q1 = o → (∀ n q, o = some (n, q) → ¬ (0 ≤ n ∧ n ≤ 2000 ∧ (q : Int) + n ≤ (x.size : Int))) → recAt x p = none := by
    intro o ho h
    unfold recAt
    split
    · rw [r1, Option.bind_some]
      split
      · simp only
        rw [ho]
        cases o with
        | none => rfl
        | some v =>
          obtain ⟨n, q⟩ := v
          rw [Option.bind_some, if_neg (h n q rfl)]
      · rfl
    · rfl
  rcases rdn_cases x q1 z2 with ⟨n2, q2, r2, o2, z3, z4, z5, z6⟩ | ⟨r2, o2⟩
  rotate_left
  · have hto : (tout x (gout q1 (gN 0 0 ((bl x).drop q1)))).2.2 ≠ 0 := by
      unfold tout
      rw [if_neg o2]
      exact o2
    have e2 : rText x q1 false = ((⟨#[]⟩ : ByteArray), x, (q1 : Int), true) := by
      unfold rText
      rw [if_neg (by simp), if_neg hto]
    rw [e2] at ht
    exact ⟨_, ev_bind1 t1 (ev_bind1 t2 (Ev.bind hn (Ev.bind ht (ev_if_pos rfl (bad _ _ _ _ _ _))))), Or.inl ⟨nope _ r2 (fun n q h => by simp at h), rfl⟩⟩
  by_cases c2 : 0 ≤ n2 ∧ n2 ≤ 20000 ∧ (q2 : Int) + n2 ≤ (x.size : Int)
  rotate_left
  · have hto : (tout x (n2, (q2 : Int), 0)).2.2 ≠ 0 := by
      unfold tout
      rw [if_pos rfl]
      by_cases d : 0 ≤ n2 ∧ n2 ≤ 20000
      · rw [if_pos d]
        simp only
        rw [if_pos (by omega)]
        simp
      · rw [if_neg d]
        simp
    have e2 : rText x q1 false = ((⟨#[]⟩ : ByteArray), x, (q1 : Int), true) := by
      unfold rText
      rw [if_neg (by simp), o2, if_neg hto]
    rw [e2] at ht
    exact ⟨_, ev_bind1 t1 (ev_bind1 t2 (Ev.bind hn (Ev.bind ht (ev_if_pos rfl (bad _ _ _ _ _ _))))), Or.inl ⟨nope _ r2 (fun n q h => by
      simp only [Option.some.injEq, Prod.mk.injEq] at h
      obtain ⟨rfl, rfl⟩ := h
      omega), rfl⟩⟩
  obtain ⟨m, rfl⟩ : ∃ m : Nat, n2 = (m : Int) := ⟨n2.toNat, by omega⟩
  have hto : tout x ((m : Int), (q2 : Int), 0) = (x.extract q2 (q2 + m), ((q2 + m : Nat) : Int), 0) := by
    unfold tout
    rw [if_pos rfl, if_pos (by simp only; omega)]
    simp only
    rw [if_neg (by omega), Int.toNat_natCast, show ((q2 : Int) + (m : Int)) = ((q2 + m : Nat) : Int) by omega, Int.toNat_natCast]
  have e2 : rText x q1 false = (x.extract q2 (q2 + m), x, ((q2 + m : Nat) : Int), false) := by
    unfold rText
    rw [if_neg (by simp), o2, hto, if_pos rfl]
  rw [e2] at ht
  have hts : (x.extract q2 (q2 + m)).size = m := by rw [ByteArray.size_extract]; omega
  by_cases h66 : bt x (p : Int) = 66
  rotate_left
  · refine ⟨_, ev_bind1 t1 (ev_bind1 t2 (Ev.bind hn (Ev.bind ht (ev_if_neg (by simp) (ev_if_neg (fun h => h66 ((one_byte x p (by omega)).1 h)) (bad _ _ _ _ _ _)))))), Or.inl ⟨?_, rfl⟩⟩
    unfold recAt
    rw [if_neg (fun h => h66 h.2)]
  have hrec : recAt x p = if n1 = 1 ∨ n1 = 2 then (if 0 ≤ (m : Int) ∧ (m : Int) ≤ 2000 ∧ (q2 : Int) + (m : Int) ≤ (x.size : Int) then (if keyB n1 (x.extract q2 (q2 + m)) = x.extract (p + 1) (p + 33) then some (n1, x.extract q2 (q2 + m), x.extract (p + 1) (p + 33), q2, q2 + m) else none) else none) else none := by
    unfold recAt
    rw [if_pos ⟨h33, h66⟩, r1, Option.bind_some]
    simp only
    rw [r2, Option.bind_some]
    simp only [Int.toNat_natCast]
  have hbr := blobRight_i n1 (x.extract q2 (q2 + m))
  by_cases c1 : (n1 = 1 ∨ n1 = 2) ∧ m ≤ 2000
  rotate_left
  · have ef : ((decide (n1 = 1) || decide (n1 = 2)) && decide (((x.extract q2 (q2 + m)).size : Int) ≤ 2000)) = false := by
      rw [hts]
      by_cases a1 : n1 = 1 <;> by_cases a2 : n1 = 2 <;> simp [a1, a2] <;> omega
    rw [ef] at hbr
    refine ⟨_, ev_bind1 t1 (ev_bind1 t2 (Ev.bind hn (Ev.bind ht (ev_if_neg (by simp) (ev_if_pos ((one_byte x p (by omega)).2 h66) (ev_bind1 hbr (ev_if_neg (by simp) (bad _ _ _ _ _ _)))))))), Or.inl ⟨?_, rfl⟩⟩
    rw [hrec]
    by_cases a1 : n1 = 1 ∨ n1 = 2
    · rw [if_pos a1, if_neg (by omega)]
    · rw [if_neg a1]
  have et : ((decide (n1 = 1) || decide (n1 = 2)) && decide (((x.extract q2 (q2 + m)).size : Int) ≤ 2000)) = true := by
    rw [hts, decide_eq_true (show (m : Int) ≤ 2000 by omega)]
    rcases c1.1 with rfl | rfl <;> rfl
  rw [et] at hbr
  rw [if_pos c1.1, if_pos (by omega)] at hrec
  have hk := blobKey_i n1 (x.extract q2 (q2 + m)) c1.1 (by omega)
  have fin : ∀ r : IR, Ev (fun k => impl_readRecord.j0 k (x.extract (p + 1) (p + 33)) ((keyB n1 (x.extract q2 (q2 + m))).toList != (x.extract (p + 1) (p + 33)).toList) x ((q2 + m : Nat) : Int) false n1 (x.extract q2 (q2 + m))) r → Ev (fun k => impl_readRecord.f k x (p : Int)) r := by
    intro r hr
    unfold impl_readRecord.f
    exact ev_bind1 t1 (ev_bind1 t2 (Ev.bind hn (Ev.bind ht (ev_if_neg (by simp) (ev_if_pos ((one_byte x p (by omega)).2 h66) (ev_bind1 hbr (ev_if_pos rfl (Ev.bind hk hr))))))))
  unfold impl_readRecord.f at fin
  by_cases c3 : keyB n1 (x.extract q2 (q2 + m)) = x.extract (p + 1) (p + 33)
  · rw [if_pos c3] at hrec
    refine ⟨(n1, x.extract q2 (q2 + m), x.extract (p + 1) (p + 33), n1, (q2 : Int), (m : Int), ((q2 + m : Nat) : Int), true), fin _ ?_, Or.inr ⟨_, _, _, _, _, hrec, by rw [hts]⟩⟩
    rw [c3, show ((x.extract (p + 1) (p + 33)).toList != (x.extract (p + 1) (p + 33)).toList) = false by simp]
    refine Ev.step (f := fun _ => some _) (fun k => ?_) (Ev.now _)
    simp only [impl_readRecord.j0, impl_long.f, Option.bind_some, hts]
    rw [if_neg (by simp), w64 (by omega) (by omega), show ((q2 + m : Nat) : Int) - (m : Int) = (q2 : Int) by omega]
  · rw [if_neg c3] at hrec
    refine ⟨((0 : Int), (⟨#[]⟩ : ByteArray), (⟨#[]⟩ : ByteArray), 0, 0, 0, 0, false), fin _ ?_, Or.inl ⟨hrec, rfl⟩⟩
    rw [show ((keyB n1 (x.extract q2 (q2 + m))).toList != (x.extract (p + 1) (p + 33)).toList) = true by simp; exact fun e => c3 (ba_inj e)]
    exact bad _ _ _ _ _ _
/-- the entries of all records from a place on. -/
def scanL (x : ByteArray) : Nat → Nat → List IE
  | 0, _ => []
  | d + 1, p => if p < x.size then (match recAt x p with | none => scanL x d (p + 1) | some r => entryOf r :: scanL x d r.2.2.2.2) else []
theorem scanL_length (x : ByteArray) : ∀ d p, (scanL x d p).length ≤ d
  | 0, _ => Nat.zero_le _
  | d + 1, p => by
    unfold scanL
    by_cases h : p < x.size
    · rw [if_pos h]
      cases recAt x p with
      | none => exact Nat.le_succ_of_le (scanL_length x d _)
      | some r => exact Nat.succ_le_succ (scanL_length x d _)
    · rw [if_neg h]; exact Nat.zero_le _
theorem scan_i (x : ByteArray) (hx : x.size ≤ 20000) : ∀ (d p : Nat) (acc : List IE), x.size ≤ p + d → p ≤ x.size → acc.length + d ≤ 1000000 → Ev (fun k => impl_scan.l0 k x acc (p : Int)) (acc ++ scanL x d p) := by
  intro d
  induction d with
  | zero =>
    intro p acc h1 h2 h3
    refine Ev.step (f := fun _ => some acc) (fun k => ?_) (ev_eq (by simp [scanL]))
    simp only [impl_scan.l0, impl_long.f, Option.bind_some]
    rw [if_neg (by omega)]
  | succ d ih =>
    intro p acc h1 h2 h3
    by_cases hp : p < x.size
    rotate_left
    · refine Ev.step (f := fun _ => some acc) (fun k => ?_) (ev_eq (by unfold scanL; rw [if_neg hp]; simp))
      simp only [impl_scan.l0, impl_long.f, Option.bind_some]
      rw [if_neg (by omega)]
    obtain ⟨rs, hs, hr⟩ := rec_i x hx p hp
    refine Ev.step (fun k => by simp only [impl_scan.l0, impl_long.f, Option.bind_some]; rw [if_pos (by omega)]) (Ev.bind hs ?_)
    rcases hr with ⟨e, e2⟩ | ⟨kind, text, key, a, b, e, rfl⟩
    · refine ev_if_neg (by rw [e2]; simp) ?_
      rw [show wrap64 ((p : Int) + 1) = ((p + 1 : Nat) : Int) by rw [w64 (by omega) (by omega)]; omega]
      have := ih (p + 1) acc (by omega) (by omega) (by omega)
      unfold scanL
      rw [if_pos hp, e]
      exact this
    · obtain ⟨_, _, c3, c4, c5, _⟩ := recAt_some x p kind text key a b e
      refine ev_if_pos rfl (ev_if_pos (by omega) ?_)
      have := ih b (acc ++ [entryOf (kind, text, key, a, b)]) (by omega) c5 (by simp; omega)
      unfold scanL
      rw [if_pos hp, e]
      rw [List.append_assoc] at this
      exact this
abbrev IB := S64
def rightB (b : IB) : Prop := (b.f0 = 1 ∨ b.f0 = 2) ∧ b.f1.size ≤ 2000
/-- the record of a blob. -/
def recB (b : IB) : ByteArray := (((⟨#[66]⟩ : ByteArray) ++ keyB b.f0 b.f1) ++ putNum b.f0) ++ (putNum (b.f1.size : Int) ++ b.f1)
def catB : List IB → ByteArray
  | [] => ⟨#[]⟩
  | b :: l => recB b ++ catB l
theorem recB_cat (b : IB) (rest : ByteArray) : recB b ++ rest = (⟨#[66]⟩ : ByteArray) ++ (keyB b.f0 b.f1 ++ (putNum b.f0 ++ (putNum (b.f1.size : Int) ++ (b.f1 ++ rest)))) := by
  unfold recB
  simp only [ByteArray.append_assoc]
theorem size_rng (n : Nat) (h : n ≤ 20000) : -9223372036854775808 ≤ (n : Int) ∧ (n : Int) ≤ 9223372036854775807 := by omega
theorem recB_size (b : IB) (h : rightB b) : (recB b).size = 33 + (putNum b.f0).size + (putNum (b.f1.size : Int)).size + b.f1.size ∧ (recB b).size ≤ 3000 := by
  have hr := kind_rng h.1
  have z1 := putNum_size b.f0 hr.1 hr.2
  have h2 := h.2
  have hr2 := size_rng b.f1.size (by omega)
  have z2 := putNum_size (b.f1.size : Int) hr2.1 hr2.2
  have z3 := keyB_size b.f0 b.f1
  have ez : ((⟨#[66]⟩ : ByteArray)).size = 1 := rfl
  unfold recB
  simp only [ByteArray.size_append, ez]
  omega
theorem ext_mid (a m c : ByteArray) : (a ++ (m ++ c)).extract a.size (a.size + m.size) = m := by
  apply bl_inj
  rw [bl_extract, bl_append, bl_append, List.drop_take, ← bl_length a, List.drop_left' rfl, show (bl a).length + m.size - (bl a).length = m.size by omega, ← bl_length m, List.take_left' rfl]
theorem rdn_put (a c : ByteArray) (n : Int) (h0 : -9223372036854775808 ≤ n) (h1 : n ≤ 9223372036854775807) : rdn (a ++ (putNum n ++ c)) a.size = some (n, a.size + (putNum n).size) := by
  have hd : (bl (a ++ (putNum n ++ c))).drop a.size = (numL (fold n)).map Int.toNat ++ bl c := by
    rw [bl_append, bl_append, ← bl_length a, List.drop_left' rfl, bl_putNum n h0 h1]
  have hf := fold_lt n h0 h1
  have hg := gN_put 9 (fold n) 0 0 (bl c) rfl (Nat.lt_of_lt_of_le hf (by decide)) (by omega) (fun h => absurd h (by omega))
  rw [← hd] at hg
  have hz : (numL (fold n)).length = (putNum n).size := by unfold putNum; rw [strOfNums_size]
  unfold rdn
  rw [hg, show (0 + fold n * 128 ^ 0) = fold n by omega, Nat.zero_add]
  unfold gout
  rw [if_pos rfl, if_pos rfl, unfold_fold, hz]
  simp only [Int.toNat_natCast]
/-- the record that was put is read. -/
theorem recAt_put (pre rest : ByteArray) (b : IB) (h : rightB b) : recAt (pre ++ (recB b ++ rest)) pre.size = some (b.f0, b.f1, keyB b.f0 b.f1, pre.size + 33 + (putNum b.f0).size + (putNum (b.f1.size : Int)).size, pre.size + (recB b).size) := by
  have hr := kind_rng h.1
  have h2 := h.2
  have hr2 := size_rng b.f1.size (by omega)
  have z0 := recB_size b h
  have z3 := keyB_size b.f0 b.f1
  have ez : ((⟨#[66]⟩ : ByteArray)).size = 1 := rfl
  have hx : (pre ++ (recB b ++ rest)).size = pre.size + (recB b).size + rest.size := by simp only [ByteArray.size_append]; omega
  have e1 : pre ++ (recB b ++ rest) = pre ++ ((⟨#[66]⟩ : ByteArray) ++ (keyB b.f0 b.f1 ++ (putNum b.f0 ++ (putNum (b.f1.size : Int) ++ (b.f1 ++ rest))))) := by rw [recB_cat]
  have e2 : pre ++ (recB b ++ rest) = (pre ++ (⟨#[66]⟩ : ByteArray)) ++ (keyB b.f0 b.f1 ++ (putNum b.f0 ++ (putNum (b.f1.size : Int) ++ (b.f1 ++ rest)))) := by rw [e1]; simp only [ByteArray.append_assoc]
  have e3 : pre ++ (recB b ++ rest) = ((pre ++ (⟨#[66]⟩ : ByteArray)) ++ keyB b.f0 b.f1) ++ (putNum b.f0 ++ (putNum (b.f1.size : Int) ++ (b.f1 ++ rest))) := by rw [e1]; simp only [ByteArray.append_assoc]
  have e4 : pre ++ (recB b ++ rest) = (((pre ++ (⟨#[66]⟩ : ByteArray)) ++ keyB b.f0 b.f1) ++ putNum b.f0) ++ (putNum (b.f1.size : Int) ++ (b.f1 ++ rest)) := by rw [e1]; simp only [ByteArray.append_assoc]
  have e5 : pre ++ (recB b ++ rest) = ((((pre ++ (⟨#[66]⟩ : ByteArray)) ++ keyB b.f0 b.f1) ++ putNum b.f0) ++ putNum (b.f1.size : Int)) ++ (b.f1 ++ rest) := by rw [e1]; simp only [ByteArray.append_assoc]
  have x1 := ext_mid pre (⟨#[66]⟩ : ByteArray) (keyB b.f0 b.f1 ++ (putNum b.f0 ++ (putNum (b.f1.size : Int) ++ (b.f1 ++ rest))))
  rw [← e1, ez] at x1
  have x2 := ext_mid (pre ++ (⟨#[66]⟩ : ByteArray)) (keyB b.f0 b.f1) (putNum b.f0 ++ (putNum (b.f1.size : Int) ++ (b.f1 ++ rest)))
  rw [← e2, ByteArray.size_append, ez, z3] at x2
  have x3 := rdn_put ((pre ++ (⟨#[66]⟩ : ByteArray)) ++ keyB b.f0 b.f1) (putNum (b.f1.size : Int) ++ (b.f1 ++ rest)) b.f0 hr.1 hr.2
  rw [← e3, ByteArray.size_append, ByteArray.size_append, ez, z3] at x3
  have x4 := rdn_put (((pre ++ (⟨#[66]⟩ : ByteArray)) ++ keyB b.f0 b.f1) ++ putNum b.f0) (b.f1 ++ rest) (b.f1.size : Int) hr2.1 hr2.2
  rw [← e4, ByteArray.size_append, ByteArray.size_append, ByteArray.size_append, ez, z3] at x4
  have x5 := ext_mid ((((pre ++ (⟨#[66]⟩ : ByteArray)) ++ keyB b.f0 b.f1) ++ putNum b.f0) ++ putNum (b.f1.size : Int)) b.f1 rest
  rw [← e5, ByteArray.size_append, ByteArray.size_append, ByteArray.size_append, ByteArray.size_append, ez, z3] at x5
  have h66 : bt (pre ++ (recB b ++ rest)) (pre.size : Int) = 66 := (one_byte _ _ (by omega)).1 (by rw [x1, ByteArray.toList_eq])
  generalize pre ++ (recB b ++ rest) = x at *
  unfold recAt
  rw [if_pos ⟨by omega, h66⟩, show pre.size + 33 = pre.size + 1 + 32 by omega, x3, Option.bind_some, if_pos h.1]
  simp only
  rw [x4, Option.bind_some, if_pos (by simp only; omega)]
  simp only [Int.toNat_natCast]
  rw [x5, show pre.size + 1 + 32 = pre.size + 1 + 32 from rfl, x2, if_pos rfl, z0.1]
  congr 5
  omega
/-- the entries of records one behind another. -/
def entsB : Nat → List IB → List IE
  | _, [] => []
  | p, b :: l => ⟨keyB b.f0 b.f1, b.f0, ((p + 33 + (putNum b.f0).size + (putNum (b.f1.size : Int)).size : Nat) : Int), (b.f1.size : Int)⟩ :: entsB (p + (recB b).size) l
theorem entsB_length : ∀ (l : List IB) (p : Nat), (entsB p l).length = l.length
  | [], _ => rfl
  | b :: l, p => by simp [entsB, entsB_length l]
theorem scan_skip (x : ByteArray) : ∀ (n d p : Nat), p + n ≤ x.size → (∀ i, p ≤ i → i < p + n → bt x (i : Int) ≠ 66) → scanL x (d + n) p = scanL x d (p + n)
  | 0, d, p, _, _ => rfl
  | n + 1, d, p, h, hb => by
    have e : recAt x p = none := by
      unfold recAt
      rw [if_neg (fun q => hb p (Nat.le_refl _) (by omega) q.2)]
    rw [← Nat.add_assoc, scanL, if_pos (by omega), e]
    simp only
    rw [scan_skip x n d (p + 1) (by omega) (fun i h1 h2 => hb i (by omega) (by omega)), show p + 1 + n = p + (n + 1) by omega]
theorem scan_cat : ∀ (bs : List IB) (pre : ByteArray) (d : Nat), (∀ b ∈ bs, rightB b) → bs.length ≤ d → scanL (pre ++ catB bs) d pre.size = entsB pre.size bs
  | [], pre, d, _, _ => by
    cases d with
    | zero => rfl
    | succ d =>
      unfold scanL
      rw [if_neg (by show ¬ pre.size < (pre ++ (⟨#[]⟩ : ByteArray)).size; rw [ByteArray.size_append]; show ¬ pre.size < pre.size + 0; omega)]
      rfl
  | b :: bs, pre, 0, _, h => by simp at h
  | b :: bs, pre, d + 1, hr, h => by
    have hb := hr b (by simp)
    have hz := recB_size b hb
    have ih := scan_cat bs (pre ++ recB b) d (fun c hc => hr c (by simp [hc])) (by simpa using h)
    rw [ByteArray.append_assoc, ByteArray.size_append] at ih
    unfold scanL entsB
    rw [if_pos (by show pre.size < (pre ++ (recB b ++ catB bs)).size; simp only [ByteArray.size_append]; omega)]
    show (match recAt (pre ++ (recB b ++ catB bs)) pre.size with | none => _ | some r => _) = _
    rw [recAt_put pre (catB bs) b hb]
    simp only
    show entryOf _ :: scanL (pre ++ (recB b ++ catB bs)) d (pre.size + (recB b).size) = _
    rw [ih]
    rfl
theorem entsB_get : ∀ (bs : List IB) (pre : ByteArray) (i : Nat) (b : IB), (∀ b ∈ bs, rightB b) → bs[i]? = some b → ∃ a : Nat, (entsB pre.size bs)[i]? = some ⟨keyB b.f0 b.f1, b.f0, (a : Int), (b.f1.size : Int)⟩ ∧ a + b.f1.size ≤ (pre ++ catB bs).size ∧ (pre ++ catB bs).extract a (a + b.f1.size) = b.f1
  | [], _, _, _, _, h => by simp at h
  | c :: bs, pre, 0, b, hr, h => by
    obtain rfl : c = b := by simpa using h
    have hb := hr c (by simp)
    have e := recAt_some _ _ _ _ _ _ _ (recAt_put pre (catB bs) c hb)
    have hz := recB_size c hb
    refine ⟨pre.size + 33 + (putNum c.f0).size + (putNum (c.f1.size : Int)).size, rfl, ?_, ?_⟩
    · show _ ≤ (pre ++ (recB c ++ catB bs)).size
      simp only [ByteArray.size_append]
      omega
    · have h5 := e.2.2.2.2.2.1
      rw [show pre.size + 33 + (putNum c.f0).size + (putNum (c.f1.size : Int)).size + c.f1.size = pre.size + (recB c).size by omega]
      exact h5.symm
  | c :: bs, pre, i + 1, b, hr, h => by
    obtain ⟨a, h1, h2, h3⟩ := entsB_get bs (pre ++ recB c) i b (fun d hd => hr d (by simp [hd])) (by simpa using h)
    rw [ByteArray.append_assoc] at h2 h3
    rw [ByteArray.size_append] at h1
    exact ⟨a, by simpa [entsB] using h1, h2, h3⟩
theorem sn_append (a b : List Int) : strOfNums (a ++ b) = strOfNums a ++ strOfNums b := by
  apply ByteArray.ext
  simp [strOfNums, ByteArray.data_append]
theorem sn_bytesOf (t : ByteArray) : strOfNums (bytesOf t) = t := by
  apply bl_inj
  rw [bl_strOfNums]
  · unfold bytesOf bl
    rw [List.map_map]
    rfl
  · intro x hx
    unfold bytesOf at hx
    obtain ⟨c, _, rfl⟩ := List.mem_map.1 hx
    have := c.toNat_lt
    omega
theorem putText_s (t : ByteArray) (h : t.size ≤ 20000) : Ev (fun k => spec_PutText.f k t) (putNum (t.size : Int) ++ t) := by
  have hr := size_rng t.size h
  have hz := putNum_size (t.size : Int) hr.1 hr.2
  exact ev_if_neg (by omega) (Ev.bind (ev_from 10 (fun k hk => putNum_s _ hr.1 hr.2 k hk)) (ev_if_pos (by omega) (Ev.now _)))
theorem record_s (b : IB) (h : rightB b) : Ev (fun k => spec_l07Record.f k b.f0 b.f1) (recB b) := by
  have hr := kind_rng h.1
  have h2 := h.2
  have z1 := putNum_size b.f0 hr.1 hr.2
  have hr2 := size_rng b.f1.size (by omega)
  have z2 := putNum_size (b.f1.size : Int) hr2.1 hr2.2
  have z3 := keyB_size b.f0 b.f1
  have ez : ((⟨#[66]⟩ : ByteArray)).size = 1 := rfl
  exact Ev.bind (blobKey_s b.f0 b.f1 h.1 h.2) (ev_if_pos (by omega) (Ev.bind (ev_from 10 (fun k hk => putNum_s _ hr.1 hr.2 k hk)) (ev_if_pos (by simp only [ByteArray.size_append, ez]; omega) (Ev.bind (putText_s b.f1 (by omega)) (ev_if_pos (by simp only [ByteArray.size_append, ez]; omega) (Ev.now _))))))
theorem in_ok (ks : List ByteArray) (t : ByteArray) (h : ks.length ≤ 1000) : ∃ v, Ev (fun k => spec_l07In.f k ks t) v := by
  unfold spec_l07In.f
  have main : ∀ (d i : Nat), i + d = ks.length → ∃ v, Ev (fun k => spec_l07In.l0 k ks t (i : Int)) v := by
    intro d
    induction d with
    | zero =>
      intro i hi
      exact ⟨false, Ev.step (f := fun _ => some false) (fun k => by simp only [spec_l07In.l0]; rw [if_neg (by omega)]) (Ev.now _)⟩
    | succ d ih =>
      intro i hi
      by_cases e : (rdOf ByteArray.empty ks (i : Int)).toList = t.toList
      · exact ⟨true, Ev.step (f := fun _ => some true) (fun k => by simp only [spec_l07In.l0]; rw [if_pos (by omega), if_pos (by omega), if_pos e]) (Ev.now _)⟩
      · obtain ⟨v, hv⟩ := ih (i + 1) (by omega)
        refine ⟨v, Ev.step (fun k => ?_) hv⟩
        simp only [spec_l07In.l0]
        rw [if_pos (by omega), if_pos (by omega), if_neg e, show wrap64 ((i : Int) + 1) = ((i + 1 : Nat) : Int) by rw [w64 (by omega) (by omega)]; omega]
  exact main ks.length 0 (by omega)
abbrev rdB := rd_T64
theorem rdB_nat (l : List IB) (i : Nat) (h : i < l.length) : rdB l (i : Int) = l[i] := by
  unfold rdB rd_T64
  exact getD_nat l i _ h
def PackQ (bs : List IB) (t : ByteArray) : Prop := t = ⟨#[]⟩ ∨ ((∀ b ∈ bs, rightB b) ∧ t = catB bs ∧ t.size ≤ 12000 ∧ bs ≠ [])
theorem pack_l0 (bs : List IB) (hb : bs.length ≤ 40) : ∀ (d i : Nat) (acc : List Int) (ks : List ByteArray), i + d = bs.length → ks.length = i → acc.length ≤ 3000 * i →
    Evs (fun k => spec_l07Pack.l0 k bs acc ks (i : Int)) (fun r => r.2 = true → (∀ b ∈ bs.drop i, rightB b) ∧ r.1 = strOfNums acc ++ catB (bs.drop i) ∧ r.1.size ≤ 12000) := by
  intro d
  induction d with
  | zero =>
    intro i acc ks hi hk ha
    refine ⟨(strOfNums acc, decide ((acc.length : Int) ≤ 12000)), Ev.step (f := fun _ => some (strOfNums acc, decide ((acc.length : Int) ≤ 12000))) (fun k => by simp only [spec_l07Pack.l0]; rw [if_neg (by omega)]) (Ev.now _), fun h => ?_⟩
    rw [List.drop_eq_nil_of_le (by omega)]
    refine ⟨by simp, ?_, ?_⟩
    · simp only [catB]
      apply bl_inj
      rw [bl_append]
      simp [bl]
    · simp only at h ⊢
      rw [strOfNums_size]
      have := of_decide_eq_true h
      omega
  | succ d ih =>
    intro i acc ks hi hk ha
    have hlt : i < bs.length := by omega
    obtain ⟨b, hbi⟩ : ∃ b, bs[i] = b := ⟨_, rfl⟩
    have e := rdB_nat bs i hlt
    rw [hbi] at e
    have hbr := blobRight_s b.f0 b.f1
    have no : Evs (fun _ : Nat => some ((⟨#[]⟩ : ByteArray), false)) (fun r => r.2 = true → (∀ b ∈ bs.drop i, rightB b) ∧ r.1 = strOfNums acc ++ catB (bs.drop i) ∧ r.1.size ≤ 12000) := Evs.now _ (fun h => by simp at h)
    have step : ∀ P, Evs (fun k => ((spec_BlobRight.f b.f0 b.f1).bind fun t368 => (if t368 = true then ((spec_BlobKey.f k b.f0 b.f1).bind fun t370 => ((spec_l07In.f k ks t370).bind fun t371 => (if t371 = true then (some ((⟨#[]⟩ : ByteArray), false)) else (if ks.length < 8796093022208 then ((spec_l07Record.f k b.f0 b.f1).bind fun t376 => (if acc.length + t376.size < 140737488355328 then (spec_l07Pack.l0 k bs (acc ++ bytesOf t376) (ks ++ [t370]) ((i + 1 : Nat) : Int)) else (none))) else (none))))) else (some ((⟨#[]⟩ : ByteArray), false))))) P → Evs (fun k => spec_l07Pack.l0 k bs acc ks (i : Int)) P := by
      intro P hP
      obtain ⟨r, hr, hp⟩ := hP
      refine ⟨r, Ev.step (fun k => ?_) hr, hp⟩
      simp only [spec_l07Pack.l0]
      have e' : rd_T64 bs (i : Int) = b := e
      rw [if_pos (by omega), if_pos (by omega), e', show wrap64 ((i : Int) + 1) = ((i + 1 : Nat) : Int) by rw [w64 (by omega) (by omega)]; omega]
    refine step _ ?_
    by_cases hR : rightB b
    rotate_left
    · refine Evs.bind1 hbr (Evs.if_neg ?_ no)
      unfold rightB at hR
      by_cases a1 : b.f0 = 1 <;> by_cases a2 : b.f0 = 2 <;> simp [a1, a2] at hR ⊢ <;> omega
    have et : ((decide (b.f0 = 1) || decide (b.f0 = 2)) && decide ((b.f1.size : Int) ≤ 2000)) = true := by
      have := hR.2
      rw [decide_eq_true (show (b.f1.size : Int) ≤ 2000 by omega)]
      rcases hR.1 with h | h <;> rw [h] <;> rfl
    rw [et] at hbr
    refine Evs.bind1 hbr (Evs.if_pos rfl (Evs.bind (Evs.of (blobKey_s b.f0 b.f1 hR.1 hR.2)) (fun key hkey => ?_)))
    subst hkey
    obtain ⟨v, hv⟩ := in_ok ks (keyB b.f0 b.f1) (by omega)
    refine Evs.bind (Evs.of hv) (fun v' hv' => Evs.ite (fun _ => no) (fun _ => Evs.if_pos (by omega) (Evs.bind (Evs.of (record_s b hR)) (fun r hr => ?_))))
    subst hr
    have hz := recB_size b hR
    refine Evs.if_pos (by omega) ((ih (i + 1) (acc ++ bytesOf (recB b)) (ks ++ [keyB b.f0 b.f1]) (by omega) (by simp [hk]) (by rw [List.length_append, bytesOf_length]; omega)).mono (fun r hr ht => ?_))
    obtain ⟨q1, q2, q3⟩ := hr ht
    rw [List.drop_eq_getElem_cons hlt, hbi]
    refine ⟨fun c hc => ?_, ?_, q3⟩
    · rcases List.mem_cons.1 hc with rfl | hc
      · exact hR
      · exact q1 c hc
    · rw [q2, sn_append, sn_bytesOf, ByteArray.append_assoc]
      rfl
theorem packBytes_s (bs : List IB) (hb : bs.length ≤ 400) : Evs (fun k => spec_PackBytes.f k bs) (PackQ bs) := by
  unfold spec_PackBytes.f
  refine Evs.if_neg (by omega) (Evs.bind (Q := fun r => r.2 = true → (∀ b ∈ bs, rightB b) ∧ r.1 = catB bs ∧ r.1.size ≤ 12000 ∧ bs ≠ []) ?_ (fun r hr => Evs.ite (fun h => Evs.now _ (Or.inr (hr h))) (fun _ => Evs.now _ (Or.inl rfl))))
  have bad : Evs (fun k => spec_l07Pack.j0 k bs true) (fun r => r.2 = true → (∀ b ∈ bs, rightB b) ∧ r.1 = catB bs ∧ r.1.size ≤ 12000 ∧ bs ≠ []) :=
    ⟨_, Ev.step (f := fun _ => some ((⟨#[]⟩ : ByteArray), false)) (fun k => by simp only [spec_l07Pack.j0]; rw [if_pos trivial]) (Ev.now _), fun h => by simp at h⟩
  unfold spec_l07Pack.f
  refine Evs.ite (fun _ => bad) (fun h1 => ?_)
  by_cases h40 : (bs.length : Int) > 40
  · rw [decide_eq_true h40]; exact bad
  rw [decide_eq_false h40]
  obtain ⟨r, hr, hp⟩ := pack_l0 bs (by omega) bs.length 0 [] [] (by omega) rfl (by simp)
  refine ⟨r, Ev.step (fun k => by simp only [spec_l07Pack.j0]; rw [if_neg (by simp)]; rfl) hr, fun h => ?_⟩
  obtain ⟨q1, q2, q3⟩ := hp h
  rw [List.drop_zero] at q1 q2
  refine ⟨q1, ?_, q3, fun e => by rw [e] at h1; simp at h1⟩
  rw [q2]
  apply bl_inj
  rw [bl_append]
  rfl
/-- a source that stands right. -/
def St (b : List Int) (q m : Int) : Prop := 0 ≤ q ∧ q ≤ (b.length : Int) ∧ b.length ≤ 1048576 ∧ 0 ≤ m ∧ m < 18446744073709551616
theorem bits_u64 (op : BinOp) (x y : Int) : 0 ≤ Go.bits op .u64 x y ∧ Go.bits op .u64 x y < 18446744073709551616 := by
  simp only [Go.bits, IntKind.wrap_u64]
  omega
theorem pick_most (v most : Int) (h1 : 1 < most) (h2 : most ≤ 9223372036854775807) : 0 ≤ wrap64 (Int.tmod (IntKind.u64.wrap v) (IntKind.u64.wrap most)) ∧ wrap64 (Int.tmod (IntKind.u64.wrap v) (IntKind.u64.wrap most)) < most ∧ IntKind.u64.wrap most ≠ 0 := by
  simp only [IntKind.wrap_u64]
  have e : most % 18446744073709551616 = most := by omega
  rw [e, Int.tmod_eq_emod_of_nonneg (by omega)]
  have a := Int.emod_nonneg (v % 18446744073709551616) (show most ≠ 0 by omega)
  have b := Int.emod_lt_of_pos (v % 18446744073709551616) (show 0 < most by omega)
  rw [w64 (by omega) (by omega)]
  omega
theorem n_ok (b : List Int) (q m z most : Int) (h : St b q m) (h1 : 1 ≤ most) (h2 : most ≤ 9223372036854775807) : ∃ v q' m', spec_l01Src_n.f b q m z most = some (v, q', m', z) ∧ 0 ≤ v ∧ v < most ∧ St b q' m' := by
  obtain ⟨a1, a2, a3, a4, a5⟩ := h
  unfold spec_l01Src_n.f
  by_cases c : most ≤ 1
  · rw [if_pos c]
    exact ⟨0, q, m, rfl, by omega, by omega, a1, a2, a3, a4, a5⟩
  · rw [if_neg c]
    have hm := bits_u64 .xor (Go.bits .xor .u64 (Go.bits .xor .u64 m (IntKind.u64.wrap (m * 8192))) ((Go.bits .xor .u64 m (IntKind.u64.wrap (m * 8192))) / 128)) (IntKind.u64.wrap ((Go.bits .xor .u64 (Go.bits .xor .u64 m (IntKind.u64.wrap (m * 8192))) ((Go.bits .xor .u64 m (IntKind.u64.wrap (m * 8192))) / 128)) * 131072))
    generalize Go.bits .xor .u64 (Go.bits .xor .u64 (Go.bits .xor .u64 m (IntKind.u64.wrap (m * 8192))) ((Go.bits .xor .u64 m (IntKind.u64.wrap (m * 8192))) / 128)) (IntKind.u64.wrap ((Go.bits .xor .u64 (Go.bits .xor .u64 m (IntKind.u64.wrap (m * 8192))) ((Go.bits .xor .u64 m (IntKind.u64.wrap (m * 8192))) / 128)) * 131072)) = m3 at hm ⊢
    by_cases c2 : q < (b.length : Int)
    · obtain ⟨p1, p2, p3⟩ := pick_most (IntKind.u64.wrap (rd b q) + m3 / 1048576) most (by omega) h2
      rw [if_pos c2, if_pos a1, if_neg p3]
      exact ⟨_, _, _, rfl, p1, p2, by rw [w64 (by omega) (by omega)]; omega, by rw [w64 (by omega) (by omega)]; omega, a3, hm.1, hm.2⟩
    · obtain ⟨p1, p2, p3⟩ := pick_most (0 + m3 / 1048576) most (by omega) h2
      rw [if_neg c2, if_neg p3]
      exact ⟨_, _, _, rfl, p1, p2, a1, a2, a3, hm.1, hm.2⟩
theorem src_ok (l : List Int) (hl : l.length ≤ 1048576) : Evs (fun k => spec_l01Source.f k l) (fun r => r.1 = l ∧ St l r.2.1 r.2.2.1 ∧ 0 ≤ r.2.2.2 ∧ r.2.2.2 ≤ 12) := by
  have stop : ∀ (m : Int), 0 ≤ m → m < 18446744073709551616 → ∀ q, q = (if (wrap64 ((l.length : Int) / 20)) > 12 then (some (l, (0 : Int), m, (12 : Int))) else (some (l, 0, m, wrap64 ((l.length : Int) / 20)))) → ∃ r, q = some r ∧ r.1 = l ∧ St l r.2.1 r.2.2.1 ∧ 0 ≤ r.2.2.2 ∧ r.2.2.2 ≤ 12 := by
    intro m h0 h1 q hq
    subst hq
    rw [w64 (n := (l.length : Int) / 20) (by omega) (by omega)]
    by_cases c : (l.length : Int) / 20 > 12
    · rw [if_pos c]
      exact ⟨_, rfl, rfl, ⟨Int.le_refl _, by simp, hl, h0, h1⟩, by simp, by simp⟩
    · rw [if_neg c]
      exact ⟨_, rfl, rfl, ⟨Int.le_refl _, by simp, hl, h0, h1⟩, by simp only; omega, by simp only; omega⟩
  unfold spec_l01Source.f
  have main : ∀ (d i : Nat) (m : Int), i + d = 65 → 0 ≤ m → m < 18446744073709551616 → Evs (fun k => spec_l01Source.l0 k l (i : Int) l 0 m 0) (fun r => r.1 = l ∧ St l r.2.1 r.2.2.1 ∧ 0 ≤ r.2.2.2 ∧ r.2.2.2 ≤ 12) := by
    intro d
    induction d with
    | zero =>
      intro i m hi h0 h1
      obtain ⟨r, hr, hp⟩ := stop m h0 h1 _ rfl
      refine ⟨r, Ev.step (f := fun _ => some r) (fun k => ?_) (Ev.now _), hp⟩
      simp only [spec_l01Source.l0]
      by_cases c : (i : Int) < (l.length : Int)
      · rw [if_pos c, if_neg (by omega)]; exact hr
      · rw [if_neg c]; exact hr
    | succ d ih =>
      intro i m hi h0 h1
      by_cases c : (i : Int) < (l.length : Int) ∧ (i : Int) < 64
      · obtain ⟨v, hv, hp⟩ := ih (i + 1) (IntKind.u64.wrap ((Go.bits .xor .u64 m (IntKind.u64.wrap (rd l i))) * 1099511628211)) (by omega) (by simp only [IntKind.wrap_u64]; omega) (by simp only [IntKind.wrap_u64]; omega)
        refine ⟨v, Ev.step (fun k => ?_) hv, hp⟩
        simp only [spec_l01Source.l0]
        rw [if_pos c.1, if_pos c.2, if_pos (by omega), w64 (by omega) (by omega)]
        rfl
      · obtain ⟨r, hr, hp⟩ := stop m h0 h1 _ rfl
        refine ⟨r, Ev.step (f := fun _ => some r) (fun k => ?_) (Ev.now _), hp⟩
        simp only [spec_l01Source.l0]
        by_cases c1 : (i : Int) < (l.length : Int)
        · rw [if_pos c1, if_neg (fun q => c ⟨c1, q⟩)]; exact hr
        · rw [if_neg c1]; exact hr
  exact main 65 0 88172645463325252 rfl (by decide) (by decide)
theorem one_ok (b : List Int) (q m z of : Int) (h : St b q m) (h1 : 1 ≤ of) (h2 : of ≤ 9223372036854775807) : ∃ v q' m', spec_l01Src_one.f b q m z of = some (v, q', m', z) ∧ St b q' m' := by
  obtain ⟨v, q', m', hv, _, _, hs⟩ := n_ok b q m z of h h1 h2
  refine ⟨v == 0, q', m', ?_, hs⟩
  unfold spec_l01Src_one.f
  rw [hv]
  rfl
theorem strOfNums_len (l : List Int) : (strOfNums l).size = l.length := by simp [strOfNums, ByteArray.size]
theorem bytes_ok (b : List Int) (z : Int) (n : Nat) (hn : n ≤ 1048576) : ∀ (d i : Nat) (acc : List Int) (q m : Int), i + d = n → acc.length = i → St b q m → Evs (fun k => spec_l01Src_bytes.l0 k (n : Int) acc (i : Int) b q m z) (fun r => r.1.size = n ∧ St b r.2.1 r.2.2.1 ∧ r.2.2.2 = z) := by
  intro d
  induction d with
  | zero =>
    intro i acc q m hi ha hs
    refine ⟨(strOfNums acc, q, m, z), Ev.step (f := fun _ => some (strOfNums acc, q, m, z)) (fun k => ?_) (Ev.now _), ?_, hs, rfl⟩
    · simp only [spec_l01Src_bytes.l0]
      rw [if_neg (by omega)]
    · show (strOfNums acc).size = n
      rw [strOfNums_len]; omega
  | succ d ih =>
    intro i acc q m hi ha hs
    obtain ⟨v, q', m', hv, _, _, hs'⟩ := n_ok b q m z 256 hs (by decide) (by decide)
    obtain ⟨r, hr, hp⟩ := ih (i + 1) (acc ++ [v % 256]) q' m' (by omega) (by simp; omega) hs'
    refine ⟨r, Ev.step (fun k => ?_) hr, hp⟩
    simp only [spec_l01Src_bytes.l0, hv, Option.bind_some]
    rw [if_pos (by omega), if_pos (by omega), w64 (by omega) (by omega)]
    rfl
theorem bytesN_ok (b : List Int) (q m z n : Int) (h0 : 0 ≤ n) (hn : n ≤ 1048576) (hs : St b q m) : Evs (fun k => spec_l01Src_bytes.f k b q m z n) (fun r => (r.1.size : Int) = n ∧ St b r.2.1 r.2.2.1 ∧ r.2.2.2 = z) := by
  obtain ⟨n, rfl⟩ : ∃ k : Nat, n = (k : Int) := ⟨n.toNat, by omega⟩
  exact (bytes_ok b z n (by omega) n 0 [] q m (by omega) rfl hs).mono (fun r h => ⟨by rw [h.1], h.2⟩)
theorem dec_l0 : ∀ (b : Nat) (n : Nat) (x : ByteArray), n ≤ b → b ≤ 4611686018427387904 → x.size + n ≤ 4611686018427387904 → Evs (fun k => spec_l01Dec.l0 k (n : Int) false x) (fun r => r.size ≤ x.size + n) := by
  intro b
  induction b with
  | zero =>
    intro n x hn _ hx
    obtain rfl : n = 0 := by omega
    refine ⟨x, Ev.step (f := fun _ => some x) (fun k => ?_) (Ev.now _), Nat.le_refl _⟩
    simp only [spec_l01Dec.l0]
    rw [if_pos (by omega), if_neg (by simp)]
  | succ b ih =>
    intro n x hn hb hx
    by_cases h0 : n = 0
    · subst h0
      refine ⟨x, Ev.step (f := fun _ => some x) (fun k => ?_) (Ev.now _), Nat.le_refl _⟩
      simp only [spec_l01Dec.l0]
      rw [if_pos (by omega), if_neg (by simp)]
    · have e : wrap64 (Int.tdiv (n : Int) 10) = ((n / 10 : Nat) : Int) := by
        rw [show Int.tdiv (n : Int) 10 = ((n / 10 : Nat) : Int) from rfl]
        exact w64 (by omega) (by omega)
      have e2 : ¬ Int.tmod (n : Int) 10 < 0 := by rw [Int.tmod_eq_emod_of_nonneg (by omega)]; omega
      have hs : ∀ y : ByteArray, (strOfNums [(wrap64 (48 + Int.tmod (n : Int) 10)) % 256] ++ y).size = 1 + y.size := by
        intro y
        rw [ByteArray.size_append, strOfNums_len]
        rfl
      obtain ⟨v, hv, hp⟩ := ih (n / 10) (strOfNums [(wrap64 (48 + Int.tmod (n : Int) 10)) % 256] ++ x) (by omega) (by omega) (by rw [hs]; omega)
      refine ⟨v, Ev.step (fun k => ?_) hv, by rw [hs] at hp; omega⟩
      simp only [spec_l01Dec.l0, Option.bind_some, e]
      rw [if_neg (by omega), if_neg e2, if_pos (by rw [strOfNums_len]; simp only [List.length_cons, List.length_nil]; omega)]
theorem dec_ok (n : Nat) (hn : n ≤ 1000) : Evs (fun k => spec_l01Dec.f k (n : Int)) (fun r => r.size ≤ 1001) := by
  unfold spec_l01Dec.f
  refine Evs.ite (fun _ => Evs.now _ (by show 1 ≤ 1001; omega)) (fun h => ?_)
  rw [decide_eq_false (show ¬ (n : Int) < 0 by omega)]
  exact (dec_l0 n n (⟨#[]⟩ : ByteArray) (Nat.le_refl _) (by omega) (by show 0 + n ≤ _; omega)).mono (fun r h => by have : (⟨#[]⟩ : ByteArray).size = 0 := rfl; omega)
theorem blob_j0 (b : List Int) (q m z : Int) (hs : St b q m) (kind : Int) (t : ByteArray) : Evs (fun k => spec_l01Src_l07Blob.j0 k b q m z kind t) (fun r => St b r.2.2.1 r.2.2.2.1 ∧ r.2.2.2.2 = z) := by
  obtain ⟨v, q1, m1, h1, s1⟩ := one_ok b q m z 60 hs (by omega) (by omega)
  by_cases hv : v = true
  · obtain ⟨w, q2, m2, h2, w0, w1, s2⟩ := n_ok b q1 m1 z 3 s1 (by omega) (by omega)
    have e : wrap64 (1999 + w) = 1999 + w := w64 (by omega) (by omega)
    refine ⟨(kind, strOfNums (List.replicate (wrap64 (1999 + w)).toNat 0), q2, m2, z), Ev.step (f := fun _ => some (kind, strOfNums (List.replicate (wrap64 (1999 + w)).toNat 0), q2, m2, z)) (fun k => ?_) (Ev.now _), s2, rfl⟩
    simp only [spec_l01Src_l07Blob.j0, h1, Option.bind_some, h2]
    rw [if_pos hv, if_pos (by omega), if_pos (by omega)]
  · refine ⟨(kind, t, q1, m1, z), Ev.step (f := fun _ => some (kind, t, q1, m1, z)) (fun k => ?_) (Ev.now _), s1, rfl⟩
    simp only [spec_l01Src_l07Blob.j0, h1, Option.bind_some]
    rw [if_neg hv]
theorem blob_ok (b : List Int) (q m z : Int) (hs : St b q m) : Evs (fun k => spec_l01Src_l07Blob.f k b q m z) (fun r => St b r.2.2.1 r.2.2.2.1 ∧ r.2.2.2.2 = z) := by
  unfold spec_l01Src_l07Blob.f
  obtain ⟨v1, q1, m1, h1, _, _, s1⟩ := n_ok b q m z 2 hs (by omega) (by omega)
  obtain ⟨v2, q2, m2, h2, p2, p3, s2⟩ := n_ok b q1 m1 z 30 s1 (by omega) (by omega)
  refine Evs.bind1 h1 (Evs.bind1 h2 (Evs.bind (bytesN_ok b q2 m2 z v2 p2 (by omega) s2) (fun r hr => ?_)))
  obtain ⟨t, q3, m3, z3⟩ := r
  obtain ⟨_, s3, rfl⟩ := hr
  obtain ⟨v4, q4, m4, h4, s4⟩ := one_ok b q3 m3 z3 25 s3 (by omega) (by omega)
  refine Evs.bind1 h4 (Evs.ite (fun _ => ?_) (fun _ => blob_j0 b _ _ _ s4 _ _))
  obtain ⟨v5, q5, m5, h5, _, _, s5⟩ := n_ok b q4 m4 z3 5 s4 (by omega) (by omega)
  exact Evs.bind1 h5 (blob_j0 b _ _ _ s5 _ _)
theorem blobs_l1 (b : List Int) (z : Int) : ∀ (d : Nat) (l : List IB) (i : Nat) (q m : Int), l.length + d = 60 → i ≤ l.length → St b q m → Evs (fun k => spec_l01Src_l07Blobs.l1 k l (i : Int) b q m z) (fun r => r.1.length ≤ 100 ∧ St b r.2.1 r.2.2.1 ∧ r.2.2.2 = z) := by
  intro d
  induction d with
  | zero =>
    intro l i q m hl hi hs
    obtain ⟨v, q1, m1, h1, p0, p1, s1⟩ := n_ok b q m z 3 hs (by omega) (by omega)
    have e : wrap64 (39 + v) = 39 + v := w64 (by omega) (by omega)
    refine ⟨(l, q1, m1, z), Ev.step (f := fun _ => some (l, q1, m1, z)) (fun k => ?_) (Ev.now _), by show l.length ≤ 100; omega, s1, rfl⟩
    simp only [spec_l01Src_l07Blobs.l1, h1, Option.bind_some, e]
    rw [if_neg (by omega)]
  | succ d ih =>
    intro l i q m hl hi hs
    obtain ⟨v, q1, m1, h1, p0, p1, s1⟩ := n_ok b q m z 3 hs (by omega) (by omega)
    have e : wrap64 (39 + v) = 39 + v := w64 (by omega) (by omega)
    by_cases c : (l.length : Int) < 39 + v
    rotate_left
    · refine ⟨(l, q1, m1, z), Ev.step (f := fun _ => some (l, q1, m1, z)) (fun k => ?_) (Ev.now _), by show l.length ≤ 100; omega, s1, rfl⟩
      simp only [spec_l01Src_l07Blobs.l1, h1, Option.bind_some, e]
      rw [if_neg c]
    obtain ⟨t, ht, hts⟩ := dec_ok i (by omega)
    obtain ⟨r, hr, hp⟩ := ih (l ++ [(⟨1, t ++ (⟨#[121]⟩ : ByteArray)⟩ : IB)]) (i + 1) q1 m1 (by simp; omega) (by simp; omega) s1
    refine ⟨r, Ev.step (f := fun k => (spec_l01Dec.f k (i : Int)).bind fun t266 => (if t266.size + 1 ≤ 9223372036854775807 then (if l.length < 5864062014805 then (spec_l01Src_l07Blobs.l1 k (l ++ [(⟨1, t266 ++ (⟨#[121]⟩ : ByteArray)⟩ : IB)]) ((i + 1 : Nat) : Int) b q1 m1 z) else (none)) else (none))) (fun k => ?_) (Ev.bind ht (ev_if_pos (by omega) (ev_if_pos (by omega) hr))), hp⟩
    simp only [spec_l01Src_l07Blobs.l1, h1, Option.bind_some, e]
    rw [if_pos c, show wrap64 ((i : Int) + 1) = ((i + 1 : Nat) : Int) by rw [w64 (by omega) (by omega)]; omega]
theorem blobs_j2 (b : List Int) (z : Int) (l : List IB) (q m : Int) (hl : l.length ≤ 20) (hs : St b q m) : Evs (fun k => spec_l01Src_l07Blobs.j2 k l b q m z) (fun r => r.1.length ≤ 100 ∧ St b r.2.1 r.2.2.1 ∧ r.2.2.2 = z) := by
  obtain ⟨v, q1, m1, h1, s1⟩ := one_ok b q m z 40 hs (by omega) (by omega)
  by_cases hv : v = true
  · obtain ⟨r, hr, hp⟩ := blobs_l1 b z (60 - l.length) l 0 q1 m1 (by omega) (by omega) s1
    refine ⟨r, Ev.step (fun k => ?_) hr, hp⟩
    simp only [spec_l01Src_l07Blobs.j2, h1, Option.bind_some]
    rw [if_pos hv]
    rfl
  · refine ⟨(l, q1, m1, z), Ev.step (f := fun _ => some (l, q1, m1, z)) (fun k => ?_) (Ev.now _), by show l.length ≤ 100; omega, s1, rfl⟩
    simp only [spec_l01Src_l07Blobs.j2, h1, Option.bind_some]
    rw [if_neg hv]
theorem blobs_j1 (b : List Int) (z : Int) (l : List IB) (v : Bool) (q m : Int) (hl : l.length ≤ 19) (hv0 : v = true → 0 < l.length) (hs : St b q m) : Evs (fun k => spec_l01Src_l07Blobs.j1 k l v b q m z) (fun r => r.1.length ≤ 100 ∧ St b r.2.1 r.2.2.1 ∧ r.2.2.2 = z) := by
  cases v with
  | true =>
    have h0 := hv0 rfl
    obtain ⟨r, hr, hp⟩ := blobs_j2 b z (l ++ [(⟨(rd_T64 l 0).f0, (rd_T64 l 0).f1⟩ : IB)]) q m (by simp; omega) hs
    refine ⟨r, Ev.step (fun k => ?_) hr, hp⟩
    simp only [spec_l01Src_l07Blobs.j1]
    rw [if_pos trivial, if_pos (by omega), if_pos (by omega)]
  | false =>
    obtain ⟨r, hr, hp⟩ := blobs_j2 b z l q m (by omega) hs
    refine ⟨r, Ev.step (fun k => ?_) hr, hp⟩
    simp only [spec_l01Src_l07Blobs.j1]
    rw [if_neg (by simp)]
theorem blobs_l0 (b : List Int) (z : Int) : ∀ (d : Nat) (l : List IB) (q m : Int), l.length + d ≤ 10 → St b q m → Evs (fun k => spec_l01Src_l07Blobs.l0 k l (d : Int) b q m z) (fun r => r.1.length ≤ 100 ∧ St b r.2.1 r.2.2.1 ∧ r.2.2.2 = z) := by
  intro d
  induction d with
  | zero =>
    intro l q m hl hs
    by_cases c : (l.length : Int) > 0
    · obtain ⟨v, q1, m1, h1, s1⟩ := one_ok b q m z 15 hs (by omega) (by omega)
      obtain ⟨r, hr, hp⟩ := blobs_j1 b z l v q1 m1 (by omega) (fun _ => by omega) s1
      refine ⟨r, Ev.step (fun k => ?_) hr, hp⟩
      simp only [spec_l01Src_l07Blobs.l0, h1, Option.bind_some]
      rw [if_neg (by omega), if_pos c]
    · obtain ⟨r, hr, hp⟩ := blobs_j1 b z l false q m (by omega) (fun h => by simp at h) hs
      refine ⟨r, Ev.step (fun k => ?_) hr, hp⟩
      simp only [spec_l01Src_l07Blobs.l0]
      rw [if_neg (by omega), if_neg c]
  | succ d ih =>
    intro l q m hl hs
    obtain ⟨r1, h1, s1, e1⟩ := blob_ok b q m z hs
    obtain ⟨kd, t, q1, m1, z1⟩ := r1
    simp only at s1 e1
    subst e1
    obtain ⟨r, hr, hp⟩ := ih (l ++ [(⟨kd, t⟩ : IB)]) q1 m1 (by simp; omega) s1
    refine ⟨r, Ev.step (f := fun k => (spec_l01Src_l07Blob.f k b q m z1).bind fun bt242 => (if l.length < 5864062014805 then (spec_l01Src_l07Blobs.l0 k (l ++ [(⟨bt242.1, bt242.2.1⟩ : IB)]) (d : Int) b bt242.2.2.1 bt242.2.2.2.1 bt242.2.2.2.2) else (none))) (fun k => ?_) (Ev.bind h1 (ev_if_pos (by omega) hr)), hp⟩
    simp only [spec_l01Src_l07Blobs.l0]
    rw [if_pos (by omega), show wrap64 (((d + 1 : Nat) : Int) - 1) = (d : Int) by rw [w64 (by omega) (by omega)]; omega]
theorem blobs_ok (b : List Int) (q m z : Int) (hs : St b q m) : Evs (fun k => spec_l01Src_l07Blobs.f k b q m z) (fun r => r.1.length ≤ 100 ∧ St b r.2.1 r.2.2.1 ∧ r.2.2.2 = z) := by
  unfold spec_l01Src_l07Blobs.f
  obtain ⟨v, q1, m1, h1, p0, p1, s1⟩ := n_ok b q m z 5 hs (by omega) (by omega)
  obtain ⟨n, rfl⟩ : ∃ n : Nat, v = (n : Int) := ⟨v.toNat, by omega⟩
  exact Evs.bind1 h1 (blobs_l0 b z n [] q1 m1 (by simp; omega) s1)
theorem draw_pack (l : List Int) (hl : l.length ≤ 1048576) : Evs (fun k => spec_DrawPackBytes.f k l) (fun t => t.length ≤ 100) := by
  unfold spec_DrawPackBytes.f
  refine Evs.bind (src_ok l hl) (fun r hr => ?_)
  obtain ⟨b, q, m, z⟩ := r
  obtain ⟨rfl, hs, hz⟩ := hr
  exact Evs.bind (blobs_ok b q m z hs) (fun r hr => Evs.now _ hr.1)
theorem blobKeyI (b : IB) (h : rightB b) : Ev (fun k => impl_BlobKey.f k b.f0 b.f1) (keyB b.f0 b.f1) := by
  have hbr := blobRight_i b.f0 b.f1
  have et : ((decide (b.f0 = 1) || decide (b.f0 = 2)) && decide ((b.f1.size : Int) ≤ 2000)) = true := by
    have := h.2
    rw [decide_eq_true (show (b.f1.size : Int) ≤ 2000 by omega)]
    rcases h.1 with h | h <;> rw [h] <;> rfl
  rw [et] at hbr
  exact ev_bind1 hbr (ev_if_pos rfl (Ev.bind (blobKey_i b.f0 b.f1 h.1 h.2) (Ev.now _)))
theorem packGet_i (x : ByteArray) (hx : x.size ≤ 20000) (b : IB) (h : rightB b) (a : Nat) (ha : a + b.f1.size ≤ x.size) (he : x.extract a (a + b.f1.size) = b.f1) : Ev (fun k => impl_PackGet.f k x (keyB b.f0 b.f1) b.f0 (a : Int) (b.f1.size : Int)) (b.f0, b.f1, 0) := by
  have h2 := h.2
  have hbr := blobRight_i b.f0 b.f1
  have et : ((decide (b.f0 = 1) || decide (b.f0 = 2)) && decide ((b.f1.size : Int) ≤ 2000)) = true := by
    rw [decide_eq_true (show (b.f1.size : Int) ≤ 2000 by omega)]
    rcases h.1 with h | h <;> rw [h] <;> rfl
  rw [et] at hbr
  have ei : impl_isLong.f x = some false := by unfold impl_isLong.f; rw [decide_eq_false (by omega)]
  have ew : impl_within.f (b.f1.size : Int) 0 2000 = some true := by
    unfold impl_within.f
    rw [if_pos (by omega), decide_eq_true (by omega)]
  have es : wrap64 ((x.size : Int) - (b.f1.size : Int)) = (x.size : Int) - (b.f1.size : Int) := w64 (by omega) (by omega)
  have ea : wrap64 ((a : Int) + (b.f1.size : Int)) = ((a + b.f1.size : Nat) : Int) := by rw [w64 (by omega) (by omega)]; omega
  refine ev_bind1 ei (ev_if_neg (by simp) (Ev.bind (a := (b.f0, b.f1, 0)) ?_ (Ev.now _)))
  unfold impl_packGet.f
  refine ev_if_neg (by omega) (ev_bind1 ew (ev_if_pos rfl (ev_bind1 rfl ?_)))
  rw [es, decide_eq_false (by omega)]
  refine Ev.step (f := fun k => (impl_Blob_key.f k b.f0 b.f1).bind fun t => (if t.toList = (keyB b.f0 b.f1).toList then (some (b.f0, b.f1, 0)) else (some (0, (⟨#[]⟩ : ByteArray), 5)))) (fun k => ?_) (Ev.bind (blobKey_i b.f0 b.f1 h.1 h.2) (ev_if_pos rfl (Ev.now _)))
  simp only [impl_packGet.j0, ea, Int.toNat_natCast, he, hbr, Option.bind_some]
  rw [if_neg (by simp), if_pos (by omega), if_pos (by omega), if_pos (by omega), if_pos trivial]
theorem scanI (x : ByteArray) (hx : x.size ≤ 20000) : Ev (fun k => impl_PackScan.f k x) (scanL x x.size 0) := by
  have hi := scan_i x hx x.size 0 [] (by omega) (by omega) (by simp; omega)
  rw [List.nil_append] at hi
  have ei : impl_isLong.f x = some false := by unfold impl_isLong.f; rw [decide_eq_false (by omega)]
  exact ev_bind1 ei (ev_if_neg (by simp) (Ev.bind (by unfold impl_scan.f; exact hi) (Ev.now _)))
abbrev rdEn := rd_T61
theorem rdEn_nat (l : List IE) (i : Nat) (h : i < l.length) : rdEn l (i : Int) = l[i] := by
  unfold rdEn rd_T61
  exact getD_nat l i _ h
theorem law_l1 (bs : List IB) (pre : ByteArray) (hb : bs.length ≤ 100) (hr : ∀ b ∈ bs, rightB b) (hx : (pre ++ catB bs).size ≤ 20000) : Ev (fun k => laws_FnScan.l1 k bs (pre ++ catB bs) (entsB pre.size bs) 0) true := by
  have hlen := entsB_length bs pre.size
  have main : ∀ (d i : Nat), i + d = bs.length → Ev (fun k => laws_FnScan.l1 k bs (pre ++ catB bs) (entsB pre.size bs) (i : Int)) true := by
    intro d
    induction d with
    | zero =>
      intro i hi
      refine Ev.step (f := fun _ => some true) (fun k => ?_) (Ev.now _)
      simp only [laws_FnScan.l1]
      rw [if_neg (by omega)]
    | succ d ih =>
      intro i hi
      have hlt : i < bs.length := by omega
      obtain ⟨b, hbi⟩ : ∃ b, bs[i] = b := ⟨_, rfl⟩
      have hR := hr b (by rw [← hbi]; exact List.getElem_mem hlt)
      obtain ⟨a, g1, g2, g3⟩ := entsB_get bs pre i b hr (by rw [List.getElem?_eq_getElem hlt, hbi])
      have e1 : rd_T64 bs (i : Int) = b := (rdB_nat bs i hlt).trans hbi
      have e2 : rd_T61 (entsB pre.size bs) (i : Int) = ⟨keyB b.f0 b.f1, b.f0, (a : Int), (b.f1.size : Int)⟩ := by
        rw [List.getElem?_eq_getElem (by omega)] at g1
        exact (rdEn_nat _ i (by omega)).trans (Option.some.inj g1)
      refine Ev.step (f := fun k => (impl_BlobKey.f k b.f0 b.f1).bind fun t416 => (if (keyB b.f0 b.f1).toList = t416.toList then (if (b.f1.size : Int) = (b.f1.size : Int) then ((impl_PackGet.f k (pre ++ catB bs) (keyB b.f0 b.f1) b.f0 (a : Int) (b.f1.size : Int)).bind fun bt420 => (if ((!(bt420.1 == b.f0) || (!(bt420.2.1.toList == (b.f1.toList)))) || (!(bt420.2.2 == 0))) = true then (some false) else (laws_FnScan.l1 k bs (pre ++ catB bs) (entsB pre.size bs) ((i + 1 : Nat) : Int)))) else (some false)) else (some false))) (fun k => ?_) (Ev.bind (blobKeyI b hR) (ev_if_pos rfl (ev_if_pos rfl (Ev.bind (packGet_i _ hx b hR a g2 g3) (ev_if_neg (by simp) (ih (i + 1) (by omega)))))))
      simp only [laws_FnScan.l1, e1, e2]
      rw [if_pos (by omega), if_pos (by omega), if_pos (by omega), show wrap64 ((i : Int) + 1) = ((i + 1 : Nat) : Int) by rw [w64 (by omega) (by omega)]; omega]
  exact main bs.length 0 (by omega)
theorem law_end (bs : List IB) (t : ByteArray) (hb : bs.length ≤ 100) (ht : Ev (fun k => spec_PackBytes.f k bs) t) (hq : PackQ bs t) (acc : List Int) (ha : acc.length ≤ 40) (hn : ∀ c ∈ acc, (0 ≤ c ∧ c < 256) ∧ c ≠ 66) (ys : List Int) (i : Nat) : Ev (fun k => laws_FnScan.j2 k ys bs t acc (i : Int) false) true := by
  have hs := strOfNums_size acc
  have ht2 : t.size ≤ 12000 := by
    rcases hq with rfl | ⟨_, _, h, _⟩
    · exact Nat.zero_le _
    · exact h
  have hx : (strOfNums acc ++ t).size ≤ 20000 := by rw [ByteArray.size_append]; omega
  have hno : ∀ j, 0 ≤ j → j < 0 + acc.length → bt (strOfNums acc ++ t) (j : Int) ≠ 66 := by
    intro j _ hj e
    rw [bt_bl _ j (by rw [ByteArray.size_append]; omega)] at e
    have hg : (bl (strOfNums acc ++ t))[j]'(by rw [bl_length, ByteArray.size_append]; omega) = (acc[j]'(by omega)).toNat := by
      have e1 : bl (strOfNums acc ++ t) = acc.map Int.toNat ++ bl t := by rw [bl_append, bl_strOfNums acc (fun c hc => (hn c hc).1)]
      have : (bl (strOfNums acc ++ t))[j]? = some (acc[j]'(by omega)).toNat := by
        rw [e1, List.getElem?_append_left (by simp; omega), List.getElem?_map, List.getElem?_eq_getElem (by omega)]
        rfl
      rw [List.getElem?_eq_getElem (by rw [bl_length, ByteArray.size_append]; omega)] at this
      exact Option.some.inj this
    rw [hg] at e
    have h1 := hn (acc[j]'(by omega)) (List.getElem_mem _)
    omega
  have hsk := scan_skip (strOfNums acc ++ t) acc.length t.size 0 (by rw [ByteArray.size_append]; omega) hno
  rw [Nat.zero_add] at hsk
  have hsc := scanI _ hx
  rw [show (strOfNums acc ++ t).size = t.size + acc.length by rw [ByteArray.size_append]; omega, hsk] at hsc
  refine Ev.step (f := fun k => (impl_PackScan.f k ((strOfNums acc) ++ t)).bind fun t410 => ((spec_PackBytes.f k bs).bind fun t413 => (if t413.toList = ([] : List UInt8) then (some ((t410.length : Int) == 0)) else (if (t410.length : Int) = (bs.length : Int) then (laws_FnScan.l1 k bs ((strOfNums acc) ++ t) t410 0) else (some false))))) (fun k => ?_) (Ev.bind hsc (Ev.bind ht ?_))
  · simp only [laws_FnScan.j2]
    rw [if_neg (by simp), if_pos (by rw [hs]; omega)]
  rcases hq with rfl | ⟨h1, rfl, h3, h4⟩
  · refine ev_if_pos (by rw [ByteArray.toList_eq]) (ev_eq ?_)
    rfl
  · rw [← hs] at *
    have hcl : ∀ (l : List IB), (∀ b ∈ l, rightB b) → l.length ≤ (catB l).size := by
      intro l
      induction l with
      | nil => intro _; exact Nat.zero_le _
      | cons b l ih =>
        intro h
        have z := recB_size b (h b (by simp))
        have := ih (fun c hc => h c (by simp [hc]))
        show l.length + 1 ≤ (recB b ++ catB l).size
        rw [ByteArray.size_append]
        omega
    rw [scan_cat bs (strOfNums acc) _ h1 (hcl bs h1)]
    refine ev_if_neg (fun e => ?_) (ev_if_pos (by rw [entsB_length]) (law_l1 bs (strOfNums acc) hb h1 hx))
    have h5 := hcl bs h1
    have h6 : (catB bs).size = 0 := by
      have := congrArg List.length e
      rw [ByteArray.toList_eq] at this
      simpa using this
    exact h4 (List.length_eq_zero_iff.1 (by omega))
theorem law_l0 (bs : List IB) (t : ByteArray) (hb : bs.length ≤ 100) (ht : Ev (fun k => spec_PackBytes.f k bs) t) (hq : PackQ bs t) (ys : List Int) (hy : ys.length ≤ 1048576) (hw : ∀ c ∈ ys, 0 ≤ c ∧ c < 256) : ∀ (d i : Nat) (acc : List Int), i + d = 40 → acc.length ≤ i → (∀ c ∈ acc, (0 ≤ c ∧ c < 256) ∧ c ≠ 66) → Ev (fun k => laws_FnScan.l0 k ys bs t acc (i : Int)) true := by
  intro d
  induction d with
  | zero =>
    intro i acc hi ha hn
    refine Ev.step (f := fun k => laws_FnScan.j2 k ys bs t acc (i : Int) false) (fun k => ?_) (law_end bs t hb ht hq acc (by omega) hn ys i)
    simp only [laws_FnScan.l0]
    rw [decide_eq_false (by omega)]
    split <;> rfl
  | succ d ih =>
    intro i acc hi ha hn
    by_cases hlt : i < ys.length
    rotate_left
    · refine Ev.step (f := fun k => laws_FnScan.j2 k ys bs t acc (i : Int) false) (fun k => ?_) (law_end bs t hb ht hq acc (by omega) hn ys i)
      simp only [laws_FnScan.l0]
      rw [if_neg (by omega)]
    have e : rd ys (i : Int) = ys[i] := getD_nat ys i 0 hlt
    have hwi := hw ys[i] (List.getElem_mem hlt)
    have ew : wrap64 ((i : Int) + 1) = ((i + 1 : Nat) : Int) := by rw [w64 (by omega) (by omega)]; omega
    refine Ev.step (f := fun k => laws_FnScan.j2 k ys bs t acc (i : Int) true) (fun k => by simp only [laws_FnScan.l0]; rw [if_pos (by omega), decide_eq_true (by omega)]) ?_
    by_cases h66 : ys[i] = 66
    · refine Ev.step (fun k => ?_) (ih (i + 1) acc (by omega) (by omega) hn)
      simp only [laws_FnScan.j2, e, ew]
      rw [if_pos trivial, if_pos (by omega), if_pos (by omega), if_pos h66]
    · refine Ev.step (fun k => ?_) (ih (i + 1) (acc ++ [ys[i]]) (by omega) (by simp; omega) (fun c hc => ?_))
      · simp only [laws_FnScan.j2, e, ew]
        rw [if_pos trivial, if_pos (by omega), if_pos (by omega), if_neg h66, if_pos (by omega)]
      · rcases List.mem_append.1 hc with h | h
        · exact hn c h
        · obtain rfl := List.mem_singleton.1 h
          exact ⟨hwi, h66⟩
theorem wf8 {n : Int} (h : (Lit.int .u8 n).wf = true) : 0 ≤ n ∧ n < 256 := by
  have := h
  simp [Lit.wf, IntKind.signed, IntKind.bits, IntKind.min, IntKind.max] at this
  omega
theorem FnScan : laws_FnScan.Pure := by
  intro l0 l1 _ _ _ _ _ hw
  refine Ev.rounds (g := fun k => laws_FnScan.f k l0 l1) (Evs.ev ?_)
  have out : Evs (fun k => laws_FnScan.j0 k l0 l1 true) (fun x => x = true) := ⟨true, Ev.step (f := fun _ => some true) (fun k => by simp only [laws_FnScan.j0]; rw [if_pos trivial]) (Ev.now _), rfl⟩
  unfold laws_FnScan.f
  refine Evs.ite (fun _ => out) (fun hl0 => ?_)
  by_cases hl1 : (l1.length : Int) > 1048576
  · rw [decide_eq_true hl1]; exact out
  rw [decide_eq_false hl1]
  obtain ⟨bs, hD, hb⟩ := draw_pack l0 (by omega)
  obtain ⟨t, ht, hq⟩ := packBytes_s bs (by omega)
  refine ⟨true, Ev.step (f := fun k => (spec_DrawPackBytes.f k l0).bind fun t398 => ((spec_PackBytes.f k t398).bind fun t401 => (laws_FnScan.l0 k l1 t398 t401 (([] : List Int)) 0))) (fun k => by simp only [laws_FnScan.j0]; rw [if_neg (by simp)]) (Ev.bind hD (Ev.bind ht (law_l0 bs t hb ht hq l1 (by omega) (fun c hc => wf8 (hw c hc)) 40 0 [] (by omega) (by simp) (by simp)))), rfl⟩
end Go.Proofs.YtddapeieolfolaaDoor.Pure
