/- The plain law of FnNodes: both sides write the same bytes of a list of nodes, what was written is read back, and what is read of bytes is written as these bytes. -/
import Derived.Test.YtfffdndeccipnaaPFnNodesx27
import Derived.Test.YtfffdndeccipnaaVLibFnNodes
namespace Go.Proofs.Ytfffdndeccipnaa.Pure
open Go.RowKit Go.Proofs.Ytfffdndeccipnaa.PFnNodes Go.Proofs.Ytfffdndeccipnaa.Lib Go.Proofs.YtfffdndeccipnaaW.PrintWords Go.Proofs.YtfffdndeccipnaaW.PrintLast Go.Proofs.YtfffdndeccipnaaW.PrintMore
set_option linter.unusedVariables false
set_option linter.unusedSimpArgs false
theorem within_eq (a b c : Int) : yg_.f a b c = some (decide (b ≤ a) && decide (a ≤ c)) := by
 unfold yg_.f
 by_cases h : a ≥ b <;> simp [h]
/-- a loop whose rounds each go on or end. -/
theorem loop_evx {σ ρ : Type} (F : Nat → σ → Int → Option ρ) (n : Nat) (inv : Nat → σ → Prop) (Q : ρ → Prop)
 (hstep : ∀ (i : Nat) (s : σ), i < n → inv i s → (∃ s', inv (i + 1) s' ∧ ∀ v, Ev (fun k => F k s' ((i + 1 : Nat) : Int)) v → Ev (fun k => F k s (i : Int)) v) ∨ Evs (fun k => F k s (i : Int)) Q)
 (hend : ∀ (s : σ), inv n s → Evs (fun k => F k s (n : Int)) Q) : ∀ (s : σ), inv 0 s → Evs (fun k => F k s 0) Q := by
 have main : ∀ (d i : Nat) (s : σ), i + d = n → inv i s → Evs (fun k => F k s (i : Int)) Q := by
  intro d
  induction d with
  | zero =>
   intro i s hi hv
   obtain rfl : i = n := by omega
   exact hend s hv
  | succ d ih =>
   intro i s hi hv
   rcases hstep i s (by omega) hv with ⟨s', hs', hv'⟩ | h
   ·
    obtain ⟨v, h1, h2⟩ := ih (i + 1) s' (by omega) hs'
    exact ⟨v, hv' v h1, h2⟩
   · exact h
 intro s hs
 exact main n 0 s (by omega) hs
theorem wnat' (i n : Nat) (hi : i < n) (hn : n ≤ 9223372036854775807) : wrap64 ((i : Int) + 1) = ((i + 1 : Nat) : Int) := by rw [w64 (by omega) (by omega)]; omega
/-- what is read of bytes: a code, the number's fold, and how many bytes. -/
def gN : Nat → Nat → List Nat → Int × Nat × Nat
 | _, _, [] => (4, 0, 0)
 | i, u, c :: cs => if i = 9 ∧ 1 < c then (3, 0, 0) else if c < 128 then (if c = 0 ∧ 0 < i then (3, 0, 0) else (0, u + c * 128 ^ i, i + 1)) else gN (i + 1) (u + (c - 128) * 128 ^ i) cs
theorem gN_ok : ∀ (l : List Nat) (i u : Nat), i ≤ 9 → u < 128 ^ i → (∀ c ∈ l, c < 256) → (gN i u l).1 = 0 → i < (gN i u l).2.2 ∧ (gN i u l).2.2 ≤ i + l.length ∧ (gN i u l).2.1 < 18446744073709551616 := by
 intro l
 induction l with
 | nil => intro i u _ _ _ h; simp [gN] at h
 | cons c cs ih =>
  intro i u hi hu hl h
  have hc := hl c (by simp)
  unfold gN at h ⊢
  by_cases h1 : i = 9 ∧ 1 < c
  · rw [if_pos h1] at h; simp at h
  rw [if_neg h1] at h ⊢
  have hp : 128 ^ i ≤ 128 ^ 9 := Nat.pow_le_pow_right (by decide) hi
  by_cases h2 : c < 128
  ·
   rw [if_pos h2] at h ⊢
   by_cases h3 : c = 0 ∧ 0 < i
   · rw [if_pos h3] at h; simp at h
   rw [if_neg h3]
   refine ⟨by simp, by simp, ?_⟩
   show u + c * 128 ^ i < _
   by_cases h9 : i = 9
   ·
    subst h9
    have : c ≤ 1 := by omega
    have : c * 128 ^ 9 ≤ 1 * 128 ^ 9 := Nat.mul_le_mul_right _ this
    omega
   ·
    have hp8 : 128 ^ i ≤ 128 ^ 8 := Nat.pow_le_pow_right (by decide) (by omega)
    have : c * 128 ^ i ≤ 127 * 128 ^ 8 := Nat.mul_le_mul (by omega) hp8
    omega
  ·
   rw [if_neg h2] at h ⊢
   have hi9 : i < 9 := by
    by_cases e : i = 9
    · exact absurd ⟨e, by omega⟩ h1
    · omega
   have hu' : u + (c - 128) * 128 ^ i < 128 ^ (i + 1) := by
    have : (c - 128) * 128 ^ i ≤ 127 * 128 ^ i := Nat.mul_le_mul_right _ (by omega)
    rw [Nat.pow_succ]
    omega
   obtain ⟨q1, q2, q3⟩ := ih (i + 1) _ (by omega) hu' (fun x hx => hl x (by simp [hx])) h
   exact ⟨by omega, by simp only [List.length_cons]; omega, q3⟩
/-- a number that was put is got back. -/
theorem gN_put (m : Nat) : ∀ (v i u : Nat) (rest : List Nat), i + m = 9 → v < 128 ^ (m + 1) → v * 128 ^ i < 18446744073709551616 → (0 < i → 0 < v) → gN i u ((numL v).map Int.toNat ++ rest) = (0, u + v * 128 ^ i, i + (numL v).length) := by
 induction m with
 | zero =>
  intro v i u rest hi hv hw h0
  obtain rfl : i = 9 := by omega
  have hv1 : v ≤ 1 := by omega
  rw [numL_lt (by omega)]
  simp only [List.map_cons, List.map_nil, List.cons_append, List.nil_append, Int.toNat_natCast, gN, List.length_cons, List.length_nil]
  rw [if_neg (by omega), if_pos (by omega), if_neg (by have := h0 (by omega); omega)]
 | succ m ih =>
  intro v i u rest hi hv hw h0
  by_cases h : v < 128
  ·
   rw [numL_lt h]
   simp only [List.map_cons, List.map_nil, List.cons_append, List.nil_append, Int.toNat_natCast, gN, List.length_cons, List.length_nil]
   rw [if_neg (by omega), if_pos (by omega), if_neg (by intro q; have := h0 q.2; omega)]
  ·
   rw [numL_ge h]
   simp only [List.map_cons, List.cons_append, Int.toNat_natCast, gN, List.length_cons]
   rw [if_neg (by omega), if_neg (by omega)]
   have e : v / 128 * 128 ^ (i + 1) + v % 128 * 128 ^ i = v * 128 ^ i := by
    rw [Nat.pow_succ, Nat.mul_comm (128 ^ i) 128, ← Nat.mul_assoc, ← Nat.add_mul]
    congr 1
    omega
   rw [ih (v / 128) (i + 1) _ rest (by omega) (by rw [Nat.div_lt_iff_lt_mul (by decide), ← Nat.pow_succ]; exact hv) (by omega) (by intro _; omega)]
   congr 2
   ·
    have : v % 128 + 128 - 128 = v % 128 := by omega
    rw [this]
    omega
   · omega
/-- the number of a fold. -/
def unfold' (u : Nat) : Int := if u % 2 = 1 then -((u / 2 : Nat) : Int) - 1 else ((u / 2 : Nat) : Int)
/-- a text as numbers. -/
def bl (t : ByteArray) : List Nat := t.data.toList.map UInt8.toNat
theorem xa_ (t : ByteArray) : (bl t).length = t.size := by unfold bl; rw [List.length_map]; exact data_length t
theorem xg_ (a b : ByteArray) : bl (a ++ b) = bl a ++ bl b := by simp [bl, ByteArray.data_append]
theorem bl_lt (t : ByteArray) : ∀ c ∈ bl t, c < 256 := by
 intro c hc
 obtain ⟨x, _, rfl⟩ := List.mem_map.1 hc
 exact x.toNat_lt
theorem bl_extract (t : ByteArray) (i j : Nat) : bl (t.extract i j) = ((bl t).take j).drop i := by
 simp only [bl, ByteArray.data_extract, Array.toList_extract, List.extract_eq_take_drop, List.map_take, List.map_drop]
 rw [List.drop_take]
theorem bl_inj {a b : ByteArray} (h : bl a = bl b) : a = b := by
 have h2 : a.data.toList = b.data.toList := by
  unfold bl at h
  exact (List.map_inj_right (fun x y q => UInt8.toNat_inj.1 q)).1 h
 cases a; cases b
 simp only at h2
 congr 1
 exact Array.toList_inj.1 h2
theorem bt_bl (t : ByteArray) (i : Nat) (h : i < t.size) : bt t (i : Int) = (((bl t)[i]'(by rw [xa_]; exact h) : Nat) : Int) := by
 unfold bt
 simp only [Int.toNat_natCast]
 rw [dif_pos h]
 simp [bl]
 rfl
theorem bl_strOfNums (l : List Int) (h : ∀ x ∈ l, 0 ≤ x ∧ x < 256) : bl (strOfNums l) = l.map Int.toNat := by
 unfold bl strOfNums
 simp only [List.map_map]
 refine List.map_congr_left (fun x hx => ?_)
 have := h x hx
 simp only [Function.comp]
 rw [UInt8.toNat_ofNat']
 omega
theorem numL_range (m : Nat) : ∀ u, u < 128 ^ (m + 1) → ∀ x ∈ numL u, 0 ≤ x ∧ x < 256 := by
 induction m with
 | zero =>
  intro u hu x hx
  rw [numL_lt (by simpa using hu)] at hx
  simp at hx; subst hx
  simp at hu
  omega
 | succ m ih =>
  intro u hu x hx
  by_cases h : u < 128
  ·
   rw [numL_lt h] at hx
   simp at hx; omega
  ·
   rw [numL_ge h, List.mem_cons] at hx
   rcases hx with rfl | hx
   · omega
   · exact ih (u / 128) (by rw [Nat.div_lt_iff_lt_mul (by decide), ← Nat.pow_succ]; exact hu) x hx
theorem bl_putNum (n : Int) (h0 : -9223372036854775808 ≤ n) (h1 : n ≤ 9223372036854775807) : bl (yb_ n) = (numL (fold n)).map Int.toNat :=
 bl_strOfNums _ (numL_range 9 _ (Nat.lt_of_lt_of_le (fold_lt n h0 h1) (by decide)))
theorem empty_list : ((⟨#[]⟩ : ByteArray).toList == ([] : List UInt8)) = true := by
 rw [ByteArray.toList_eq]; rfl
theorem not_empty (p : ByteArray) (h : 0 < p.size) : (p.toList == ([] : List UInt8)) = false := by
 refine beq_eq_false_iff_ne.2 (fun q => ?_)
 rw [ByteArray.toList_eq] at q
 have := congrArg List.length q
 rw [data_length] at this
 simp only [List.length_nil] at this
 omega
theorem i64_xor_zero (x : Int) (h0 : -9223372036854775808 ≤ x) (h1 : x ≤ 9223372036854775807) : Go.bits .xor .i64 x 0 = x := by
 show IntKind.i64.wrap (((BitVec.ofInt 64 x) ^^^ (BitVec.ofInt 64 0)).toNat : Int) = x
 rw [show BitVec.ofInt 64 0 = 0#64 by decide, BitVec.xor_zero, BitVec.toNat_ofInt, i64_w]
 unfold wrap64
 omega
theorem i64_xor_ones (x : Int) (h0 : -9223372036854775808 ≤ x) (h1 : x ≤ 9223372036854775807) : Go.bits .xor .i64 x (-1) = -x - 1 := by
 show IntKind.i64.wrap (((BitVec.ofInt 64 x) ^^^ (BitVec.ofInt 64 (-1))).toNat : Int) = -x - 1
 rw [show BitVec.ofInt 64 (-1) = BitVec.allOnes 64 by decide, BitVec.xor_allOnes, BitVec.toNat_not, BitVec.toNat_ofInt, i64_w]
 unfold wrap64
 omega
theorem unfold_eq (u : Nat) (h : u < 18446744073709551616) : Go.bits .xor .i64 (wrap64 ((u : Int) / 2)) (wrap64 (-(wrap64 (Go.bits .and .u64 (u : Int) 1)))) = unfold' u := by
 have e : Go.bits .and .u64 (u : Int) 1 = ((u % 2 : Nat) : Int) := by
  refine (u64_and_nat u 1 h (by decide)).trans ?_
  rw [Nat.and_one_is_mod]
 rw [e, w64 (n := (u : Int) / 2) (by omega) (by omega), w64 (n := ((u % 2 : Nat) : Int)) (by omega) (by omega)]
 unfold unfold'
 by_cases q : u % 2 = 1
 ·
  rw [if_pos q, q]
  rw [show wrap64 (-((1 : Nat) : Int)) = -1 by unfold wrap64; omega, i64_xor_ones _ (by omega) (by omega)]
  omega
 ·
  rw [if_neg q, show u % 2 = 0 by omega]
  rw [show wrap64 (-((0 : Nat) : Int)) = 0 by unfold wrap64; omega, i64_xor_zero _ (by omega) (by omega)]
  omega
theorem or_shl (u c i : Nat) (hu : u < 128 ^ i) (h : i ≤ 8 ∧ c < 256 ∨ i = 9 ∧ c ≤ 1) : Go.bits .or .u64 (u : Int) (shl .u64 (IntKind.u64.wrap (Go.bits .and .u8 (c : Int) 127)) (wrap64 (7 * (i : Int)))) = ((u + c % 128 * 128 ^ i : Nat) : Int) := by
 have e1 : Go.bits .and .u8 (c : Int) 127 = ((c % 128 : Nat) : Int) := by
  refine (u8_and_nat c 127 (by omega) (by decide)).trans ?_
  rw [nat_mask7]
 have e2 : (2 : Nat) ^ (7 * i) = 128 ^ i := by rw [Nat.pow_mul]
 have hb : c % 128 * 128 ^ i < 18446744073709551616 := by
  rcases h with ⟨h, hc⟩ | ⟨rfl, hc⟩
  ·
   have : 128 ^ i ≤ 128 ^ 8 := Nat.pow_le_pow_right (by decide) h
   have : c % 128 * 128 ^ i ≤ 127 * 128 ^ 8 := Nat.mul_le_mul (by omega) this
   omega
  ·
   have : c % 128 * 128 ^ 9 ≤ 1 * 128 ^ 9 := Nat.mul_le_mul_right _ (by omega)
   omega
 have hub : u < 18446744073709551616 := by
  have : 128 ^ i ≤ 128 ^ 9 := Nat.pow_le_pow_right (by decide) (by omega)
  omega
 have e3 : shl .u64 (IntKind.u64.wrap (Go.bits .and .u8 (c : Int) 127)) (wrap64 (7 * (i : Int))) = ((c % 128 * 128 ^ i : Nat) : Int) := by
  rw [e1, w64 (by omega) (by omega)]
  unfold shl
  rw [show (7 * (i : Int)).toNat = 7 * i by omega, show IntKind.u64.bits = 64 from rfl, Nat.min_eq_left (by omega)]
  simp only [IntKind.wrap_u64]
  rw [show (2 : Int) ^ (7 * i) = ((128 ^ i : Nat) : Int) by rw [← e2]; simp]
  have : (((c % 128 : Nat) : Int) % 18446744073709551616) = ((c % 128 : Nat) : Int) := by omega
  rw [this, ← Int.natCast_mul]
  omega
 rw [e3, u64_or_nat _ _ hub hb, Nat.or_comm, nat_join (7 * i) _ _ (by rw [e2]; exact Nat.mul_mod_left _ _) (by rw [e2]; exact hu)]
 omega
/-- what is got of bytes: a number, the place behind it, a code. -/
def gout (p : Nat) (g : Int × Nat × Nat) : Int × Int × Int := if g.1 = 0 then (unfold' g.2.1, ((p + g.2.2 : Nat) : Int), 0) else (0, 0, g.1)
theorem getNum_i_l0 (x : ByteArray) (p : Nat) (hx : x.size ≤ 4611686018427387904) (hp : p ≤ 4611686018427387904) : ∀ (m i u : Nat), i + m = 9 → u < 128 ^ i → Ev (fun k => zr_.l0 k x (p : Int) (u : Int) (i : Int)) (gout p (gN i u ((bl x).drop (p + i)))) := by
 intro m
 induction m with
 | zero =>
  intro i u hi hu
  obtain rfl : i = 9 := by omega
  by_cases h : p + 9 < x.size
  ·
   have hc : p + 9 < (bl x).length := by rw [xa_]; exact h
   have hb := bl_lt x (bl x)[p + 9] (List.getElem_mem hc)
   have hbt := bt_bl x (p + 9) h
   rw [List.drop_eq_getElem_cons hc]
   generalize (bl x)[p + 9] = c at hb hbt ⊢
   have e1 : wrap64 ((p : Int) + (9 : Nat)) = ((p + 9 : Nat) : Int) := by rw [w64 (by omega) (by omega)]; omega
   refine Ev.step (f := fun k => zr_.j1 k x (p : Int) (Go.bits .or .u64 (u : Int) (shl .u64 (IntKind.u64.wrap (Go.bits .and .u8 (c : Int) 127)) (wrap64 (7 * ((9 : Nat) : Int))))) ((9 : Nat) : Int) (c : Int) (decide ((c : Int) > 1))) (fun k => ?_) ?_
   ·
    simp only [zr_.l0, yj_.f, Option.bind_some, e1, hbt]
    rw [if_neg (by unfold wrap64; omega), if_pos (by omega), if_pos (by omega), if_pos (by rw [w64 (by omega) (by omega)]; omega), if_pos (by omega)]
   ·
    by_cases h1 : 1 < c
    ·
     rw [decide_eq_true (show (c : Int) > 1 by omega)]
     refine Ev.step (f := fun k => zr_.j2 k x (p : Int) (Go.bits .or .u64 (u : Int) (shl .u64 (IntKind.u64.wrap (Go.bits .and .u8 (c : Int) 127)) (wrap64 (7 * ((9 : Nat) : Int))))) ((9 : Nat) : Int) (c : Int) true) (fun k => by simp only [zr_.j1]; rw [if_pos trivial]) ?_
     refine Ev.step (f := fun _ => some (0, 0, 3)) (fun k => by simp only [zr_.j2]; rw [if_pos trivial]) (ev_eq ?_)
     unfold gN
     rw [if_pos ⟨rfl, h1⟩]
     rfl
    ·
     rw [decide_eq_false (show ¬ (c : Int) > 1 by omega), or_shl u c 9 hu (.inr ⟨rfl, by omega⟩), Nat.mod_eq_of_lt (show c < 128 by omega)]
     refine Ev.step (f := fun k => zr_.j2 k x (p : Int) ((u + c * 128 ^ 9 : Nat) : Int) ((9 : Nat) : Int) (c : Int) (decide (c = 0))) (fun k => ?_) ?_
     ·
      simp only [zr_.j1]
      rw [if_neg (by simp)]
      by_cases h0 : c = 0
      · rw [if_pos (by omega), decide_eq_true h0]; rfl
      · rw [if_neg (by omega), decide_eq_false h0]
     ·
      unfold gN
      rw [if_neg (by omega), if_pos (by omega)]
      by_cases h0 : c = 0
      ·
       rw [decide_eq_true h0, if_pos ⟨h0, by decide⟩]
       exact Ev.step (f := fun _ => some (0, 0, 3)) (fun k => by simp only [zr_.j2]; rw [if_pos trivial]) (ev_eq rfl)
      ·
       rw [decide_eq_false h0, if_neg (fun q => h0 q.1)]
       refine Ev.step (f := fun _ => some (Go.bits .xor .i64 (wrap64 (((u + c * 128 ^ 9 : Nat) : Int) / 2)) (wrap64 (-(wrap64 (Go.bits .and .u64 ((u + c * 128 ^ 9 : Nat) : Int) 1)))), wrap64 ((wrap64 ((p : Int) + ((9 : Nat) : Int))) + 1), 0)) (fun k => ?_) (ev_eq ?_)
       ·
        simp only [zr_.j2]
        rw [if_neg (by simp), if_pos (by omega)]
       ·
        have : c * 128 ^ 9 ≤ 1 * 128 ^ 9 := Nat.mul_le_mul_right _ (by omega)
        rw [unfold_eq _ (by omega), e1, w64 (by omega) (by omega)]
        unfold gout
        rw [if_pos rfl]
        simp only [Prod.mk.injEq, true_and]
        exact ⟨by omega, trivial⟩
  ·
   rw [List.drop_eq_nil_of_le (by rw [xa_]; omega)]
   refine Ev.step (f := fun _ => some (0, 0, 4)) (fun k => ?_) (ev_eq rfl)
   simp only [zr_.l0, yj_.f, Option.bind_some]
   rw [if_pos (by unfold wrap64; omega)]
 | succ m ih =>
  intro i u hi hu
  by_cases h : p + i < x.size
  ·
   have hc : p + i < (bl x).length := by rw [xa_]; exact h
   have hb := bl_lt x (bl x)[p + i] (List.getElem_mem hc)
   have hbt := bt_bl x (p + i) h
   rw [List.drop_eq_getElem_cons hc]
   generalize (bl x)[p + i] = c at hb hbt ⊢
   have e1 : wrap64 ((p : Int) + (i : Int)) = ((p + i : Nat) : Int) := by rw [w64 (by omega) (by omega)]; omega
   refine Ev.step (f := fun k => zr_.j1 k x (p : Int) ((u + c % 128 * 128 ^ i : Nat) : Int) (i : Int) (c : Int) false) (fun k => ?_) ?_
   ·
    simp only [zr_.l0, yj_.f, Option.bind_some, e1, hbt, or_shl u c i hu (.inl ⟨by omega, hb⟩)]
    rw [if_neg (by unfold wrap64; omega), if_pos (by omega), if_pos (by omega), if_pos (by rw [w64 (by omega) (by omega)]; omega), if_neg (by omega)]
   ·
    unfold gN
    rw [if_neg (by omega)]
    by_cases h128 : c < 128
    ·
     rw [Nat.mod_eq_of_lt h128, if_pos h128]
     refine Ev.step (f := fun k => zr_.j2 k x (p : Int) ((u + c * 128 ^ i : Nat) : Int) (i : Int) (c : Int) (decide (c = 0 ∧ 0 < i))) (fun k => ?_) ?_
     ·
      simp only [zr_.j1]
      rw [if_neg (by simp)]
      by_cases h0 : c = 0
      ·
       rw [if_pos (by omega)]
       congr 1
       by_cases hi0 : 0 < i
       · rw [decide_eq_true (show (i : Int) > 0 by omega), decide_eq_true ⟨h0, hi0⟩]
       · rw [decide_eq_false (show ¬ (i : Int) > 0 by omega), decide_eq_false (fun q => hi0 q.2)]
      · rw [if_neg (by omega), decide_eq_false (fun q => h0 q.1)]
     ·
      by_cases h0 : c = 0 ∧ 0 < i
      ·
       rw [decide_eq_true h0, if_pos h0]
       exact Ev.step (f := fun _ => some (0, 0, 3)) (fun k => by simp only [zr_.j2]; rw [if_pos trivial]) (ev_eq rfl)
      ·
       rw [decide_eq_false h0, if_neg h0]
       refine Ev.step (f := fun _ => some (Go.bits .xor .i64 (wrap64 (((u + c * 128 ^ i : Nat) : Int) / 2)) (wrap64 (-(wrap64 (Go.bits .and .u64 ((u + c * 128 ^ i : Nat) : Int) 1)))), wrap64 ((wrap64 ((p : Int) + (i : Int))) + 1), 0)) (fun k => ?_) (ev_eq ?_)
       ·
        simp only [zr_.j2]
        rw [if_neg (by simp), if_pos (by omega)]
       ·
        have h8 : 128 ^ i ≤ 128 ^ 8 := Nat.pow_le_pow_right (by decide) (by omega)
        have : c * 128 ^ i ≤ 127 * 128 ^ 8 := Nat.mul_le_mul (by omega) h8
        rw [unfold_eq _ (by omega), e1, w64 (by omega) (by omega)]
        unfold gout
        rw [if_pos rfl]
        simp only [Prod.mk.injEq, true_and]
        exact ⟨by omega, trivial⟩
    ·
     rw [if_neg h128, show c % 128 = c - 128 by omega]
     have hu' : u + (c - 128) * 128 ^ i < 128 ^ (i + 1) := by
      have : (c - 128) * 128 ^ i ≤ 127 * 128 ^ i := Nat.mul_le_mul_right _ (by omega)
      rw [Nat.pow_succ]
      omega
     have hr := ih (i + 1) (u + (c - 128) * 128 ^ i) (by omega) hu'
     refine Ev.step (f := fun k => zr_.j2 k x (p : Int) ((u + (c - 128) * 128 ^ i : Nat) : Int) (i : Int) (c : Int) false) (fun k => ?_) ?_
     ·
      simp only [zr_.j1]
      rw [if_neg (by simp), if_neg (by omega)]
     ·
      refine Ev.step (fun k => ?_) hr
      simp only [zr_.j2]
      rw [if_neg (by simp), if_neg (by omega), wnat' i 10 (by omega) (by decide)]
  ·
   rw [List.drop_eq_nil_of_le (by rw [xa_]; omega)]
   refine Ev.step (f := fun _ => some (0, 0, 4)) (fun k => ?_) (ev_eq rfl)
   simp only [zr_.l0, yj_.f, Option.bind_some]
   rw [if_pos (by unfold wrap64; omega)]
theorem getNum_i (x : ByteArray) (p : Nat) (hx : x.size ≤ 4611686018427387904) (hp : p ≤ 4611686018427387904) : Ev (fun k => zr_.f k x (p : Int)) (gout p (gN 0 0 ((bl x).drop p))) :=
 zO_ (by omega) (getNum_i_l0 x p hx hp 9 0 0 rfl (by decide))
theorem unfold_range (u : Nat) (h : u < 18446744073709551616) : -9223372036854775808 ≤ unfold' u ∧ unfold' u ≤ 9223372036854775807 := by
 unfold unfold'
 split <;> omega
/-- what is got of bytes as a number is right, if its code is. -/
theorem gout_ok (x : ByteArray) (p : Nat) (hp : p ≤ x.size) (h : (gout p (gN 0 0 ((bl x).drop p))).2.2 = 0) : ∃ (n : Int) (q : Nat), gout p (gN 0 0 ((bl x).drop p)) = (n, (q : Int), 0) ∧ p < q ∧ q ≤ x.size ∧ -9223372036854775808 ≤ n ∧ n ≤ 9223372036854775807 := by
 unfold gout at h ⊢
 by_cases c : (gN 0 0 ((bl x).drop p)).1 = 0
 ·
  obtain ⟨q1, q2, q3⟩ := gN_ok ((bl x).drop p) 0 0 (by decide) (by decide) (fun c hc => bl_lt x c (List.mem_of_mem_drop hc)) c
  rw [if_pos c]
  have := unfold_range _ q3
  rw [List.length_drop, xa_] at q2
  exact ⟨_, _, rfl, by omega, by omega, this.1, this.2⟩
 ·
  rw [if_neg c] at h
  exact absurd h c
def tout (x : ByteArray) (r : Int × Int × Int) : ByteArray × Int × Int := if r.2.2 = 0 then (if 0 ≤ r.1 ∧ r.1 ≤ 20000 then (if r.2.1 + r.1 > (x.size : Int) then ((⟨#[]⟩ : ByteArray), 0, 4) else (x.extract r.2.1.toNat (r.2.1 + r.1).toNat, r.2.1 + r.1, 0)) else ((⟨#[]⟩ : ByteArray), 0, 3)) else ((⟨#[]⟩ : ByteArray), 0, r.2.2)
theorem getText_i (x : ByteArray) (p : Nat) (hx : x.size ≤ 4611686018427387904) (hp : p ≤ x.size) : Ev (fun k => zX_.f k x (p : Int)) (tout x (gout p (gN 0 0 ((bl x).drop p)))) := by
 have hg := getNum_i x p hx (by omega)
 have hok := gout_ok x p hp
 generalize gout p (gN 0 0 ((bl x).drop p)) = g at hg hok ⊢
 refine Ev.bind hg ?_
 by_cases c : g.2.2 = 0
 ·
  obtain ⟨n, q, rfl, hq1, hq2, hn1, hn2⟩ := hok c
  refine zD_ c (y1_ (within_eq _ _ _) ?_)
  simp only
  by_cases c2 : 0 ≤ n ∧ n ≤ 20000
  ·
   rw [decide_eq_true c2.1, decide_eq_true c2.2]
   refine zD_ rfl (y1_ rfl ?_)
   have e : wrap64 ((q : Int) + n) = (q : Int) + n := w64 (by omega) (by omega)
   rw [e]
   by_cases c3 : (q : Int) + n > (x.size : Int)
   · exact zD_ c3 (ev_eq (by unfold tout; rw [if_pos rfl, if_pos c2, if_pos c3]))
   · exact zO_ c3 (zD_ (by omega) (zD_ (by omega) (zD_ (by omega) (ev_eq (by unfold tout; rw [if_pos rfl, if_pos c2, if_neg c3])))))
  ·
   refine zO_ ?_ (ev_eq (by unfold tout; rw [if_pos rfl, if_neg c2]))
   intro q
   simp only [Bool.and_eq_true, decide_eq_true_eq] at q
   exact c2 q
 · exact zO_ c (ev_eq (by unfold tout; rw [if_neg c]))
theorem tmod128 (c : Nat) : Int.tmod (c : Int) 128 = ((c % 128 : Nat) : Int) := by rw [Int.tmod_eq_emod_of_nonneg (by omega)]; omega
theorem u7_eq (i : Nat) (h : i ≤ 9) : IntKind.u64.wrap (wrap64 (7 * (i : Int))) = 7 * (i : Int) := by
 rw [w64 (by omega) (by omega)]
 simp only [IntKind.wrap_u64]
 omega
theorem shl_pow (a i : Nat) (hi : i ≤ 9) (h : a * 128 ^ i < 18446744073709551616) : shl .u64 (a : Int) (7 * (i : Int)) = ((a * 128 ^ i : Nat) : Int) := by
 have e2 : (2 : Nat) ^ (7 * i) = 128 ^ i := by rw [Nat.pow_mul]
 unfold shl
 rw [show (7 * (i : Int)).toNat = 7 * i by omega, show IntKind.u64.bits = 64 from rfl, Nat.min_eq_left (by omega)]
 rw [show (2 : Int) ^ (7 * i) = ((128 ^ i : Nat) : Int) by rw [← e2]; simp, ← Int.natCast_mul]
 generalize a * 128 ^ i = b at h ⊢
 simp only [IntKind.wrap_u64]
 omega
theorem add_shl (u c i : Nat) (hu : u < 128 ^ i) (h : i ≤ 8 ∧ c < 256 ∨ i = 9 ∧ c ≤ 1) : IntKind.u64.wrap ((u : Int) + (shl .u64 (Int.tmod (c : Int) 128) (IntKind.u64.wrap (wrap64 (7 * (i : Int)))))) = ((u + c % 128 * 128 ^ i : Nat) : Int) := by
 have hb : c % 128 * 128 ^ i + u < 18446744073709551616 := by
  rcases h with ⟨h, hc⟩ | ⟨rfl, hc⟩
  ·
   have h8 : 128 ^ i ≤ 128 ^ 8 := Nat.pow_le_pow_right (by decide) h
   have : c % 128 * 128 ^ i ≤ 127 * 128 ^ 8 := Nat.mul_le_mul (by omega) h8
   omega
  ·
   have : c % 128 * 128 ^ 9 ≤ 1 * 128 ^ 9 := Nat.mul_le_mul_right _ (by omega)
   omega
 rw [tmod128, u7_eq i (by omega), shl_pow _ i (by omega) (by omega)]
 generalize c % 128 * 128 ^ i = b at hb ⊢
 simp only [IntKind.wrap_u64]
 omega
theorem w_add (a b : Nat) (h : a + b ≤ 1000000) : wrap64 ((a : Int) + (b : Int)) = ((a + b : Nat) : Int) := by rw [w64 (by omega) (by omega)]; omega
theorem w_sub (a b : Nat) (h : a ≤ 1000000) (h2 : b ≤ 1000000) : wrap64 ((a : Int) - (b : Int)) = (a : Int) - (b : Int) := w64 (by omega) (by omega)
theorem u64_id (c : Nat) (h : c < 256) : IntKind.u64.wrap (c : Int) = (c : Int) := by simp only [IntKind.wrap_u64]; omega
theorem u7 (i : Nat) (h : i ≤ 9) : 0 ≤ IntKind.u64.wrap (wrap64 (7 * (i : Int))) := by
 rw [w64 (by omega) (by omega)]
 simp only [IntKind.wrap_u64]
 omega
theorem tmod2 (u : Nat) : Int.tmod (u : Int) 2 = ((u % 2 : Nat) : Int) := by rw [Int.tmod_eq_emod_of_nonneg (by omega)]; omega
theorem tdiv2 (u : Nat) (hu : u < 18446744073709551616) : IntKind.u64.wrap (Int.tdiv (u : Int) 2) = ((u / 2 : Nat) : Int) := by
 rw [Int.tdiv_eq_ediv_of_nonneg (by omega)]
 simp only [IntKind.wrap_u64]
 omega
theorem next_w (p i : Nat) (hp : p ≤ 20000) (hi : i ≤ 9) : wrap64 ((wrap64 ((p : Int) + (i : Int))) + 1) = ((p + (i + 1) : Nat) : Int) := by
 rw [w_add p i (by omega), w64 (by omega) (by omega)]
 omega
theorem neg_w (v : Nat) (hv : v < 9223372036854775808) : wrap64 ((wrap64 (-(wrap64 (v : Int)))) - 1) = -(v : Int) - 1 := by
 rw [w64 (n := (v : Int)) (by omega) (by omega), w64 (n := -(v : Int)) (by omega) (by omega), w64 (by omega) (by omega)]
theorem j2_s (p i u : Nat) (hu : u < 18446744073709551616) (hp : p ≤ 20000) (hi : i ≤ 9) (b : Bool) : Ev (fun k => zq_.j2 k (p : Int) (u : Int) (i : Int) b) (if b = true then (0, 0, 3) else (unfold' u, ((p + (i + 1) : Nat) : Int), 0)) := by
 cases b
 ·
  refine Ev.step (f := fun _ => some (unfold' u, ((p + (i + 1) : Nat) : Int), 0)) (fun k => ?_) (ev_eq (by rw [if_neg (by simp)]))
  simp only [zq_.j2, tmod2, tdiv2 u hu, next_w p i hp hi]
  rw [if_neg (by simp)]
  unfold unfold'
  by_cases q : u % 2 = 1
  · rw [if_pos (by omega), if_pos q, neg_w (u / 2) (by omega)]
  · rw [if_neg (by omega), if_neg q, w64 (by omega) (by omega)]
 · exact Ev.step (f := fun _ => some (0, 0, 3)) (fun k => by simp only [zq_.j2]; rw [if_pos trivial]) (ev_eq (by rw [if_pos rfl]))
theorem j2_bad (p i u : Nat) (hu : u < 18446744073709551616) (hp : p ≤ 20000) (hi : i ≤ 9) : Ev (fun k => zq_.j2 k (p : Int) (u : Int) (i : Int) true) (0, 0, 3) := by
 have := j2_s p i u hu hp hi true
 rwa [if_pos rfl] at this
theorem j2_ok (p i u : Nat) (hu : u < 18446744073709551616) (hp : p ≤ 20000) (hi : i ≤ 9) : Ev (fun k => zq_.j2 k (p : Int) (u : Int) (i : Int) false) (unfold' u, ((p + (i + 1) : Nat) : Int), 0) := by
 have := j2_s p i u hu hp hi false
 rwa [if_neg (by simp)] at this
theorem gout_bad (p : Nat) : gout p (3, 0, 0) = (0, 0, 3) := rfl
theorem gout_short (p : Nat) : gout p (4, 0, 0) = (0, 0, 4) := rfl
theorem gout_good (p u n : Nat) : gout p (0, u, n) = (unfold' u, ((p + n : Nat) : Int), 0) := by unfold gout; rw [if_pos rfl]
/-- one byte of a number, as the reference reads it. -/
theorem getNum_s_end (x : ByteArray) (p i u c : Nat) (hp : p ≤ 20000) (hi : i ≤ 9) (hu : u < 128 ^ i) (h : i ≤ 8 ∧ c < 128 ∨ i = 9 ∧ c ≤ 1) : Ev (fun k => zq_.j1 k x (p : Int) (u : Int) (i : Int) (c : Int) false) (if c = 0 ∧ 0 < i then (0, 0, 3) else (unfold' (u + c * 128 ^ i), ((p + (i + 1) : Nat) : Int), 0)) := by
 have hc : c < 128 := by omega
 have hb : u + c * 128 ^ i < 18446744073709551616 := by
  rcases h with ⟨h, _⟩ | ⟨rfl, h1⟩
  ·
   have h8 : 128 ^ i ≤ 128 ^ 8 := Nat.pow_le_pow_right (by decide) h
   have : c * 128 ^ i ≤ 127 * 128 ^ 8 := Nat.mul_le_mul (by omega) h8
   omega
  ·
   have : c * 128 ^ 9 ≤ 1 * 128 ^ 9 := Nat.mul_le_mul_right _ h1
   omega
 have ha := add_shl u c i hu (by omega)
 rw [Nat.mod_eq_of_lt hc] at ha
 have hbad := j2_bad p i (u + c * 128 ^ i) hb hp hi
 have hok := j2_ok p i (u + c * 128 ^ i) hb hp hi
 generalize u + c * 128 ^ i = v at ha hbad hok ⊢
 have st : ∀ k, zq_.j1 (k + 1) x (p : Int) (u : Int) (i : Int) (c : Int) false = if (c : Int) = 0 then zq_.j2 k (p : Int) (v : Int) (i : Int) (decide ((i : Int) > 0)) else zq_.j2 k (p : Int) (v : Int) (i : Int) false := by
  intro k
  simp only [zq_.j1, ha]
  rw [if_neg (by simp), if_pos (u7 i hi)]
  exact if_pos (by clear ha; omega)
 clear ha
 by_cases h0 : c = 0
 ·
  by_cases hi0 : 0 < i
  ·
   rw [if_pos ⟨h0, hi0⟩]
   exact Ev.step (fun k => (st k).trans ((if_pos (by omega)).trans (by rw [decide_eq_true (show (i : Int) > 0 by omega)]))) hbad
  ·
   rw [if_neg (fun q => hi0 q.2)]
   exact Ev.step (fun k => (st k).trans ((if_pos (by omega)).trans (by rw [decide_eq_false (show ¬ (i : Int) > 0 by omega)]))) hok
 ·
  rw [if_neg (fun q => h0 q.1)]
  exact Ev.step (fun k => (st k).trans (if_neg (by omega))) hok
theorem getNum_s_more (x : ByteArray) (p i u c k : Nat) (hi : i ≤ 8) (hu : u < 128 ^ i) (hc : c < 256) (h : ¬ c < 128) : zq_.j1 (k + 1) x (p : Int) (u : Int) (i : Int) (c : Int) false = zq_.l0 k x (p : Int) ((u + (c - 128) * 128 ^ i : Nat) : Int) ((i + 1 : Nat) : Int) := by
 have ha := add_shl u c i hu (.inl ⟨hi, hc⟩)
 rw [show c % 128 = c - 128 by omega] at ha
 generalize u + (c - 128) * 128 ^ i = v at ha ⊢
 simp only [zq_.j1, ha]
 clear ha
 rw [if_neg (by simp), if_pos (u7 i (by omega)), if_neg (by omega), wnat' i 10 (by omega) (by decide)]
theorem getNum_s_in (x : ByteArray) (p i u c k : Nat) (hx : x.size ≤ 20000) (hp : p ≤ 20000) (hi : i ≤ 9) (h : p + i < x.size) (hbt : bt x ((p + i : Nat) : Int) = (c : Int)) (hc : c < 256) : zq_.l0 (k + 1) x (p : Int) (u : Int) (i : Int) = if i = 9 then zq_.j1 k x (p : Int) (u : Int) (i : Int) (c : Int) (decide (1 < c)) else zq_.j1 k x (p : Int) (u : Int) (i : Int) (c : Int) false := by
 simp only [zq_.l0, w_add p i (by omega), w_sub x.size i (by omega) (by omega), hbt, u64_id c hc]
 rw [if_pos (by omega), if_neg (by omega), if_pos (by omega), if_pos (by omega)]
 by_cases h9 : i = 9
 ·
  rw [if_pos (by omega), if_pos h9]
  congr 1
  by_cases h1 : 1 < c
  · rw [decide_eq_true h1, decide_eq_true (by omega)]
  · rw [decide_eq_false h1, decide_eq_false (by omega)]
 · rw [if_neg (by omega), if_neg h9]
theorem getNum_s_out (x : ByteArray) (p i u k : Nat) (hx : x.size ≤ 20000) (hp : p ≤ 20000) (hi : i ≤ 9) (h : ¬ p + i < x.size) : zq_.l0 (k + 1) x (p : Int) (u : Int) (i : Int) = some (0, 0, 4) := by
 simp only [zq_.l0, w_sub x.size i (by omega) (by omega)]
 rw [if_pos (by omega), if_pos (by omega)]
theorem getNum_s_l0 (x : ByteArray) (p : Nat) (hx : x.size ≤ 20000) (hp : p ≤ 20000) : ∀ (m i u : Nat), i + m = 9 → u < 128 ^ i → Ev (fun k => zq_.l0 k x (p : Int) (u : Int) (i : Int)) (gout p (gN i u ((bl x).drop (p + i)))) := by
 intro m
 induction m with
 | zero =>
  intro i u hi hu
  have hi9 : i = 9 := by omega
  by_cases h : p + i < x.size
  ·
   have hc : p + i < (bl x).length := by rw [xa_]; exact h
   have hb := bl_lt x (bl x)[p + i] (List.getElem_mem hc)
   have hbt := bt_bl x (p + i) h
   rw [List.drop_eq_getElem_cons hc]
   generalize (bl x)[p + i] = c at hb hbt ⊢
   by_cases h1 : 1 < c
   ·
    refine Ev.step (fun k => (getNum_s_in x p i u c k hx hp (by omega) h hbt hb).trans ((if_pos hi9).trans (by rw [decide_eq_true h1]))) (Ev.step (f := fun _ => some (0, 0, 3)) (fun k => by simp only [zq_.j1]; rw [if_pos trivial]) (ev_eq ?_))
    unfold gN
    rw [if_pos ⟨hi9, h1⟩, gout_bad]
   ·
    refine Ev.step (fun k => (getNum_s_in x p i u c k hx hp (by omega) h hbt hb).trans ((if_pos hi9).trans (by rw [decide_eq_false h1]))) ?_
    have he := getNum_s_end x p i u c hp (by omega) hu (.inr ⟨hi9, by omega⟩)
    unfold gN
    rw [if_neg (fun q => h1 q.2), if_pos (by omega)]
    by_cases h0 : c = 0 ∧ 0 < i
    ·
     rw [if_pos h0] at he ⊢
     rw [gout_bad]; exact he
    ·
     rw [if_neg h0] at he ⊢
     rw [gout_good]; exact he
  ·
   rw [List.drop_eq_nil_of_le (by rw [xa_]; omega)]
   refine Ev.step (f := fun _ => some (0, 0, 4)) (fun k => getNum_s_out x p i u k hx hp (by omega) h) (ev_eq ?_)
   unfold gN
   rw [gout_short]
 | succ m ih =>
  intro i u hi hu
  by_cases h : p + i < x.size
  ·
   have hc : p + i < (bl x).length := by rw [xa_]; exact h
   have hb := bl_lt x (bl x)[p + i] (List.getElem_mem hc)
   have hbt := bt_bl x (p + i) h
   rw [List.drop_eq_getElem_cons hc]
   generalize (bl x)[p + i] = c at hb hbt ⊢
   have hi9 : ¬ i = 9 := by omega
   refine Ev.step (fun k => (getNum_s_in x p i u c k hx hp (by omega) h hbt hb).trans (if_neg hi9)) ?_
   unfold gN
   rw [if_neg (fun q => hi9 q.1)]
   by_cases h128 : c < 128
   ·
    rw [if_pos h128]
    have he := getNum_s_end x p i u c hp (by omega) hu (.inl ⟨by omega, h128⟩)
    by_cases h0 : c = 0 ∧ 0 < i
    ·
     rw [if_pos h0] at he ⊢
     rw [gout_bad]; exact he
    ·
     rw [if_neg h0] at he ⊢
     rw [gout_good]; exact he
   ·
    rw [if_neg h128]
    have hu' : u + (c - 128) * 128 ^ i < 128 ^ (i + 1) := by
     have : (c - 128) * 128 ^ i ≤ 127 * 128 ^ i := Nat.mul_le_mul_right _ (by omega)
     rw [Nat.pow_succ]
     omega
    exact Ev.step (fun k => getNum_s_more x p i u c k (by omega) hu hb h128) (ih (i + 1) (u + (c - 128) * 128 ^ i) (by omega) hu')
  ·
   rw [List.drop_eq_nil_of_le (by rw [xa_]; omega)]
   refine Ev.step (f := fun _ => some (0, 0, 4)) (fun k => getNum_s_out x p i u k hx hp (by omega) h) (ev_eq ?_)
   unfold gN
   rw [gout_short]
theorem getNum_s (x : ByteArray) (p : Nat) (hx : x.size ≤ 20000) (hp : p ≤ 20000) : Ev (fun k => zq_.f k x (p : Int)) (gout p (gN 0 0 ((bl x).drop p))) :=
 zO_ (by omega) (zO_ (by omega) (getNum_s_l0 x p hx hp 9 0 0 rfl (by decide)))
theorem getText_s (x : ByteArray) (p : Nat) (hx : x.size ≤ 20000) (hp : p ≤ x.size) : Ev (fun k => zM_.f k x (p : Int)) (tout x (gout p (gN 0 0 ((bl x).drop p)))) := by
 have hg := getNum_s x p hx (by omega)
 have hok := gout_ok x p hp
 generalize gout p (gN 0 0 ((bl x).drop p)) = g at hg hok ⊢
 refine Ev.bind hg ?_
 by_cases c : g.2.2 = 0
 ·
  obtain ⟨n, q, rfl, hq1, hq2, hn1, hn2⟩ := hok c
  refine zD_ c ?_
  have bad : ¬ (0 ≤ n ∧ n ≤ 20000) → Ev (fun k => zM_.j0 k x true n (q : Int) 0) (tout x (n, (q : Int), 0)) := fun hc => Ev.step (f := fun _ => some ((⟨#[]⟩ : ByteArray), 0, 3)) (fun k => by simp only [zM_.j0]; rw [if_pos trivial]) (ev_eq (by unfold tout; rw [if_pos rfl, if_neg hc]))
  by_cases c0 : n < 0
  · exact zD_ c0 (bad (by omega))
  refine zO_ c0 ?_
  by_cases c1 : n > 20000
  ·
   rw [decide_eq_true c1]
   exact bad (by omega)
  rw [decide_eq_false c1]
  by_cases c3 : (q : Int) + n > (x.size : Int)
  ·
   refine Ev.step (f := fun _ => some ((⟨#[]⟩ : ByteArray), 0, 4)) (fun k => ?_) (ev_eq (by unfold tout; rw [if_pos rfl, if_pos ⟨by omega, by omega⟩, if_pos c3]))
   simp only [zM_.j0, Bool.false_eq_true, if_false]
   rw [w64 (n := (x.size : Int) - n) (by omega) (by omega), if_pos (by omega)]
  ·
   refine Ev.step (f := fun _ => some (x.extract (q : Int).toNat ((q : Int) + n).toNat, (q : Int) + n, 0)) (fun k => ?_) (ev_eq (by unfold tout; rw [if_pos rfl, if_pos ⟨by omega, by omega⟩, if_neg c3]))
   simp only [zM_.j0, Bool.false_eq_true, if_false]
   rw [w64 (n := (x.size : Int) - n) (by omega) (by omega), w64 (n := (q : Int) + n) (by omega) (by omega), if_neg (by omega), if_pos (by omega), if_pos (by omega), if_pos (by omega)]
 · exact zO_ c (ev_eq (by unfold tout; rw [if_neg c]))
def rNum (x : ByteArray) (p : Nat) (bad : Bool) : Int × ByteArray × Int × Bool := if bad = true then (0, x, (p : Int), true) else if (gout p (gN 0 0 ((bl x).drop p))).2.2 = 0 then ((gout p (gN 0 0 ((bl x).drop p))).1, x, (gout p (gN 0 0 ((bl x).drop p))).2.1, bad) else (0, x, (p : Int), true)
def rText (x : ByteArray) (p : Nat) (bad : Bool) : ByteArray × ByteArray × Int × Bool := if bad = true then ((⟨#[]⟩ : ByteArray), x, (p : Int), true) else if (tout x (gout p (gN 0 0 ((bl x).drop p)))).2.2 = 0 then ((tout x (gout p (gN 0 0 ((bl x).drop p)))).1, x, (tout x (gout p (gN 0 0 ((bl x).drop p)))).2.1, bad) else ((⟨#[]⟩ : ByteArray), x, (p : Int), true)
def rBytes (x : ByteArray) (p : Nat) (bad : Bool) (n : Nat) : ByteArray × ByteArray × Int × Bool := if bad = true then ((⟨#[]⟩ : ByteArray), x, (p : Int), true) else if p + n > x.size then ((⟨#[]⟩ : ByteArray), x, (p : Int), true) else (x.extract p (p + n), x, ((p + n : Nat) : Int), bad)
/-- where a reader stands. -/
def At (x : ByteArray) (s : ByteArray × Int × Bool) : Prop := ∃ (q : Nat) (b : Bool), s = (x, (q : Int), b) ∧ q ≤ x.size
theorem rNum_at (x : ByteArray) (p : Nat) (bad : Bool) (hp : p ≤ x.size) : At x (rNum x p bad).2 := by
 unfold rNum
 by_cases h : bad = true
 · rw [if_pos h]; exact ⟨p, true, rfl, hp⟩
 rw [if_neg h]
 by_cases c : (gout p (gN 0 0 ((bl x).drop p))).2.2 = 0
 ·
  obtain ⟨n, q, e, h1, h2, _⟩ := gout_ok x p hp c
  rw [if_pos c, e]
  exact ⟨q, bad, rfl, h2⟩
 · rw [if_neg c]; exact ⟨p, true, rfl, hp⟩
theorem rBytes_at (x : ByteArray) (p : Nat) (bad : Bool) (n : Nat) (hp : p ≤ x.size) : At x (rBytes x p bad n).2 := by
 unfold rBytes
 by_cases h : bad = true
 · rw [if_pos h]; exact ⟨p, true, rfl, hp⟩
 rw [if_neg h]
 by_cases c : p + n > x.size
 · rw [if_pos c]; exact ⟨p, true, rfl, hp⟩
 · rw [if_neg c]; exact ⟨p + n, bad, rfl, by omega⟩
theorem tout_ok (x : ByteArray) (p : Nat) (hp : p ≤ x.size) (h : (tout x (gout p (gN 0 0 ((bl x).drop p)))).2.2 = 0) : ∃ (t : ByteArray) (q : Nat), tout x (gout p (gN 0 0 ((bl x).drop p))) = (t, (q : Int), 0) ∧ q ≤ x.size ∧ t.size ≤ x.size := by
 have hok := gout_ok x p hp
 generalize gout p (gN 0 0 ((bl x).drop p)) = g at hok h ⊢
 unfold tout at h ⊢
 by_cases c : g.2.2 = 0
 ·
  obtain ⟨n, q, rfl, h1, h2, _⟩ := hok c
  rw [if_pos c] at h ⊢
  simp only at h ⊢
  by_cases c2 : 0 ≤ n ∧ n ≤ 20000
  ·
   rw [if_pos c2] at h ⊢
   by_cases c3 : (q : Int) + n > (x.size : Int)
   · rw [if_pos c3] at h; simp at h
   ·
    rw [if_neg c3]
    refine ⟨_, ((q : Int) + n).toNat, by rw [show ((((q : Int) + n).toNat : Nat) : Int) = (q : Int) + n by omega], by omega, ?_⟩
    rw [ByteArray.size_extract]
    omega
  · rw [if_neg c2] at h; simp at h
 ·
  rw [if_neg c] at h
  exact absurd h c
theorem rText_at (x : ByteArray) (p : Nat) (bad : Bool) (hp : p ≤ x.size) : At x (rText x p bad).2 ∧ (rText x p bad).1.size ≤ x.size := by
 unfold rText
 by_cases h : bad = true
 · rw [if_pos h]; exact ⟨⟨p, true, rfl, hp⟩, Nat.zero_le _⟩
 rw [if_neg h]
 by_cases c : (tout x (gout p (gN 0 0 ((bl x).drop p)))).2.2 = 0
 ·
  obtain ⟨t, q, e, h1, h2⟩ := tout_ok x p hp c
  rw [if_pos c, e]
  exact ⟨⟨q, bad, rfl, h1⟩, h2⟩
 · rw [if_neg c]; exact ⟨⟨p, true, rfl, hp⟩, Nat.zero_le _⟩
theorem num_s (x : ByteArray) (hx : x.size ≤ 20000) (p : Nat) (bad : Bool) (hp : p ≤ x.size) : Ev (fun k => zv_.f k x (p : Int) bad) (rNum x p bad) := by
 refine Ev.bind (getNum_s x p hx (by omega)) ?_
 unfold rNum
 by_cases h : bad = true
 · exact zD_ h (ev_eq (by rw [if_pos h]))
 ·
  refine zO_ h ?_
  by_cases c : (gout p (gN 0 0 ((bl x).drop p))).2.2 = 0
  · exact zD_ c (ev_eq (by rw [if_neg h, if_pos c]))
  · exact zO_ c (ev_eq (by rw [if_neg h, if_neg c]))
theorem num_i (x : ByteArray) (hx : x.size ≤ 20000) (p : Nat) (bad : Bool) (hp : p ≤ x.size) : Ev (fun k => zG_.f k x (p : Int) bad) (rNum x p bad) := by
 refine Ev.bind (getNum_i x p (by omega) (by omega)) ?_
 unfold rNum
 by_cases h : bad = true
 · exact zD_ h (ev_eq (by rw [if_pos h]))
 ·
  refine zO_ h ?_
  by_cases c : (gout p (gN 0 0 ((bl x).drop p))).2.2 = 0
  · exact zD_ c (ev_eq (by rw [if_neg h, if_pos c]))
  · exact zO_ c (ev_eq (by rw [if_neg h, if_neg c]))
theorem text_s (x : ByteArray) (hx : x.size ≤ 20000) (p : Nat) (bad : Bool) (hp : p ≤ x.size) : Ev (fun k => zB_.f k x (p : Int) bad) (rText x p bad) := by
 refine Ev.bind (getText_s x p hx hp) ?_
 unfold rText
 generalize tout x (gout p (gN 0 0 ((bl x).drop p))) = r
 by_cases h : bad = true
 · exact zD_ h (ev_eq (by rw [if_pos h]))
 ·
  refine zO_ h ?_
  by_cases c : r.2.2 = 0
  · exact zD_ c (ev_eq (by rw [if_neg h, if_pos c]))
  · exact zO_ c (ev_eq (by rw [if_neg h, if_neg c]))
theorem text_i (x : ByteArray) (hx : x.size ≤ 20000) (p : Nat) (bad : Bool) (hp : p ≤ x.size) : Ev (fun k => zJ_.f k x (p : Int) bad) (rText x p bad) := by
 refine Ev.bind (getText_i x p (by omega) hp) ?_
 unfold rText
 generalize tout x (gout p (gN 0 0 ((bl x).drop p))) = r
 by_cases h : bad = true
 · exact zD_ h (ev_eq (by rw [if_pos h]))
 ·
  refine zO_ h ?_
  by_cases c : r.2.2 = 0
  · exact zD_ c (ev_eq (by rw [if_neg h, if_pos c]))
  · exact zO_ c (ev_eq (by rw [if_neg h, if_neg c]))
theorem bytes_s (x : ByteArray) (hx : x.size ≤ 20000) (p : Nat) (bad : Bool) (n : Nat) (hn : n ≤ 20000) (hp : p ≤ x.size) : yy_.f x (p : Int) bad (n : Int) = some (rBytes x p bad n) := by
 unfold yy_.f rBytes
 by_cases h : bad = true
 · rw [if_pos h, if_pos h]
 ·
  rw [if_neg h, if_neg h, w64 (n := (x.size : Int) - (n : Int)) (by omega) (by omega), w64 (n := (p : Int) + (n : Int)) (by omega) (by omega), w64 (n := (p : Int) + (n : Int) - (n : Int)) (by omega) (by omega)]
  by_cases c : p + n > x.size
  · rw [if_pos (by omega), if_pos c]
  ·
   rw [if_neg (by omega), if_pos (by omega), if_pos (by omega), if_pos (by omega), if_neg c, show ((p : Int) + (n : Int) - (n : Int)).toNat = p by omega, show ((p : Int) + (n : Int)).toNat = p + n by omega]
   rfl
theorem bytes_i (x : ByteArray) (hx : x.size ≤ 20000) (p : Nat) (bad : Bool) (n : Nat) (hn : n ≤ 20000) (hp : p ≤ x.size) : yK_.f x (p : Int) bad (n : Int) = some (rBytes x p bad n) := by
 unfold yK_.f rBytes yj_.f
 by_cases h : bad = true
 · rw [if_pos h, if_pos h]
 ·
  rw [if_neg h, if_neg h, Option.bind_some, w64 (n := (x.size : Int) - (p : Int)) (by omega) (by omega), w64 (n := (p : Int) + (n : Int)) (by omega) (by omega), w64 (n := (p : Int) + (n : Int) - (n : Int)) (by omega) (by omega)]
  by_cases c : p + n > x.size
  · rw [if_pos (by omega), if_pos c]
  ·
   rw [if_neg (by omega), if_pos (by omega), if_pos (by omega), if_pos (by omega), if_neg c, show ((p : Int) + (n : Int) - (n : Int)).toNat = p by omega, show ((p : Int) + (n : Int)).toNat = p + n by omega]
   rfl
/-- what was read is what would be put. -/
theorem gN_back : ∀ (l : List Nat) (i u v n : Nat), (∀ c ∈ l, c < 256) → gN i u l = (0, v, n) → ∃ w, v = u + w * 128 ^ i ∧ n = i + (numL w).length ∧ l.take (numL w).length = (numL w).map Int.toNat ∧ (0 < i → 0 < w) := by
 intro l
 induction l with
 | nil => intro i u v n _ h; simp [gN] at h
 | cons c cs ih =>
  intro i u v n hl h
  have hc := hl c (by simp)
  unfold gN at h
  by_cases h1 : i = 9 ∧ 1 < c
  · rw [if_pos h1] at h; simp at h
  rw [if_neg h1] at h
  by_cases h2 : c < 128
  ·
   rw [if_pos h2] at h
   by_cases h3 : c = 0 ∧ 0 < i
   · rw [if_pos h3] at h; simp at h
   rw [if_neg h3] at h
   simp only [Prod.mk.injEq, true_and] at h
   obtain ⟨rfl, rfl⟩ := h
   exact ⟨c, rfl, by rw [numL_lt h2]; rfl, by rw [numL_lt h2]; simp, fun hi => by omega⟩
  ·
   rw [if_neg h2] at h
   obtain ⟨w, e1, e2, e3, e4⟩ := ih (i + 1) _ v n (fun x hx => hl x (by simp [hx])) h
   have hw := e4 (by omega)
   have hge : ¬ (c - 128 + 128 * w) < 128 := by omega
   have m1 : (c - 128 + 128 * w) % 128 = c - 128 := by omega
   have m2 : (c - 128 + 128 * w) / 128 = w := by omega
   refine ⟨c - 128 + 128 * w, ?_, ?_, ?_, fun _ => by omega⟩
   ·
    rw [e1, Nat.add_mul, Nat.pow_succ]
    have : w * (128 ^ i * 128) = 128 * w * 128 ^ i := by rw [Nat.mul_comm (128 ^ i) 128, ← Nat.mul_assoc, Nat.mul_comm w 128]
    omega
   · rw [numL_ge hge, m2, List.length_cons, e2]; omega
   ·
    rw [numL_ge hge, m1, m2, List.length_cons, List.take_succ_cons, e3, List.map_cons]
    congr 1
    omega
theorem fold_unfold (u : Nat) : fold (unfold' u) = u := by
 unfold fold unfold'
 by_cases h : u % 2 = 1
 · rw [if_pos h, if_pos (by omega)]; omega
 · rw [if_neg h, if_neg (by omega)]; omega
theorem putNum_s_l0 (m : Nat) : ∀ (v k : Nat) (acc : List Int), v < 128 ^ (m + 1) → v < 18446744073709551616 → acc.length + m + 1 ≤ 140737488355328 → m < k → zQ_.l0 k (v : Int) acc = some (strOfNums (acc ++ numL v)) := by
 induction m with
 | zero =>
  intro v k acc hv hv2 ha hk
  obtain ⟨k, rfl⟩ : ∃ m, k = m + 1 := ⟨k - 1, by omega⟩
  have hv' : v < 128 := by simpa using hv
  simp only [zQ_.l0]
  rw [if_neg (by omega), if_pos (by omega), numL_lt hv']
  congr 4
  omega
 | succ m ih =>
  intro v k acc hv hv2 ha hk
  obtain ⟨k, rfl⟩ : ∃ m, k = m + 1 := ⟨k - 1, by omega⟩
  by_cases h : v < 128
  ·
   simp only [zQ_.l0]
   rw [if_neg (by omega), if_pos (by omega), numL_lt h]
   congr 4
   omega
  ·
   have e1 : IntKind.u64.wrap (Int.tdiv (v : Int) 128) = ((v / 128 : Nat) : Int) := by
    rw [Int.tdiv_eq_ediv_of_nonneg (by omega), IntKind.wrap_u64]
    omega
   have e2 : (IntKind.u64.wrap ((Int.tmod (v : Int) 128) + 128)) % 256 = ((v % 128 + 128 : Nat) : Int) := by
    rw [Int.tmod_eq_emod_of_nonneg (by omega), IntKind.wrap_u64]
    omega
   simp only [zQ_.l0, e1, e2]
   rw [if_pos (by omega), if_pos (by omega), ih (v / 128) k _ (by rw [Nat.div_lt_iff_lt_mul (by decide)]; rw [← Nat.pow_succ]; exact hv) (by omega) (by simp; omega) (by omega), numL_ge h]
   simp
theorem putNum_s (n : Int) (h0 : -9223372036854775808 ≤ n) (h1 : n ≤ 9223372036854775807) (k : Nat) (hk : 10 ≤ k) : zQ_.f k n = some (yb_ n) := by
 have e : xj_.f n = some ((fold n : Nat) : Int) := by
  unfold xj_.f fold
  by_cases h : n < 0
  ·
   rw [if_pos h, if_pos h]
   simp only [IntKind.wrap_u64, wrap64]
   congr 1
   omega
  ·
   rw [if_neg h, if_neg h]
   simp only [IntKind.wrap_u64]
   congr 1
   omega
 have hf := fold_lt n h0 h1
 unfold zQ_.f
 rw [e, Option.bind_some, putNum_s_l0 9 _ k _ (Nat.lt_of_lt_of_le hf (by decide)) hf (by simp) (by omega)]
 simp [yb_]
/-! what is read of bytes is told by these bytes, and what was put is read back. -/
theorem ex_cat (x : ByteArray) (i j k : Nat) (h1 : i ≤ j) (h2 : j ≤ k) (h3 : k ≤ x.size) : x.extract i j ++ x.extract j k = x.extract i k := by
 apply bl_inj
 rw [xg_, bl_extract, bl_extract, bl_extract]
 have e : ((bl x).take k).drop i = (((bl x).take k).drop i).take (j - i) ++ (((bl x).take k).drop i).drop (j - i) := (List.take_append_drop _ _).symm
 rw [e, List.drop_drop, List.take_drop, List.take_take]
 rw [show min (i + (j - i)) k = j by omega, show i + (j - i) = j by omega]
theorem ext_mid (a m c : ByteArray) : (a ++ (m ++ c)).extract a.size (a.size + m.size) = m := by
 apply bl_inj
 rw [bl_extract, xg_, xg_, List.drop_take, ← xa_ a, List.drop_left' rfl, show (bl a).length + m.size - (bl a).length = m.size by omega, ← xa_ m, List.take_left' rfl]
theorem gN_at (a c : ByteArray) (n : Int) (h : -9223372036854775808 ≤ n ∧ n ≤ 9223372036854775807) : gN 0 0 ((bl (a ++ (yb_ n ++ c))).drop a.size) = (0, fold n, (yb_ n).size) := by
 have hd : (bl (a ++ (yb_ n ++ c))).drop a.size = (numL (fold n)).map Int.toNat ++ bl c := by
  rw [xg_, xg_, ← xa_ a, List.drop_left' rfl, bl_putNum n h.1 h.2]
 have hf := fold_lt n h.1 h.2
 have hg := gN_put 9 (fold n) 0 0 (bl c) rfl (Nat.lt_of_lt_of_le hf (by decide)) (by omega) (fun h => absurd h (by omega))
 have hz : (numL (fold n)).length = (yb_ n).size := by unfold yb_; rw [strOfNums_size]
 rw [hd, hg, hz]
 congr 2 <;> omega
theorem num_ok (x : ByteArray) (p : Nat) (v n : Nat) (hp : p ≤ x.size) (h : gN 0 0 ((bl x).drop p) = (0, v, n)) : gout p (gN 0 0 ((bl x).drop p)) = (unfold' v, ((p + n : Nat) : Int), 0) ∧ p + n ≤ x.size ∧ v < 18446744073709551616 ∧ x.extract p (p + n) = yb_ (unfold' v) := by
 have e : gout p (gN 0 0 ((bl x).drop p)) = (unfold' v, ((p + n : Nat) : Int), 0) := by rw [h, gout_good]
 have hl : ∀ c ∈ (bl x).drop p, c < 256 := fun c hc => bl_lt x c (List.mem_of_mem_drop hc)
 obtain ⟨_, h2, h3⟩ := gN_ok ((bl x).drop p) 0 0 (by decide) (by decide) hl (by rw [h])
 rw [h] at h2 h3
 rw [List.length_drop, xa_] at h2
 simp only at h2 h3
 obtain ⟨w, w1, w2, w3, _⟩ := gN_back ((bl x).drop p) 0 0 v n hl h
 obtain rfl : v = w := by simpa using w1
 have hn : n = (numL v).length := by omega
 refine ⟨e, by omega, h3, ?_⟩
 apply bl_inj
 unfold yb_
 rw [fold_unfold, bl_extract, bl_strOfNums _ (numL_range 9 v (by omega)), ← w3, hn, List.drop_take]
 congr 1
 omega
theorem gout_back (x : ByteArray) (p : Nat) (hp : p ≤ x.size) (h : (gout p (gN 0 0 ((bl x).drop p))).2.2 = 0) : ∃ (n : Int) (q : Nat), gout p (gN 0 0 ((bl x).drop p)) = (n, (q : Int), 0) ∧ p ≤ q ∧ q ≤ x.size ∧ (-9223372036854775808 ≤ n ∧ n ≤ 9223372036854775807) ∧ x.extract p q = yb_ n := by
 obtain ⟨g, hg⟩ : ∃ g, gN 0 0 ((bl x).drop p) = g := ⟨_, rfl⟩
 obtain ⟨c, v, n⟩ := g
 by_cases hc : c = 0
 ·
  subst hc
  obtain ⟨e, h1, h2, h3⟩ := num_ok x p v n hp hg
  exact ⟨_, _, e, by omega, h1, unfold_range v h2, h3⟩
 ·
  rw [hg] at h
  unfold gout at h
  rw [if_neg hc] at h
  exact absurd h hc
theorem rNum_back (x : ByteArray) (p : Nat) (f : Bool) (hp : p ≤ x.size) (n : Int) (q : Nat) (y : ByteArray) (h : rNum x p f = (n, y, (q : Int), false)) : f = false ∧ p ≤ q ∧ q ≤ x.size ∧ (-9223372036854775808 ≤ n ∧ n ≤ 9223372036854775807) ∧ x.extract p q = yb_ n := by
 unfold rNum at h
 by_cases hf : f = true
 ·
  rw [if_pos hf] at h
  simp at h
 rw [if_neg hf] at h
 by_cases c : (gout p (gN 0 0 ((bl x).drop p))).2.2 = 0
 ·
  obtain ⟨m, r, e, h1, h2, h3, h4⟩ := gout_back x p hp c
  rw [if_pos c, e] at h
  simp only [Prod.mk.injEq] at h
  obtain ⟨rfl, _, h5, _⟩ := h
  obtain rfl : r = q := by omega
  exact ⟨by simpa using hf, h1, h2, h3, h4⟩
 ·
  rw [if_neg c] at h
  simp at h
theorem rText_back (x : ByteArray) (p : Nat) (f : Bool) (hp : p ≤ x.size) (t : ByteArray) (q : Nat) (y : ByteArray) (h : rText x p f = (t, y, (q : Int), false)) : f = false ∧ p ≤ q ∧ q ≤ x.size ∧ t.size ≤ 20000 ∧ x.extract p q = yb_ (t.size : Int) ++ t := by
 unfold rText at h
 by_cases hf : f = true
 ·
  rw [if_pos hf] at h
  simp at h
 rw [if_neg hf] at h
 by_cases c : (tout x (gout p (gN 0 0 ((bl x).drop p)))).2.2 = 0
 rotate_left
 ·
  rw [if_neg c] at h
  simp at h
 rw [if_pos c] at h
 by_cases c1 : (gout p (gN 0 0 ((bl x).drop p))).2.2 = 0
 rotate_left
 ·
  unfold tout at c
  rw [if_neg c1] at c
  exact absurd c c1
 obtain ⟨n, r, e, h1, h2, h3, h4⟩ := gout_back x p hp c1
 rw [e] at h c
 unfold tout at h c
 rw [if_pos rfl] at h c
 simp only at h c
 by_cases c2 : 0 ≤ n ∧ n ≤ 20000
 rotate_left
 ·
  rw [if_neg c2] at c
  simp at c
 rw [if_pos c2] at h c
 by_cases c3 : (r : Int) + n > (x.size : Int)
 ·
  rw [if_pos c3] at c
  simp at c
 rw [if_neg c3] at h
 simp only [Prod.mk.injEq] at h
 obtain ⟨h5, _, h6, _⟩ := h
 obtain ⟨m, rfl⟩ : ∃ m : Nat, n = (m : Int) := ⟨n.toNat, by omega⟩
 obtain rfl : q = r + m := by omega
 have e1 : ((r : Int)).toNat = r := Int.toNat_natCast r
 have e2 : ((r : Int) + (m : Int)).toNat = r + m := by omega
 rw [e1, e2] at h5
 have hz : t.size = m := by rw [← h5, ByteArray.size_extract]; omega
 refine ⟨by simpa using hf, by omega, by omega, by omega, ?_⟩
 rw [hz, ← h4, ← h5, ex_cat x _ _ _ h1 (by omega) (by omega)]
theorem rBytes_back (x : ByteArray) (p : Nat) (f : Bool) (n : Nat) (t : ByteArray) (q : Nat) (y : ByteArray) (h : rBytes x p f n = (t, y, (q : Int), false)) : f = false ∧ q = p + n ∧ q ≤ x.size ∧ x.extract p q = t := by
 unfold rBytes at h
 by_cases hf : f = true
 ·
  rw [if_pos hf] at h
  simp at h
 rw [if_neg hf] at h
 by_cases c : p + n > x.size
 ·
  rw [if_pos c] at h
  simp at h
 rw [if_neg c] at h
 simp only [Prod.mk.injEq] at h
 obtain ⟨h5, _, h6, _⟩ := h
 obtain rfl : q = p + n := by omega
 exact ⟨by simpa using hf, rfl, by omega, h5⟩
theorem unfold_fold' (n : Int) : unfold' (fold n) = n := by
 unfold unfold' fold
 by_cases h : n < 0
 · rw [if_pos h, if_pos (by omega)]; omega
 · rw [if_neg h, if_neg (by omega)]; omega
theorem gout_put (a c : ByteArray) (n : Int) (h : -9223372036854775808 ≤ n ∧ n ≤ 9223372036854775807) : gout a.size (gN 0 0 ((bl (a ++ (yb_ n ++ c))).drop a.size)) = (n, ((a.size + (yb_ n).size : Nat) : Int), 0) := by
 rw [gN_at a c n h, gout_good, unfold_fold']
theorem rNum_put (a c : ByteArray) (n : Int) (h : -9223372036854775808 ≤ n ∧ n ≤ 9223372036854775807) : rNum (a ++ (yb_ n ++ c)) a.size false = (n, a ++ (yb_ n ++ c), ((a.size + (yb_ n).size : Nat) : Int), false) := by
 unfold rNum
 rw [if_neg (by simp), gout_put a c n h, if_pos rfl]
theorem rText_put (a c t : ByteArray) (h : t.size ≤ 20000) : rText (a ++ ((yb_ (t.size : Int) ++ t) ++ c)) a.size false = (t, a ++ ((yb_ (t.size : Int) ++ t) ++ c), ((a.size + (yb_ (t.size : Int) ++ t).size : Nat) : Int), false) := by
 have e : a ++ ((yb_ (t.size : Int) ++ t) ++ c) = a ++ (yb_ (t.size : Int) ++ (t ++ c)) := by simp only [ByteArray.append_assoc]
 have e2 : a ++ ((yb_ (t.size : Int) ++ t) ++ c) = (a ++ yb_ (t.size : Int)) ++ (t ++ c) := by simp only [ByteArray.append_assoc]
 have g := gout_put a (t ++ c) (t.size : Int) (by omega)
 have hm := ext_mid (a ++ yb_ (t.size : Int)) t c
 have hz : (a ++ ((yb_ (t.size : Int) ++ t) ++ c)).size = a.size + (yb_ (t.size : Int)).size + t.size + c.size := by simp only [ByteArray.size_append]; omega
 rw [← e2, ByteArray.size_append] at hm
 rw [← e] at g
 generalize hx : a ++ ((yb_ (t.size : Int) ++ t) ++ c) = x at g hm hz ⊢
 have ht : tout x (gout a.size (gN 0 0 ((bl x).drop a.size))) = (t, ((a.size + (yb_ (t.size : Int) ++ t).size : Nat) : Int), 0) := by
  rw [g]
  unfold tout
  simp only
  rw [if_pos trivial, if_pos (by omega), if_neg (by omega), ByteArray.size_append]
  have e1 : (((a.size + (yb_ (t.size : Int)).size : Nat) : Int)).toNat = a.size + (yb_ (t.size : Int)).size := Int.toNat_natCast _
  have e3 : (((a.size + (yb_ (t.size : Int)).size : Nat) : Int) + (t.size : Int)).toNat = a.size + (yb_ (t.size : Int)).size + t.size := by omega
  rw [e1, e3, hm]
  congr 2
  omega
 unfold rText
 rw [if_neg (by simp), ht, if_pos rfl]
theorem rBytes_put (a c t : ByteArray) : rBytes (a ++ (t ++ c)) a.size false t.size = (t, a ++ (t ++ c), ((a.size + t.size : Nat) : Int), false) := by
 unfold rBytes
 rw [if_neg (by simp), if_neg (by simp only [ByteArray.size_append]; omega), ext_mid]
theorem nameRight_l0 (s : ByteArray) (hs : s.size ≤ 9223372036854775807) (d : Nat) : ∀ (i k : Nat), i + d = s.size → d < k → zu_.l0 k s (i : Int) = some (nameOk s d i) := by
 induction d with
 | zero =>
  intro i k hi hk
  obtain ⟨k, rfl⟩ : ∃ m, k = m + 1 := ⟨k - 1, by omega⟩
  simp only [zu_.l0]
  rw [if_neg (by omega)]
  rfl
 | succ d ih =>
  intro i k hi hk
  obtain ⟨k, rfl⟩ : ∃ m, k = m + 1 := ⟨k - 1, by omega⟩
  have e : wrap64 ((i : Int) + 1) = ((i + 1 : Nat) : Int) := by rw [w64 (by omega) (by omega)]; omega
  have h := ih (i + 1) k (by omega) (by omega)
  simp only [zu_.l0, e, h]
  rw [if_pos (by omega), if_pos (by omega)]
  exact nameStep _ _ _
theorem nameRight_ev (s : ByteArray) (hs : s.size ≤ 9223372036854775807) : Ev (fun k => zu_.f k s) (isName s 80) := by
 refine ev_from (s.size + 3) fun k hk => ?_
 obtain ⟨k, rfl⟩ : ∃ m, k = m + 1 := ⟨k - 1, by omega⟩
 have h := nameRight_l0 s hs s.size 0 k (by omega) (by omega)
 simp only [zu_.f, zu_.j0]
 have h' : zu_.l0 k s 0 = some (nameOk s s.size 0) := h
 rw [h']
 unfold isName
 generalize nameOk s s.size 0 = X
 grind
theorem isName_l0 (s : ByteArray) (most : Int) (hs : s.size ≤ 9223372036854775807) (d : Nat) : ∀ (i k : Nat), i + d = s.size → d < k → z7_.l0 k s most s.size (i : Int) = some (nameOk s d i && (decide ((s.size : Int) ≥ 1) && decide ((s.size : Int) ≤ most))) := by
 induction d with
 | zero =>
  intro i k hi hk
  obtain ⟨k, rfl⟩ : ∃ m, k = m + 1 := ⟨k - 1, by omega⟩
  simp only [z7_.l0, yj_.f, yg_.f, Option.bind_some, nameOk]
  rw [if_neg (by omega)]
  grind
 | succ d ih =>
  intro i k hi hk
  obtain ⟨k, rfl⟩ : ∃ m, k = m + 1 := ⟨k - 1, by omega⟩
  have e : wrap64 ((i : Int) + 1) = ((i + 1 : Nat) : Int) := by rw [w64 (by omega) (by omega)]; omega
  have h := ih (i + 1) k (by omega) (by omega)
  simp only [z7_.l0, e, h]
  rw [if_pos (by omega), if_pos (by omega), if_pos (by omega)]
  refine (nameStep _ _ _).trans ?_
  simp [nameOk, Bool.and_assoc]
theorem isName_ev (s : ByteArray) (most : Int) (hs : s.size ≤ 9223372036854775807) : Ev (fun k => z7_.f k s most) (isName s most) := by
 refine ev_from (s.size + 3) fun k hk => ?_
 have h := isName_l0 s most hs s.size 0 k (by omega) (by omega)
 simp only [z7_.f]
 exact h
abbrev IN := S97
abbrev zN := z97
theorem rdOf_nat (l : List ByteArray) (i : Nat) (h : i < l.length) : rdOf ByteArray.empty l (i : Int) = l[i] := by
 simp [rdOf, h]
theorem rdN_nat (l : List IN) (i : Nat) : zH_ l (i : Int) = l.getD i zN := by
 unfold zH_
 rw [Int.toNat_natCast]
theorem memN (l : List IN) (i : Nat) (h : i < l.length) : l.getD i zN ∈ l := by
 rw [List.getD_eq_getElem?_getD, List.getElem?_eq_getElem h]
 exact List.getElem_mem h
def keysOk (l : List ByteArray) : Bool := l.all (fun s => decide ((s.size : Int) = 32))
def restOk (x : IN) : Bool := !((x.f1 && (!decide (x.f2 = 0) || !decide ((x.f3.length : Int) = 1))) || !(decide (0 ≤ x.f2) && decide (x.f2 ≤ 1500)) || decide (100 < (x.f3.length : Int)))
def nodeOk (x : IN) : Bool := isName x.f0 80 && (keysOk x.f3 && restOk x)
def nodeAt (l : List IN) (i : Nat) : Bool := nodeOk (l.getD i zN) && (i == 0 || Op.bytesLess (l.getD (i - 1) zN).f0.toList (l.getD i zN).f0.toList)
def yn_ (l : List IN) : Bool := decide (l.length ≤ 20) && (List.range l.length).all (nodeAt l)
theorem keys_range (l : List ByteArray) : (List.range l.length).all (fun i => decide (((l.getD i ByteArray.empty).size : Int) = 32)) = keysOk l := by
 unfold keysOk
 rw [Bool.eq_iff_iff, List.all_eq_true, List.all_eq_true]
 constructor
 ·
  intro h x hx
  obtain ⟨j, hj, rfl⟩ := List.mem_iff_getElem.1 hx
  have := h j (List.mem_range.2 hj)
  rw [List.getD_eq_getElem?_getD, List.getElem?_eq_getElem hj] at this
  exact this
 ·
  intro h i hi
  have hi := List.mem_range.1 hi
  rw [List.getD_eq_getElem?_getD, List.getElem?_eq_getElem hi]
  exact h _ (List.getElem_mem hi)
theorem rdOf_getD (l : List ByteArray) (i : Nat) : rdOf ByteArray.empty l (i : Int) = l.getD i ByteArray.empty := by
 simp [rdOf]
theorem l11_l0 (x : IN) (hl : x.f3.length ≤ 9223372036854775807) : Ev (fun k => zm_.l0 k 0 x.f0 x.f1 x.f2 x.f3) (keysOk x.f3) := by
 rw [← keys_range]
 refine loop_all (fun k i => zm_.l0 k i x.f0 x.f1 x.f2 x.f3) x.f3.length hl 0 _ (fun k i hi _ hw => ?_) (fun k => by simp only [zm_.l0]; rw [if_neg (by omega)])
 simp only [zm_.l0, rdOf_getD, hw]
 rw [if_pos (by omega), if_pos (by omega)]
 by_cases c : ((x.f3.getD i ByteArray.empty).size : Int) = 32
 · rw [if_pos c, if_pos (decide_eq_true c)]
 · rw [if_neg c, if_neg (by simpa using c)]
theorem l11Node_ev (x : IN) (hn : x.f0.size ≤ 9223372036854775807) (hl : x.f3.length ≤ 9223372036854775807) : Ev (fun k => zm_.f k x.f0 x.f1 x.f2 x.f3) (nodeOk x) := by
 have bad : Ev (fun k => zm_.j0 k true x.f0 x.f1 x.f2 x.f3) false := Ev.step (f := fun _ => some false) (fun k => by simp only [zm_.j0]; rfl) (Ev.now _)
 have good : Ev (fun k => zm_.j0 k false x.f0 x.f1 x.f2 x.f3) (keysOk x.f3) := Ev.step (fun k => by simp only [zm_.j0]; rfl) (l11_l0 x hl)
 have last : ∀ v : Bool, (v = if x.f2 > 1500 then false else keysOk x.f3) → Ev (fun k => zm_.j0 k (decide (x.f2 > 1500)) x.f0 x.f1 x.f2 x.f3) v := by
  intro v hv
  by_cases c : x.f2 > 1500
  ·
   rw [if_pos c] at hv
   rw [decide_eq_true c, hv]
   exact bad
  ·
   rw [if_neg c] at hv
   rw [decide_eq_false c, hv]
   exact good
 obtain ⟨v, hv⟩ : ∃ v, nodeOk x = v := ⟨_, rfl⟩
 rw [hv]
 unfold nodeOk restOk at hv
 have badv : v = false → Ev (fun k => zm_.j0 k true x.f0 x.f1 x.f2 x.f3) v := fun h => h ▸ bad
 unfold zm_.f
 refine Ev.bind (nameRight_ev x.f0 hn) ?_
 by_cases c0 : isName x.f0 80 = true
 case neg => exact zO_ c0 (badv (by rw [← hv]; simp [c0]))
 refine zD_ c0 ?_
 by_cases c1 : (x.f3.length : Int) > 100
 · exact zD_ c1 (badv (by rw [← hv, decide_eq_true (show 100 < (x.f3.length : Int) from c1)]; simp))
 refine zO_ c1 ?_
 rw [c0, decide_eq_false (show ¬ 100 < (x.f3.length : Int) from c1)] at hv
 by_cases c2 : x.f1 = true
 ·
  refine zD_ c2 ?_
  rw [c2] at hv
  by_cases c3 : x.f2 = 0
  ·
   refine zD_ c3 ?_
   by_cases c4 : (x.f3.length : Int) = 1
   ·
    refine zD_ c4 (zO_ (by omega) (last _ ?_))
    rw [← hv, decide_eq_true c3, decide_eq_true c4, decide_eq_true (show 0 ≤ x.f2 by omega), decide_eq_true (show x.f2 ≤ 1500 by omega), if_neg (by omega)]
    simp
   ·
    refine zO_ c4 (badv ?_)
    rw [← hv, decide_eq_false c4]
    simp
  ·
   refine zO_ c3 (badv ?_)
   rw [← hv, decide_eq_false c3]
   simp
 ·
  refine zO_ c2 ?_
  rw [Bool.not_eq_true] at c2
  rw [c2] at hv
  by_cases c5 : x.f2 < 0
  ·
   refine zD_ c5 (badv ?_)
   rw [← hv, decide_eq_false (show ¬ 0 ≤ x.f2 by omega)]
   simp
  ·
   refine zO_ c5 (last _ ?_)
   rw [← hv, decide_eq_true (show 0 ≤ x.f2 by omega)]
   by_cases c6 : x.f2 > 1500
   ·
    rw [if_pos c6, decide_eq_false (show ¬ x.f2 ≤ 1500 by omega)]
    simp
   ·
    rw [if_neg c6, decide_eq_true (show x.f2 ≤ 1500 by omega)]
    simp
theorem prevN (l : List IN) (i : Nat) (h0 : 0 < i) (h : i < l.length) (hl : l.length ≤ 20) : zH_ l (wrap64 ((i : Int) - 1)) = l.getD (i - 1) zN ∧ 0 ≤ wrap64 ((i : Int) - 1) ∧ wrap64 ((i : Int) - 1) < (l.length : Int) := getD_prev l i _ h0 h (by omega)
theorem nodesRight_s (l : List IN) (hs : ∀ x ∈ l, x.f0.size ≤ 9223372036854775807 ∧ x.f3.length ≤ 9223372036854775807) : Ev (fun k => zw_.f k l) (yn_ l) := by
 unfold zw_.f yn_
 by_cases h : (l.length : Int) > 20
 ·
  refine zD_ h ?_
  rw [decide_eq_false (by omega)]
  exact Ev.now _
 refine zO_ h ?_
 rw [decide_eq_true (by omega), Bool.true_and]
 obtain ⟨K, hK⟩ := ev_all (fun (x : IN) k => zm_.f k x.f0 x.f1 x.f2 x.f3) (fun x => nodeOk x) l (fun x hx => l11Node_ev _ (hs x hx).1 (hs x hx).2)
 refine loop_all (fun k i => zw_.l0 k l i) l.length (by omega) K (nodeAt l) (fun k i hi hk hw => ?_) (fun k => by simp only [zw_.l0]; rw [if_neg (by omega)])
 have hr := hK _ (memN l i hi) k hk
 simp only [zw_.l0, rdN_nat, hr, hw, nodeAt, Option.bind_some]
 rw [if_pos (by omega), if_pos (by omega)]
 by_cases hx : nodeOk (l.getD i zN) = true
 ·
  rw [if_pos hx]
  by_cases h0 : 0 < i
  ·
   obtain ⟨h1, h2, h3⟩ := prevN l i h0 hi (by omega)
   rw [if_pos (by omega), if_pos h2, if_pos h3, h1]
   have hi0 : (i == 0) = false := beq_eq_false_iff_ne.2 (by omega)
   simp only [hx, hi0, Bool.true_and, Bool.false_or]
  ·
   obtain rfl : i = 0 := by omega
   rw [if_neg (by omega)]
   simp only [hx, Bool.true_and, beq_self_eq_true, Bool.true_or, if_true]
 ·
  rw [if_neg hx]
  rw [Bool.not_eq_true] at hx
  simp only [hx, Bool.false_and]
  rfl
theorem keys_k0 (l : List ByteArray) (hl : l.length ≤ 9223372036854775807) : Ev (fun k => zi_.keys k l) (!keysOk l) := by
 unfold zi_.keys
 have main : Evs (fun k => zi_.k0 k l 0) (fun j => decide (0 ≤ j) = !keysOk l) := by
  refine loop_evx (fun k (_ : Unit) i => zi_.k0 k l i) l.length (fun i _ => ∀ j, j < i → (((l.getD j ByteArray.empty).size : Int) = 32)) _ (fun i s hi hv => ?_) (fun s hv => ?_) () (fun j hj => absurd hj (by omega))
  ·
   by_cases c : ((l.getD i ByteArray.empty).size : Int) = 32
   ·
    refine .inl ⟨(), fun j hj => ?_, fun v h => Ev.step (fun k => ?_) h⟩
    ·
     by_cases e : j = i
     ·
      subst e
      exact c
     · exact hv j (by omega)
    ·
     simp only [zi_.k0, rdOf_getD, wnat' i _ hi hl]
     rw [if_pos (by omega), if_pos (by omega), if_pos c]
   ·
    refine .inr ⟨(i : Int), Ev.step (f := fun _ => some (i : Int)) (fun k => ?_) (Ev.now _), ?_⟩
    ·
     simp only [zi_.k0, rdOf_getD]
     rw [if_pos (by omega), if_pos (by omega), if_neg c]
    ·
     have hf : keysOk l = false := by
      rw [← keys_range, Bool.eq_false_iff]
      intro h
      rw [List.all_eq_true] at h
      exact c (of_decide_eq_true (h i (List.mem_range.2 hi)))
     show decide ((0 : Int) ≤ (i : Int)) = !keysOk l
     rw [hf, decide_eq_true (by omega)]
     rfl
  ·
   refine ⟨-1, Ev.step (f := fun _ => some (-1)) (fun k => ?_) (Ev.now _), ?_⟩
   ·
    simp only [zi_.k0]
    rw [if_neg (by omega)]
   ·
    have hf : keysOk l = true := by
     rw [← keys_range, List.all_eq_true]
     intro i hi
     exact decide_eq_true (hv i (List.mem_range.1 hi))
    rw [hf]
    rfl
 obtain ⟨j, h1, h2⟩ := main
 exact Ev.bind h1 (ev_eq h2)
theorem nodesRight_i (l : List IN) (hs : ∀ x ∈ l, x.f0.size ≤ 9223372036854775807 ∧ x.f3.length ≤ 9223372036854775807) : Ev (fun k => zi_.f k l) (yn_ l) := by
 unfold zi_.f yn_
 by_cases h : (l.length : Int) > 20
 ·
  refine zD_ h ?_
  rw [decide_eq_false (by omega)]
  exact Ev.now _
 refine zO_ h ?_
 rw [decide_eq_true (by omega), Bool.true_and]
 obtain ⟨K, hK⟩ := ev_all (fun (x : IN) k => yC_.f k x.f0) (fun x => isName x.f0 80) l (fun x hx => Ev.bind (isName_ev _ 80 (hs x hx).1) (Ev.now _))
 obtain ⟨K2, hK2⟩ := ev_all (fun (x : IN) k => zi_.keys k x.f3) (fun x => !keysOk x.f3) l (fun x hx => keys_k0 _ (hs x hx).2)
 refine loop_all (fun k i => zi_.l0 k l i) l.length (by omega) (K + K2) (nodeAt l) (fun k i hi hk hw => ?_) (fun k => by simp only [zi_.l0]; rw [if_neg (by omega)])
 have hr := hK _ (memN l i hi) k (by omega)
 have hr2 := hK2 _ (memN l i hi) k (by omega)
 simp only [zi_.l0, rdN_nat, hr, hr2, hw, Option.bind_some]
 rw [if_pos (by omega), if_pos (by omega)]
 have e : zi_.rest (l.getD i zN) = restOk (l.getD i zN) := rfl
 have hP : (isName (l.getD i zN).f0 80 && ((!decide (0 < (i : Int)) || Op.bytesLess (zH_ l (wrap64 ((i : Int) - 1))).f0.toList (l.getD i zN).f0.toList) && (!(!keysOk (l.getD i zN).f3) && zi_.rest (l.getD i zN)))) = nodeAt l i := by
  rw [e]
  unfold nodeAt nodeOk
  by_cases h0 : 0 < i
  ·
   obtain ⟨h1, h2, h3⟩ := prevN l i h0 hi (by omega)
   have hi0 : (i == 0) = false := beq_eq_false_iff_ne.2 (by omega)
   rw [h1, hi0, decide_eq_true (show (0 : Int) < (i : Int) by omega)]
   generalize isName (l.getD i zN).f0 80 = a
   generalize keysOk (l.getD i zN).f3 = b
   generalize restOk (l.getD i zN) = c
   generalize Op.bytesLess _ _ = d
   cases a <;> cases b <;> cases c <;> cases d <;> rfl
  ·
   obtain rfl : i = 0 := by omega
   rw [decide_eq_false (show ¬ (0 : Int) < ((0 : Nat) : Int) by omega)]
   generalize isName (l.getD 0 zN).f0 80 = a
   generalize keysOk (l.getD 0 zN).f3 = b
   generalize restOk (l.getD 0 zN) = c
   cases a <;> cases b <;> cases c <;> rfl
 rw [hP]
theorem or128 (y : Nat) (h : y < 128) : Go.bits .or .u8 (((y : Nat) : Int) % 256) 128 = ((y + 128 : Nat) : Int) := by
 have e : ((y : Nat) : Int) % 256 = (y : Int) := by omega
 rw [e]
 refine (u8_or_nat y 128 (by omega) (by omega)).trans ?_
 have := nat_join 7 128 y (by decide) (by omega)
 rw [Nat.or_comm, this]
 congr 1
 omega
theorem putNum_i_l0 (m : Nat) : ∀ (v k : Nat) (acc : List Int), v < 128 ^ (m + 1) → v < 18446744073709551616 → acc.length + m + 1 ≤ 140737488355328 → m < k → zN_.l0 k (v : Int) acc = some (strOfNums (acc ++ numL v)) := by
 induction m with
 | zero =>
  intro v k acc hv hv2 ha hk
  obtain ⟨k, rfl⟩ : ∃ m, k = m + 1 := ⟨k - 1, by omega⟩
  have hv' : v < 128 := by simpa using hv
  simp only [zN_.l0]
  rw [if_neg (by omega), if_pos (by omega), numL_lt hv']
  congr 4
  omega
 | succ m ih =>
  intro v k acc hv hv2 ha hk
  obtain ⟨k, rfl⟩ : ∃ m, k = m + 1 := ⟨k - 1, by omega⟩
  by_cases h : v < 128
  ·
   simp only [zN_.l0]
   rw [if_neg (by omega), if_pos (by omega), numL_lt h]
   congr 4
   omega
  ·
   have e1 : (v : Int) / 128 = ((v / 128 : Nat) : Int) := by omega
   have e2 : Go.bits .or .u8 ((Go.bits .and .u64 (v : Int) 127) % 256) 128 = ((v % 128 + 128 : Nat) : Int) := by
    have e3 : Go.bits .and .u64 (v : Int) 127 = ((v % 128 : Nat) : Int) := by
     have := u64_and_nat v 127 hv2 (by decide)
     rw [nat_mask7] at this
     exact this
    rw [e3, or128 _ (by omega)]
   simp only [zN_.l0, e1, e2]
   rw [if_pos (by omega), if_pos (by omega), ih (v / 128) k _ (by rw [Nat.div_lt_iff_lt_mul (by decide)]; rw [← Nat.pow_succ]; exact hv) (by omega) (by simp; omega) (by omega), numL_ge h]
   simp
theorem fold_bits (n : Int) (h0 : -9223372036854775808 ≤ n) (h1 : n ≤ 9223372036854775807) : Go.bits .xor .u64 (IntKind.u64.wrap ((IntKind.u64.wrap n) * 2)) (IntKind.u64.wrap (n / 9223372036854775808)) = ((fold n : Nat) : Int) := by
 simp only [IntKind.wrap_u64]
 unfold fold
 by_cases h : n < 0
 ·
  rw [if_pos h]
  have e1 : n / 9223372036854775808 % 18446744073709551616 = ((18446744073709551615 : Nat) : Int) := by omega
  have e2 : n % 18446744073709551616 * 2 % 18446744073709551616 = (((n % 18446744073709551616 * 2 % 18446744073709551616).toNat : Nat) : Int) := by omega
  rw [e1, e2, u64_xor_nat _ _ (by omega) (by omega), xor_ones _ (by omega)]
  omega
 ·
  rw [if_neg h]
  have e1 : n / 9223372036854775808 % 18446744073709551616 = ((0 : Nat) : Int) := by omega
  have e2 : n % 18446744073709551616 * 2 % 18446744073709551616 = (((2 * n).toNat : Nat) : Int) := by omega
  rw [e1, e2, u64_xor_nat _ _ (by omega) (by omega)]
  simp
theorem putNum_i (n : Int) (h0 : -9223372036854775808 ≤ n) (h1 : n ≤ 9223372036854775807) (k : Nat) (hk : 10 ≤ k) : zN_.f k n = some (yb_ n) := by
 have hf := fold_lt n h0 h1
 unfold zN_.f
 rw [fold_bits n h0 h1, putNum_i_l0 9 _ k _ (Nat.lt_of_lt_of_le hf (by decide)) hf (by simp) (by omega)]
 simp [yb_]
theorem sn_bytesOf (t : ByteArray) : strOfNums (bytesOf t) = t := by
 apply bl_inj
 rw [bl_strOfNums]
 ·
  unfold bytesOf bl
  rw [List.map_map]
  rfl
 ·
  intro x hx
  unfold bytesOf at hx
  obtain ⟨c, _, rfl⟩ := List.mem_map.1 hx
  have := c.toNat_lt
  omega
theorem xb_ (a b : ByteArray) : bytesOf (a ++ b) = bytesOf a ++ bytesOf b := by
 unfold bytesOf
 rw [ByteArray.data_append, Array.toList_append, List.map_append]
theorem xF_ (t : ByteArray) : (bytesOf t).length = t.size := by
 unfold bytesOf
 rw [List.length_map]
 rfl
/-! ### the text of one node -/
theorem join_flat (xs : List (List UInt8)) : Lib.join xs [] = xs.flatten := by
 cases xs with
 | nil => rfl
 | cons x r =>
  rw [Lib.join_cons]
  simp [Lib.joinTail]
theorem cat_bytes (l : List ByteArray) : bytesOf (yM_ l) = (l.map bytesOf).flatten := by
 unfold yM_ bytesOf
 rw [join_flat]
 simp only [List.map_flatten, List.map_map]
 rfl
theorem flat_len (l : List ByteArray) (h : ∀ x ∈ l, x.size = 32) : ((l.map bytesOf).flatten).length = 32 * l.length := by
 induction l with
 | nil => rfl
 | cons x l ih =>
  rw [List.map_cons, List.flatten_cons, List.length_append, ih (fun y hy => h y (by simp [hy])), xF_, h x (by simp), List.length_cons]
  omega
theorem getD_get (l : List ByteArray) (j : Nat) (hj : j < l.length) : l.getD j ByteArray.empty = l[j] := by
 rw [List.getD_eq_getElem?_getD, List.getElem?_eq_getElem hj]
 rfl
theorem take_flat (ks : List ByteArray) (j : Nat) (hj : j < ks.length) : ((ks.take j).map bytesOf).flatten ++ bytesOf (ks.getD j ByteArray.empty) = ((ks.take (j + 1)).map bytesOf).flatten := by
 rw [List.take_add_one, List.getElem?_eq_getElem hj, List.map_append, List.flatten_append, getD_get _ _ hj]
 simp
def dirN (b : Bool) : Int := if b = true then 1 else 0
def nodeB (x : IN) : ByteArray := yb_ (x.f0.size : Int) ++ x.f0 ++ yb_ (dirN x.f1) ++ yb_ x.f2 ++ yb_ (x.f3.length : Int) ++ yM_ x.f3
structure Fit (x : IN) : Prop where
 name : x.f0.size ≤ 80
 keys : ∀ s ∈ x.f3, s.size = 32
 many : x.f3.length ≤ 100
 s0 : 0 ≤ x.f2
 s1 : x.f2 ≤ 1500
theorem fit_of (x : IN) (h : nodeOk x = true) : Fit x := by
 unfold nodeOk isName keysOk restOk at h
 simp only [Bool.and_eq_true, decide_eq_true_eq, List.all_eq_true, Bool.not_eq_true', Bool.or_eq_false_iff, decide_eq_false_iff_not, Bool.not_eq_false'] at h
 obtain ⟨h1, h2, h3⟩ := h
 refine ⟨by omega, fun s hs => by have := h2 s hs; omega, by omega, ?_, ?_⟩
 ·
  have := h3.1.2
  first | omega | (have q := this.1; omega)
 ·
  have := h3.1.2
  first | omega | (have q := this.2; omega)
theorem dirN_rng (b : Bool) : -9223372036854775808 ≤ dirN b ∧ dirN b ≤ 9223372036854775807 := by cases b <;> decide
theorem cat_size (x : IN) (h : Fit x) : (yM_ x.f3).size ≤ 3200 := by
 rw [← xF_, cat_bytes, flat_len _ h.keys]
 have := h.many
 omega
structure Sizes (x : IN) : Prop where
 a : (yb_ (x.f0.size : Int)).size ≤ 10
 b : (yb_ (dirN x.f1)).size ≤ 10
 c : (yb_ x.f2).size ≤ 10
 d : (yb_ (x.f3.length : Int)).size ≤ 10
theorem sizes_of (x : IN) (h : Fit x) : Sizes x :=
 ⟨(xl_ _ (by omega) (by have := h.name; omega)).1, (xl_ _ (dirN_rng _).1 (dirN_rng _).2).1, (xl_ _ (by have := h.s0; omega) (by have := h.s1; omega)).1, (xl_ _ (by omega) (by have := h.many; omega)).1⟩
theorem nodeB_size (x : IN) (h : Fit x) : (nodeB x).size ≤ 4000 := by
 have z := sizes_of x h
 have := z.a; have := z.b; have := z.c; have := z.d; have := cat_size x h; have := h.name
 unfold nodeB
 simp only [ByteArray.size_append]
 omega
/-! ### the implementation -/
theorem one_i (x : IN) (h : Fit x) : Ev (fun k => zE_.one k x) (nodeB x) := by
 have z := sizes_of x h
 have za := z.a; have zb := z.b; have zc := z.c; have zd := z.d; have ze := cat_size x h; have zf := h.name
 have zm := h.many
 unfold zE_.one
 have ht : Ev (fun k => yH_.f k x.f0) (yb_ (x.f0.size : Int) ++ x.f0) := by
  unfold yH_.f yj_.f
  exact y1_ rfl (Ev.bind (ev_from 10 (fun k hk => putNum_i _ (by omega) (by omega) k hk)) (zD_ (by omega) (Ev.now _)))
 refine Ev.bind ht (Ev.bind (ev_from 10 (fun k hk => putNum_i (dirN x.f1) (dirN_rng _).1 (dirN_rng _).2 k hk)) (Ev.bind (ev_from 10 (fun k hk => putNum_i _ (by have := h.s0; omega) (by have := h.s1; omega) k hk)) (Ev.bind (ev_from 10 (fun k hk => putNum_i _ (by omega) (by omega) k hk)) (zD_ ⟨by omega, ?_⟩ (Ev.now _)))))
 simp only [ByteArray.size_append]
 omega
def upTo (l : List IN) : Nat → ByteArray
 | 0 => yb_ (l.length : Int)
 | i + 1 => upTo l i ++ nodeB (l.getD i zN)
theorem upTo_size (l : List IN) (hl : l.length ≤ 20) (hf : ∀ x ∈ l, Fit x) : ∀ i, i ≤ l.length → (upTo l i).size ≤ 10 + 4000 * i
 | 0, _ => (xl_ _ (by omega) (by omega)).1
 | i + 1, hi => by
  have h1 := upTo_size l hl hf i (by omega)
  have h2 := nodeB_size _ (hf _ (memN l i (by omega)))
  unfold upTo
  rw [ByteArray.size_append]
  omega
theorem ntext_i (l : List IN) (hl : l.length ≤ 20) (hf : ∀ x ∈ l, Fit x) : Ev (fun k => zE_.f k l) (upTo l l.length) := by
 have hn := xl_ (l.length : Int) (by omega) (by omega)
 unfold zE_.f
 refine Ev.bind (ev_from 10 (fun k hk => putNum_i _ (by omega) (by omega) k hk)) (zD_ (by omega) (Evs.ev ?_))
 refine loop_evx (fun k (s : ByteArray) i => zE_.l0 k l s i) l.length (fun i s => s = upTo l i) _ (fun i s hi hv => ?_) (fun s hv => ?_) _ rfl
 ·
  subst hv
  have hs := upTo_size l hl hf i (by omega)
  have hx := hf _ (memN l i hi)
  have hz := nodeB_size _ hx
  refine .inl ⟨upTo l (i + 1), rfl, fun v h => ?_⟩
  refine Ev.step (fun k => by simp only [zE_.l0]; rfl) (zD_ (by omega) (zD_ (by omega) ?_))
  simp only [rdN_nat, wnat' i _ hi (show l.length ≤ 9223372036854775807 by omega)]
  exact Ev.bind (one_i _ hx) (zD_ (by omega) h)
 ·
  subst hv
  exact ⟨_, Ev.step (f := fun _ => some _) (fun k => by simp only [zE_.l0]; rw [if_neg (by omega)]) (Ev.now _), rfl⟩
/-! ### the reference -/
theorem putText_s (t : ByteArray) (h : t.size ≤ 80) : Ev (fun k => yF_.f k t) (yb_ (t.size : Int) ++ t) := by
 have hz := xl_ (t.size : Int) (by omega) (by omega)
 exact zO_ (by omega) (Ev.bind (ev_from 10 (fun k hk => putNum_s _ (by omega) (by omega) k hk)) (zD_ (by omega) (Ev.now _)))
theorem keys_s (l : List IN) (i : Nat) (hi : i < l.length) (xs : List Int) (hx : Fit (l.getD i zN)) (hlen : xs.length ≤ 1000000) (v : ByteArray)
 (h : Ev (fun k => zt_.l0 k l (xs ++ ((l.getD i zN).f3.map bytesOf).flatten) (wrap64 ((i : Int) + 1))) v) : Ev (fun k => zt_.l1 k l xs (i : Int) 0) v := by
 have hm := hx.many
 refine Evs.ev ?_
 refine loop_evx (fun k (s : List Int) j => zt_.l1 k l s (i : Int) j) (l.getD i zN).f3.length (fun j s => s = xs ++ (((l.getD i zN).f3.take j).map bytesOf).flatten) _ (fun j s hj hv => ?_) (fun s hv => ?_) _ (by simp)
 ·
  subst hv
  have hmem : (l.getD i zN).f3.getD j ByteArray.empty ∈ (l.getD i zN).f3 := by
   rw [getD_get _ _ hj]
   exact List.getElem_mem hj
  have hk := hx.keys _ hmem
  have hfl := flat_len ((l.getD i zN).f3.take j) (fun y hy => hx.keys y (List.mem_of_mem_take hy))
  have htl : ((l.getD i zN).f3.take j).length ≤ j := List.length_take_le _ _
  refine .inl ⟨_, rfl, fun v h => ?_⟩
  refine Ev.step (fun k => by simp only [zt_.l1]; rfl) (zD_ (by omega) (zD_ (by omega) ?_))
  simp only [rdN_nat, rdOf_getD, wnat' j _ hj (show (l.getD i zN).f3.length ≤ 9223372036854775807 by omega)]
  refine zD_ (by omega) (zD_ (by omega) (zD_ ?_ ?_))
  ·
   rw [List.length_append, hfl]
   omega
  ·
   have e : xs ++ (((l.getD i zN).f3.take j).map bytesOf).flatten ++ bytesOf ((l.getD i zN).f3.getD j ByteArray.empty) = xs ++ (((l.getD i zN).f3.take (j + 1)).map bytesOf).flatten := by
    rw [List.append_assoc, take_flat _ _ hj]
   rw [e]
   exact h
 ·
  subst hv
  rw [List.take_length]
  refine ⟨v, Ev.step (fun k => by simp only [zt_.l1]; rfl) (zD_ (by omega) (zD_ (by omega) ?_)), rfl⟩
  simp only [rdN_nat]
  exact zO_ (by omega) h
theorem ntext_s (l : List IN) (hl : l.length ≤ 20) (hf : ∀ x ∈ l, Fit x) : Ev (fun k => zt_.f k l) (upTo l l.length) := by
 have hn := xl_ (l.length : Int) (by omega) (by omega)
 unfold zt_.f
 refine Ev.bind (ev_from 10 (fun k hk => putNum_s _ (by omega) (by omega) k hk)) (zD_ (by omega) (Evs.ev ?_))
 refine loop_evx (fun k (s : List Int) i => zt_.l0 k l s i) l.length (fun i s => s = bytesOf (upTo l i)) _ (fun i s hi hv => ?_) (fun s hv => ?_) _ rfl
 ·
  subst hv
  have hs := upTo_size l hl hf i (by omega)
  have hx := hf _ (memN l i hi)
  have z := sizes_of _ hx
  have za := z.a; have zb := z.b; have zc := z.c; have zd := z.d; have ze := cat_size _ hx; have zf := hx.name; have zm := hx.many
  refine .inl ⟨_, rfl, fun v h => ?_⟩
  have key : Ev (fun k => zt_.j1 k l (bytesOf (upTo l i) ++ bytesOf (yb_ ((l.getD i zN).f0.size : Int) ++ (l.getD i zN).f0)) (i : Int) (dirN (l.getD i zN).f1)) v := by
   refine Ev.step (fun k => by simp only [zt_.j1]; rfl) (Ev.bind (ev_from 10 (fun k hk => putNum_s _ (dirN_rng _).1 (dirN_rng _).2 k hk)) (zD_ ?_ ?_))
   ·
    simp only [List.length_append, xF_, ByteArray.size_append]
    omega
   refine y1_ rfl ?_
   refine zD_ (by omega) (zD_ (by omega) ?_)
   simp only [rdN_nat]
   refine Ev.bind (ev_from 10 (fun k hk => putNum_s _ (by have := hx.s0; omega) (by have := hx.s1; omega) k hk)) (zD_ ?_ ?_)
   ·
    simp only [List.length_append, xF_, ByteArray.size_append]
    omega
   refine y1_ rfl ?_
   refine Ev.bind (ev_from 10 (fun k hk => putNum_s _ (by omega) (by omega) k hk)) (zD_ ?_ ?_)
   ·
    simp only [List.length_append, xF_, ByteArray.size_append]
    omega
   ·
    refine keys_s l i hi _ hx ?_ v ?_
    ·
     simp only [List.length_append, xF_, ByteArray.size_append]
     omega
    ·
     rw [wnat' i _ hi (show l.length ≤ 9223372036854775807 by omega), ← cat_bytes, ← xb_, ← xb_, ← xb_, ← xb_, ← xb_]
     have e : upTo l (i + 1) = upTo l i ++ (yb_ ((l.getD i zN).f0.size : Int) ++ (l.getD i zN).f0) ++ yb_ (dirN (l.getD i zN).f1) ++ yb_ (l.getD i zN).f2 ++ yb_ ((l.getD i zN).f3.length : Int) ++ yM_ (l.getD i zN).f3 := by
      rw [upTo, nodeB]
      simp only [ByteArray.append_assoc]
     rw [← e]
     exact h
  refine Ev.step (fun k => by simp only [zt_.l0]; rfl) (zD_ (by omega) (zD_ (by omega) ?_))
  simp only [rdN_nat]
  refine Ev.bind (putText_s _ zf) (zD_ ?_ (y1_ rfl ?_))
  ·
   rw [xF_, ByteArray.size_append]
   omega
  ·
   by_cases c : (l.getD i zN).f1 = true
   ·
    refine zD_ c ?_
    rw [show (1 : Int) = dirN (l.getD i zN).f1 by rw [c]; rfl]
    exact key
   ·
    refine zO_ c ?_
    rw [show (0 : Int) = dirN (l.getD i zN).f1 by rw [Bool.eq_false_iff.2 c]; rfl]
    exact key
 ·
  subst hv
  refine ⟨_, Ev.step (f := fun _ => some (strOfNums (bytesOf (upTo l l.length)))) (fun k => by simp only [zt_.l0]; rw [if_neg (by omega)]) (Ev.now _), ?_⟩
  exact sn_bytesOf _
def textOf (l : List IN) : ByteArray := if yn_ l = true then upTo l l.length else ⟨#[]⟩
theorem fits (l : List IN) (h : yn_ l = true) : l.length ≤ 20 ∧ ∀ x ∈ l, Fit x := by
 unfold yn_ at h
 simp only [Bool.and_eq_true, decide_eq_true_eq, List.all_eq_true] at h
 refine ⟨h.1, fun x hx => ?_⟩
 obtain ⟨i, hi, rfl⟩ := List.mem_iff_getElem.1 hx
 have h2 := h.2 i (List.mem_range.2 hi)
 unfold nodeAt at h2
 rw [Bool.and_eq_true] at h2
 have h3 := h2.1
 rw [List.getD_eq_getElem?_getD, List.getElem?_eq_getElem hi] at h3
 exact fit_of _ h3
theorem nbytes_s (l : List IN) (hs : ∀ x ∈ l, x.f0.size ≤ 9223372036854775807 ∧ x.f3.length ≤ 9223372036854775807) : Ev (fun k => z4_.f k l) (textOf l) := by
 unfold z4_.f textOf
 by_cases c : (l.length : Int) > 400
 ·
  refine zD_ c (ev_eq ?_)
  rw [if_neg]
  intro h
  have := (fits l h).1
  omega
 refine zO_ c (Ev.bind (nodesRight_s l hs) ?_)
 by_cases h : yn_ l = true
 ·
  obtain ⟨h1, h2⟩ := fits l h
  rw [if_pos h]
  exact zD_ h (Ev.bind (ntext_s l h1 h2) (Ev.now _))
 ·
  rw [if_neg h]
  exact zO_ h (Ev.now _)
theorem nbytes_i (l : List IN) (hs : ∀ x ∈ l, x.f0.size ≤ 9223372036854775807 ∧ x.f3.length ≤ 9223372036854775807) : Ev (fun k => yh_.f k l) (textOf l) := by
 unfold yh_.f y8_.f textOf
 refine y1_ rfl ?_
 by_cases c : (l.length : Int) > 400
 ·
  refine zD_ (decide_eq_true c) (ev_eq ?_)
  rw [if_neg]
  intro h
  have := (fits l h).1
  omega
 refine zO_ (by simpa using c) (Ev.bind (nodesRight_i l hs) ?_)
 by_cases h : yn_ l = true
 ·
  obtain ⟨h1, h2⟩ := fits l h
  rw [if_pos h]
  exact zD_ h (Ev.bind (ntext_i l h1 h2) (Ev.now _))
 ·
  rw [if_neg h]
  exact zO_ h (Ev.now _)
theorem wnat (i : Nat) (hi : i ≤ 9223372036854775806) : wrap64 ((i : Int) + 1) = ((i + 1 : Nat) : Int) := by rw [w64 (by omega) (by omega)]; omega
theorem ex_self (x : ByteArray) (q : Nat) : x.extract q q = (⟨#[]⟩ : ByteArray) := by
 apply bl_inj
 rw [bl_extract, List.drop_take, Nat.sub_self, List.take_zero]
 rfl
theorem app_nil (a : ByteArray) : a ++ (⟨#[]⟩ : ByteArray) = a := by
 apply bl_inj
 rw [xg_]
 exact List.append_nil _
theorem nil_app' (a : ByteArray) : (⟨#[]⟩ : ByteArray) ++ a = a := by
 apply bl_inj
 rw [xg_]
 rfl
theorem bytesOf_inj {a b : ByteArray} (h : bytesOf a = bytesOf b) : a = b := by rw [← sn_bytesOf a, ← sn_bytesOf b, h]
theorem cat_nil : yM_ [] = (⟨#[]⟩ : ByteArray) := rfl
theorem cat_cons (t : ByteArray) (l : List ByteArray) : yM_ (t :: l) = t ++ yM_ l := by
 apply bytesOf_inj
 rw [xb_, cat_bytes, cat_bytes]
 rfl
theorem cat_snoc (l : List ByteArray) (t : ByteArray) : yM_ (l ++ [t]) = yM_ l ++ t := by
 apply bytesOf_inj
 rw [xb_, cat_bytes, cat_bytes]
 simp
def catN : List IN → ByteArray
 | [] => ⟨#[]⟩
 | p :: r => nodeB p ++ catN r
theorem catN_snoc (l : List IN) (p : IN) : catN (l ++ [p]) = catN l ++ nodeB p := by
 induction l with
 | nil =>
  show nodeB p ++ (⟨#[]⟩ : ByteArray) = (⟨#[]⟩ : ByteArray) ++ nodeB p
  rw [app_nil, nil_app']
 | cons a l ih =>
  show nodeB a ++ catN (l ++ [p]) = (nodeB a ++ catN l) ++ nodeB p
  rw [ih, ByteArray.append_assoc]
theorem upTo_take (l : List IN) : ∀ i, i ≤ l.length → upTo l i = yb_ (l.length : Int) ++ catN (l.take i)
 | 0, _ => (app_nil _).symm
 | i + 1, h => by
  rw [upTo, upTo_take l i (by omega), List.take_add_one, List.getElem?_eq_getElem (by omega), List.getD_eq_getElem?_getD, List.getElem?_eq_getElem (by omega)]
  show _ = _ ++ catN (l.take i ++ [l[i]])
  rw [catN_snoc, ByteArray.append_assoc]
  rfl
theorem upTo_cat (l : List IN) : upTo l l.length = yb_ (l.length : Int) ++ catN l := by
 rw [upTo_take l l.length (Nat.le_refl _), List.take_length]
structure Okp (x : ByteArray) (p : IN) : Prop where
 name : p.f0.size ≤ x.size
 keys : p.f3.length ≤ 101
def sFin (x : ByteArray) (l : List IN) (q : Nat) (b : Bool) : List IN × Bool := if b = true then (l, false) else if q = x.size then (l, yn_ l) else (l, false)
def iFin (x : ByteArray) (n : Int) (l : List IN) (q : Nat) (b : Bool) : List IN × Bool := if n = (l.length : Int) then (if b = true then ([], false) else if q = x.size then (if yn_ l = true then (l, true) else ([], false)) else ([], false)) else ([], false)
theorem okS (x : ByteArray) (hx : x.size ≤ 20000) (l : List IN) (h : ∀ p ∈ l, Okp x p) : ∀ p ∈ l, p.f0.size ≤ 9223372036854775807 ∧ p.f3.length ≤ 9223372036854775807 := fun p hp => by
 have h1 := (h p hp).name
 have h2 := (h p hp).keys
 omega
theorem sFin_ev (x : ByteArray) (hx : x.size ≤ 20000) (l : List IN) (n : Int) (q : Nat) (b : Bool) (hs : ∀ p ∈ l, Okp x p) : Ev (fun k => zf_.j3 k x l n false x (q : Int) b) (sFin x l q b) := by
 refine Ev.step (f := fun k => if b = true then some (l, false) else if (q : Int) = (x.size : Int) then ((zw_.f k l).bind fun t => some (l, t)) else some (l, false)) (fun k => by simp only [zf_.j3]; rw [if_neg (by simp)]) ?_
 unfold sFin
 by_cases hb : b = true
 · rw [if_pos hb]; exact zD_ hb (Ev.now _)
 rw [if_neg hb]
 refine zO_ hb ?_
 by_cases hq : q = x.size
 ·
  rw [if_pos hq]
  exact zD_ (by omega) (Ev.bind (nodesRight_s l (okS x hx l hs)) (Ev.now _))
 ·
  rw [if_neg hq]
  exact zO_ (by omega) (Ev.now _)
theorem iFin_ev (x : ByteArray) (hx : x.size ≤ 20000) (l : List IN) (n i : Int) (q : Nat) (b : Bool) (hs : ∀ p ∈ l, Okp x p) : Ev (fun k => ze_.j1 k n l i false x (q : Int) b) (iFin x n l q b) := by
 refine Ev.step (f := fun k => ((some (l.length : Int)).bind fun t => (if n = t then ((yt_.f x (q : Int) b).bind fun bt => (if bt.1 = true then ((zi_.f k l).bind fun t => (if t = true then (some (l, true)) else (some (([] : List IN), false)))) else (some (([] : List IN), false)))) else (some (([] : List IN), false))))) (fun k => by simp only [ze_.j1]; rw [if_neg (by simp)]; rfl) ?_
 unfold iFin
 refine y1_ (a := (l.length : Int)) rfl ?_
 by_cases hn : n = (l.length : Int)
 rotate_left
 · rw [if_neg hn]; exact zO_ hn (Ev.now _)
 rw [if_pos hn]
 refine zD_ hn ?_
 by_cases hb : b = true
 ·
  rw [if_pos hb]
  refine y1_ (a := (false, x, (q : Int), b)) (by unfold yt_.f; rw [if_pos hb]) ?_
  exact zO_ (by simp) (Ev.now _)
 rw [if_neg hb]
 refine y1_ (a := (((q : Int) == (x.size : Int)), x, (q : Int), b)) (by unfold yt_.f yj_.f; rw [if_neg hb]; rfl) ?_
 by_cases hq : q = x.size
 rotate_left
 · rw [if_neg hq]; exact zO_ (by simp; omega) (Ev.now _)
 rw [if_pos hq]
 refine zD_ (by simp; omega) (Ev.bind (nodesRight_i l (okS x hx l hs)) ?_)
 by_cases hr : yn_ l = true
 · exact zD_ hr (ev_eq (by rw [if_pos hr]))
 · exact zO_ hr (ev_eq (by rw [if_neg hr]))
/-! ### one node -/
theorem bytes_one (x : ByteArray) (hx : x.size ≤ 20000) (q : Nat) (b : Bool) (hq : q ≤ x.size) : ∃ (t : ByteArray) (q' : Nat) (b' : Bool), q' ≤ x.size ∧ (b' = false → b = false ∧ q ≤ q' ∧ x.extract q q' = t) ∧ yy_.f x (q : Int) b 32 = some (t, x, (q' : Int), b') ∧ yK_.f x (q : Int) b 32 = some (t, x, (q' : Int), b') := by
 have a1 := rBytes_at x q b 32 hq
 have b1s := bytes_s x hx q b 32 (by decide) hq
 have b1i := bytes_i x hx q b 32 (by decide) hq
 obtain ⟨t1, s1⟩ : ∃ t, t = rBytes x q b 32 := ⟨_, rfl⟩
 rw [← s1] at a1 b1s b1i
 obtain ⟨key, x1, p1, f1⟩ := t1
 obtain ⟨q1, g1, e1, h1⟩ := a1
 simp only [Prod.mk.injEq] at e1
 obtain ⟨rfl, rfl, rfl⟩ := e1
 refine ⟨key, q1, f1, h1, fun e => ?_, b1s, b1i⟩
 subst e
 obtain ⟨z1, z2, z3, z4⟩ := rBytes_back x1 q b 32 key q1 x1 s1.symm
 exact ⟨z1, by omega, z4⟩
theorem keys_both (x : ByteArray) (hx : x.size ≤ 20000) (nm : ByteArray) (d : Bool) (sz : Int) : ∀ (m : Nat) (ks : List ByteArray) (q : Nat) (b : Bool), q ≤ x.size → ks.length + m ≤ 100 →
 ∃ (ks' : List ByteArray) (q' : Nat) (b' : Bool), q' ≤ x.size ∧ ks'.length ≤ 100 ∧ (b' = false → b = false ∧ q ≤ q' ∧ ks'.length = ks.length + m ∧ yM_ ks' = yM_ ks ++ x.extract q q') ∧
  (∀ (l : List IN) (n : Int) v, l.length < 2513169434916 → Ev (fun k => zf_.l0 k x (l ++ [⟨nm, d, sz, ks'⟩]) (wrap64 (n - 1)) x (q' : Int) b') v → Ev (fun k => zf_.l1 k x l n (m : Int) x (q : Int) b nm d sz ks) v) ∧
  (∀ (l : List IN) (many i : Int) v, l.length < 2513169434916 → Ev (fun k => ze_.l0 k many (l ++ [⟨nm, d, sz, ks'⟩]) (wrap64 (i + 1)) x (q' : Int) b') v → Ev (fun k => ze_.l1 k many l i ((ks.length + m : Nat) : Int) (ks.length : Int) x (q : Int) b nm d sz ks) v) := by
 intro m
 induction m with
 | zero =>
  intro ks q b hq hk
  refine ⟨ks, q, b, hq, by omega, fun e => ⟨e, Nat.le_refl _, rfl, by rw [ex_self, app_nil]⟩, fun l n v hl h => ?_, fun l many i v hl h => ?_⟩
  · exact Ev.step (fun k => by simp only [zf_.l1]; rw [if_neg (by omega), if_pos hl]) h
  ·
   refine Ev.step (fun k => ?_) h
   simp only [ze_.l1]
   rw [if_neg (by omega)]
   cases b with
   | true => rw [if_pos rfl, if_pos hl]
   | false =>
    rw [if_neg (by simp)]
    unfold yq_.f
    simp only [Option.bind_some]
    rw [if_pos hl]
    simp
 | succ m ih =>
  intro ks q b hq hk
  cases b with
  | true =>
   refine ⟨ks, q, true, hq, by omega, fun e => by simp at e, fun l n v hl h => ?_, fun l many i v hl h => ?_⟩
   · exact Ev.step (fun k => by simp only [zf_.l1]; rw [if_pos (by omega), if_pos trivial, if_pos hl]) h
   · exact Ev.step (fun k => by simp only [ze_.l1]; rw [if_pos (by omega), if_pos (by omega), if_pos trivial, if_pos hl]) h
  | false =>
   obtain ⟨t, q1, b1, h1, tr, hs, hi⟩ := bytes_one x hx q false hq
   obtain ⟨ks', q', b', r1, r2, rt, r3, r4⟩ := ih (ks ++ [t]) q1 b1 h1 (by simp; omega)
   have trc : b' = false → false = false ∧ q ≤ q' ∧ ks'.length = ks.length + (m + 1) ∧ yM_ ks' = yM_ ks ++ x.extract q q' := by
    intro e
    obtain ⟨z1, z2, z3, z4⟩ := rt e
    obtain ⟨_, y2, y3⟩ := tr z1
    refine ⟨rfl, by omega, by rw [z3]; simp; omega, ?_⟩
    rw [z4, cat_snoc, ← y3, ByteArray.append_assoc, ex_cat x _ _ _ y2 z2 r1]
   have e1 : wrap64 (((m + 1 : Nat) : Int) - 1) = (m : Int) := by rw [w64 (by omega) (by omega)]; omega
   refine ⟨ks', q', b', r1, r2, trc, fun l n v hl h => ?_, fun l many i v hl h => ?_⟩
   ·
    refine Ev.step (fun k => ?_) (r3 l n v hl h)
    simp only [zf_.l1]
    rw [if_pos (by omega), if_neg (by simp), hs]
    simp only [Option.bind_some, e1]
    rw [if_pos (by omega)]
   ·
    refine Ev.step (fun k => ?_) (r4 l many i v hl h)
    simp only [ze_.l1]
    rw [if_pos (by omega), if_pos (by omega), if_neg (by simp), hi]
    simp only [Option.bind_some]
    rw [if_pos (by omega), wnat ks.length (by omega)]
    simp only [List.length_append, List.length_singleton]
    rw [show ks.length + 1 + m = ks.length + (m + 1) by omega]
theorem keys_many (x : ByteArray) (hx : x.size ≤ 20000) (nm : ByteArray) (d : Bool) (sz kc : Int) (hkc : kc > 100) : ∀ (m : Nat) (ks : List ByteArray) (q : Nat) (b : Bool), q ≤ x.size → ks.length + m = 101 →
 ∃ (ks' : List ByteArray) (q' : Nat) (b' : Bool), q' ≤ x.size ∧ ks'.length ≤ 101 ∧ (b' = true ∨ ks'.length = 101) ∧
  (∀ (l : List IN) (many i : Int) v, l.length < 2513169434916 → Ev (fun k => ze_.l0 k many (l ++ [⟨nm, d, sz, ks'⟩]) (wrap64 (i + 1)) x (q' : Int) b') v → Ev (fun k => ze_.l1 k many l i kc (ks.length : Int) x (q : Int) b nm d sz ks) v) := by
 intro m
 induction m with
 | zero =>
  intro ks q b hq hk
  cases b with
  | true =>
   refine ⟨ks, q, true, hq, by omega, .inl rfl, fun l many i v hl h => Ev.step (fun k => ?_) h⟩
   simp only [ze_.l1]
   by_cases c : (ks.length : Int) < kc
   · rw [if_pos c, if_neg (by omega), if_pos trivial, if_pos hl]
   · rw [if_neg c, if_pos trivial, if_pos hl]
  | false =>
   refine ⟨ks, q, (kc != (ks.length : Int)), hq, by omega, .inr (by omega), fun l many i v hl h => Ev.step (fun k => ?_) h⟩
   simp only [ze_.l1, yq_.f, Option.bind_some]
   by_cases c : (ks.length : Int) < kc
   · rw [if_pos c, if_neg (by omega), if_neg (by simp), if_pos hl]
   · rw [if_neg c, if_neg (by simp), if_pos hl]
 | succ m ih =>
  intro ks q b hq hk
  cases b with
  | true =>
   refine ⟨ks, q, true, hq, by omega, .inl rfl, fun l many i v hl h => Ev.step (fun k => ?_) h⟩
   simp only [ze_.l1]
   rw [if_pos (by omega), if_pos (by omega), if_pos trivial, if_pos hl]
  | false =>
   obtain ⟨t, q1, b1, h1, _, hs, hi⟩ := bytes_one x hx q false hq
   obtain ⟨ks', q', b', r1, r2, r3, r4⟩ := ih (ks ++ [t]) q1 b1 h1 (by simp; omega)
   refine ⟨ks', q', b', r1, r2, r3, fun l many i v hl h => Ev.step (fun k => ?_) (r4 l many i v hl h)⟩
   simp only [ze_.l1]
   rw [if_pos (by omega), if_pos (by omega), if_neg (by simp), hi]
   simp only [Option.bind_some]
   rw [if_pos (by omega), wnat ks.length (by omega)]
   simp only [List.length_append, List.length_singleton]
theorem spec_bad (x : ByteArray) (nm : ByteArray) (d b : Bool) (sz kc n : Int) (l : List IN) (q : Nat) (v) (hl : l.length < 2513169434916) (h : Ev (fun k => zf_.l0 k x (l ++ [⟨nm, d, sz, []⟩]) (wrap64 (n - 1)) x (q : Int) true) v) : Ev (fun k => zf_.j4 k x l n kc true x (q : Int) b nm d sz) v := by
 refine Ev.step (f := fun k => zf_.j5 k x l n kc x (q : Int) true nm d sz) (fun k => by simp only [zf_.j4]; exact if_pos trivial) ?_
 refine Ev.step (f := fun k => zf_.l1 k x l n kc x (q : Int) true nm d sz []) (fun k => by simp only [zf_.j5]) ?_
 refine Ev.step (fun k => ?_) h
 simp only [zf_.l1]
 by_cases c : kc > 0
 · rw [if_pos c, if_pos trivial, if_pos hl]
 · rw [if_neg c, if_pos hl]
theorem impl_bad (x : ByteArray) (nm : ByteArray) (d : Bool) (sz kc many i : Int) (l : List IN) (q : Nat) (v) (hl : l.length < 2513169434916) (h : Ev (fun k => ze_.l0 k many (l ++ [⟨nm, d, sz, []⟩]) (wrap64 (i + 1)) x (q : Int) true) v) : Ev (fun k => ze_.l1 k many l i kc 0 x (q : Int) true nm d sz []) v := by
 refine Ev.step (fun k => ?_) h
 simp only [ze_.l1]
 by_cases c : 0 < kc
 · rw [if_pos c, if_pos (by omega), if_pos trivial, if_pos hl]
 · rw [if_neg c, if_pos trivial, if_pos hl]
theorem num_two (x : ByteArray) (hx : x.size ≤ 20000) (q : Nat) (f : Bool) (h : q ≤ x.size) : ∃ (n : Int) (q' : Nat) (f' : Bool), q' ≤ x.size ∧ (f = true → n = 0 ∧ q' = q ∧ f' = true) ∧ (f' = false → f = false ∧ q ≤ q' ∧ x.extract q q' = yb_ n) ∧ Ev (fun k => zv_.f k x (q : Int) f) (n, x, (q' : Int), f') ∧ Ev (fun k => zG_.f k x (q : Int) f) (n, x, (q' : Int), f') := by
 have a3 := rNum_at x q f h
 have b3s := num_s x hx q f h
 have b3i := num_i x hx q f h
 have hz : f = true → rNum x q f = (0, x, (q : Int), true) := fun e => by unfold rNum; rw [if_pos e]
 obtain ⟨t3, s3⟩ : ∃ t, t = rNum x q f := ⟨_, rfl⟩
 rw [← s3] at a3 b3s b3i hz
 obtain ⟨n, x3, p3, f3⟩ := t3
 obtain ⟨q3, g3, e3, h3⟩ := a3
 simp only [Prod.mk.injEq] at e3
 obtain ⟨rfl, rfl, rfl⟩ := e3
 refine ⟨n, q3, f3, h3, fun e => ?_, fun e => ?_, b3s, b3i⟩
 ·
  have := hz e
  simp only [Prod.mk.injEq] at this
  exact ⟨this.1, by omega, this.2.2.2⟩
 ·
  subst e
  obtain ⟨z1, z2, z3, _, z4⟩ := rNum_back x3 q f h n q3 x3 s3.symm
  exact ⟨z1, z2, z4⟩
theorem step_node (x : ByteArray) (hx : x.size ≤ 20000) (q : Nat) (hq : q ≤ x.size) : ∃ (pS : IN) (qS : Nat) (bS : Bool) (pI : IN) (qI : Nat) (bI : Bool), qS ≤ x.size ∧ qI ≤ x.size ∧ Okp x pS ∧ Okp x pI ∧ ((pS = pI ∧ qS = qI ∧ bS = bI) ∨ (bS = true ∧ (bI = true ∨ pI.f3.length = 101))) ∧ (bS = false → q ≤ qS ∧ x.extract q qS = nodeB pS) ∧
 (∀ (l : List IN) (n : Int) (v : List IN × Bool), 0 < n → l.length < 2513169434916 → Ev (fun k => zf_.l0 k x (l ++ [pS]) (wrap64 (n - 1)) x (qS : Int) bS) v → Ev (fun k => zf_.l0 k x l n x (q : Int) false) v) ∧
 (∀ (l : List IN) (many : Int) (i : Nat) (v : List IN × Bool), (i : Int) < many → i ≤ 20 → l.length < 2513169434916 → Ev (fun k => ze_.l0 k many (l ++ [pI]) (wrap64 ((i : Int) + 1)) x (qI : Int) bI) v → Ev (fun k => ze_.l0 k many l (i : Int) x (q : Int) false) v) := by
 obtain ⟨t2, s2⟩ : ∃ t, t = rText x q false := ⟨_, rfl⟩
 have a2 := rText_at x q false hq
 have b2s := text_s x hx q false hq
 have b2i := text_i x hx q false hq
 rw [← s2] at a2 b2s b2i
 obtain ⟨nm, x2, p2, f2⟩ := t2
 obtain ⟨⟨q2, g2, e2, h2⟩, hname⟩ := a2
 simp only [Prod.mk.injEq] at e2
 obtain ⟨rfl, rfl, rfl⟩ := e2
 simp only at hname
 have tn : f2 = false → q ≤ q2 ∧ x2.extract q q2 = yb_ (nm.size : Int) ++ nm := by
  intro e
  subst e
  obtain ⟨_, z2, _, _, z4⟩ := rText_back x2 q false hq nm q2 x2 s2.symm
  exact ⟨z2, z4⟩
 clear s2
 obtain ⟨dir, q3, f3, h3, z3, t3, c1, d1⟩ := num_two x2 hx q2 f2 h2
 obtain ⟨sz, q4, f4, h4, z4, t4, c2, d2⟩ := num_two x2 hx q3 f3 h3
 obtain ⟨kc, q5, f5, h5, z5, t5, c3, d3⟩ := num_two x2 hx q4 f4 h4
 have hS : ∀ (l : List IN) (n : Int) (v : List IN × Bool), 0 < n → Ev (fun k => if dir < 0 then (zf_.j4 k x2 l n kc true x2 (q5 : Int) f5 nm (dir == 1) sz) else (if dir > 1 then (zf_.j4 k x2 l n kc true x2 (q5 : Int) f5 nm (dir == 1) sz) else (if kc < 0 then (zf_.j4 k x2 l n kc true x2 (q5 : Int) f5 nm (dir == 1) sz) else (zf_.j4 k x2 l n kc (decide (kc > 100)) x2 (q5 : Int) f5 nm (dir == 1) sz)))) v → Ev (fun k => zf_.l0 k x2 l n x2 (q : Int) false) v := by
  intro l n v hn h
  refine Ev.step (f := fun k => zf_.j3 k x2 l n true x2 (q : Int) false) (fun k => by simp only [zf_.l0]; rw [if_pos hn]; rfl) ?_
  exact Ev.step (fun k => by simp only [zf_.j3]; rw [if_pos trivial]) (Ev.bind b2s (Ev.bind c1 (Ev.bind c2 (Ev.bind c3 h))))
 have hI : ∀ (l : List IN) (many : Int) (i : Nat) (v : List IN × Bool), (i : Int) < many → i ≤ 20 → Ev (fun k => if f4 = true then (ze_.j2 k many l (i : Int) x2 (q4 : Int) true nm (dir == 1) sz) else ((yg_.f dir 0 1).bind fun t => (ze_.j2 k many l (i : Int) x2 (q4 : Int) (!t) nm (dir == 1) sz))) v → Ev (fun k => ze_.l0 k many l (i : Int) x2 (q : Int) false) v := by
  intro l many i v hi hi2 h
  refine Ev.step (f := fun k => ze_.j1 k many l (i : Int) true x2 (q : Int) false) (fun k => by simp only [ze_.l0]; rw [if_pos hi, if_pos (by omega)]; rfl) ?_
  exact Ev.step (fun k => by simp only [ze_.j1]; rw [if_pos trivial]) (Ev.bind b2i (Ev.bind d1 (Ev.bind d2 h)))
 have hIb : ∀ (l : List IN) (many : Int) (i : Nat) (v : List IN × Bool), l.length < 2513169434916 → Ev (fun k => ze_.l0 k many (l ++ [⟨nm, (dir == 1), sz, []⟩]) (wrap64 ((i : Int) + 1)) x2 (q4 : Int) true) v → Ev (fun k => ze_.j2 k many l (i : Int) x2 (q4 : Int) true nm (dir == 1) sz) v := by
  intro l many i v hl h
  have hz : Ev (fun k => zG_.f k x2 (q4 : Int) true) (0, x2, (q4 : Int), true) := by
   have := num_i x2 hx q4 true h4
   unfold rNum at this
   rwa [if_pos rfl] at this
  exact Ev.step (fun k => by simp only [ze_.j2]; rfl) (Ev.bind hz (impl_bad x2 nm (dir == 1) sz 0 many i l q4 v hl h))
 have okE : Okp x2 (⟨nm, (dir == 1), sz, []⟩ : IN) := ⟨hname, by simp⟩
 by_cases hf4 : f4 = true
 ·
  obtain ⟨rfl, rfl, rfl⟩ := z5 hf4
  refine ⟨⟨nm, (dir == 1), sz, []⟩, q5, true, ⟨nm, (dir == 1), sz, []⟩, q5, true, h5, h5, okE, okE, .inl ⟨rfl, rfl, rfl⟩, (fun e => by simp at e), fun l n v hn hl h => hS l n v hn ?_, fun l many i v hi hi2 hl h => hI l many i v hi hi2 (zD_ hf4 (hIb l many i v hl h))⟩
  have hb := spec_bad x2 nm (dir == 1) true sz 0 n l q5 v hl h
  by_cases g1 : dir < 0
  · exact zD_ g1 hb
  by_cases g2 : dir > 1
  · exact zO_ g1 (zD_ g2 hb)
  refine zO_ g1 (zO_ g2 (zO_ (by omega) ?_))
  rw [decide_eq_false (by omega)]
  refine Ev.step (f := fun k => zf_.j5 k x2 l n 0 x2 (q5 : Int) true nm (dir == 1) sz) (fun k => by simp only [zf_.j4]; rw [if_neg (by simp)]) ?_
  refine Ev.step (f := fun k => zf_.l1 k x2 l n 0 x2 (q5 : Int) true nm (dir == 1) sz []) (fun k => by simp only [zf_.j5]) ?_
  exact Ev.step (fun k => by simp only [zf_.l1]; rw [if_neg (by omega), if_pos hl]) h
 by_cases hd : 0 ≤ dir ∧ dir ≤ 1
 rotate_left
 ·
  refine ⟨⟨nm, (dir == 1), sz, []⟩, q5, true, ⟨nm, (dir == 1), sz, []⟩, q4, true, h5, h4, okE, okE, .inr ⟨rfl, .inl rfl⟩, (fun e => by simp at e), fun l n v hn hl h => hS l n v hn ?_, fun l many i v hi hi2 hl h => hI l many i v hi hi2 (zO_ hf4 (y1_ (a := false) ?_ (hIb l many i v hl h)))⟩
  ·
   have hb := spec_bad x2 nm (dir == 1) f5 sz kc n l q5 v hl h
   by_cases g1 : dir < 0
   · exact zD_ g1 hb
   · exact zO_ g1 (zD_ (by omega) hb)
  ·
   unfold yg_.f
   by_cases g1 : dir ≥ 0
   · rw [if_pos g1, decide_eq_false (by omega)]
   · rw [if_neg g1]
 have hw : yg_.f dir 0 1 = some true := by
  unfold yg_.f
  rw [if_pos (by omega), decide_eq_true (by omega)]
 rw [Bool.not_eq_true] at hf4
 subst hf4
 have hJ : ∀ (l : List IN) (many : Int) (i : Nat) (v : List IN × Bool), (i : Int) < many → i ≤ 20 → Ev (fun k => ze_.l1 k many l (i : Int) kc 0 x2 (q5 : Int) f5 nm (dir == 1) sz []) v → Ev (fun k => ze_.l0 k many l (i : Int) x2 (q : Int) false) v := by
  intro l many i v hi hi2 h
  exact hI l many i v hi hi2 (zO_ (by simp) (y1_ hw (Ev.step (fun k => by simp only [ze_.j2]; rfl) (Ev.bind d3 h))))
 by_cases hk0 : kc < 0
 ·
  refine ⟨⟨nm, (dir == 1), sz, []⟩, q5, true, ⟨nm, (dir == 1), sz, []⟩, q5, true, h5, h5, okE, okE, .inr ⟨rfl, .inl rfl⟩, (fun e => by simp at e), fun l n v hn hl h => hS l n v hn ?_, fun l many i v hi hi2 hl h => hJ l many i v hi hi2 ?_⟩
  · exact zO_ (by omega) (zO_ (by omega) (zD_ hk0 (spec_bad x2 nm (dir == 1) f5 sz kc n l q5 v hl h)))
  ·
   cases f5 with
   | true => exact impl_bad x2 nm (dir == 1) sz kc many i l q5 v hl h
   | false =>
    refine Ev.step (fun k => ?_) h
    simp only [ze_.l1, yq_.f, Option.bind_some]
    rw [if_neg (by omega), if_neg (by simp), if_pos hl]
    have : (kc != (([] : List ByteArray).length : Int)) = true := bne_iff_ne.2 (by simp; omega)
    rw [this]
 by_cases hk1 : kc > 100
 ·
  obtain ⟨ks', q', b', r1, r2, r3, r4⟩ := keys_many x2 hx nm (dir == 1) sz kc hk1 101 [] q5 f5 h5 rfl
  refine ⟨⟨nm, (dir == 1), sz, []⟩, q5, true, ⟨nm, (dir == 1), sz, ks'⟩, q', b', h5, r1, okE, ⟨hname, r2⟩, .inr ⟨rfl, r3⟩, (fun e => by simp at e), fun l n v hn hl h => hS l n v hn ?_, fun l many i v hi hi2 hl h => hJ l many i v hi hi2 (r4 l many i v hl h)⟩
  refine zO_ (by omega) (zO_ (by omega) (zO_ hk0 ?_))
  rw [decide_eq_true hk1]
  exact spec_bad x2 nm (dir == 1) f5 sz kc n l q5 v hl h
 obtain ⟨m, rfl⟩ : ∃ m : Nat, kc = (m : Int) := ⟨kc.toNat, by omega⟩
 obtain ⟨ks', q', b', r1, r2, rt, r3, r4⟩ := keys_both x2 hx nm (dir == 1) sz m [] q5 f5 h5 (by simp; omega)
 have trc : b' = false → q ≤ q' ∧ x2.extract q q' = nodeB (⟨nm, (dir == 1), sz, ks'⟩ : IN) := by
  intro e
  obtain ⟨y1, y2, y3, y4⟩ := rt e
  obtain ⟨g1, g2, g3⟩ := t5 y1
  obtain ⟨k1, k2, k3⟩ := t4 g1
  obtain ⟨m1, m2, m3⟩ := t3 k1
  obtain ⟨n2, n3⟩ := tn m1
  refine ⟨by omega, ?_⟩
  have hdir : dirN (dir == 1) = dir := by
   unfold dirN
   by_cases c : dir = 1
   ·
    subst c
    rfl
   ·
    rw [if_neg (by simpa using c)]
    omega
  have hm : ((ks'.length : Nat) : Int) = (m : Int) := by rw [y3]; simp
  have hcat : yM_ ks' = x2.extract q5 q' := by rw [y4, cat_nil, nil_app']
  unfold nodeB
  simp only
  rw [hdir, hm, hcat, ← n3, ← m3, ← k3, ← g3, ex_cat x2 _ _ _ n2 m2 h3, ex_cat x2 _ _ _ (by omega) k2 h4, ex_cat x2 _ _ _ (by omega) g2 h5, ex_cat x2 _ _ _ (by omega) y2 r1]
 have okK : Okp x2 (⟨nm, (dir == 1), sz, ks'⟩ : IN) := ⟨hname, by show ks'.length ≤ 101; omega⟩
 refine ⟨⟨nm, (dir == 1), sz, ks'⟩, q', b', ⟨nm, (dir == 1), sz, ks'⟩, q', b', r1, r1, okK, okK, .inl ⟨rfl, rfl, rfl⟩, trc, fun l n v hn hl h => hS l n v hn ?_, fun l many i v hi hi2 hl h => hJ l many i v hi hi2 ?_⟩
 ·
  refine zO_ (by omega) (zO_ (by omega) (zO_ hk0 ?_))
  rw [decide_eq_false hk1]
  refine Ev.step (f := fun k => zf_.j5 k x2 l n (m : Int) x2 (q5 : Int) f5 nm (dir == 1) sz) (fun k => by simp only [zf_.j4]; rw [if_neg (by simp)]) ?_
  exact Ev.step (f := fun k => zf_.l1 k x2 l n (m : Int) x2 (q5 : Int) f5 nm (dir == 1) sz []) (fun k => by simp only [zf_.j5]) (r3 l n v hl h)
 ·
  have := r4 l many i v hl h
  rwa [show ((([] : List ByteArray).length + m : Nat) : Int) = (m : Int) by simp] at this
theorem ok_snoc (x : ByteArray) (l : List IN) (p : IN) (hs : ∀ z ∈ l, Okp x z) (hp : Okp x p) : ∀ z ∈ l ++ [p], Okp x z := fun z hz => by
 rcases List.mem_append.1 hz with h | h
 · exact hs z h
 ·
  obtain rfl := List.mem_singleton.1 h
  exact hp
/-- what the implementation comes to from anywhere. -/
theorem impl_any (x : ByteArray) (hx : x.size ≤ 20000) (many : Int) : ∀ (d i : Nat) (l : List IN) (q : Nat) (b : Bool), q ≤ x.size → i + d = 21 → l.length = i → (∀ p ∈ l, Okp x p) →
 ∃ (more : List IN) (q' : Nat) (b' : Bool), (b = true → b' = true) ∧ Ev (fun k => ze_.l0 k many l (i : Int) x (q : Int) b) (iFin x many (l ++ more) q' b') := by
 have stop : ∀ (i : Nat) (l : List IN) (q : Nat) (b : Bool), (∀ p ∈ l, Okp x p) → (∀ k, ze_.l0 (k + 1) many l (i : Int) x (q : Int) b = ze_.j1 k many l (i : Int) false x (q : Int) b) → ∃ (more : List IN) (q' : Nat) (b' : Bool), (b = true → b' = true) ∧ Ev (fun k => ze_.l0 k many l (i : Int) x (q : Int) b) (iFin x many (l ++ more) q' b') := by
  intro i l q b hs h
  refine ⟨[], q, b, fun h => h, Ev.step h ?_⟩
  rw [List.append_nil]
  exact iFin_ev x hx l many i q b hs
 intro d
 induction d with
 | zero =>
  intro i l q b hq hi hl hs
  refine stop i l q b hs (fun k => ?_)
  simp only [ze_.l0]
  by_cases c : (i : Int) < many
  · rw [if_pos c, if_neg (by omega)]
  · rw [if_neg c]
 | succ d ih =>
  intro i l q b hq hi hl hs
  by_cases c : (i : Int) < many
  rotate_left
  · exact stop i l q b hs (fun k => by simp only [ze_.l0]; rw [if_neg c])
  cases b with
  | true => exact stop i l q true hs (fun k => by simp only [ze_.l0]; rw [if_pos c, if_pos (by omega)]; rfl)
  | false =>
   obtain ⟨pS, qS, bS, pI, qI, bI, r1, r2, r3, r4, r5, rt, r6, r7⟩ := step_node x hx q hq
   obtain ⟨more, q', b', g1, g2⟩ := ih (i + 1) (l ++ [pI]) qI bI r2 (by omega) (by simp [hl]) (ok_snoc x l pI hs r4)
   refine ⟨pI :: more, q', b', fun h => by simp at h, r7 l many i _ c (by omega) (by omega) ?_⟩
   rw [wnat i (by omega), show l ++ pI :: more = l ++ [pI] ++ more by simp]
   exact g2
theorem right_get (l : List IN) (h : yn_ l = true) : l.length ≤ 20 ∧ ∀ x ∈ l, x.f3.length ≤ 100 := by
 unfold yn_ at h
 simp only [Bool.and_eq_true, decide_eq_true_eq, List.all_eq_true] at h
 refine ⟨h.1, fun x hx => ?_⟩
 obtain ⟨i, hi, rfl⟩ := List.mem_iff_getElem.1 hx
 have h2 := h.2 i (List.mem_range.2 hi)
 unfold nodeAt at h2
 rw [Bool.and_eq_true] at h2
 have h3 := h2.1
 rw [List.getD_eq_getElem?_getD, List.getElem?_eq_getElem hi] at h3
 change nodeOk l[i] = true at h3
 unfold nodeOk restOk at h3
 simp only [Bool.and_eq_true, Bool.not_eq_true', Bool.or_eq_false_iff, decide_eq_false_iff_not] at h3
 have h4 := h3.2.2.2
 omega
theorem iFin_not (x : ByteArray) (many : Int) (l : List IN) (q : Nat) (b : Bool) (h : b = true ∨ yn_ l = false) : iFin x many l q b = ([], false) := by
 unfold iFin
 rcases h with h | h
 ·
  subst h
  rw [if_pos rfl]
  split <;> rfl
 ·
  rw [h, if_neg (show ¬ (false = true) by decide)]
  repeat' (first | split | rfl)
theorem both (x : ByteArray) (hx : x.size ≤ 20000) (n : Nat) (hn : n ≤ 20) : ∀ (m i : Nat) (l : List IN) (q : Nat) (b : Bool), q ≤ x.size → i + m = n → l.length = i → (∀ p ∈ l, Okp x p) → (b = false → x.extract 0 q = yb_ (n : Int) ++ catN l) →
 ∃ s r : List IN × Bool, s.2 = r.2 ∧ (s.2 = true → s.1 = r.1 ∧ yn_ s.1 = true) ∧ (s.2 = true → s.1.length = n ∧ x = yb_ (n : Int) ++ catN s.1) ∧ Ev (fun k => zf_.l0 k x l (m : Int) x (q : Int) b) s ∧ Ev (fun k => ze_.l0 k (n : Int) l (i : Int) x (q : Int) b) r := by
 intro m
 induction m with
 | zero =>
  intro i l q b hq hi hl hs hpre
  refine ⟨sFin x l q b, iFin x (n : Int) l q b, ?_, ?_, ?_, ?_, ?_⟩
  ·
   have hn' : (n : Int) = (l.length : Int) := by omega
   unfold sFin iFin
   rw [if_pos hn']
   cases b with
   | true => rfl
   | false =>
    by_cases c : q = x.size
    · cases hr : yn_ l <;> simp [c, hr]
    · simp [c]
  ·
   have hn' : (n : Int) = (l.length : Int) := by omega
   unfold sFin iFin
   rw [if_pos hn']
   cases b with
   | true => simp
   | false =>
    by_cases c : q = x.size
    · cases hr : yn_ l <;> simp [c, hr]
    · simp [c]
  ·
   intro h
   unfold sFin at h ⊢
   cases b with
   | true =>
    rw [if_pos rfl] at h
    simp at h
   | false =>
    rw [if_neg (show ¬ (false = true) by decide)] at h ⊢
    by_cases c : q = x.size
    ·
     rw [if_pos c]
     refine ⟨by show l.length = n; omega, ?_⟩
     rw [← hpre rfl, c, ByteArray.extract_zero_size]
    ·
     rw [if_neg c] at h
     simp at h
  · refine Ev.step (f := fun k => zf_.j3 k x l ((0 : Nat) : Int) false x (q : Int) b) (fun k => by simp only [zf_.l0]; rw [if_neg (by omega)]) (sFin_ev x hx l _ q b hs)
  · exact Ev.step (f := fun k => ze_.j1 k (n : Int) l (i : Int) false x (q : Int) b) (fun k => by simp only [ze_.l0]; rw [if_neg (by omega)]) (iFin_ev x hx l _ i q b hs)
 | succ m ih =>
  intro i l q b hq hi hl hs hpre
  have hin : (i : Int) < (n : Int) := by omega
  cases b with
  | true =>
   refine ⟨sFin x l q true, iFin x (n : Int) l q true, ?_, ?_, (fun h => absurd h (by simp [sFin])), ?_, ?_⟩
   ·
    rw [iFin_not _ _ _ _ _ (.inl rfl)]
    rfl
   ·
    intro h
    exact absurd h (by simp [sFin])
   · exact Ev.step (f := fun k => zf_.j3 k x l ((m + 1 : Nat) : Int) false x (q : Int) true) (fun k => by simp only [zf_.l0]; rw [if_pos (by omega)]; rfl) (sFin_ev x hx l _ q true hs)
   · exact Ev.step (f := fun k => ze_.j1 k (n : Int) l (i : Int) false x (q : Int) true) (fun k => by simp only [ze_.l0]; rw [if_pos hin, if_pos (by omega)]; rfl) (iFin_ev x hx l _ i q true hs)
  | false =>
   obtain ⟨pS, qS, bS, pI, qI, bI, r1, r2, r3, r4, r5, rt, r6, r7⟩ := step_node x hx q hq
   have e1 : wrap64 (((m + 1 : Nat) : Int) - 1) = (m : Int) := by rw [w64 (by omega) (by omega)]; omega
   rcases r5 with ⟨rfl, rfl, rfl⟩ | ⟨rfl, h5⟩
   ·
    obtain ⟨s, r, g1, g2, gt, g3, g4⟩ := ih (i + 1) (l ++ [pS]) qS bS r1 (by omega) (by simp [hl]) (ok_snoc x l pS hs r3) (fun e => by
     obtain ⟨y1, y2⟩ := rt e
     rw [catN_snoc, ← ByteArray.append_assoc, ← hpre rfl, ← y2, ex_cat x _ _ _ (Nat.zero_le _) y1 r1])
    refine ⟨s, r, g1, g2, gt, r6 l _ _ (by omega) (by omega) ?_, r7 l _ i _ hin (by omega) (by omega) ?_⟩
    ·
     rw [e1]
     exact g3
    ·
     rw [wnat i (by omega)]
     exact g4
   ·
    obtain ⟨more, q', b', g1, g2⟩ := impl_any x hx (n : Int) (20 - i) (i + 1) (l ++ [pI]) qI bI r2 (by omega) (by simp [hl]) (ok_snoc x l pI hs r4)
    refine ⟨(l ++ [pS], false), ([], false), rfl, (fun h => absurd h (by simp)), (fun h => absurd h (by simp)), r6 l _ _ (by omega) (by omega) ?_, r7 l _ i _ hin (by omega) (by omega) ?_⟩
    ·
     rw [e1]
     have hz := sFin_ev x hx (l ++ [pS]) (m : Int) qS true (ok_snoc x l pS hs r3)
     refine Ev.step (f := fun k => zf_.j3 k x (l ++ [pS]) (m : Int) false x (qS : Int) true) (fun k => ?_) hz
     simp only [zf_.l0]
     split <;> rfl
    ·
     rw [wnat i (by omega)]
     rw [iFin_not x (n : Int) (l ++ [pI] ++ more) q' b' ?_] at g2
     · exact g2
     ·
      rcases h5 with h5 | h5
      · exact .inl (g1 h5)
      ·
       refine .inr ?_
       cases hr : yn_ (l ++ [pI] ++ more) with
       | false => rfl
       | true =>
        have := (right_get _ hr).2 pI (by simp)
        omega
theorem same (x : ByteArray) : ∃ v : List IN × Int, v.1.length ≤ 20 ∧ (∀ p ∈ v.1, p.f3.length ≤ 100) ∧ (v.2 = 0 → yn_ v.1 = true ∧ upTo v.1 v.1.length = x) ∧ Ev (fun k => yk_.f k x) v ∧ Ev (fun k => yf_.f k x) v := by
 by_cases hl : (x.size : Int) > 20000
 · exact ⟨([], 2), by simp, by simp, (fun h => by simp at h), zD_ hl (Ev.now _), y1_ (a := decide ((x.size : Int) > 20000)) rfl (zD_ (decide_eq_true hl) (Ev.now _))⟩
 have hx : x.size ≤ 20000 := by omega
 have key : ∃ s r : List IN × Bool, s.2 = r.2 ∧ (s.2 = true → s.1 = r.1 ∧ yn_ s.1 = true) ∧ (s.2 = true → x = yb_ (s.1.length : Int) ++ catN s.1) ∧ Ev (fun k => zf_.f k x) s ∧ Ev (fun k => ze_.f k x) r := by
  obtain ⟨n, q, f, h3, _, t3, b3s, b3i⟩ := num_two x hx 0 false (Nat.zero_le _)
  have hS : ∀ v, Ev (fun k => if n < 0 then (zf_.j0 k x [] n true x (q : Int) f) else (zf_.j0 k x [] n (decide (n > 20)) x (q : Int) f)) v → Ev (fun k => zf_.f k x) v := fun v hv => y1_ (a := ([] : List IN)) rfl (Ev.bind b3s hv)
  have hI : ∀ v, Ev (fun k => ze_.l0 k n [] 0 x (q : Int) f) v → Ev (fun k => ze_.f k x) v := fun v hv => Ev.bind b3i hv
  have hbad : ∀ n : Int, Ev (fun k => zf_.j0 k x [] n true x (q : Int) f) (([] : List IN), false) := by
   intro n
   refine Ev.step (f := fun k => zf_.j1 k x [] n x (q : Int) true) (fun k => by simp only [zf_.j0]; rw [if_pos trivial]) ?_
   refine Ev.step (f := fun k => zf_.l0 k x [] n x (q : Int) true) (fun k => by simp only [zf_.j1]) ?_
   refine Ev.step (f := fun k => zf_.j3 k x [] n false x (q : Int) true) (fun k => by simp only [zf_.l0]; split <;> rfl) ?_
   have := sFin_ev x hx [] n q true (by simp)
   unfold sFin at this
   rw [if_pos rfl] at this
   exact this
  by_cases hn : n < 0
  ·
   refine ⟨([], false), ([], false), rfl, (fun h => absurd h (by simp)), (fun h => absurd h (by simp)), hS _ (zD_ hn (hbad n)), hI _ ?_⟩
   refine Ev.step (f := fun k => ze_.j1 k n [] 0 false x (q : Int) f) (fun k => by simp only [ze_.l0]; rw [if_neg (by omega)]) ?_
   have := iFin_ev x hx [] n 0 q f (by simp)
   unfold iFin at this
   rw [if_neg (by simp; omega)] at this
   exact this
  obtain ⟨m, rfl⟩ : ∃ m : Nat, n = (m : Int) := ⟨n.toNat, by omega⟩
  by_cases hm : m > 20
  ·
   obtain ⟨more, q', b', g1, g2⟩ := impl_any x hx (m : Int) 21 0 [] q f h3 (by omega) rfl (by simp)
   have hz : iFin x (m : Int) ([] ++ more) q' b' = ([], false) := by
    by_cases h1 : (m : Int) = (([] ++ more : List IN).length : Int)
    ·
     refine iFin_not _ _ _ _ _ (.inr ?_)
     cases hr : yn_ ([] ++ more) with
     | false => rfl
     | true =>
      have := (right_get _ hr).1
      omega
    ·
     unfold iFin
     rw [if_neg h1]
   rw [hz] at g2
   exact ⟨([], false), ([], false), rfl, (fun h => absurd h (by simp)), (fun h => absurd h (by simp)), hS _ (zO_ hn (by rw [decide_eq_true (show (m : Int) > 20 by omega)]; exact hbad _)), hI _ g2⟩
  ·
   obtain ⟨s, r, g1, g2, gt, g3, g4⟩ := both x hx m (by omega) m 0 [] q f h3 (by omega) rfl (by simp) (fun e => by
    obtain ⟨_, _, y3⟩ := t3 e
    rw [y3]
    exact (app_nil _).symm)
   refine ⟨s, r, g1, g2, (fun h => by rw [(gt h).1]; exact (gt h).2), hS _ (zO_ hn ?_), hI _ g4⟩
   rw [decide_eq_false (show ¬ (m : Int) > 20 by omega)]
   refine Ev.step (f := fun k => zf_.j1 k x [] (m : Int) x (q : Int) f) (fun k => by simp only [zf_.j0]; rw [if_neg (by simp)]) ?_
   exact Ev.step (f := fun k => zf_.l0 k x [] (m : Int) x (q : Int) f) (fun k => by simp only [zf_.j1]) g3
 obtain ⟨⟨s1, s2⟩, ⟨r1, r2⟩, h1, h2, ht, h3, h4⟩ := key
 simp only at h1 h2 ht
 subst h1
 cases s2 with
 | true =>
  obtain ⟨rfl, hr⟩ := h2 rfl
  have g := right_get _ hr
  exact ⟨(s1, 0), g.1, g.2, (fun _ => ⟨hr, by rw [upTo_cat]; exact (ht rfl).symm⟩), zO_ hl (Ev.bind h3 (zD_ rfl (Ev.now _))), y1_ (a := decide ((x.size : Int) > 20000)) rfl (zO_ (by simp; omega) (Ev.bind h4 (zD_ rfl (Ev.now _))))⟩
 | false =>
  exact ⟨([], 3), by simp, by simp, (fun h => by simp at h), zO_ hl (Ev.bind h3 (zO_ (by simp) (Ev.now _))), y1_ (a := decide ((x.size : Int) > 20000)) rfl (zO_ (by simp; omega) (Ev.bind h4 (zO_ (by simp) (Ev.now _))))⟩
/-! a right list's text is read back. -/
theorem fwd_keys (x : ByteArray) (hx : x.size ≤ 20000) (nm : ByteArray) (d : Bool) (sz : Int) : ∀ (us ks : List ByteArray) (A C : ByteArray), (∀ u ∈ us, u.size = 32) → ks.length + us.length ≤ 100 → x = A ++ (yM_ us ++ C) →
 ∀ (l : List IN) (many i : Int) v, l.length < 2513169434916 → Ev (fun k => ze_.l0 k many (l ++ [⟨nm, d, sz, ks ++ us⟩]) (wrap64 (i + 1)) x ((A.size + (yM_ us).size : Nat) : Int) false) v → Ev (fun k => ze_.l1 k many l i ((ks.length + us.length : Nat) : Int) (ks.length : Int) x (A.size : Int) false nm d sz ks) v := by
 intro us
 induction us with
 | nil =>
  intro ks A C _ hk hxe l many i v hl h
  refine Ev.step (fun k => ?_) h
  simp only [ze_.l1, List.length_nil, Nat.add_zero, List.append_nil]
  rw [if_neg (by omega), if_neg (by simp)]
  unfold yq_.f
  simp only [Option.bind_some]
  rw [if_pos hl]
  have e : (yM_ []).size = 0 := rfl
  rw [e]
  simp
 | cons u us ih =>
  intro ks A C hu hk hxe l many i v hl h
  have hu0 := hu u (by simp)
  have hx1 : x = A ++ (u ++ (yM_ us ++ C)) := by rw [hxe, cat_cons, ByteArray.append_assoc]
  have hx2 : x = (A ++ u) ++ (yM_ us ++ C) := by rw [hx1, ByteArray.append_assoc]
  have hr := rBytes_put A (yM_ us ++ C) u
  rw [← hx1, hu0] at hr
  have hsz : A.size ≤ x.size := by rw [hx1, ByteArray.size_append]; omega
  have hi := bytes_i x hx A.size false 32 (by decide) hsz
  rw [hr] at hi
  have hrec := ih (ks ++ [u]) (A ++ u) C (fun y hy => hu y (by simp [hy])) (by simp only [List.length_append, List.length_cons, List.length_nil] at hk ⊢; omega) hx2 l many i v hl
  rw [ByteArray.size_append, hu0] at hrec
  have e2 : A.size + (yM_ (u :: us)).size = A.size + 32 + (yM_ us).size := by rw [cat_cons, ByteArray.size_append, hu0]; omega
  rw [e2] at h
  have h2 := hrec (by rw [List.append_assoc]; exact h)
  refine Ev.step (fun k => ?_) h2
  simp only [List.length_cons] at hk
  simp only [ze_.l1, List.length_cons]
  rw [if_pos (by omega), if_pos (by omega), if_neg (by simp)]
  have hi' : yK_.f x (A.size : Int) false 32 = some (u, x, ((A.size + 32 : Nat) : Int), false) := hi
  rw [hi']
  simp only [Option.bind_some]
  rw [if_pos (by omega), wnat ks.length (by omega)]
  simp only [List.length_append, List.length_singleton]
  rw [show ks.length + 1 + us.length = ks.length + (us.length + 1) by omega]
theorem fwd_node (x : ByteArray) (hx : x.size ≤ 20000) (p : IN) (hp : Fit p) (A C : ByteArray) (hxe : x = A ++ (nodeB p ++ C)) (l : List IN) (many : Int) (i : Nat) (v : List IN × Bool) (hi : (i : Int) < many) (hi2 : i ≤ 20) (hl : l.length < 2513169434916)
 (h : Ev (fun k => ze_.l0 k many (l ++ [p]) (wrap64 ((i : Int) + 1)) x ((A.size + (nodeB p).size : Nat) : Int) false) v) : Ev (fun k => ze_.l0 k many l (i : Int) x (A.size : Int) false) v := by
 have hn := hp.name
 have hm := hp.many
 have hs0 := hp.s0
 have hs1 := hp.s1
 obtain ⟨nm, d, sz, ks⟩ := p
 simp only at hn hm hs0 hs1
 have e1 : x = A ++ ((yb_ (nm.size : Int) ++ nm) ++ (yb_ (dirN d) ++ (yb_ sz ++ (yb_ (ks.length : Int) ++ (yM_ ks ++ C))))) := by rw [hxe]; unfold nodeB; simp only [ByteArray.append_assoc]
 obtain ⟨A1, hA1⟩ : ∃ A1, A1 = A ++ (yb_ (nm.size : Int) ++ nm) := ⟨_, rfl⟩
 have e2 : x = A1 ++ (yb_ (dirN d) ++ (yb_ sz ++ (yb_ (ks.length : Int) ++ (yM_ ks ++ C)))) := by rw [e1, hA1]; simp only [ByteArray.append_assoc]
 obtain ⟨A2, hA2⟩ : ∃ A2, A2 = A1 ++ yb_ (dirN d) := ⟨_, rfl⟩
 have e3 : x = A2 ++ (yb_ sz ++ (yb_ (ks.length : Int) ++ (yM_ ks ++ C))) := by rw [e2, hA2]; simp only [ByteArray.append_assoc]
 obtain ⟨A3, hA3⟩ : ∃ A3, A3 = A2 ++ yb_ sz := ⟨_, rfl⟩
 have e4 : x = A3 ++ (yb_ (ks.length : Int) ++ (yM_ ks ++ C)) := by rw [e3, hA3]; simp only [ByteArray.append_assoc]
 obtain ⟨A4, hA4⟩ : ∃ A4, A4 = A3 ++ yb_ (ks.length : Int) := ⟨_, rfl⟩
 have e5 : x = A4 ++ (yM_ ks ++ C) := by rw [e4, hA4]; simp only [ByteArray.append_assoc]
 have z1 : A1.size = A.size + (yb_ (nm.size : Int) ++ nm).size := by rw [hA1, ByteArray.size_append]
 have z2 : A2.size = A1.size + (yb_ (dirN d)).size := by rw [hA2, ByteArray.size_append]
 have z3 : A3.size = A2.size + (yb_ sz).size := by rw [hA3, ByteArray.size_append]
 have z4 : A4.size = A3.size + (yb_ (ks.length : Int)).size := by rw [hA4, ByteArray.size_append]
 have q4 : A4.size ≤ x.size := by rw [e5, ByteArray.size_append]; omega
 have hz : A.size + (nodeB (⟨nm, d, sz, ks⟩ : IN)).size = A4.size + (yM_ ks).size := by
  rw [z4, z3, z2, z1]
  unfold nodeB
  simp only [ByteArray.size_append]
  omega
 rw [hz] at h
 have t1 := text_i x hx A.size false (by omega)
 have r1 := rText_put A (yb_ (dirN d) ++ (yb_ sz ++ (yb_ (ks.length : Int) ++ (yM_ ks ++ C)))) nm (by omega)
 rw [← e1, ← z1] at r1
 rw [r1] at t1
 have t2 := num_i x hx A1.size false (by omega)
 have r2 := rNum_put A1 (yb_ sz ++ (yb_ (ks.length : Int) ++ (yM_ ks ++ C))) (dirN d) (dirN_rng d)
 rw [← e2, ← z2] at r2
 rw [r2] at t2
 have t3 := num_i x hx A2.size false (by omega)
 have r3 := rNum_put A2 (yb_ (ks.length : Int) ++ (yM_ ks ++ C)) sz (by omega)
 rw [← e3, ← z3] at r3
 rw [r3] at t3
 have t4 := num_i x hx A3.size false (by omega)
 have r4 := rNum_put A3 (yM_ ks ++ C) (ks.length : Int) (by omega)
 rw [← e4, ← z4] at r4
 rw [r4] at t4
 have hk := fwd_keys x hx nm d sz ks [] A4 C hp.keys (by simp only [List.length_nil]; omega) e5 l many (i : Int) v hl (by rw [List.nil_append]; exact h)
 have hw : yg_.f (dirN d) 0 1 = some true := by cases d <;> rfl
 have hd : (dirN d == 1) = d := by cases d <;> rfl
 refine Ev.step (f := fun k => ze_.j1 k many l (i : Int) true x (A.size : Int) false) (fun k => by simp only [ze_.l0]; rw [if_pos hi, if_pos (by omega)]; rfl) ?_
 refine Ev.step (fun k => by simp only [ze_.j1]; rw [if_pos trivial]) (Ev.bind t1 (Ev.bind t2 (Ev.bind t3 (zO_ Bool.false_ne_true (y1_ hw ?_)))))
 simp only [hd]
 refine Ev.step (fun k => by simp only [ze_.j2]; rfl) (Ev.bind t4 ?_)
 have e0 : ((([] : List ByteArray).length + ks.length : Nat) : Int) = (ks.length : Int) := by simp
 rw [e0] at hk
 exact hk
theorem fwd_all (x : ByteArray) (hx : x.size ≤ 20000) (n : Nat) (hn : n ≤ 20) (v : List IN × Bool) : ∀ (rest done : List IN) (i : Nat) (A C : ByteArray), x = A ++ (catN rest ++ C) → (∀ p ∈ rest, Fit p) → done.length = i → i + rest.length = n →
 Ev (fun k => ze_.l0 k (n : Int) (done ++ rest) (n : Int) x ((A.size + (catN rest).size : Nat) : Int) false) v → Ev (fun k => ze_.l0 k (n : Int) done (i : Int) x (A.size : Int) false) v := by
 intro rest
 induction rest with
 | nil =>
  intro done i A C hxe hf hd hi h
  obtain rfl : n = i := by simpa using hi.symm
  have e : (catN []).size = 0 := rfl
  rw [e, List.append_nil] at h
  exact h
 | cons p rest ih =>
  intro done i A C hxe hf hd hi h
  rw [List.length_cons] at hi
  have e1 : x = A ++ (nodeB p ++ (catN rest ++ C)) := by rw [hxe, catN, ByteArray.append_assoc]
  have e2 : x = (A ++ nodeB p) ++ (catN rest ++ C) := by rw [e1, ByteArray.append_assoc]
  have z : A.size + (catN (p :: rest)).size = (A ++ nodeB p).size + (catN rest).size := by rw [catN, ByteArray.size_append, ByteArray.size_append]; omega
  have hr := ih (done ++ [p]) (i + 1) (A ++ nodeB p) C e2 (fun y hy => hf y (by simp [hy])) (by simp [hd]) (by omega) (by rw [List.append_assoc, ← z]; exact h)
  rw [ByteArray.size_append] at hr
  exact fwd_node x hx p (hf p (by simp)) A (catN rest ++ C) e1 done (n : Int) i v (by omega) (by omega) (by omega) (by rw [wnat i (by omega)]; exact hr)
theorem read_back (l : List IN) (hr : yn_ l = true) (hx : (upTo l l.length).size ≤ 20000) : Ev (fun k => yf_.f k (upTo l l.length)) (l, 0) := by
 obtain ⟨h1, h2⟩ := fits l hr
 obtain ⟨x, hxe⟩ : ∃ x, x = upTo l l.length := ⟨_, rfl⟩
 rw [← hxe] at hx ⊢
 rw [upTo_cat] at hxe
 have e1 : x = (⟨#[]⟩ : ByteArray) ++ (yb_ (l.length : Int) ++ catN l) := by rw [nil_app', hxe]
 have e2 : x = yb_ (l.length : Int) ++ (catN l ++ (⟨#[]⟩ : ByteArray)) := by rw [app_nil, hxe]
 have hz : x.size = (yb_ (l.length : Int)).size + (catN l).size := by rw [hxe, ByteArray.size_append]
 have t1 := num_i x hx 0 false (Nat.zero_le _)
 have r1 := rNum_put (⟨#[]⟩ : ByteArray) (catN l) (l.length : Int) (by omega)
 rw [← e1] at r1
 have z0 : (⟨#[]⟩ : ByteArray).size = 0 := rfl
 rw [z0, Nat.zero_add] at r1
 rw [r1] at t1
 unfold yf_.f
 refine y1_ (a := decide ((x.size : Int) > 20000)) rfl (zO_ (by simp; omega) (Ev.bind (a := (l, true)) ?_ (zD_ rfl (Ev.now _))))
 unfold ze_.f
 refine Ev.bind t1 ?_
 refine fwd_all x hx l.length h1 (l, true) l [] 0 (yb_ (l.length : Int)) ⟨#[]⟩ e2 h2 rfl (by simp) ?_
 rw [← hz, List.nil_append]
 refine Ev.step (f := fun k => ze_.j1 k (l.length : Int) l (l.length : Int) false x (x.size : Int) false) (fun k => by simp only [ze_.l0]; rw [if_neg (by omega)]) ?_
 have hok : ∀ p ∈ l, Okp x p := by
  intro p hp
  have hf := h2 p hp
  refine ⟨?_, by have := hf.many; omega⟩
  obtain ⟨s, t, rfl⟩ := List.append_of_mem hp
  rw [hxe]
  have : ∀ s : List IN, (catN (s ++ p :: t)).size ≥ p.f0.size := by
   intro s
   induction s with
   | nil =>
    show (nodeB p ++ catN t).size ≥ _
    unfold nodeB
    simp only [ByteArray.size_append]
    omega
   | cons a s ih =>
    show (nodeB a ++ catN (s ++ p :: t)).size ≥ _
    rw [ByteArray.size_append]
    omega
  have := this s
  rw [ByteArray.size_append]
  omega
 have hfin := iFin_ev x hx l (l.length : Int) (l.length : Int) x.size false hok
 unfold iFin at hfin
 rw [if_pos rfl, if_neg (by simp), if_pos rfl, if_pos hr] at hfin
 exact hfin
/-- a source that stands right. -/
def St (b : List Int) (q m : Int) : Prop := 0 ≤ q ∧ q ≤ (b.length : Int) ∧ b.length ≤ 1048576 ∧ 0 ≤ m ∧ m < 18446744073709551616
theorem bits_u64 (op : BinOp) (x y : Int) : 0 ≤ Go.bits op .u64 x y ∧ Go.bits op .u64 x y < 18446744073709551616 := by
 simp only [Go.bits, IntKind.wrap_u64]
 omega
theorem pick_most (v most : Int) (h1 : 1 < most) (h2 : most ≤ 9223372036854775807) : 0 ≤ wrap64 (Int.tmod (IntKind.u64.wrap v) (IntKind.u64.wrap most)) ∧ wrap64 (Int.tmod (IntKind.u64.wrap v) (IntKind.u64.wrap most)) < most ∧ IntKind.u64.wrap most ≠ 0 := by
 simp only [IntKind.wrap_u64]
 have e : most % 18446744073709551616 = most := by omega
 rw [e, Int.tmod_eq_emod_of_nonneg (by omega)]
 have a := Int.emod_nonneg (v % 18446744073709551616) (show most ≠ 0 by omega)
 have b := Int.emod_lt_of_pos (v % 18446744073709551616) (show 0 < most by omega)
 rw [w64 (by omega) (by omega)]
 omega
theorem n_ok (b : List Int) (q m z most : Int) (h : St b q m) (h1 : 1 ≤ most) (h2 : most ≤ 9223372036854775807) : ∃ v q' m', zI_.f b q m z most = some (v, q', m', z) ∧ 0 ≤ v ∧ v < most ∧ St b q' m' := by
 obtain ⟨a1, a2, a3, a4, a5⟩ := h
 unfold zI_.f
 by_cases c : most ≤ 1
 ·
  rw [if_pos c]
  exact ⟨0, q, m, rfl, by omega, by omega, a1, a2, a3, a4, a5⟩
 ·
  rw [if_neg c]
  have hm := bits_u64 .xor (Go.bits .xor .u64 (Go.bits .xor .u64 m (IntKind.u64.wrap (m * 8192))) ((Go.bits .xor .u64 m (IntKind.u64.wrap (m * 8192))) / 128)) (IntKind.u64.wrap ((Go.bits .xor .u64 (Go.bits .xor .u64 m (IntKind.u64.wrap (m * 8192))) ((Go.bits .xor .u64 m (IntKind.u64.wrap (m * 8192))) / 128)) * 131072))
  generalize Go.bits .xor .u64 (Go.bits .xor .u64 (Go.bits .xor .u64 m (IntKind.u64.wrap (m * 8192))) ((Go.bits .xor .u64 m (IntKind.u64.wrap (m * 8192))) / 128)) (IntKind.u64.wrap ((Go.bits .xor .u64 (Go.bits .xor .u64 m (IntKind.u64.wrap (m * 8192))) ((Go.bits .xor .u64 m (IntKind.u64.wrap (m * 8192))) / 128)) * 131072)) = m3 at hm ⊢
  by_cases c2 : q < (b.length : Int)
  ·
   obtain ⟨p1, p2, p3⟩ := pick_most (IntKind.u64.wrap (rd b q) + m3 / 1048576) most (by omega) h2
   rw [if_pos c2, if_pos a1, if_neg p3]
   exact ⟨_, _, _, rfl, p1, p2, by rw [w64 (by omega) (by omega)]; omega, by rw [w64 (by omega) (by omega)]; omega, a3, hm.1, hm.2⟩
  ·
   obtain ⟨p1, p2, p3⟩ := pick_most (0 + m3 / 1048576) most (by omega) h2
   rw [if_neg c2, if_neg p3]
   exact ⟨_, _, _, rfl, p1, p2, a1, a2, a3, hm.1, hm.2⟩
theorem src_ok (l : List Int) (hl : l.length ≤ 1048576) : Evs (fun k => zL_.f k l) (fun r => r.1 = l ∧ St l r.2.1 r.2.2.1 ∧ 0 ≤ r.2.2.2 ∧ r.2.2.2 ≤ 12) := by
 have stop : ∀ (m : Int), 0 ≤ m → m < 18446744073709551616 → ∀ q, q = (if (wrap64 ((l.length : Int) / 20)) > 12 then (some (l, (0 : Int), m, (12 : Int))) else (some (l, 0, m, wrap64 ((l.length : Int) / 20)))) → ∃ r, q = some r ∧ r.1 = l ∧ St l r.2.1 r.2.2.1 ∧ 0 ≤ r.2.2.2 ∧ r.2.2.2 ≤ 12 := by
  intro m h0 h1 q hq
  subst hq
  rw [w64 (n := (l.length : Int) / 20) (by omega) (by omega)]
  by_cases c : (l.length : Int) / 20 > 12
  ·
   rw [if_pos c]
   exact ⟨_, rfl, rfl, ⟨Int.le_refl _, by simp, hl, h0, h1⟩, by simp, by simp⟩
  ·
   rw [if_neg c]
   exact ⟨_, rfl, rfl, ⟨Int.le_refl _, by simp, hl, h0, h1⟩, by simp only; omega, by simp only; omega⟩
 unfold zL_.f
 have main : ∀ (d i : Nat) (m : Int), i + d = 65 → 0 ≤ m → m < 18446744073709551616 → Evs (fun k => zL_.l0 k l (i : Int) l 0 m 0) (fun r => r.1 = l ∧ St l r.2.1 r.2.2.1 ∧ 0 ≤ r.2.2.2 ∧ r.2.2.2 ≤ 12) := by
  intro d
  induction d with
  | zero =>
   intro i m hi h0 h1
   obtain ⟨r, hr, hp⟩ := stop m h0 h1 _ rfl
   refine ⟨r, Ev.step (f := fun _ => some r) (fun k => ?_) (Ev.now _), hp⟩
   simp only [zL_.l0]
   by_cases c : (i : Int) < (l.length : Int)
   · rw [if_pos c, if_neg (by omega)]; exact hr
   · rw [if_neg c]; exact hr
  | succ d ih =>
   intro i m hi h0 h1
   by_cases c : (i : Int) < (l.length : Int) ∧ (i : Int) < 64
   ·
    obtain ⟨v, hv, hp⟩ := ih (i + 1) (IntKind.u64.wrap ((Go.bits .xor .u64 m (IntKind.u64.wrap (rd l i))) * 1099511628211)) (by omega) (by simp only [IntKind.wrap_u64]; omega) (by simp only [IntKind.wrap_u64]; omega)
    refine ⟨v, Ev.step (fun k => ?_) hv, hp⟩
    simp only [zL_.l0]
    rw [if_pos c.1, if_pos c.2, if_pos (by omega), w64 (by omega) (by omega)]
    rfl
   ·
    obtain ⟨r, hr, hp⟩ := stop m h0 h1 _ rfl
    refine ⟨r, Ev.step (f := fun _ => some r) (fun k => ?_) (Ev.now _), hp⟩
    simp only [zL_.l0]
    by_cases c1 : (i : Int) < (l.length : Int)
    · rw [if_pos c1, if_neg (fun q => c ⟨c1, q⟩)]; exact hr
    · rw [if_neg c1]; exact hr
 exact main 65 0 88172645463325252 rfl (by decide) (by decide)
theorem one_ok (b : List Int) (q m z of : Int) (h : St b q m) (h1 : 1 ≤ of) (h2 : of ≤ 9223372036854775807) : ∃ v q' m', zK_.f b q m z of = some (v, q', m', z) ∧ St b q' m' := by
 obtain ⟨v, q', m', hv, _, _, hs⟩ := n_ok b q m z of h h1 h2
 refine ⟨v == 0, q', m', ?_, hs⟩
 unfold zK_.f
 rw [hv]
 rfl
theorem strOfNums_len (l : List Int) : (strOfNums l).size = l.length := by simp [strOfNums, ByteArray.size]
theorem ex_sz (t : ByteArray) (i j : Nat) : (t.extract i j).size = min j t.size - i := by rw [ByteArray.size_extract]
theorem w_succN (v : Nat) (h : v ≤ 1000000) : wrap64 ((v : Int) + 1) = ((v + 1 : Nat) : Int) := by rw [w64 (by omega) (by omega)]; omega
theorem spoil_ok (b : List Int) (q m z : Int) (hs : St b q m) (t : ByteArray) (ht : t.size ≤ 900000) : Evs (fun k => zC_.f k b q m z t) (fun r => r.1.size ≤ t.size + 1) := by
 obtain ⟨v, q1, m1, hv, v0, v1, hs1⟩ := n_ok b q m z ((t.size : Int) + 1) hs (by omega) (by omega)
 obtain ⟨u, q2, m2, hu, u0, u1, hs2⟩ := n_ok b q1 m1 z 17 hs1 (by decide) (by decide)
 obtain ⟨v, rfl⟩ : ∃ j : Nat, v = (j : Int) := ⟨v.toNat, by omega⟩
 have main : ∀ (c : ByteArray) (hc : c.size = 1) (w : Bool) (q m : Int) (hs : St b q m), (v : Int) < (t.size : Int) ∨ w = true → Evs (fun k => zC_.j0 k t (v : Int) c w b q m z) (fun r => r.1.size ≤ t.size + 1) := by
  intro c hc w q m hs hw
  have e1 := ex_sz t 0 v
  have e2 := ex_sz t v t.size
  have e3 := ex_sz t (v + 1) t.size
  cases w with
  | true =>
   refine ⟨(((t.extract 0 v) ++ c) ++ (t.extract v t.size), q, m, z), Ev.step (f := fun _ => some (((t.extract 0 v) ++ c) ++ (t.extract v t.size), q, m, z)) (fun k => ?_) (Ev.now _), ?_⟩
   ·
    simp only [zC_.j0, Int.toNat_natCast, ByteArray.size_append]
    rw [if_pos trivial, if_pos (by omega), if_pos (by omega), if_pos (by omega), if_pos (by omega)]
   · simp only [ByteArray.size_append]; omega
  | false =>
   have hlt : v < t.size := by
    rcases hw with h | h
    · omega
    · cases h
   obtain ⟨x, q3, m3, hx, hs3⟩ := one_ok b q m z 2 hs (by decide) (by decide)
   cases x with
   | true =>
    refine ⟨((t.extract 0 v) ++ (t.extract (v + 1) t.size), q3, m3, z), Ev.step (f := fun _ => some ((t.extract 0 v) ++ (t.extract (v + 1) t.size), q3, m3, z)) (fun k => ?_) (Ev.now _), ?_⟩
    ·
     simp only [zC_.j0, hx, Option.bind_some, w_succN v (by omega), Int.toNat_natCast]
     rw [if_neg (by simp), if_pos trivial, if_pos (by omega), if_pos (by omega), if_pos (by omega), if_pos (by omega), if_pos (by omega)]
    · simp only [ByteArray.size_append]; omega
   | false =>
    refine ⟨(((t.extract 0 v) ++ c) ++ (t.extract (v + 1) t.size), q3, m3, z), Ev.step (f := fun _ => some (((t.extract 0 v) ++ c) ++ (t.extract (v + 1) t.size), q3, m3, z)) (fun k => ?_) (Ev.now _), ?_⟩
    ·
     simp only [zC_.j0, hx, Option.bind_some, w_succN v (by omega), Int.toNat_natCast, ByteArray.size_append]
     rw [if_neg (by simp), if_neg (by simp), if_pos (by omega), if_pos (by omega), if_pos (by omega), if_pos (by omega), if_pos (by omega), if_pos (by omega)]
    · simp only [ByteArray.size_append]; omega
 unfold zC_.f
 rw [w64 (by omega) (by omega)]
 refine Evs.bind1 hv (Evs.bind1 hu (Evs.if_pos u0 (Evs.if_pos u1 (Evs.bind1 rfl ?_))))
 refine Evs.ite (fun _ => main _ (by rw [strOfNums_len]; rfl) true q2 m2 hs2 (Or.inr rfl)) (fun hne => ?_)
 obtain ⟨x, q3, m3, hx, hs3⟩ := one_ok b q2 m2 z 3 hs2 (by decide) (by decide)
 refine Evs.bind1 hx ?_
 exact main _ (by rw [strOfNums_len]; rfl) x q3 m3 hs3 (Or.inl (by simp only at hne; omega))
theorem dec_l0 : ∀ (b : Nat) (n : Nat) (x : ByteArray), n ≤ b → b ≤ 4611686018427387904 → x.size + n ≤ 4611686018427387904 → Evs (fun k => z5_.l0 k (n : Int) false x) (fun r => r.size ≤ x.size + n) := by
 intro b
 induction b with
 | zero =>
  intro n x hn _ hx
  obtain rfl : n = 0 := by omega
  refine ⟨x, Ev.step (f := fun _ => some x) (fun k => ?_) (Ev.now _), Nat.le_refl _⟩
  simp only [z5_.l0]
  rw [if_pos (by omega), if_neg (by simp)]
 | succ b ih =>
  intro n x hn hb hx
  by_cases h0 : n = 0
  ·
   subst h0
   refine ⟨x, Ev.step (f := fun _ => some x) (fun k => ?_) (Ev.now _), Nat.le_refl _⟩
   simp only [z5_.l0]
   rw [if_pos (by omega), if_neg (by simp)]
  ·
   have e : wrap64 (Int.tdiv (n : Int) 10) = ((n / 10 : Nat) : Int) := by
    rw [show Int.tdiv (n : Int) 10 = ((n / 10 : Nat) : Int) from rfl]
    exact w64 (by omega) (by omega)
   have e2 : ¬ Int.tmod (n : Int) 10 < 0 := by rw [Int.tmod_eq_emod_of_nonneg (by omega)]; omega
   have hs : ∀ y : ByteArray, (strOfNums [(wrap64 (48 + Int.tmod (n : Int) 10)) % 256] ++ y).size = 1 + y.size := by
    intro y
    rw [ByteArray.size_append, strOfNums_len]
    rfl
   obtain ⟨v, hv, hp⟩ := ih (n / 10) (strOfNums [(wrap64 (48 + Int.tmod (n : Int) 10)) % 256] ++ x) (by omega) (by omega) (by rw [hs]; omega)
   refine ⟨v, Ev.step (fun k => ?_) hv, by rw [hs] at hp; omega⟩
   simp only [z5_.l0, Option.bind_some, e]
   rw [if_neg (by omega), if_neg e2, if_pos (by rw [strOfNums_len]; simp only [List.length_cons, List.length_nil]; omega)]
theorem dec_ok (n : Nat) (hn : n ≤ 1000) : Evs (fun k => z5_.f k (n : Int)) (fun r => r.size ≤ 1001) := by
 unfold z5_.f
 refine Evs.ite (fun _ => Evs.now _ (by show 1 ≤ 1001; omega)) (fun h => ?_)
 rw [decide_eq_false (show ¬ (n : Int) < 0 by omega)]
 exact (dec_l0 n n (⟨#[]⟩ : ByteArray) (Nat.le_refl _) (by omega) (by show 0 + n ≤ _; omega)).mono (fun r h => by have : (⟨#[]⟩ : ByteArray).size = 0 := rfl; omega)
theorem outL_len (A : List Int) : ∀ i, (Hand.outL A i).length = 4 * i
 | 0 => rfl
 | i + 1 => by rw [Hand.outL, List.length_append, outL_len A i]; simp; omega
theorem sn_len (l : List Int) : (strOfNums l).size = l.length := by
 unfold strOfNums
 show (List.toArray _).size = _
 simp
theorem outK_rng (S T : List Int) : ∀ n, ∀ x ∈ Hand.outK S T n, 0 ≤ x ∧ x < 4294967296
 | 0, x, h => by simp [Hand.outK] at h
 | n + 1, x, h => by
  rw [Hand.outK, List.mem_append] at h
  rcases h with h | h
  · exact outK_rng S T n x h
  ·
   obtain rfl := List.mem_singleton.1 h
   omega
theorem taken_rng (s : List Int) (b : ByteArray) (hs : s.length = 8) : ∀ x ∈ Hand.takenL s b, 0 ≤ x ∧ x < 4294967296 := by
 have hT : (Hand.sAll (Hand.wAll b 64) s 64).length = 8 := by
  obtain ⟨a, b1, c, d, e, f, g, h, eS⟩ := Hand.sAll_eight (Hand.wAll b 64) s hs 64
  rw [eS]; rfl
 unfold Hand.takenL
 rw [← Hand.outK_eq s _ hs hT]
 exact outK_rng _ _ 8
theorem eat_rng (s : List Int) (b : ByteArray) (hs : s.length = 8) (hr : ∀ x ∈ s, 0 ≤ x ∧ x < 4294967296) : ∀ n, ∀ x ∈ Hand.eat s b n, 0 ≤ x ∧ x < 4294967296
 | 0 => hr
 | n + 1 => taken_rng _ _ (by rw [Hand.eat_length]; exact hs)
theorem map_mod (s : List Int) (hr : ∀ x ∈ s, 0 ≤ x ∧ x < 4294967296) : s.map (· % 4294967296) = s := by
 have : s.map (· % 4294967296) = s.map id := List.map_congr_left (fun x hx => by have := hr x hx; simp only [id]; omega)
 rw [this, List.map_id]
theorem block_ok (s : List Int) (b : ByteArray) (hs : s.length = 8) (hr : ∀ x ∈ s, 0 ≤ x ∧ x < 4294967296) (hb : b.size = 64) : y7_.f s b = some (Hand.takenL s b) := by
 unfold y7_.f
 rw [if_pos ⟨hs, hb⟩, map_mod s hr]
theorem more_l (s : List Int) (t : ByteArray) (n : Int) (hs : s.length = 8) (hr : ∀ x ∈ s, 0 ≤ x ∧ x < 4294967296) (ht : t.size ≤ 2147483648) : ∀ (d i : Nat), i + d = t.size / 64 →
 Ev (fun k => zz_.l0 k ((64 * i : Nat) : Int) (Hand.eat s t i) t n) (Hand.eat s t (t.size / 64), t.extract (64 * (t.size / 64)) t.size, n) := by
 intro d
 induction d with
 | zero =>
  intro i hi
  obtain rfl : i = t.size / 64 := by omega
  refine Ev.step (f := fun _ => some (Hand.eat s t (t.size / 64), t.extract (64 * (t.size / 64)) t.size, n)) (fun k => ?_) (Ev.now _)
  simp only [zz_.l0]
  rw [w64 (by omega) (by omega), if_neg (by omega), if_pos (by omega), if_pos (by omega), Int.toNat_natCast]
 | succ d ih =>
  intro i hi
  have hr1 := ih (i + 1) (by omega)
  have ew : wrap64 (((64 * i : Nat) : Int) + 64) = ((64 * (i + 1) : Nat) : Int) := by rw [w64 (by omega) (by omega)]; omega
  have hb : (t.extract (64 * i) (64 * i + 64)).size = 64 := by rw [ByteArray.size_extract]; omega
  refine Ev.step (fun k => ?_) hr1
  simp only [zz_.l0]
  rw [ew, w64 (by omega) (by omega), if_pos (by omega), if_pos (by omega), if_pos (by omega), if_pos (by omega), Int.toNat_natCast, Int.toNat_natCast]
  rw [show 64 * (i + 1) = 64 * i + 64 from rfl, block_ok _ _ (by rw [Hand.eat_length]; exact hs) (eat_rng s t hs hr i) hb, Option.bind_some]
  rfl
theorem more_ok (s : List Int) (r m : ByteArray) (n : Int) (hs : s.length = 8) (hr : ∀ x ∈ s, 0 ≤ x ∧ x < 4294967296) (hn : 0 ≤ n) (hn2 : n ≤ 1073741824) (hrs : r.size ≤ 1000) (hms : m.size ≤ 1073741824) :
 Ev (fun k => zz_.f k s r n m) (Hand.eat s (r ++ m) ((r ++ m).size / 64), (r ++ m).extract (64 * ((r ++ m).size / 64)) (r ++ m).size, n + (m.size : Int)) := by
 unfold zz_.f
 refine y1_ rfl (zD_ (by simp [hs]) (zD_ (by omega) ?_))
 rw [w64 (by omega) (by omega), List.nil_append]
 have h := more_l s (r ++ m) (n + (m.size : Int)) hs hr (by rw [ByteArray.size_append]; omega) ((r ++ m).size / 64) 0 (by omega)
 exact h
/-- the bytes of a length in bits. -/
def lenL (n : Int) : Nat → List Int
 | 0 => []
 | j + 1 => lenL n j ++ [(wrap64 (n * 8) / 2 ^ (8 * (7 - j))) % 256]
theorem lenL_length (n : Int) : ∀ j, (lenL n j).length = j
 | 0 => rfl
 | j + 1 => by rw [lenL, List.length_append, lenL_length n j]; rfl
theorem lenL_rng (n : Int) : ∀ j, ∀ x ∈ lenL n j, 0 ≤ x ∧ x < 256
 | 0, x, h => by simp [lenL] at h
 | j + 1, x, h => by
  rw [lenL, List.mem_append] at h
  rcases h with h | h
  · exact lenL_rng n j x h
  ·
   obtain rfl := List.mem_singleton.1 h
   omega
theorem bl_lenB (n : Int) : ∀ j, bl (Hand.lenB n j) = (lenL n j).map Int.toNat
 | 0 => rfl
 | j + 1 => by
  rw [Hand.lenB, xg_, bl_lenB n j, lenL, List.map_append, bl_strOfNums _ (fun x hx => by obtain rfl := List.mem_singleton.1 hx; omega)]
theorem bl_zeros : ∀ z, bl (Hand.zeros z) = List.replicate z 0
 | 0 => rfl
 | z + 1 => by
  have h := bl_zeros z
  unfold Hand.zeros bl at h ⊢
  rw [Lib.repeatL, List.replicate_succ, ← h]
  rfl
def zs (r : ByteArray) : Nat := (120 - (r.size + 1)) % 64
def padL (r : ByteArray) (n : Int) : List Int := [128] ++ List.replicate (zs r) 0 ++ lenL n 8
theorem pad_eq (r : ByteArray) (n : Int) : r ++ strOfNums (padL r n) = Hand.pad r n := by
 apply bl_inj
 have hrng : ∀ x ∈ padL r n, 0 ≤ x ∧ x < 256 := by
  intro x hx
  unfold padL at hx
  rw [List.mem_append, List.mem_append] at hx
  rcases hx with (h | h) | h
  ·
   obtain rfl := List.mem_singleton.1 h
   omega
  ·
   have := (List.mem_replicate.1 h).2
   omega
  · exact lenL_rng n 8 x h
 rw [xg_, bl_strOfNums _ hrng]
 unfold Hand.pad Hand.pad2 Hand.pad1
 rw [xg_, xg_, xg_, bl_zeros, bl_lenB]
 unfold padL zs
 rw [List.map_append, List.map_append, List.map_replicate]
 simp only [List.append_assoc]
 rfl
theorem out_l (A : List Int) (r : ByteArray) (n : Int) (hA : A.length = 8) : ∀ (d i : Nat), i + d = 8 → Ev (fun k => zy_.l2 k (Hand.outL A i) (i : Int) A r n) (strOfNums (Hand.outL A 8)) := by
 intro d
 induction d with
 | zero =>
  intro i hi
  obtain rfl : i = 8 := by omega
  refine Ev.step (f := fun _ => some (strOfNums (Hand.outL A 8))) (fun k => ?_) (Ev.now _)
  simp only [zy_.l2]
  rw [if_neg (by omega)]
 | succ d ih =>
  intro i hi
  have hr := ih (i + 1) (by omega)
  have hl := outL_len A i
  refine Ev.step (fun k => ?_) hr
  simp only [zy_.l2]
  rw [if_pos (by omega), if_pos (by omega), if_pos (by omega), Option.bind_some, if_pos (by simp; omega), w64 (by omega) (by omega)]
  rfl
theorem sh_ok (n : Int) (j : Nat) (hj : j < 8) (h0 : 0 ≤ n) (h1 : n ≤ 1073741824) : shr .u64 (IntKind.u64.wrap (wrap64 (8 * n))) (IntKind.u64.wrap (((8 * (7 - j) : Nat) : Int))) % 256 = (wrap64 (n * 8) / 2 ^ (8 * (7 - j))) % 256 := by
 rw [w64 (by omega) (by omega), w64 (by omega) (by omega), IntKind.wrap_u64, IntKind.wrap_u64]
 unfold shr
 rw [show (8 * n) % 18446744073709551616 = n * 8 by omega, show (((8 * (7 - j) : Nat) : Int)) % 18446744073709551616 = ((8 * (7 - j) : Nat) : Int) by omega, Int.toNat_natCast]
 rw [show min (8 * (7 - j)) IntKind.u64.bits = 8 * (7 - j) by show min _ 64 = _; omega]
theorem end_l1 (s : List Int) (r : ByteArray) (n : Int) (hs : s.length = 8) (hr : ∀ x ∈ s, 0 ≤ x ∧ x < 4294967296) (h0 : 0 ≤ n) (h1 : n ≤ 1000000) (hrs : r.size ≤ 1000) : ∀ (d j : Nat), j + d = 8 →
 Ev (fun k => zy_.l1 k ([128] ++ List.replicate (zs r) 0 ++ lenL n j) (IntKind.u64.wrap (wrap64 (8 * n))) (56 - 8 * (j : Int)) s r n) (Hand.summedL s r n) := by
 have hz : zs r < 64 := by unfold zs; omega
 intro d
 induction d with
 | zero =>
  intro j hj
  obtain rfl : j = 8 := by omega
  have hm : (strOfNums (padL r n)).size ≤ 1073741824 := by
   rw [sn_len]; unfold padL; simp only [List.length_append, List.length_replicate, lenL_length, List.length_singleton]; omega
  have h := more_ok s r (strOfNums (padL r n)) n hs hr h0 (by omega) hrs hm
  rw [pad_eq] at h
  refine Ev.step (f := fun k => (zz_.f k s r n (strOfNums (padL r n))).bind fun bt126 => (zy_.l2 k (([] : List Int)) 0 bt126.1 bt126.2.1 bt126.2.2)) (fun k => ?_) (Ev.bind h ?_)
  ·
   simp only [zy_.l1]
   rw [if_neg (by omega)]
   rfl
  ·
   have ho := out_l (Hand.eat s (Hand.pad r n) ((Hand.pad r n).size / 64)) ((Hand.pad r n).extract (64 * ((Hand.pad r n).size / 64)) (Hand.pad r n).size) (n + ((strOfNums (padL r n)).size : Int)) (by rw [Hand.eat_length]; exact hs) 8 0 (by omega)
   exact ho
 | succ d ih =>
  intro j hj
  have h := ih (j + 1) (by omega)
  have e1 : (56 - 8 * (j : Int)) = ((8 * (7 - j) : Nat) : Int) := by omega
  have e2 : wrap64 (((8 * (7 - j) : Nat) : Int) - 8) = 56 - 8 * ((j + 1 : Nat) : Int) := by rw [w64 (by omega) (by omega)]; omega
  refine Ev.step (fun k => ?_) h
  simp only [zy_.l1, e1]
  rw [if_pos (by omega), if_pos (by rw [IntKind.wrap_u64]; omega), if_pos (by simp only [List.length_append, List.length_replicate, lenL_length, List.length_singleton]; omega), sh_ok n j (by omega) h0 (by omega), e2, lenL, List.append_assoc ([128] ++ List.replicate (zs r) 0)]
theorem end_ok (s : List Int) (r : ByteArray) (n : Int) (hs : s.length = 8) (hr : ∀ x ∈ s, 0 ≤ x ∧ x < 4294967296) (h0 : 0 ≤ n) (h1 : n ≤ 1000000) (hrn : (r.size : Int) = n % 64) : Ev (fun k => zy_.f k s r n) (Hand.summedL s r n) := by
 have hz : zs r = (120 - (r.size + 1)) % 64 := rfl
 have hz2 : zs r < 64 := by omega
 have main : ∀ (d j : Nat), j + d = zs r → Ev (fun k => zy_.l0 k ([128] ++ List.replicate j 0) s r n) (Hand.summedL s r n) := by
  intro d
  induction d with
  | zero =>
   intro j hj
   obtain rfl : j = zs r := by omega
   have h := end_l1 s r n hs hr h0 h1 (by omega) 8 0 (by omega)
   refine Ev.step (fun k => ?_) h
   simp only [zy_.l0]
   rw [w64 (by simp only [List.length_append, List.length_replicate, List.length_singleton]; omega) (by simp only [List.length_append, List.length_replicate, List.length_singleton]; omega), Int.tmod_eq_emod_of_nonneg (by omega), if_pos (by simp only [List.length_append, List.length_replicate, List.length_singleton]; omega)]
   simp only [lenL, List.append_nil]
   rfl
  | succ d ih =>
   intro j hj
   have h := ih (j + 1) (by omega)
   refine Ev.step (fun k => ?_) h
   simp only [zy_.l0]
   rw [w64 (by simp only [List.length_append, List.length_replicate, List.length_singleton]; omega) (by simp only [List.length_append, List.length_replicate, List.length_singleton]; omega), Int.tmod_eq_emod_of_nonneg (by omega), if_neg (by simp only [List.length_append, List.length_replicate, List.length_singleton]; omega), if_pos (by simp only [List.length_append, List.length_replicate, List.length_singleton]; omega)]
   rw [List.append_assoc, ← List.replicate_succ']
 have h := main (zs r) 0 (by omega)
 unfold zy_.f
 exact h
theorem first_ok : Hand.firstL.length = 8 ∧ ∀ x ∈ Hand.firstL, 0 ≤ x ∧ x < 4294967296 := by decide
theorem nil_app (a : ByteArray) : (⟨#[]⟩ : ByteArray) ++ a = a := bl_inj (by rw [xg_]; rfl)
theorem digest_s (a : ByteArray) (h : a.size ≤ 20000) : Ev (fun k => yz_.f k a) (Hand.digestL a) := by
 unfold yz_.f
 refine zO_ (by omega) (y1_ rfl ?_)
 have hm := more_ok Hand.firstL ⟨#[]⟩ a 0 first_ok.1 first_ok.2 (by omega) (by omega) (by show 0 ≤ 1000; omega) (by omega)
 rw [nil_app, Int.zero_add] at hm
 refine Ev.bind hm ?_
 have he := end_ok (Hand.eat Hand.firstL a (a.size / 64)) (a.extract (64 * (a.size / 64)) a.size) (a.size : Int) (by rw [Hand.eat_length]; exact first_ok.1) (eat_rng _ _ first_ok.1 first_ok.2 _) (by omega) (by omega) (by rw [ByteArray.size_extract]; omega)
 exact Ev.bind he (Ev.now _)
theorem Evs.step' {α : Type} {f g : Nat → Option α} {P : α → Prop} (h : ∀ k, g (k + 1) = f k) (hf : Evs f P) : Evs g P := by
 obtain ⟨r, hr, hp⟩ := hf
 exact ⟨r, Ev.step h hr, hp⟩
theorem dec_any (n : Nat) (hn : n ≤ 1000) : Evs (fun k => z5_.f k (n : Int)) (fun r => r.size ≤ 1001) := dec_ok n hn
structure Nok (p : IN) : Prop where
 name : p.f0.size ≤ 100
 keys : p.f3.length ≤ 100
abbrev DR := List IN × Int × Int × Int
def Drawn (b : List Int) (z : Int) (r : DR) : Prop := r.1.length ≤ 4 ∧ (∀ p ∈ r.1, Nok p) ∧ St b r.2.1 r.2.2.1 ∧ r.2.2.2 = z
theorem nk {nm : ByteArray} {d : Bool} {sz : Int} {ks : List ByteArray} (h : nm.size ≤ 100) (hk : ks.length ≤ 100) : Nok (⟨nm, d, sz, ks⟩ : IN) := ⟨h, hk⟩
theorem nok_snoc {l : List IN} {p : IN} (hl : ∀ y ∈ l, Nok y) (hp : Nok p) : ∀ y ∈ l ++ [p], Nok y := fun y hy => by
 rcases List.mem_append.1 hy with h | h
 · exact hl y h
 ·
  obtain rfl := List.mem_singleton.1 h
  exact hp
theorem pick_ok (b : List Int) (q m z : Int) (hs : St b q m) (ws : List ByteArray) (h0 : 1 ≤ ws.length) (h1 : ws.length ≤ 1000) (hw : ∀ w ∈ ws, w.size ≤ 100) : ∃ t q' m', yR_.f b q m z ws = some (t, q', m', z) ∧ t.size ≤ 100 ∧ St b q' m' := by
 obtain ⟨v, q1, m1, hv, v0, v1, s1⟩ := n_ok b q m z (ws.length : Int) hs (by omega) (by omega)
 unfold yR_.f
 simp only [hv, Option.bind_some]
 rw [if_pos v0, if_pos v1]
 obtain ⟨i, rfl⟩ : ∃ i : Nat, v = (i : Int) := ⟨v.toNat, by omega⟩
 have hi : i < ws.length := by omega
 refine ⟨_, q1, m1, rfl, ?_, s1⟩
 rw [rdOf_nat ws i hi]
 exact hw _ (List.getElem_mem hi)
theorem node_j2 (b : List Int) (z : Int) (l : List IN) (i : Nat) (hl : l.length ≤ i) (hi : i < 4)
 (ih : ∀ (p : IN) (q m : Int), Nok p → St b q m → Evs (fun k => zc_.l0 k (l ++ [p]) ((i + 1 : Nat) : Int) b q m z) (Drawn b z))
 (q m : Int) (hs : St b q m) (nm : ByteArray) (d : Bool) (sz : Int) (ks : List ByteArray) (hn : nm.size ≤ 100) (hk : ks.length ≤ 50) :
 Evs (fun k => zc_.j2 k l (i : Int) b q m z nm d sz ks) (Drawn b z) := by
 have ew : wrap64 ((i : Int) + 1) = ((i + 1 : Nat) : Int) := by rw [w64 (by omega) (by omega)]; omega
 obtain ⟨v1, q1, m1, h1, s1⟩ := one_ok b q m z 25 hs (by omega) (by omega)
 refine Evs.step' (fun k => by simp only [zc_.j2, ew]; rfl) ?_
 refine Evs.bind1 h1 (Evs.ite (fun _ => ?_) (fun _ => Evs.if_pos (by omega) (ih _ q1 m1 (nk hn (by omega)) s1)))
 obtain ⟨v2, q2, m2, h2, a2, b2, s2⟩ := n_ok b q1 m1 z 3 s1 (by omega) (by omega)
 refine Evs.bind1 h2 (Evs.ite (fun _ => Evs.bind1 rfl ?_) (fun _ => Evs.ite (fun _ => Evs.if_pos (by omega) (Evs.if_pos (by omega) (ih _ q2 m2 (nk hn ?_) s2))) (fun _ => ?_)))
 ·
  obtain ⟨v3, q3, m3, h3, a3, b3, s3⟩ := n_ok b q2 m2 z 3 s2 (by omega) (by omega)
  exact Evs.bind1 h3 (Evs.if_pos a3 (Evs.if_pos (by simpa using b3) (Evs.if_pos (by omega) (ih _ q3 m3 (nk hn (by omega)) s3))))
 ·
  simp only [List.length_append, List.length_singleton]
  omega
 ·
  obtain ⟨t, q3, m3, h3, ht, s3⟩ := pick_ok b q2 m2 z s2 ([(⟨#[]⟩ : ByteArray), (⟨#[97]⟩ : ByteArray), (⟨#[65]⟩ : ByteArray)] : List ByteArray) (by simp) (by simp) (fun w hw => by
   simp only [List.mem_cons, List.not_mem_nil, or_false] at hw
   rcases hw with rfl | rfl | rfl <;> decide)
  exact Evs.bind1 h3 (Evs.if_pos (by omega) (ih _ q3 m3 (nk ht (by omega)) s3))
theorem node_l1 (b : List Int) (z : Int) (l : List IN) (i : Nat) (hl : l.length ≤ i) (hi : i < 4)
 (ih : ∀ (p : IN) (q m : Int), Nok p → St b q m → Evs (fun k => zc_.l0 k (l ++ [p]) ((i + 1 : Nat) : Int) b q m z) (Drawn b z))
 (q m : Int) (hs : St b q m) (nm : ByteArray) (d : Bool) (sz : Int) (hn : nm.size ≤ 100) : ∀ (n : Nat) (ks : List ByteArray), ks.length + n ≤ 50 →
 Evs (fun k => zc_.l1 k l (i : Int) (n : Int) b q m z nm d sz ks) (Drawn b z) := by
 intro n
 induction n with
 | zero =>
  intro ks hk
  exact Evs.step' (f := fun k => zc_.j2 k l (i : Int) b q m z nm d sz ks) (fun k => by simp only [zc_.l1]; rw [if_neg (by omega)]) (node_j2 b z l i hl hi ih q m hs nm d sz ks hn (by omega))
 | succ n ihn =>
  intro ks hk
  have ew : wrap64 (((n + 1 : Nat) : Int) - 1) = (n : Int) := by rw [w64 (by omega) (by omega)]; omega
  refine Evs.step' (fun k => by simp only [zc_.l1, ew]; rw [if_pos (by omega)]) ?_
  refine (Evs.bind (dec_any (n + 1) (by omega)) (fun t ht => Evs.bind (Evs.of (digest_s t (by omega))) (fun u hu => Evs.if_pos (by omega) ?_)))
  exact ihn (ks ++ [u]) (by simp only [List.length_append, List.length_singleton]; omega)
theorem nodes_l0 (b : List Int) (z : Int) : ∀ (d i : Nat) (l : List IN) (q m : Int), i + d = 4 → l.length ≤ i → (∀ p ∈ l, Nok p) → St b q m → Evs (fun k => zc_.l0 k l (i : Int) b q m z) (Drawn b z) := by
 intro d
 induction d with
 | zero =>
  intro i l q m hi hl hn hs
  exact Evs.step' (f := fun _ => some (l, q, m, z)) (fun k => by simp only [zc_.l0]; rw [if_neg (by omega)]) (Evs.now _ ⟨by show l.length ≤ 4; omega, hn, hs, rfl⟩)
 | succ d ih =>
  intro i l q m hi hl hn hs
  have ew : wrap64 ((i : Int) + 1) = ((i + 1 : Nat) : Int) := by rw [w64 (by omega) (by omega)]; omega
  have ih' : ∀ (p : IN) (q m : Int), Nok p → St b q m → Evs (fun k => zc_.l0 k (l ++ [p]) ((i + 1 : Nat) : Int) b q m z) (Drawn b z) := fun p q m hp hs => ih (i + 1) (l ++ [p]) q m (by omega) (by simp; omega) (nok_snoc hn hp) hs
  obtain ⟨v1, q1, m1, h1, s1⟩ := one_ok b q m z 2 hs (by omega) (by omega)
  refine Evs.step' (fun k => by simp only [zc_.l0, ew]; rw [if_pos (by omega)]) ?_
  refine (Evs.bind1 h1 (Evs.ite (fun _ => ih (i + 1) l q1 m1 (by omega) (by omega) hn s1) (fun _ => Evs.bind1 rfl (Evs.if_pos (by omega) (Evs.if_pos (by show (i : Int) < ((4 : Nat) : Int); omega) ?_)))))
  obtain ⟨nm, hnm⟩ : ∃ nm, rdOf ByteArray.empty ([(⟨#[97]⟩ : ByteArray), (⟨#[98, 45, 50]⟩ : ByteArray), (⟨#[99]⟩ : ByteArray), (⟨#[100, 100]⟩ : ByteArray)] : List ByteArray) (i : Int) = nm := ⟨_, rfl⟩
  have hsz : nm.size ≤ 100 := by
   rw [← hnm, rdOf_nat _ i (by show i < 4; omega)]
   have : ∀ w ∈ ([(⟨#[97]⟩ : ByteArray), (⟨#[98, 45, 50]⟩ : ByteArray), (⟨#[99]⟩ : ByteArray), (⟨#[100, 100]⟩ : ByteArray)] : List ByteArray), w.size ≤ 100 := by
    intro w hw
    simp only [List.mem_cons, List.not_mem_nil, or_false] at hw
    rcases hw with rfl | rfl | rfl | rfl <;> decide
   exact this _ (List.getElem_mem _)
  simp only [hnm]
  obtain ⟨v2, q2, m2, h2, s2⟩ := one_ok b q1 m1 z 3 s1 (by omega) (by omega)
  refine Evs.bind1 h2 (Evs.ite (fun _ => ?_) (fun _ => ?_))
  · exact Evs.bind (Evs.of (digest_s nm (by omega))) (fun u hu => node_j2 b z l i hl (by omega) ih' q2 m2 s2 nm _ 0 [u] hsz (by simp))
  ·
   obtain ⟨v3, q3, m3, h3, a3, b3, s3⟩ := n_ok b q2 m2 z 1501 s2 (by omega) (by omega)
   obtain ⟨v4, q4, m4, h4, a4, b4, s4⟩ := n_ok b q3 m3 z 3 s3 (by omega) (by omega)
   obtain ⟨n, rfl⟩ : ∃ n : Nat, v4 = (n : Int) := ⟨v4.toNat, by omega⟩
   exact Evs.bind1 h3 (Evs.bind1 h4 (node_l1 b z l i hl (by omega) ih' q4 m4 s4 nm _ v3 hsz n [] (by simp; omega)))
theorem nodes_draw (b : List Int) (q m z : Int) (hs : St b q m) : Evs (fun k => zc_.f k b q m z) (Drawn b z) := by
 unfold zc_.f
 exact nodes_l0 b z 4 0 [] q m rfl (by simp) (by simp) hs
theorem nok_size {l : List IN} (h : ∀ p ∈ l, Nok p) : ∀ x ∈ l, x.f0.size ≤ 9223372036854775807 ∧ x.f3.length ≤ 9223372036854775807 := fun x hx => by
 have h1 := (h x hx).name
 have h2 := (h x hx).keys
 omega
theorem draw_bytes (l : List Int) (hl : l.length ≤ 1048576) : Evs (fun k => yc_.f k l) (fun r => ∀ p ∈ r, Nok p) := by
 unfold yc_.f
 refine Evs.bind (src_ok l hl) (fun r hr => ?_)
 obtain ⟨b, q, m, z⟩ := r
 obtain ⟨rfl, hs, hz⟩ := hr
 exact Evs.bind (nodes_draw b q m z hs) (fun r hr => Evs.now _ hr.2.1)
theorem text_size (l : List IN) : (textOf l).size ≤ 90000 := by
 unfold textOf
 by_cases h : yn_ l = true
 ·
  rw [if_pos h]
  obtain ⟨h1, h2⟩ := fits l h
  have := upTo_size l h1 h2 l.length (Nat.le_refl _)
  omega
 ·
  rw [if_neg h]
  exact Nat.zero_le _
theorem draw_read (l : List Int) (hl : l.length ≤ 1048576) : Evs (fun k => z8_.f k l) (fun t => True) := by
 unfold z8_.f
 refine Evs.bind (src_ok l hl) (fun r hr => ?_)
 obtain ⟨b, q, m, z⟩ := r
 obtain ⟨rfl, hs, hz⟩ := hr
 refine Evs.bind (nodes_draw b q m z hs) (fun r hr => ?_)
 obtain ⟨ns, q1, m1, z1⟩ := r
 obtain ⟨_, hn, s1, rfl⟩ := hr
 simp only at hn s1
 refine Evs.bind (Evs.of (nbytes_s ns (nok_size hn))) (fun t ht => ?_)
 have hsz : t.size ≤ 90000 := by rw [ht]; exact text_size ns
 obtain ⟨v, q2, m2, h2, _, _, s2⟩ := n_ok b q1 m1 z1 5 s1 (by omega) (by omega)
 refine Evs.bind1 h2 (Evs.ite (fun _ => ?_) (fun _ => Evs.ite (fun _ => ?_) (fun _ => Evs.now _ trivial)))
 · exact Evs.bind (spoil_ok b q2 m2 z1 s2 t (by omega)) (fun r hr => Evs.now _ trivial)
 ·
  have e : wrap64 ((t.size : Int) + 1) = (t.size : Int) + 1 := w64 (by omega) (by omega)
  obtain ⟨v3, q3, m3, h3, a3, b3, s3⟩ := n_ok b q2 m2 z1 ((t.size : Int) + 1) s2 (by omega) (by omega)
  rw [e]
  exact Evs.bind1 h3 (Evs.if_pos a3 (Evs.if_pos (by first | omega | (simp only; omega)) (Evs.now _ trivial)))
theorem law_j3 (ys : List Int) (hy : ys.length ≤ 1048576) : Ev (fun k => zo_.j3 k ys) true := by
 obtain ⟨u, hu, _⟩ := draw_read ys hy
 obtain ⟨v, hlen, hks, hb, hs, hi⟩ := same u
 refine Ev.step (fun k => by simp only [zo_.j3]; rfl) (Ev.bind hu (Ev.bind hi (Ev.bind hs (zD_ rfl ?_))))
 by_cases hc : v.2 = 0
 ·
  obtain ⟨hr, hx⟩ := hb hc
  obtain ⟨_, hf⟩ := fits v.1 hr
  have hsz : ∀ x ∈ v.1, x.f0.size ≤ 9223372036854775807 ∧ x.f3.length ≤ 9223372036854775807 := fun x hx => by
   have h1 := (hf x hx).name
   have h2 := (hf x hx).many
   omega
  have ht := nbytes_s v.1 hsz
  unfold textOf at ht
  rw [if_pos hr, hx] at ht
  exact zD_ hc (Ev.bind ht (ev_eq (by simp)))
 · exact zO_ hc (Ev.now _)
theorem FnNodes : zo_.Pure := by
 intro l0 l1 _ _ _ _ _ _
 refine Ev.rounds (g := fun k => zo_.f k l0 l1) (Evs.ev ?_)
 have out : Evs (fun k => zo_.j0 k l0 l1 true) (fun x => x = true) := ⟨true, Ev.step (f := fun _ => some true) (fun k => by simp only [zo_.j0]; rw [if_pos trivial]) (Ev.now _), rfl⟩
 unfold zo_.f
 refine Evs.ite (fun _ => out) (fun hl0 => ?_)
 by_cases hl1 : (l1.length : Int) > 1048576
 · rw [decide_eq_true hl1]; exact out
 rw [decide_eq_false hl1]
 obtain ⟨ns, hD, hn⟩ := draw_bytes l0 (by omega)
 have hsz := nok_size hn
 have h3 := law_j3 l1 (by omega)
 refine ⟨true, Ev.step (fun k => by simp only [zo_.j0]; rw [if_neg Bool.false_ne_true]) (Ev.bind hD (Ev.bind (nbytes_i ns hsz) (Ev.bind (nbytes_s ns hsz) (zD_ rfl (Ev.bind (nodesRight_i ns hsz) ?_))))), rfl⟩
 by_cases hr : yn_ ns = true
 ·
  have hz : 0 < (textOf ns).size := by
   unfold textOf
   rw [if_pos hr, upTo_cat, ByteArray.size_append]
   obtain ⟨hl, _⟩ := fits ns hr
   have := (xl_ (ns.length : Int) (by omega) (by omega)).2
   omega
  have hne : (textOf ns).toList ≠ ([] : List UInt8) := by
   have := not_empty _ hz
   simpa using this
  have e1 : (yn_ ns != ((textOf ns).toList != ([] : List UInt8))) = false := by
   rw [hr, bne_iff_ne.2 hne]
   rfl
  rw [e1]
  have e2 : textOf ns = upTo ns ns.length := by unfold textOf; rw [if_pos hr]
  refine Ev.step (fun k => by simp only [zo_.j1]; rw [if_neg Bool.false_ne_true]) (zO_ hne ?_)
  by_cases hx : ((textOf ns).size : Int) ≤ 20000
  ·
   rw [decide_eq_true hx]
   have hb := read_back ns hr (by rw [← e2]; omega)
   rw [← e2] at hb
   exact Ev.step (fun k => by simp only [zo_.j2]; rw [if_pos trivial]) (Ev.bind hb (zD_ rfl (Ev.bind (nbytes_i ns hsz) (zD_ rfl h3))))
  ·
   rw [decide_eq_false hx]
   exact Ev.step (f := fun k => zo_.j3 k l1) (fun k => by simp only [zo_.j2]; rw [if_neg Bool.false_ne_true]) h3
 ·
  have e0 : textOf ns = (⟨#[]⟩ : ByteArray) := by unfold textOf; rw [if_neg hr]
  have he : (textOf ns).toList = ([] : List UInt8) := by
   rw [e0]
   simp
  have e1 : (yn_ ns != ((textOf ns).toList != ([] : List UInt8))) = false := by
   rw [he, Bool.eq_false_iff.2 hr]
   rfl
  rw [e1]
  refine Ev.step (fun k => by simp only [zo_.j1]; rw [if_neg Bool.false_ne_true]) (zD_ he ?_)
  exact Ev.step (f := fun k => zo_.j3 k l1) (fun k => by simp only [zo_.j2]; rw [if_neg Bool.false_ne_true]) h3
end Go.Proofs.Ytfffdndeccipnaa.Pure
