/- The plain law of FnPack: both sides pack the same blobs to the same text, what was packed is read back, and what is read of a text is packed to this text. -/
import Derived.Test.YtfffdndeccipnaaDoorPFnPackx19
import Derived.Test.YtfffdndeccipnaaDoorVLibFnPack
namespace Go.Proofs.YtfffdndeccipnaaDoor.Pure
open Go.RowKit Go.Proofs.YtfffdndeccipnaaDoor.PFnPack Go.Proofs.YtfffdndeccipnaaDoor.Lib Go.Proofs.YtfffdndeccipnaaDoorW.PrintWords Go.Proofs.YtfffdndeccipnaaDoorW.PrintLast Go.Proofs.YtfffdndeccipnaaDoorW.PrintMore
set_option linter.unusedVariables false
set_option linter.unusedSimpArgs false
theorem wnat' (i n : Nat) (hi : i < n) (hn : n ≤ 9223372036854775807) : wrap64 ((i : Int) + 1) = ((i + 1 : Nat) : Int) := by rw [w64 (by omega) (by omega)]; omega
/-- what is read of bytes: a code, the number's fold, and how many bytes. -/
def gN : Nat → Nat → List Nat → Int × Nat × Nat
 | _, _, [] => (4, 0, 0)
 | i, u, c :: cs => if i = 9 ∧ 1 < c then (3, 0, 0) else if c < 128 then (if c = 0 ∧ 0 < i then (3, 0, 0) else (0, u + c * 128 ^ i, i + 1)) else gN (i + 1) (u + (c - 128) * 128 ^ i) cs
theorem gN_ok : ∀ (l : List Nat) (i u : Nat), i ≤ 9 → u < 128 ^ i → (∀ c ∈ l, c < 256) → (gN i u l).1 = 0 → i < (gN i u l).2.2 ∧ (gN i u l).2.2 ≤ i + l.length ∧ (gN i u l).2.1 < 18446744073709551616 := by
 intro l
 induction l with
 | nil => intro i u _ _ _ h; simp [gN] at h
 | cons c cs ih =>
  intro i u hi hu hl h
  have hc := hl c (by simp)
  unfold gN at h ⊢
  by_cases h1 : i = 9 ∧ 1 < c
  · rw [if_pos h1] at h; simp at h
  rw [if_neg h1] at h ⊢
  have hp : 128 ^ i ≤ 128 ^ 9 := Nat.pow_le_pow_right (by decide) hi
  by_cases h2 : c < 128
  ·
   rw [if_pos h2] at h ⊢
   by_cases h3 : c = 0 ∧ 0 < i
   · rw [if_pos h3] at h; simp at h
   rw [if_neg h3]
   refine ⟨by simp, by simp, ?_⟩
   show u + c * 128 ^ i < _
   by_cases h9 : i = 9
   ·
    subst h9
    have : c ≤ 1 := by omega
    have : c * 128 ^ 9 ≤ 1 * 128 ^ 9 := Nat.mul_le_mul_right _ this
    omega
   ·
    have hp8 : 128 ^ i ≤ 128 ^ 8 := Nat.pow_le_pow_right (by decide) (by omega)
    have : c * 128 ^ i ≤ 127 * 128 ^ 8 := Nat.mul_le_mul (by omega) hp8
    omega
  ·
   rw [if_neg h2] at h ⊢
   have hi9 : i < 9 := by
    by_cases e : i = 9
    · exact absurd ⟨e, by omega⟩ h1
    · omega
   have hu' : u + (c - 128) * 128 ^ i < 128 ^ (i + 1) := by
    have : (c - 128) * 128 ^ i ≤ 127 * 128 ^ i := Nat.mul_le_mul_right _ (by omega)
    rw [Nat.pow_succ]
    omega
   obtain ⟨q1, q2, q3⟩ := ih (i + 1) _ (by omega) hu' (fun x hx => hl x (by simp [hx])) h
   exact ⟨by omega, by simp only [List.length_cons]; omega, q3⟩
/-- a number that was put is got back. -/
theorem gN_put (m : Nat) : ∀ (v i u : Nat) (rest : List Nat), i + m = 9 → v < 128 ^ (m + 1) → v * 128 ^ i < 18446744073709551616 → (0 < i → 0 < v) → gN i u ((numL v).map Int.toNat ++ rest) = (0, u + v * 128 ^ i, i + (numL v).length) := by
 induction m with
 | zero =>
  intro v i u rest hi hv hw h0
  obtain rfl : i = 9 := by omega
  have hv1 : v ≤ 1 := by omega
  rw [numL_lt (by omega)]
  simp only [List.map_cons, List.map_nil, List.cons_append, List.nil_append, Int.toNat_natCast, gN, List.length_cons, List.length_nil]
  rw [if_neg (by omega), if_pos (by omega), if_neg (by have := h0 (by omega); omega)]
 | succ m ih =>
  intro v i u rest hi hv hw h0
  by_cases h : v < 128
  ·
   rw [numL_lt h]
   simp only [List.map_cons, List.map_nil, List.cons_append, List.nil_append, Int.toNat_natCast, gN, List.length_cons, List.length_nil]
   rw [if_neg (by omega), if_pos (by omega), if_neg (by intro q; have := h0 q.2; omega)]
  ·
   rw [numL_ge h]
   simp only [List.map_cons, List.cons_append, Int.toNat_natCast, gN, List.length_cons]
   rw [if_neg (by omega), if_neg (by omega)]
   have e : v / 128 * 128 ^ (i + 1) + v % 128 * 128 ^ i = v * 128 ^ i := by
    rw [Nat.pow_succ, Nat.mul_comm (128 ^ i) 128, ← Nat.mul_assoc, ← Nat.add_mul]
    congr 1
    omega
   rw [ih (v / 128) (i + 1) _ rest (by omega) (by rw [Nat.div_lt_iff_lt_mul (by decide), ← Nat.pow_succ]; exact hv) (by omega) (by intro _; omega)]
   congr 2
   ·
    have : v % 128 + 128 - 128 = v % 128 := by omega
    rw [this]
    omega
   · omega
/-- the number of a fold. -/
def unfold' (u : Nat) : Int := if u % 2 = 1 then -((u / 2 : Nat) : Int) - 1 else ((u / 2 : Nat) : Int)
/-- a text as numbers. -/
def bl (t : ByteArray) : List Nat := t.data.toList.map UInt8.toNat
theorem yC_ (t : ByteArray) : (bl t).length = t.size := by unfold bl; rw [List.length_map]; exact data_length t
theorem yS_ (a b : ByteArray) : bl (a ++ b) = bl a ++ bl b := by simp [bl, ByteArray.data_append]
theorem bl_lt (t : ByteArray) : ∀ c ∈ bl t, c < 256 := by
 intro c hc
 obtain ⟨x, _, rfl⟩ := List.mem_map.1 hc
 exact x.toNat_lt
theorem bl_extract (t : ByteArray) (i j : Nat) : bl (t.extract i j) = ((bl t).take j).drop i := by
 simp only [bl, ByteArray.data_extract, Array.toList_extract, List.extract_eq_take_drop, List.map_take, List.map_drop]
 rw [List.drop_take]
theorem bl_inj {a b : ByteArray} (h : bl a = bl b) : a = b := by
 have h2 : a.data.toList = b.data.toList := by
  unfold bl at h
  exact (List.map_inj_right (fun x y q => UInt8.toNat_inj.1 q)).1 h
 cases a; cases b
 simp only at h2
 congr 1
 exact Array.toList_inj.1 h2
theorem bt_bl (t : ByteArray) (i : Nat) (h : i < t.size) : bt t (i : Int) = (((bl t)[i]'(by rw [yC_]; exact h) : Nat) : Int) := by
 unfold bt
 simp only [Int.toNat_natCast]
 rw [dif_pos h]
 simp [bl]
 rfl
theorem bl_strOfNums (l : List Int) (h : ∀ x ∈ l, 0 ≤ x ∧ x < 256) : bl (strOfNums l) = l.map Int.toNat := by
 unfold bl strOfNums
 simp only [List.map_map]
 refine List.map_congr_left (fun x hx => ?_)
 have := h x hx
 simp only [Function.comp]
 rw [UInt8.toNat_ofNat']
 omega
theorem numL_range (m : Nat) : ∀ u, u < 128 ^ (m + 1) → ∀ x ∈ numL u, 0 ≤ x ∧ x < 256 := by
 induction m with
 | zero =>
  intro u hu x hx
  rw [numL_lt (by simpa using hu)] at hx
  simp at hx; subst hx
  simp at hu
  omega
 | succ m ih =>
  intro u hu x hx
  by_cases h : u < 128
  ·
   rw [numL_lt h] at hx
   simp at hx; omega
  ·
   rw [numL_ge h, List.mem_cons] at hx
   rcases hx with rfl | hx
   · omega
   · exact ih (u / 128) (by rw [Nat.div_lt_iff_lt_mul (by decide), ← Nat.pow_succ]; exact hu) x hx
theorem bl_putNum (n : Int) (h0 : -9223372036854775808 ≤ n) (h1 : n ≤ 9223372036854775807) : bl (yr_ n) = (numL (fold n)).map Int.toNat :=
 bl_strOfNums _ (numL_range 9 _ (Nat.lt_of_lt_of_le (fold_lt n h0 h1) (by decide)))
theorem empty_list : ((⟨#[]⟩ : ByteArray).toList == ([] : List UInt8)) = true := by
 rw [ByteArray.toList_eq]; rfl
theorem not_empty (p : ByteArray) (h : 0 < p.size) : (p.toList == ([] : List UInt8)) = false := by
 refine beq_eq_false_iff_ne.2 (fun q => ?_)
 rw [ByteArray.toList_eq] at q
 have := congrArg List.length q
 rw [data_length] at this
 simp only [List.length_nil] at this
 omega
theorem i64_xor_zero (x : Int) (h0 : -9223372036854775808 ≤ x) (h1 : x ≤ 9223372036854775807) : Go.bits .xor .i64 x 0 = x := by
 show IntKind.i64.wrap (((BitVec.ofInt 64 x) ^^^ (BitVec.ofInt 64 0)).toNat : Int) = x
 rw [show BitVec.ofInt 64 0 = 0#64 by decide, BitVec.xor_zero, BitVec.toNat_ofInt, i64_w]
 unfold wrap64
 omega
theorem i64_xor_ones (x : Int) (h0 : -9223372036854775808 ≤ x) (h1 : x ≤ 9223372036854775807) : Go.bits .xor .i64 x (-1) = -x - 1 := by
 show IntKind.i64.wrap (((BitVec.ofInt 64 x) ^^^ (BitVec.ofInt 64 (-1))).toNat : Int) = -x - 1
 rw [show BitVec.ofInt 64 (-1) = BitVec.allOnes 64 by decide, BitVec.xor_allOnes, BitVec.toNat_not, BitVec.toNat_ofInt, i64_w]
 unfold wrap64
 omega
theorem unfold_eq (u : Nat) (h : u < 18446744073709551616) : Go.bits .xor .i64 (wrap64 ((u : Int) / 2)) (wrap64 (-(wrap64 (Go.bits .and .u64 (u : Int) 1)))) = unfold' u := by
 have e : Go.bits .and .u64 (u : Int) 1 = ((u % 2 : Nat) : Int) := by
  refine (u64_and_nat u 1 h (by decide)).trans ?_
  rw [Nat.and_one_is_mod]
 rw [e, w64 (n := (u : Int) / 2) (by omega) (by omega), w64 (n := ((u % 2 : Nat) : Int)) (by omega) (by omega)]
 unfold unfold'
 by_cases q : u % 2 = 1
 ·
  rw [if_pos q, q]
  rw [show wrap64 (-((1 : Nat) : Int)) = -1 by unfold wrap64; omega, i64_xor_ones _ (by omega) (by omega)]
  omega
 ·
  rw [if_neg q, show u % 2 = 0 by omega]
  rw [show wrap64 (-((0 : Nat) : Int)) = 0 by unfold wrap64; omega, i64_xor_zero _ (by omega) (by omega)]
  omega
theorem or_shl (u c i : Nat) (hu : u < 128 ^ i) (h : i ≤ 8 ∧ c < 256 ∨ i = 9 ∧ c ≤ 1) : Go.bits .or .u64 (u : Int) (shl .u64 (IntKind.u64.wrap (Go.bits .and .u8 (c : Int) 127)) (wrap64 (7 * (i : Int)))) = ((u + c % 128 * 128 ^ i : Nat) : Int) := by
 have e1 : Go.bits .and .u8 (c : Int) 127 = ((c % 128 : Nat) : Int) := by
  refine (u8_and_nat c 127 (by omega) (by decide)).trans ?_
  rw [nat_mask7]
 have e2 : (2 : Nat) ^ (7 * i) = 128 ^ i := by rw [Nat.pow_mul]
 have hb : c % 128 * 128 ^ i < 18446744073709551616 := by
  rcases h with ⟨h, hc⟩ | ⟨rfl, hc⟩
  ·
   have : 128 ^ i ≤ 128 ^ 8 := Nat.pow_le_pow_right (by decide) h
   have : c % 128 * 128 ^ i ≤ 127 * 128 ^ 8 := Nat.mul_le_mul (by omega) this
   omega
  ·
   have : c % 128 * 128 ^ 9 ≤ 1 * 128 ^ 9 := Nat.mul_le_mul_right _ (by omega)
   omega
 have hub : u < 18446744073709551616 := by
  have : 128 ^ i ≤ 128 ^ 9 := Nat.pow_le_pow_right (by decide) (by omega)
  omega
 have e3 : shl .u64 (IntKind.u64.wrap (Go.bits .and .u8 (c : Int) 127)) (wrap64 (7 * (i : Int))) = ((c % 128 * 128 ^ i : Nat) : Int) := by
  rw [e1, w64 (by omega) (by omega)]
  unfold shl
  rw [show (7 * (i : Int)).toNat = 7 * i by omega, show IntKind.u64.bits = 64 from rfl, Nat.min_eq_left (by omega)]
  simp only [IntKind.wrap_u64]
  rw [show (2 : Int) ^ (7 * i) = ((128 ^ i : Nat) : Int) by rw [← e2]; simp]
  have : (((c % 128 : Nat) : Int) % 18446744073709551616) = ((c % 128 : Nat) : Int) := by omega
  rw [this, ← Int.natCast_mul]
  omega
 rw [e3, u64_or_nat _ _ hub hb, Nat.or_comm, nat_join (7 * i) _ _ (by rw [e2]; exact Nat.mul_mod_left _ _) (by rw [e2]; exact hu)]
 omega
/-- what is got of bytes: a number, the place behind it, a code. -/
def gout (p : Nat) (g : Int × Nat × Nat) : Int × Int × Int := if g.1 = 0 then (unfold' g.2.1, ((p + g.2.2 : Nat) : Int), 0) else (0, 0, g.1)
theorem getNum_i_l0 (x : ByteArray) (p : Nat) (hx : x.size ≤ 4611686018427387904) (hp : p ≤ 4611686018427387904) : ∀ (m i u : Nat), i + m = 9 → u < 128 ^ i → Ev (fun k => zk_.l0 k x (p : Int) (u : Int) (i : Int)) (gout p (gN i u ((bl x).drop (p + i)))) := by
 intro m
 induction m with
 | zero =>
  intro i u hi hu
  obtain rfl : i = 9 := by omega
  by_cases h : p + 9 < x.size
  ·
   have hc : p + 9 < (bl x).length := by rw [yC_]; exact h
   have hb := bl_lt x (bl x)[p + 9] (List.getElem_mem hc)
   have hbt := bt_bl x (p + 9) h
   rw [List.drop_eq_getElem_cons hc]
   generalize (bl x)[p + 9] = c at hb hbt ⊢
   have e1 : wrap64 ((p : Int) + (9 : Nat)) = ((p + 9 : Nat) : Int) := by rw [w64 (by omega) (by omega)]; omega
   refine Ev.step (f := fun k => zk_.j1 k x (p : Int) (Go.bits .or .u64 (u : Int) (shl .u64 (IntKind.u64.wrap (Go.bits .and .u8 (c : Int) 127)) (wrap64 (7 * ((9 : Nat) : Int))))) ((9 : Nat) : Int) (c : Int) (decide ((c : Int) > 1))) (fun k => ?_) ?_
   ·
    simp only [zk_.l0, z6_.f, Option.bind_some, e1, hbt]
    rw [if_neg (by unfold wrap64; omega), if_pos (by omega), if_pos (by omega), if_pos (by rw [w64 (by omega) (by omega)]; omega), if_pos (by omega)]
   ·
    by_cases h1 : 1 < c
    ·
     rw [decide_eq_true (show (c : Int) > 1 by omega)]
     refine Ev.step (f := fun k => zk_.j2 k x (p : Int) (Go.bits .or .u64 (u : Int) (shl .u64 (IntKind.u64.wrap (Go.bits .and .u8 (c : Int) 127)) (wrap64 (7 * ((9 : Nat) : Int))))) ((9 : Nat) : Int) (c : Int) true) (fun k => by simp only [zk_.j1]; rw [if_pos trivial]) ?_
     refine Ev.step (f := fun _ => some (0, 0, 3)) (fun k => by simp only [zk_.j2]; rw [if_pos trivial]) (ev_eq ?_)
     unfold gN
     rw [if_pos ⟨rfl, h1⟩]
     rfl
    ·
     rw [decide_eq_false (show ¬ (c : Int) > 1 by omega), or_shl u c 9 hu (.inr ⟨rfl, by omega⟩), Nat.mod_eq_of_lt (show c < 128 by omega)]
     refine Ev.step (f := fun k => zk_.j2 k x (p : Int) ((u + c * 128 ^ 9 : Nat) : Int) ((9 : Nat) : Int) (c : Int) (decide (c = 0))) (fun k => ?_) ?_
     ·
      simp only [zk_.j1]
      rw [if_neg (by simp)]
      by_cases h0 : c = 0
      · rw [if_pos (by omega), decide_eq_true h0]; rfl
      · rw [if_neg (by omega), decide_eq_false h0]
     ·
      unfold gN
      rw [if_neg (by omega), if_pos (by omega)]
      by_cases h0 : c = 0
      ·
       rw [decide_eq_true h0, if_pos ⟨h0, by decide⟩]
       exact Ev.step (f := fun _ => some (0, 0, 3)) (fun k => by simp only [zk_.j2]; rw [if_pos trivial]) (ev_eq rfl)
      ·
       rw [decide_eq_false h0, if_neg (fun q => h0 q.1)]
       refine Ev.step (f := fun _ => some (Go.bits .xor .i64 (wrap64 (((u + c * 128 ^ 9 : Nat) : Int) / 2)) (wrap64 (-(wrap64 (Go.bits .and .u64 ((u + c * 128 ^ 9 : Nat) : Int) 1)))), wrap64 ((wrap64 ((p : Int) + ((9 : Nat) : Int))) + 1), 0)) (fun k => ?_) (ev_eq ?_)
       ·
        simp only [zk_.j2]
        rw [if_neg (by simp), if_pos (by omega)]
       ·
        have : c * 128 ^ 9 ≤ 1 * 128 ^ 9 := Nat.mul_le_mul_right _ (by omega)
        rw [unfold_eq _ (by omega), e1, w64 (by omega) (by omega)]
        unfold gout
        rw [if_pos rfl]
        simp only [Prod.mk.injEq, true_and]
        exact ⟨by omega, trivial⟩
  ·
   rw [List.drop_eq_nil_of_le (by rw [yC_]; omega)]
   refine Ev.step (f := fun _ => some (0, 0, 4)) (fun k => ?_) (ev_eq rfl)
   simp only [zk_.l0, z6_.f, Option.bind_some]
   rw [if_pos (by unfold wrap64; omega)]
 | succ m ih =>
  intro i u hi hu
  by_cases h : p + i < x.size
  ·
   have hc : p + i < (bl x).length := by rw [yC_]; exact h
   have hb := bl_lt x (bl x)[p + i] (List.getElem_mem hc)
   have hbt := bt_bl x (p + i) h
   rw [List.drop_eq_getElem_cons hc]
   generalize (bl x)[p + i] = c at hb hbt ⊢
   have e1 : wrap64 ((p : Int) + (i : Int)) = ((p + i : Nat) : Int) := by rw [w64 (by omega) (by omega)]; omega
   refine Ev.step (f := fun k => zk_.j1 k x (p : Int) ((u + c % 128 * 128 ^ i : Nat) : Int) (i : Int) (c : Int) false) (fun k => ?_) ?_
   ·
    simp only [zk_.l0, z6_.f, Option.bind_some, e1, hbt, or_shl u c i hu (.inl ⟨by omega, hb⟩)]
    rw [if_neg (by unfold wrap64; omega), if_pos (by omega), if_pos (by omega), if_pos (by rw [w64 (by omega) (by omega)]; omega), if_neg (by omega)]
   ·
    unfold gN
    rw [if_neg (by omega)]
    by_cases h128 : c < 128
    ·
     rw [Nat.mod_eq_of_lt h128, if_pos h128]
     refine Ev.step (f := fun k => zk_.j2 k x (p : Int) ((u + c * 128 ^ i : Nat) : Int) (i : Int) (c : Int) (decide (c = 0 ∧ 0 < i))) (fun k => ?_) ?_
     ·
      simp only [zk_.j1]
      rw [if_neg (by simp)]
      by_cases h0 : c = 0
      ·
       rw [if_pos (by omega)]
       congr 1
       by_cases hi0 : 0 < i
       · rw [decide_eq_true (show (i : Int) > 0 by omega), decide_eq_true ⟨h0, hi0⟩]
       · rw [decide_eq_false (show ¬ (i : Int) > 0 by omega), decide_eq_false (fun q => hi0 q.2)]
      · rw [if_neg (by omega), decide_eq_false (fun q => h0 q.1)]
     ·
      by_cases h0 : c = 0 ∧ 0 < i
      ·
       rw [decide_eq_true h0, if_pos h0]
       exact Ev.step (f := fun _ => some (0, 0, 3)) (fun k => by simp only [zk_.j2]; rw [if_pos trivial]) (ev_eq rfl)
      ·
       rw [decide_eq_false h0, if_neg h0]
       refine Ev.step (f := fun _ => some (Go.bits .xor .i64 (wrap64 (((u + c * 128 ^ i : Nat) : Int) / 2)) (wrap64 (-(wrap64 (Go.bits .and .u64 ((u + c * 128 ^ i : Nat) : Int) 1)))), wrap64 ((wrap64 ((p : Int) + (i : Int))) + 1), 0)) (fun k => ?_) (ev_eq ?_)
       ·
        simp only [zk_.j2]
        rw [if_neg (by simp), if_pos (by omega)]
       ·
        have h8 : 128 ^ i ≤ 128 ^ 8 := Nat.pow_le_pow_right (by decide) (by omega)
        have : c * 128 ^ i ≤ 127 * 128 ^ 8 := Nat.mul_le_mul (by omega) h8
        rw [unfold_eq _ (by omega), e1, w64 (by omega) (by omega)]
        unfold gout
        rw [if_pos rfl]
        simp only [Prod.mk.injEq, true_and]
        exact ⟨by omega, trivial⟩
    ·
     rw [if_neg h128, show c % 128 = c - 128 by omega]
     have hu' : u + (c - 128) * 128 ^ i < 128 ^ (i + 1) := by
      have : (c - 128) * 128 ^ i ≤ 127 * 128 ^ i := Nat.mul_le_mul_right _ (by omega)
      rw [Nat.pow_succ]
      omega
     have hr := ih (i + 1) (u + (c - 128) * 128 ^ i) (by omega) hu'
     refine Ev.step (f := fun k => zk_.j2 k x (p : Int) ((u + (c - 128) * 128 ^ i : Nat) : Int) (i : Int) (c : Int) false) (fun k => ?_) ?_
     ·
      simp only [zk_.j1]
      rw [if_neg (by simp), if_neg (by omega)]
     ·
      refine Ev.step (fun k => ?_) hr
      simp only [zk_.j2]
      rw [if_neg (by simp), if_neg (by omega), wnat' i 10 (by omega) (by decide)]
  ·
   rw [List.drop_eq_nil_of_le (by rw [yC_]; omega)]
   refine Ev.step (f := fun _ => some (0, 0, 4)) (fun k => ?_) (ev_eq rfl)
   simp only [zk_.l0, z6_.f, Option.bind_some]
   rw [if_pos (by unfold wrap64; omega)]
theorem getNum_i (x : ByteArray) (p : Nat) (hx : x.size ≤ 4611686018427387904) (hp : p ≤ 4611686018427387904) : Ev (fun k => zk_.f k x (p : Int)) (gout p (gN 0 0 ((bl x).drop p))) :=
 z0_ (by omega) (getNum_i_l0 x p hx hp 9 0 0 rfl (by decide))
theorem tmod128 (c : Nat) : Int.tmod (c : Int) 128 = ((c % 128 : Nat) : Int) := by rw [Int.tmod_eq_emod_of_nonneg (by omega)]; omega
theorem u7_eq (i : Nat) (h : i ≤ 9) : IntKind.u64.wrap (wrap64 (7 * (i : Int))) = 7 * (i : Int) := by
 rw [w64 (by omega) (by omega)]
 simp only [IntKind.wrap_u64]
 omega
theorem shl_pow (a i : Nat) (hi : i ≤ 9) (h : a * 128 ^ i < 18446744073709551616) : shl .u64 (a : Int) (7 * (i : Int)) = ((a * 128 ^ i : Nat) : Int) := by
 have e2 : (2 : Nat) ^ (7 * i) = 128 ^ i := by rw [Nat.pow_mul]
 unfold shl
 rw [show (7 * (i : Int)).toNat = 7 * i by omega, show IntKind.u64.bits = 64 from rfl, Nat.min_eq_left (by omega)]
 rw [show (2 : Int) ^ (7 * i) = ((128 ^ i : Nat) : Int) by rw [← e2]; simp, ← Int.natCast_mul]
 generalize a * 128 ^ i = b at h ⊢
 simp only [IntKind.wrap_u64]
 omega
theorem add_shl (u c i : Nat) (hu : u < 128 ^ i) (h : i ≤ 8 ∧ c < 256 ∨ i = 9 ∧ c ≤ 1) : IntKind.u64.wrap ((u : Int) + (shl .u64 (Int.tmod (c : Int) 128) (IntKind.u64.wrap (wrap64 (7 * (i : Int)))))) = ((u + c % 128 * 128 ^ i : Nat) : Int) := by
 have hb : c % 128 * 128 ^ i + u < 18446744073709551616 := by
  rcases h with ⟨h, hc⟩ | ⟨rfl, hc⟩
  ·
   have h8 : 128 ^ i ≤ 128 ^ 8 := Nat.pow_le_pow_right (by decide) h
   have : c % 128 * 128 ^ i ≤ 127 * 128 ^ 8 := Nat.mul_le_mul (by omega) h8
   omega
  ·
   have : c % 128 * 128 ^ 9 ≤ 1 * 128 ^ 9 := Nat.mul_le_mul_right _ (by omega)
   omega
 rw [tmod128, u7_eq i (by omega), shl_pow _ i (by omega) (by omega)]
 generalize c % 128 * 128 ^ i = b at hb ⊢
 simp only [IntKind.wrap_u64]
 omega
theorem w_add (a b : Nat) (h : a + b ≤ 1000000) : wrap64 ((a : Int) + (b : Int)) = ((a + b : Nat) : Int) := by rw [w64 (by omega) (by omega)]; omega
theorem w_sub (a b : Nat) (h : a ≤ 1000000) (h2 : b ≤ 1000000) : wrap64 ((a : Int) - (b : Int)) = (a : Int) - (b : Int) := w64 (by omega) (by omega)
theorem u64_id (c : Nat) (h : c < 256) : IntKind.u64.wrap (c : Int) = (c : Int) := by simp only [IntKind.wrap_u64]; omega
theorem u7 (i : Nat) (h : i ≤ 9) : 0 ≤ IntKind.u64.wrap (wrap64 (7 * (i : Int))) := by
 rw [w64 (by omega) (by omega)]
 simp only [IntKind.wrap_u64]
 omega
theorem tmod2 (u : Nat) : Int.tmod (u : Int) 2 = ((u % 2 : Nat) : Int) := by rw [Int.tmod_eq_emod_of_nonneg (by omega)]; omega
theorem tdiv2 (u : Nat) (hu : u < 18446744073709551616) : IntKind.u64.wrap (Int.tdiv (u : Int) 2) = ((u / 2 : Nat) : Int) := by
 rw [Int.tdiv_eq_ediv_of_nonneg (by omega)]
 simp only [IntKind.wrap_u64]
 omega
theorem next_w (p i : Nat) (hp : p ≤ 20000) (hi : i ≤ 9) : wrap64 ((wrap64 ((p : Int) + (i : Int))) + 1) = ((p + (i + 1) : Nat) : Int) := by
 rw [w_add p i (by omega), w64 (by omega) (by omega)]
 omega
theorem neg_w (v : Nat) (hv : v < 9223372036854775808) : wrap64 ((wrap64 (-(wrap64 (v : Int)))) - 1) = -(v : Int) - 1 := by
 rw [w64 (n := (v : Int)) (by omega) (by omega), w64 (n := -(v : Int)) (by omega) (by omega), w64 (by omega) (by omega)]
theorem j2_s (p i u : Nat) (hu : u < 18446744073709551616) (hp : p ≤ 20000) (hi : i ≤ 9) (b : Bool) : Ev (fun k => zl_.j2 k (p : Int) (u : Int) (i : Int) b) (if b = true then (0, 0, 3) else (unfold' u, ((p + (i + 1) : Nat) : Int), 0)) := by
 cases b
 ·
  refine Ev.step (f := fun _ => some (unfold' u, ((p + (i + 1) : Nat) : Int), 0)) (fun k => ?_) (ev_eq (by rw [if_neg (by simp)]))
  simp only [zl_.j2, tmod2, tdiv2 u hu, next_w p i hp hi]
  rw [if_neg (by simp)]
  unfold unfold'
  by_cases q : u % 2 = 1
  · rw [if_pos (by omega), if_pos q, neg_w (u / 2) (by omega)]
  · rw [if_neg (by omega), if_neg q, w64 (by omega) (by omega)]
 · exact Ev.step (f := fun _ => some (0, 0, 3)) (fun k => by simp only [zl_.j2]; rw [if_pos trivial]) (ev_eq (by rw [if_pos rfl]))
theorem j2_bad (p i u : Nat) (hu : u < 18446744073709551616) (hp : p ≤ 20000) (hi : i ≤ 9) : Ev (fun k => zl_.j2 k (p : Int) (u : Int) (i : Int) true) (0, 0, 3) := by
 have := j2_s p i u hu hp hi true
 rwa [if_pos rfl] at this
theorem j2_ok (p i u : Nat) (hu : u < 18446744073709551616) (hp : p ≤ 20000) (hi : i ≤ 9) : Ev (fun k => zl_.j2 k (p : Int) (u : Int) (i : Int) false) (unfold' u, ((p + (i + 1) : Nat) : Int), 0) := by
 have := j2_s p i u hu hp hi false
 rwa [if_neg (by simp)] at this
theorem gout_bad (p : Nat) : gout p (3, 0, 0) = (0, 0, 3) := rfl
theorem gout_short (p : Nat) : gout p (4, 0, 0) = (0, 0, 4) := rfl
theorem gout_good (p u n : Nat) : gout p (0, u, n) = (unfold' u, ((p + n : Nat) : Int), 0) := by unfold gout; rw [if_pos rfl]
/-- one byte of a number, as the reference reads it. -/
theorem getNum_s_end (x : ByteArray) (p i u c : Nat) (hp : p ≤ 20000) (hi : i ≤ 9) (hu : u < 128 ^ i) (h : i ≤ 8 ∧ c < 128 ∨ i = 9 ∧ c ≤ 1) : Ev (fun k => zl_.j1 k x (p : Int) (u : Int) (i : Int) (c : Int) false) (if c = 0 ∧ 0 < i then (0, 0, 3) else (unfold' (u + c * 128 ^ i), ((p + (i + 1) : Nat) : Int), 0)) := by
 have hc : c < 128 := by omega
 have hb : u + c * 128 ^ i < 18446744073709551616 := by
  rcases h with ⟨h, _⟩ | ⟨rfl, h1⟩
  ·
   have h8 : 128 ^ i ≤ 128 ^ 8 := Nat.pow_le_pow_right (by decide) h
   have : c * 128 ^ i ≤ 127 * 128 ^ 8 := Nat.mul_le_mul (by omega) h8
   omega
  ·
   have : c * 128 ^ 9 ≤ 1 * 128 ^ 9 := Nat.mul_le_mul_right _ h1
   omega
 have ha := add_shl u c i hu (by omega)
 rw [Nat.mod_eq_of_lt hc] at ha
 have hbad := j2_bad p i (u + c * 128 ^ i) hb hp hi
 have hok := j2_ok p i (u + c * 128 ^ i) hb hp hi
 generalize u + c * 128 ^ i = v at ha hbad hok ⊢
 have st : ∀ k, zl_.j1 (k + 1) x (p : Int) (u : Int) (i : Int) (c : Int) false = if (c : Int) = 0 then zl_.j2 k (p : Int) (v : Int) (i : Int) (decide ((i : Int) > 0)) else zl_.j2 k (p : Int) (v : Int) (i : Int) false := by
  intro k
  simp only [zl_.j1, ha]
  rw [if_neg (by simp), if_pos (u7 i hi)]
  exact if_pos (by clear ha; omega)
 clear ha
 by_cases h0 : c = 0
 ·
  by_cases hi0 : 0 < i
  ·
   rw [if_pos ⟨h0, hi0⟩]
   exact Ev.step (fun k => (st k).trans ((if_pos (by omega)).trans (by rw [decide_eq_true (show (i : Int) > 0 by omega)]))) hbad
  ·
   rw [if_neg (fun q => hi0 q.2)]
   exact Ev.step (fun k => (st k).trans ((if_pos (by omega)).trans (by rw [decide_eq_false (show ¬ (i : Int) > 0 by omega)]))) hok
 ·
  rw [if_neg (fun q => h0 q.1)]
  exact Ev.step (fun k => (st k).trans (if_neg (by omega))) hok
theorem getNum_s_more (x : ByteArray) (p i u c k : Nat) (hi : i ≤ 8) (hu : u < 128 ^ i) (hc : c < 256) (h : ¬ c < 128) : zl_.j1 (k + 1) x (p : Int) (u : Int) (i : Int) (c : Int) false = zl_.l0 k x (p : Int) ((u + (c - 128) * 128 ^ i : Nat) : Int) ((i + 1 : Nat) : Int) := by
 have ha := add_shl u c i hu (.inl ⟨hi, hc⟩)
 rw [show c % 128 = c - 128 by omega] at ha
 generalize u + (c - 128) * 128 ^ i = v at ha ⊢
 simp only [zl_.j1, ha]
 clear ha
 rw [if_neg (by simp), if_pos (u7 i (by omega)), if_neg (by omega), wnat' i 10 (by omega) (by decide)]
theorem getNum_s_in (x : ByteArray) (p i u c k : Nat) (hx : x.size ≤ 20000) (hp : p ≤ 20000) (hi : i ≤ 9) (h : p + i < x.size) (hbt : bt x ((p + i : Nat) : Int) = (c : Int)) (hc : c < 256) : zl_.l0 (k + 1) x (p : Int) (u : Int) (i : Int) = if i = 9 then zl_.j1 k x (p : Int) (u : Int) (i : Int) (c : Int) (decide (1 < c)) else zl_.j1 k x (p : Int) (u : Int) (i : Int) (c : Int) false := by
 simp only [zl_.l0, w_add p i (by omega), w_sub x.size i (by omega) (by omega), hbt, u64_id c hc]
 rw [if_pos (by omega), if_neg (by omega), if_pos (by omega), if_pos (by omega)]
 by_cases h9 : i = 9
 ·
  rw [if_pos (by omega), if_pos h9]
  congr 1
  by_cases h1 : 1 < c
  · rw [decide_eq_true h1, decide_eq_true (by omega)]
  · rw [decide_eq_false h1, decide_eq_false (by omega)]
 · rw [if_neg (by omega), if_neg h9]
theorem getNum_s_out (x : ByteArray) (p i u k : Nat) (hx : x.size ≤ 20000) (hp : p ≤ 20000) (hi : i ≤ 9) (h : ¬ p + i < x.size) : zl_.l0 (k + 1) x (p : Int) (u : Int) (i : Int) = some (0, 0, 4) := by
 simp only [zl_.l0, w_sub x.size i (by omega) (by omega)]
 rw [if_pos (by omega), if_pos (by omega)]
theorem getNum_s_l0 (x : ByteArray) (p : Nat) (hx : x.size ≤ 20000) (hp : p ≤ 20000) : ∀ (m i u : Nat), i + m = 9 → u < 128 ^ i → Ev (fun k => zl_.l0 k x (p : Int) (u : Int) (i : Int)) (gout p (gN i u ((bl x).drop (p + i)))) := by
 intro m
 induction m with
 | zero =>
  intro i u hi hu
  have hi9 : i = 9 := by omega
  by_cases h : p + i < x.size
  ·
   have hc : p + i < (bl x).length := by rw [yC_]; exact h
   have hb := bl_lt x (bl x)[p + i] (List.getElem_mem hc)
   have hbt := bt_bl x (p + i) h
   rw [List.drop_eq_getElem_cons hc]
   generalize (bl x)[p + i] = c at hb hbt ⊢
   by_cases h1 : 1 < c
   ·
    refine Ev.step (fun k => (getNum_s_in x p i u c k hx hp (by omega) h hbt hb).trans ((if_pos hi9).trans (by rw [decide_eq_true h1]))) (Ev.step (f := fun _ => some (0, 0, 3)) (fun k => by simp only [zl_.j1]; rw [if_pos trivial]) (ev_eq ?_))
    unfold gN
    rw [if_pos ⟨hi9, h1⟩, gout_bad]
   ·
    refine Ev.step (fun k => (getNum_s_in x p i u c k hx hp (by omega) h hbt hb).trans ((if_pos hi9).trans (by rw [decide_eq_false h1]))) ?_
    have he := getNum_s_end x p i u c hp (by omega) hu (.inr ⟨hi9, by omega⟩)
    unfold gN
    rw [if_neg (fun q => h1 q.2), if_pos (by omega)]
    by_cases h0 : c = 0 ∧ 0 < i
    ·
     rw [if_pos h0] at he ⊢
     rw [gout_bad]; exact he
    ·
     rw [if_neg h0] at he ⊢
     rw [gout_good]; exact he
  ·
   rw [List.drop_eq_nil_of_le (by rw [yC_]; omega)]
   refine Ev.step (f := fun _ => some (0, 0, 4)) (fun k => getNum_s_out x p i u k hx hp (by omega) h) (ev_eq ?_)
   unfold gN
   rw [gout_short]
 | succ m ih =>
  intro i u hi hu
  by_cases h : p + i < x.size
  ·
   have hc : p + i < (bl x).length := by rw [yC_]; exact h
   have hb := bl_lt x (bl x)[p + i] (List.getElem_mem hc)
   have hbt := bt_bl x (p + i) h
   rw [List.drop_eq_getElem_cons hc]
   generalize (bl x)[p + i] = c at hb hbt ⊢
   have hi9 : ¬ i = 9 := by omega
   refine Ev.step (fun k => (getNum_s_in x p i u c k hx hp (by omega) h hbt hb).trans (if_neg hi9)) ?_
   unfold gN
   rw [if_neg (fun q => hi9 q.1)]
   by_cases h128 : c < 128
   ·
    rw [if_pos h128]
    have he := getNum_s_end x p i u c hp (by omega) hu (.inl ⟨by omega, h128⟩)
    by_cases h0 : c = 0 ∧ 0 < i
    ·
     rw [if_pos h0] at he ⊢
     rw [gout_bad]; exact he
    ·
     rw [if_neg h0] at he ⊢
     rw [gout_good]; exact he
   ·
    rw [if_neg h128]
    have hu' : u + (c - 128) * 128 ^ i < 128 ^ (i + 1) := by
     have : (c - 128) * 128 ^ i ≤ 127 * 128 ^ i := Nat.mul_le_mul_right _ (by omega)
     rw [Nat.pow_succ]
     omega
    exact Ev.step (fun k => getNum_s_more x p i u c k (by omega) hu hb h128) (ih (i + 1) (u + (c - 128) * 128 ^ i) (by omega) hu')
  ·
   rw [List.drop_eq_nil_of_le (by rw [yC_]; omega)]
   refine Ev.step (f := fun _ => some (0, 0, 4)) (fun k => getNum_s_out x p i u k hx hp (by omega) h) (ev_eq ?_)
   unfold gN
   rw [gout_short]
theorem getNum_s (x : ByteArray) (p : Nat) (hx : x.size ≤ 20000) (hp : p ≤ 20000) : Ev (fun k => zl_.f k x (p : Int)) (gout p (gN 0 0 ((bl x).drop p))) :=
 z0_ (by omega) (z0_ (by omega) (getNum_s_l0 x p hx hp 9 0 0 rfl (by decide)))
theorem within_eq (a b c : Int) : yw_.f a b c = some (decide (b ≤ a) && decide (a ≤ c)) := by
 unfold yw_.f
 by_cases h : a ≥ b <;> simp [h]
theorem unfold_range (u : Nat) (h : u < 18446744073709551616) : -9223372036854775808 ≤ unfold' u ∧ unfold' u ≤ 9223372036854775807 := by
 unfold unfold'
 split <;> omega
theorem unfold_fold (n : Int) : unfold' (fold n) = n := by
 unfold unfold' fold
 by_cases h : n < 0
 · rw [if_pos h, if_pos (by omega)]; omega
 · rw [if_neg h, if_neg (by omega)]; omega
/-- what is got of bytes as a number is right, if its code is. -/
theorem gout_ok (x : ByteArray) (p : Nat) (hp : p ≤ x.size) (h : (gout p (gN 0 0 ((bl x).drop p))).2.2 = 0) : ∃ (n : Int) (q : Nat), gout p (gN 0 0 ((bl x).drop p)) = (n, (q : Int), 0) ∧ p < q ∧ q ≤ x.size ∧ -9223372036854775808 ≤ n ∧ n ≤ 9223372036854775807 := by
 unfold gout at h ⊢
 by_cases c : (gN 0 0 ((bl x).drop p)).1 = 0
 ·
  obtain ⟨q1, q2, q3⟩ := gN_ok ((bl x).drop p) 0 0 (by decide) (by decide) (fun c hc => bl_lt x c (List.mem_of_mem_drop hc)) c
  rw [if_pos c]
  have := unfold_range _ q3
  rw [List.length_drop, yC_] at q2
  exact ⟨_, _, rfl, by omega, by omega, this.1, this.2⟩
 ·
  rw [if_neg c] at h
  exact absurd h c
def tout (x : ByteArray) (r : Int × Int × Int) : ByteArray × Int × Int := if r.2.2 = 0 then (if 0 ≤ r.1 ∧ r.1 ≤ 20000 then (if r.2.1 + r.1 > (x.size : Int) then ((⟨#[]⟩ : ByteArray), 0, 4) else (x.extract r.2.1.toNat (r.2.1 + r.1).toNat, r.2.1 + r.1, 0)) else ((⟨#[]⟩ : ByteArray), 0, 3)) else ((⟨#[]⟩ : ByteArray), 0, r.2.2)
theorem getText_i (x : ByteArray) (p : Nat) (hx : x.size ≤ 4611686018427387904) (hp : p ≤ x.size) : Ev (fun k => zK_.f k x (p : Int)) (tout x (gout p (gN 0 0 ((bl x).drop p)))) := by
 have hg := getNum_i x p hx (by omega)
 have hok := gout_ok x p hp
 generalize gout p (gN 0 0 ((bl x).drop p)) = g at hg hok ⊢
 refine Ev.bind hg ?_
 by_cases c : g.2.2 = 0
 ·
  obtain ⟨n, q, rfl, hq1, hq2, hn1, hn2⟩ := hok c
  refine zu_ c (ys_ (within_eq _ _ _) ?_)
  simp only
  by_cases c2 : 0 ≤ n ∧ n ≤ 20000
  ·
   rw [decide_eq_true c2.1, decide_eq_true c2.2]
   refine zu_ rfl (ys_ rfl ?_)
   have e : wrap64 ((q : Int) + n) = (q : Int) + n := w64 (by omega) (by omega)
   rw [e]
   by_cases c3 : (q : Int) + n > (x.size : Int)
   · exact zu_ c3 (ev_eq (by unfold tout; rw [if_pos rfl, if_pos c2, if_pos c3]))
   · exact z0_ c3 (zu_ (by omega) (zu_ (by omega) (zu_ (by omega) (ev_eq (by unfold tout; rw [if_pos rfl, if_pos c2, if_neg c3])))))
  ·
   refine z0_ ?_ (ev_eq (by unfold tout; rw [if_pos rfl, if_neg c2]))
   intro q
   simp only [Bool.and_eq_true, decide_eq_true_eq] at q
   exact c2 q
 · exact z0_ c (ev_eq (by unfold tout; rw [if_neg c]))
def rNum (x : ByteArray) (p : Nat) (bad : Bool) : Int × ByteArray × Int × Bool := if bad = true then (0, x, (p : Int), true) else if (gout p (gN 0 0 ((bl x).drop p))).2.2 = 0 then ((gout p (gN 0 0 ((bl x).drop p))).1, x, (gout p (gN 0 0 ((bl x).drop p))).2.1, bad) else (0, x, (p : Int), true)
def rBytes (x : ByteArray) (p : Nat) (bad : Bool) (n : Nat) : ByteArray × ByteArray × Int × Bool := if bad = true then ((⟨#[]⟩ : ByteArray), x, (p : Int), true) else if p + n > x.size then ((⟨#[]⟩ : ByteArray), x, (p : Int), true) else (x.extract p (p + n), x, ((p + n : Nat) : Int), bad)
theorem num_i (x : ByteArray) (hx : x.size ≤ 20000) (p : Nat) (bad : Bool) (hp : p ≤ x.size) : Ev (fun k => zM_.f k x (p : Int) bad) (rNum x p bad) := by
 refine Ev.bind (getNum_i x p (by omega) (by omega)) ?_
 unfold rNum
 by_cases h : bad = true
 · exact zu_ h (ev_eq (by rw [if_pos h]))
 ·
  refine z0_ h ?_
  by_cases c : (gout p (gN 0 0 ((bl x).drop p))).2.2 = 0
  · exact zu_ c (ev_eq (by rw [if_neg h, if_pos c]))
  · exact z0_ c (ev_eq (by rw [if_neg h, if_neg c]))
theorem bytes_i (x : ByteArray) (hx : x.size ≤ 20000) (p : Nat) (bad : Bool) (n : Nat) (hn : n ≤ 20000) (hp : p ≤ x.size) : yj_.f x (p : Int) bad (n : Int) = some (rBytes x p bad n) := by
 unfold yj_.f rBytes z6_.f
 by_cases h : bad = true
 · rw [if_pos h, if_pos h]
 ·
  rw [if_neg h, if_neg h, Option.bind_some, w64 (n := (x.size : Int) - (p : Int)) (by omega) (by omega), w64 (n := (p : Int) + (n : Int)) (by omega) (by omega), w64 (n := (p : Int) + (n : Int) - (n : Int)) (by omega) (by omega)]
  by_cases c : p + n > x.size
  · rw [if_pos (by omega), if_pos c]
  ·
   rw [if_neg (by omega), if_pos (by omega), if_pos (by omega), if_pos (by omega), if_neg c, show ((p : Int) + (n : Int) - (n : Int)).toNat = p by omega, show ((p : Int) + (n : Int)).toNat = p + n by omega]
   rfl
def rText (x : ByteArray) (p : Nat) (bad : Bool) : ByteArray × ByteArray × Int × Bool := if bad = true then ((⟨#[]⟩ : ByteArray), x, (p : Int), true) else if (tout x (gout p (gN 0 0 ((bl x).drop p)))).2.2 = 0 then ((tout x (gout p (gN 0 0 ((bl x).drop p)))).1, x, (tout x (gout p (gN 0 0 ((bl x).drop p)))).2.1, bad) else ((⟨#[]⟩ : ByteArray), x, (p : Int), true)
theorem text_i (x : ByteArray) (hx : x.size ≤ 20000) (p : Nat) (bad : Bool) (hp : p ≤ x.size) : Ev (fun k => zB_.f k x (p : Int) bad) (rText x p bad) := by
 refine Ev.bind (getText_i x p (by omega) hp) ?_
 unfold rText
 generalize tout x (gout p (gN 0 0 ((bl x).drop p))) = r
 by_cases h : bad = true
 · exact zu_ h (ev_eq (by rw [if_pos h]))
 ·
  refine z0_ h ?_
  by_cases c : r.2.2 = 0
  · exact zu_ c (ev_eq (by rw [if_neg h, if_pos c]))
  · exact z0_ c (ev_eq (by rw [if_neg h, if_neg c]))
theorem putNum_s_l0 (m : Nat) : ∀ (v k : Nat) (acc : List Int), v < 128 ^ (m + 1) → v < 18446744073709551616 → acc.length + m + 1 ≤ 140737488355328 → m < k → zL_.l0 k (v : Int) acc = some (strOfNums (acc ++ numL v)) := by
 induction m with
 | zero =>
  intro v k acc hv hv2 ha hk
  obtain ⟨k, rfl⟩ : ∃ m, k = m + 1 := ⟨k - 1, by omega⟩
  have hv' : v < 128 := by simpa using hv
  simp only [zL_.l0]
  rw [if_neg (by omega), if_pos (by omega), numL_lt hv']
  congr 4
  omega
 | succ m ih =>
  intro v k acc hv hv2 ha hk
  obtain ⟨k, rfl⟩ : ∃ m, k = m + 1 := ⟨k - 1, by omega⟩
  by_cases h : v < 128
  ·
   simp only [zL_.l0]
   rw [if_neg (by omega), if_pos (by omega), numL_lt h]
   congr 4
   omega
  ·
   have e1 : IntKind.u64.wrap (Int.tdiv (v : Int) 128) = ((v / 128 : Nat) : Int) := by
    rw [Int.tdiv_eq_ediv_of_nonneg (by omega), IntKind.wrap_u64]
    omega
   have e2 : (IntKind.u64.wrap ((Int.tmod (v : Int) 128) + 128)) % 256 = ((v % 128 + 128 : Nat) : Int) := by
    rw [Int.tmod_eq_emod_of_nonneg (by omega), IntKind.wrap_u64]
    omega
   simp only [zL_.l0, e1, e2]
   rw [if_pos (by omega), if_pos (by omega), ih (v / 128) k _ (by rw [Nat.div_lt_iff_lt_mul (by decide)]; rw [← Nat.pow_succ]; exact hv) (by omega) (by simp; omega) (by omega), numL_ge h]
   simp
theorem putNum_s (n : Int) (h0 : -9223372036854775808 ≤ n) (h1 : n ≤ 9223372036854775807) (k : Nat) (hk : 10 ≤ k) : zL_.f k n = some (yr_ n) := by
 have e : yV_.f n = some ((fold n : Nat) : Int) := by
  unfold yV_.f fold
  by_cases h : n < 0
  ·
   rw [if_pos h, if_pos h]
   simp only [IntKind.wrap_u64, wrap64]
   congr 1
   omega
  ·
   rw [if_neg h, if_neg h]
   simp only [IntKind.wrap_u64]
   congr 1
   omega
 have hf := fold_lt n h0 h1
 unfold zL_.f
 rw [e, Option.bind_some, putNum_s_l0 9 _ k _ (Nat.lt_of_lt_of_le hf (by decide)) hf (by simp) (by omega)]
 simp [yr_]
theorem or128 (y : Nat) (h : y < 128) : Go.bits .or .u8 (((y : Nat) : Int) % 256) 128 = ((y + 128 : Nat) : Int) := by
 have e : ((y : Nat) : Int) % 256 = (y : Int) := by omega
 rw [e]
 refine (u8_or_nat y 128 (by omega) (by omega)).trans ?_
 have := nat_join 7 128 y (by decide) (by omega)
 rw [Nat.or_comm, this]
 congr 1
 omega
theorem putNum_i_l0 (m : Nat) : ∀ (v k : Nat) (acc : List Int), v < 128 ^ (m + 1) → v < 18446744073709551616 → acc.length + m + 1 ≤ 140737488355328 → m < k → zS_.l0 k (v : Int) acc = some (strOfNums (acc ++ numL v)) := by
 induction m with
 | zero =>
  intro v k acc hv hv2 ha hk
  obtain ⟨k, rfl⟩ : ∃ m, k = m + 1 := ⟨k - 1, by omega⟩
  have hv' : v < 128 := by simpa using hv
  simp only [zS_.l0]
  rw [if_neg (by omega), if_pos (by omega), numL_lt hv']
  congr 4
  omega
 | succ m ih =>
  intro v k acc hv hv2 ha hk
  obtain ⟨k, rfl⟩ : ∃ m, k = m + 1 := ⟨k - 1, by omega⟩
  by_cases h : v < 128
  ·
   simp only [zS_.l0]
   rw [if_neg (by omega), if_pos (by omega), numL_lt h]
   congr 4
   omega
  ·
   have e1 : (v : Int) / 128 = ((v / 128 : Nat) : Int) := by omega
   have e2 : Go.bits .or .u8 ((Go.bits .and .u64 (v : Int) 127) % 256) 128 = ((v % 128 + 128 : Nat) : Int) := by
    have e3 : Go.bits .and .u64 (v : Int) 127 = ((v % 128 : Nat) : Int) := by
     have := u64_and_nat v 127 hv2 (by decide)
     rw [nat_mask7] at this
     exact this
    rw [e3, or128 _ (by omega)]
   simp only [zS_.l0, e1, e2]
   rw [if_pos (by omega), if_pos (by omega), ih (v / 128) k _ (by rw [Nat.div_lt_iff_lt_mul (by decide)]; rw [← Nat.pow_succ]; exact hv) (by omega) (by simp; omega) (by omega), numL_ge h]
   simp
theorem fold_bits (n : Int) (h0 : -9223372036854775808 ≤ n) (h1 : n ≤ 9223372036854775807) : Go.bits .xor .u64 (IntKind.u64.wrap ((IntKind.u64.wrap n) * 2)) (IntKind.u64.wrap (n / 9223372036854775808)) = ((fold n : Nat) : Int) := by
 simp only [IntKind.wrap_u64]
 unfold fold
 by_cases h : n < 0
 ·
  rw [if_pos h]
  have e1 : n / 9223372036854775808 % 18446744073709551616 = ((18446744073709551615 : Nat) : Int) := by omega
  have e2 : n % 18446744073709551616 * 2 % 18446744073709551616 = (((n % 18446744073709551616 * 2 % 18446744073709551616).toNat : Nat) : Int) := by omega
  rw [e1, e2, u64_xor_nat _ _ (by omega) (by omega), xor_ones _ (by omega)]
  omega
 ·
  rw [if_neg h]
  have e1 : n / 9223372036854775808 % 18446744073709551616 = ((0 : Nat) : Int) := by omega
  have e2 : n % 18446744073709551616 * 2 % 18446744073709551616 = (((2 * n).toNat : Nat) : Int) := by omega
  rw [e1, e2, u64_xor_nat _ _ (by omega) (by omega)]
  simp
theorem putNum_i (n : Int) (h0 : -9223372036854775808 ≤ n) (h1 : n ≤ 9223372036854775807) (k : Nat) (hk : 10 ≤ k) : zS_.f k n = some (yr_ n) := by
 have hf := fold_lt n h0 h1
 unfold zS_.f
 rw [fold_bits n h0 h1, putNum_i_l0 9 _ k _ (Nat.lt_of_lt_of_le hf (by decide)) hf (by simp) (by omega)]
 simp [yr_]
theorem outL_len (A : List Int) : ∀ i, (Hand.outL A i).length = 4 * i
 | 0 => rfl
 | i + 1 => by rw [Hand.outL, List.length_append, outL_len A i]; simp; omega
theorem sn_len (l : List Int) : (strOfNums l).size = l.length := by
 unfold strOfNums
 show (List.toArray _).size = _
 simp
theorem outK_rng (S T : List Int) : ∀ n, ∀ x ∈ Hand.outK S T n, 0 ≤ x ∧ x < 4294967296
 | 0, x, h => by simp [Hand.outK] at h
 | n + 1, x, h => by
  rw [Hand.outK, List.mem_append] at h
  rcases h with h | h
  · exact outK_rng S T n x h
  ·
   obtain rfl := List.mem_singleton.1 h
   omega
theorem taken_rng (s : List Int) (b : ByteArray) (hs : s.length = 8) : ∀ x ∈ Hand.takenL s b, 0 ≤ x ∧ x < 4294967296 := by
 have hT : (Hand.sAll (Hand.wAll b 64) s 64).length = 8 := by
  obtain ⟨a, b1, c, d, e, f, g, h, eS⟩ := Hand.sAll_eight (Hand.wAll b 64) s hs 64
  rw [eS]; rfl
 unfold Hand.takenL
 rw [← Hand.outK_eq s _ hs hT]
 exact outK_rng _ _ 8
theorem eat_rng (s : List Int) (b : ByteArray) (hs : s.length = 8) (hr : ∀ x ∈ s, 0 ≤ x ∧ x < 4294967296) : ∀ n, ∀ x ∈ Hand.eat s b n, 0 ≤ x ∧ x < 4294967296
 | 0 => hr
 | n + 1 => taken_rng _ _ (by rw [Hand.eat_length]; exact hs)
theorem map_mod (s : List Int) (hr : ∀ x ∈ s, 0 ≤ x ∧ x < 4294967296) : s.map (· % 4294967296) = s := by
 have : s.map (· % 4294967296) = s.map id := List.map_congr_left (fun x hx => by have := hr x hx; simp only [id]; omega)
 rw [this, List.map_id]
theorem block_ok (s : List Int) (b : ByteArray) (hs : s.length = 8) (hr : ∀ x ∈ s, 0 ≤ x ∧ x < 4294967296) (hb : b.size = 64) : yM_.f s b = some (Hand.takenL s b) := by
 unfold yM_.f
 rw [if_pos ⟨hs, hb⟩, map_mod s hr]
theorem more_l (s : List Int) (t : ByteArray) (n : Int) (hs : s.length = 8) (hr : ∀ x ∈ s, 0 ≤ x ∧ x < 4294967296) (ht : t.size ≤ 2147483648) : ∀ (d i : Nat), i + d = t.size / 64 →
 Ev (fun k => zr_.l0 k ((64 * i : Nat) : Int) (Hand.eat s t i) t n) (Hand.eat s t (t.size / 64), t.extract (64 * (t.size / 64)) t.size, n) := by
 intro d
 induction d with
 | zero =>
  intro i hi
  obtain rfl : i = t.size / 64 := by omega
  refine Ev.step (f := fun _ => some (Hand.eat s t (t.size / 64), t.extract (64 * (t.size / 64)) t.size, n)) (fun k => ?_) (Ev.now _)
  simp only [zr_.l0]
  rw [w64 (by omega) (by omega), if_neg (by omega), if_pos (by omega), if_pos (by omega), Int.toNat_natCast]
 | succ d ih =>
  intro i hi
  have hr1 := ih (i + 1) (by omega)
  have ew : wrap64 (((64 * i : Nat) : Int) + 64) = ((64 * (i + 1) : Nat) : Int) := by rw [w64 (by omega) (by omega)]; omega
  have hb : (t.extract (64 * i) (64 * i + 64)).size = 64 := by rw [ByteArray.size_extract]; omega
  refine Ev.step (fun k => ?_) hr1
  simp only [zr_.l0]
  rw [ew, w64 (by omega) (by omega), if_pos (by omega), if_pos (by omega), if_pos (by omega), if_pos (by omega), Int.toNat_natCast, Int.toNat_natCast]
  rw [show 64 * (i + 1) = 64 * i + 64 from rfl, block_ok _ _ (by rw [Hand.eat_length]; exact hs) (eat_rng s t hs hr i) hb, Option.bind_some]
  rfl
theorem more_ok (s : List Int) (r m : ByteArray) (n : Int) (hs : s.length = 8) (hr : ∀ x ∈ s, 0 ≤ x ∧ x < 4294967296) (hn : 0 ≤ n) (hn2 : n ≤ 1073741824) (hrs : r.size ≤ 1000) (hms : m.size ≤ 1073741824) :
 Ev (fun k => zr_.f k s r n m) (Hand.eat s (r ++ m) ((r ++ m).size / 64), (r ++ m).extract (64 * ((r ++ m).size / 64)) (r ++ m).size, n + (m.size : Int)) := by
 unfold zr_.f
 refine ys_ rfl (zu_ (by simp [hs]) (zu_ (by omega) ?_))
 rw [w64 (by omega) (by omega), List.nil_append]
 have h := more_l s (r ++ m) (n + (m.size : Int)) hs hr (by rw [ByteArray.size_append]; omega) ((r ++ m).size / 64) 0 (by omega)
 exact h
/-- the bytes of a length in bits. -/
def lenL (n : Int) : Nat → List Int
 | 0 => []
 | j + 1 => lenL n j ++ [(wrap64 (n * 8) / 2 ^ (8 * (7 - j))) % 256]
theorem lenL_length (n : Int) : ∀ j, (lenL n j).length = j
 | 0 => rfl
 | j + 1 => by rw [lenL, List.length_append, lenL_length n j]; rfl
theorem lenL_rng (n : Int) : ∀ j, ∀ x ∈ lenL n j, 0 ≤ x ∧ x < 256
 | 0, x, h => by simp [lenL] at h
 | j + 1, x, h => by
  rw [lenL, List.mem_append] at h
  rcases h with h | h
  · exact lenL_rng n j x h
  ·
   obtain rfl := List.mem_singleton.1 h
   omega
theorem bl_lenB (n : Int) : ∀ j, bl (Hand.lenB n j) = (lenL n j).map Int.toNat
 | 0 => rfl
 | j + 1 => by
  rw [Hand.lenB, yS_, bl_lenB n j, lenL, List.map_append, bl_strOfNums _ (fun x hx => by obtain rfl := List.mem_singleton.1 hx; omega)]
theorem bl_zeros : ∀ z, bl (Hand.zeros z) = List.replicate z 0
 | 0 => rfl
 | z + 1 => by
  have h := bl_zeros z
  unfold Hand.zeros bl at h ⊢
  rw [Lib.repeatL, List.replicate_succ, ← h]
  rfl
def zs (r : ByteArray) : Nat := (120 - (r.size + 1)) % 64
def padL (r : ByteArray) (n : Int) : List Int := [128] ++ List.replicate (zs r) 0 ++ lenL n 8
theorem pad_eq (r : ByteArray) (n : Int) : r ++ strOfNums (padL r n) = Hand.pad r n := by
 apply bl_inj
 have hrng : ∀ x ∈ padL r n, 0 ≤ x ∧ x < 256 := by
  intro x hx
  unfold padL at hx
  rw [List.mem_append, List.mem_append] at hx
  rcases hx with (h | h) | h
  ·
   obtain rfl := List.mem_singleton.1 h
   omega
  ·
   have := (List.mem_replicate.1 h).2
   omega
  · exact lenL_rng n 8 x h
 rw [yS_, bl_strOfNums _ hrng]
 unfold Hand.pad Hand.pad2 Hand.pad1
 rw [yS_, yS_, yS_, bl_zeros, bl_lenB]
 unfold padL zs
 rw [List.map_append, List.map_append, List.map_replicate]
 simp only [List.append_assoc]
 rfl
theorem out_l (A : List Int) (r : ByteArray) (n : Int) (hA : A.length = 8) : ∀ (d i : Nat), i + d = 8 → Ev (fun k => zq_.l2 k (Hand.outL A i) (i : Int) A r n) (strOfNums (Hand.outL A 8)) := by
 intro d
 induction d with
 | zero =>
  intro i hi
  obtain rfl : i = 8 := by omega
  refine Ev.step (f := fun _ => some (strOfNums (Hand.outL A 8))) (fun k => ?_) (Ev.now _)
  simp only [zq_.l2]
  rw [if_neg (by omega)]
 | succ d ih =>
  intro i hi
  have hr := ih (i + 1) (by omega)
  have hl := outL_len A i
  refine Ev.step (fun k => ?_) hr
  simp only [zq_.l2]
  rw [if_pos (by omega), if_pos (by omega), if_pos (by omega), Option.bind_some, if_pos (by simp; omega), w64 (by omega) (by omega)]
  rfl
theorem sh_ok (n : Int) (j : Nat) (hj : j < 8) (h0 : 0 ≤ n) (h1 : n ≤ 1073741824) : shr .u64 (IntKind.u64.wrap (wrap64 (8 * n))) (IntKind.u64.wrap (((8 * (7 - j) : Nat) : Int))) % 256 = (wrap64 (n * 8) / 2 ^ (8 * (7 - j))) % 256 := by
 rw [w64 (by omega) (by omega), w64 (by omega) (by omega), IntKind.wrap_u64, IntKind.wrap_u64]
 unfold shr
 rw [show (8 * n) % 18446744073709551616 = n * 8 by omega, show (((8 * (7 - j) : Nat) : Int)) % 18446744073709551616 = ((8 * (7 - j) : Nat) : Int) by omega, Int.toNat_natCast]
 rw [show min (8 * (7 - j)) IntKind.u64.bits = 8 * (7 - j) by show min _ 64 = _; omega]
theorem end_l1 (s : List Int) (r : ByteArray) (n : Int) (hs : s.length = 8) (hr : ∀ x ∈ s, 0 ≤ x ∧ x < 4294967296) (h0 : 0 ≤ n) (h1 : n ≤ 1000000) (hrs : r.size ≤ 1000) : ∀ (d j : Nat), j + d = 8 →
 Ev (fun k => zq_.l1 k ([128] ++ List.replicate (zs r) 0 ++ lenL n j) (IntKind.u64.wrap (wrap64 (8 * n))) (56 - 8 * (j : Int)) s r n) (Hand.summedL s r n) := by
 have hz : zs r < 64 := by unfold zs; omega
 intro d
 induction d with
 | zero =>
  intro j hj
  obtain rfl : j = 8 := by omega
  have hm : (strOfNums (padL r n)).size ≤ 1073741824 := by
   rw [sn_len]; unfold padL; simp only [List.length_append, List.length_replicate, lenL_length, List.length_singleton]; omega
  have h := more_ok s r (strOfNums (padL r n)) n hs hr h0 (by omega) hrs hm
  rw [pad_eq] at h
  refine Ev.step (f := fun k => (zr_.f k s r n (strOfNums (padL r n))).bind fun bt126 => (zq_.l2 k (([] : List Int)) 0 bt126.1 bt126.2.1 bt126.2.2)) (fun k => ?_) (Ev.bind h ?_)
  ·
   simp only [zq_.l1]
   rw [if_neg (by omega)]
   rfl
  ·
   have ho := out_l (Hand.eat s (Hand.pad r n) ((Hand.pad r n).size / 64)) ((Hand.pad r n).extract (64 * ((Hand.pad r n).size / 64)) (Hand.pad r n).size) (n + ((strOfNums (padL r n)).size : Int)) (by rw [Hand.eat_length]; exact hs) 8 0 (by omega)
   exact ho
 | succ d ih =>
  intro j hj
  have h := ih (j + 1) (by omega)
  have e1 : (56 - 8 * (j : Int)) = ((8 * (7 - j) : Nat) : Int) := by omega
  have e2 : wrap64 (((8 * (7 - j) : Nat) : Int) - 8) = 56 - 8 * ((j + 1 : Nat) : Int) := by rw [w64 (by omega) (by omega)]; omega
  refine Ev.step (fun k => ?_) h
  simp only [zq_.l1, e1]
  rw [if_pos (by omega), if_pos (by rw [IntKind.wrap_u64]; omega), if_pos (by simp only [List.length_append, List.length_replicate, lenL_length, List.length_singleton]; omega), sh_ok n j (by omega) h0 (by omega), e2, lenL, List.append_assoc ([128] ++ List.replicate (zs r) 0)]
theorem end_ok (s : List Int) (r : ByteArray) (n : Int) (hs : s.length = 8) (hr : ∀ x ∈ s, 0 ≤ x ∧ x < 4294967296) (h0 : 0 ≤ n) (h1 : n ≤ 1000000) (hrn : (r.size : Int) = n % 64) : Ev (fun k => zq_.f k s r n) (Hand.summedL s r n) := by
 have hz : zs r = (120 - (r.size + 1)) % 64 := rfl
 have hz2 : zs r < 64 := by omega
 have main : ∀ (d j : Nat), j + d = zs r → Ev (fun k => zq_.l0 k ([128] ++ List.replicate j 0) s r n) (Hand.summedL s r n) := by
  intro d
  induction d with
  | zero =>
   intro j hj
   obtain rfl : j = zs r := by omega
   have h := end_l1 s r n hs hr h0 h1 (by omega) 8 0 (by omega)
   refine Ev.step (fun k => ?_) h
   simp only [zq_.l0]
   rw [w64 (by simp only [List.length_append, List.length_replicate, List.length_singleton]; omega) (by simp only [List.length_append, List.length_replicate, List.length_singleton]; omega), Int.tmod_eq_emod_of_nonneg (by omega), if_pos (by simp only [List.length_append, List.length_replicate, List.length_singleton]; omega)]
   simp only [lenL, List.append_nil]
   rfl
  | succ d ih =>
   intro j hj
   have h := ih (j + 1) (by omega)
   refine Ev.step (fun k => ?_) h
   simp only [zq_.l0]
   rw [w64 (by simp only [List.length_append, List.length_replicate, List.length_singleton]; omega) (by simp only [List.length_append, List.length_replicate, List.length_singleton]; omega), Int.tmod_eq_emod_of_nonneg (by omega), if_neg (by simp only [List.length_append, List.length_replicate, List.length_singleton]; omega), if_pos (by simp only [List.length_append, List.length_replicate, List.length_singleton]; omega)]
   rw [List.append_assoc, ← List.replicate_succ']
 have h := main (zs r) 0 (by omega)
 unfold zq_.f
 exact h
theorem first_ok : Hand.firstL.length = 8 ∧ ∀ x ∈ Hand.firstL, 0 ≤ x ∧ x < 4294967296 := by decide
theorem nil_app (a : ByteArray) : (⟨#[]⟩ : ByteArray) ++ a = a := bl_inj (by rw [yS_]; rfl)
theorem digest_size (a : ByteArray) : (Hand.digestL a).size = 32 := by
 unfold Hand.digestL Hand.summedL
 rw [sn_len, outL_len]
theorem digest_s (a : ByteArray) (h : a.size ≤ 20000) : Ev (fun k => yE_.f k a) (Hand.digestL a) := by
 unfold yE_.f
 refine z0_ (by omega) (ys_ rfl ?_)
 have hm := more_ok Hand.firstL ⟨#[]⟩ a 0 first_ok.1 first_ok.2 (by omega) (by omega) (by show 0 ≤ 1000; omega) (by omega)
 rw [nil_app, Int.zero_add] at hm
 refine Ev.bind hm ?_
 have he := end_ok (Hand.eat Hand.firstL a (a.size / 64)) (a.extract (64 * (a.size / 64)) a.size) (a.size : Int) (by rw [Hand.eat_length]; exact first_ok.1) (eat_rng _ _ first_ok.1 first_ok.2 _) (by omega) (by omega) (by rw [ByteArray.size_extract]; omega)
 exact Ev.bind he (Ev.now _)
theorem digest_i (a : ByteArray) (h : a.size ≤ 20000) : yW_.f a = some (Hand.digestL a) := by
 unfold yW_.f
 rw [if_pos (by omega)]
theorem ba_inj {a b : ByteArray} (h : a.toList = b.toList) : a = b := by
 rw [ByteArray.toList_eq, ByteArray.toList_eq] at h
 exact ByteArray.ext (Array.toList_inj.1 h)
def keyB (kind : Int) (text : ByteArray) : ByteArray := Hand.digestL (yr_ kind ++ text)
/-- a number at a place, and the place behind it. -/
def rdn (x : ByteArray) (p : Nat) : Option (Int × Nat) := if (gout p (gN 0 0 ((bl x).drop p))).2.2 = 0 then some ((gout p (gN 0 0 ((bl x).drop p))).1, (gout p (gN 0 0 ((bl x).drop p))).2.1.toNat) else none
theorem rdn_cases (x : ByteArray) (p : Nat) (hp : p ≤ x.size) : (∃ (n : Int) (q : Nat), rdn x p = some (n, q) ∧ gout p (gN 0 0 ((bl x).drop p)) = (n, (q : Int), 0) ∧ p < q ∧ q ≤ x.size ∧ -9223372036854775808 ≤ n ∧ n ≤ 9223372036854775807) ∨ (rdn x p = none ∧ (gout p (gN 0 0 ((bl x).drop p))).2.2 ≠ 0) := by
 unfold rdn
 by_cases c : (gout p (gN 0 0 ((bl x).drop p))).2.2 = 0
 ·
  obtain ⟨n, q, e, h1, h2, h3, h4⟩ := gout_ok x p hp c
  refine Or.inl ⟨n, q, ?_, e, h1, h2, h3, h4⟩
  rw [if_pos c, e]
  simp
 · exact Or.inr ⟨if_neg c, c⟩
/-- the record at a place: kind, text, key, the text's place, and the place behind it. -/
def recAt (x : ByteArray) (p : Nat) : Option (Int × ByteArray × ByteArray × Nat × Nat) :=
 if p + 33 ≤ x.size ∧ bt x (p : Int) = 66 then
  (rdn x (p + 33)).bind fun a => if a.1 = 1 ∨ a.1 = 2 then (rdn x a.2).bind fun b => if 0 ≤ b.1 ∧ b.1 ≤ 2000 ∧ (b.2 : Int) + b.1 ≤ (x.size : Int) then (if keyB a.1 (x.extract b.2 (b.2 + b.1.toNat)) = x.extract (p + 1) (p + 33) then some (a.1, x.extract b.2 (b.2 + b.1.toNat), x.extract (p + 1) (p + 33), b.2, b.2 + b.1.toNat) else none) else none else none
 else none
theorem recAt_some (x : ByteArray) (p : Nat) (kind : Int) (text key : ByteArray) (a b : Nat) (h : recAt x p = some (kind, text, key, a, b)) : (kind = 1 ∨ kind = 2) ∧ text.size ≤ 2000 ∧ p + 33 < a ∧ a + text.size = b ∧ b ≤ x.size ∧ text = x.extract a b ∧ key = keyB kind text ∧ key.size = 32 := by
 unfold recAt at h
 by_cases c0 : p + 33 ≤ x.size ∧ bt x (p : Int) = 66
 rotate_left
 · rw [if_neg c0] at h; simp at h
 rw [if_pos c0] at h
 rcases rdn_cases x (p + 33) c0.1 with ⟨n1, q1, e1, _, g1, g2, _, _⟩ | ⟨e1, _⟩
 rotate_left
 · rw [e1] at h; simp at h
 rw [e1, Option.bind_some] at h
 by_cases c1 : n1 = 1 ∨ n1 = 2
 rotate_left
 · rw [if_neg c1] at h; simp at h
 rw [if_pos c1] at h
 simp only at h
 rcases rdn_cases x q1 g2 with ⟨n2, q2, e2, _, g3, g4, _, _⟩ | ⟨e2, _⟩
 rotate_left
 · rw [e2] at h; simp at h
 rw [e2, Option.bind_some] at h
 by_cases c2 : 0 ≤ n2 ∧ n2 ≤ 2000 ∧ (q2 : Int) + n2 ≤ (x.size : Int)
 rotate_left
 · rw [if_neg c2] at h; simp at h
 rw [if_pos c2] at h
 simp only at h
 by_cases c3 : keyB n1 (x.extract q2 (q2 + n2.toNat)) = x.extract (p + 1) (p + 33)
 rotate_left
 · rw [if_neg c3] at h; simp at h
 rw [if_pos c3] at h
 simp only [Option.some.injEq, Prod.mk.injEq] at h
 obtain ⟨rfl, rfl, rfl, rfl, rfl⟩ := h
 refine ⟨c1, ?_, by omega, ?_, by omega, rfl, c3.symm, ?_⟩ <;> rw [ByteArray.size_extract] <;> omega
theorem blobRight_s (kind : Int) (text : ByteArray) : yp_.f kind text = some ((decide (kind = 1) || decide (kind = 2)) && decide ((text.size : Int) ≤ 2000)) := by
 unfold yp_.f
 by_cases h1 : kind = 1 <;> by_cases h2 : kind = 2 <;> simp [h1, h2]
theorem blobRight_i (kind : Int) (text : ByteArray) : yq_.f kind text = some ((decide (kind = 1) || decide (kind = 2)) && decide ((text.size : Int) ≤ 2000)) := by
 unfold yq_.f y1_.f
 by_cases h1 : kind = 1
 · simp [h1]
 · by_cases h2 : kind = 2 <;> simp [h1, h2]
theorem kind_rng {kind : Int} (h : kind = 1 ∨ kind = 2) : -9223372036854775808 ≤ kind ∧ kind ≤ 9223372036854775807 := by omega
theorem blobKey_s (kind : Int) (text : ByteArray) (hk : kind = 1 ∨ kind = 2) (ht : text.size ≤ 2000) : Ev (fun k => zT_.f k kind text) (keyB kind text) := by
 have hr := kind_rng hk
 have hz := yP_ kind hr.1 hr.2
 refine ys_ (blobRight_s kind text) (zu_ ?_ (Ev.bind (ev_from 10 (fun k hk => putNum_s kind hr.1 hr.2 k hk)) (zu_ (by omega) (Ev.bind (digest_s (yr_ kind ++ text) (by rw [ByteArray.size_append]; omega)) (Ev.now _)))))
 rcases hk with rfl | rfl <;> simp <;> omega
theorem blobKey_i (kind : Int) (text : ByteArray) (hk : kind = 1 ∨ kind = 2) (ht : text.size ≤ 2000) : Ev (fun k => zO_.f k kind text) (keyB kind text) := by
 have hr := kind_rng hk
 have hz := yP_ kind hr.1 hr.2
 exact Ev.bind (ev_from 10 (fun k hk => putNum_i kind hr.1 hr.2 k hk)) (zu_ (by omega) (ys_ (digest_i (yr_ kind ++ text) (by rw [ByteArray.size_append]; omega)) (Ev.now _)))
theorem keyB_size (kind : Int) (text : ByteArray) : (keyB kind text).size = 32 := digest_size _
theorem take_ok (x : ByteArray) (hx : x.size ≤ 20000) (p n : Nat) (h : p + n ≤ x.size) : yj_.f x (p : Int) false (n : Int) = some (x.extract p (p + n), x, ((p + n : Nat) : Int), false) := by
 rw [bytes_i x hx p false n (by omega) (by omega)]
 unfold rBytes
 rw [if_neg (by simp), if_neg (by omega)]
theorem take_no (x : ByteArray) (hx : x.size ≤ 20000) (p n : Nat) (hn : n ≤ 20000) (hp : p ≤ x.size) (h : ¬ p + n ≤ x.size) : yj_.f x (p : Int) false (n : Int) = some ((⟨#[]⟩ : ByteArray), x, (p : Int), true) := by
 rw [bytes_i x hx p false n hn hp]
 unfold rBytes
 rw [if_neg (by simp), if_pos (by omega)]
theorem num_b (x : ByteArray) (hx : x.size ≤ 20000) (p : Nat) (hp : p ≤ x.size) : Ev (fun k => zM_.f k x (p : Int) true) (0, x, (p : Int), true) := num_i x hx p true hp
theorem text_b (x : ByteArray) (hx : x.size ≤ 20000) (p : Nat) (hp : p ≤ x.size) : Ev (fun k => zB_.f k x (p : Int) true) ((⟨#[]⟩ : ByteArray), x, (p : Int), true) := text_i x hx p true hp
/-- the byte at a place, as a text of one. -/
theorem one_byte (x : ByteArray) (p : Nat) (h : p + 1 ≤ x.size) : ((x.extract p (p + 1)).toList = ([66] : List UInt8)) ↔ bt x (p : Int) = 66 := by
 have hb := bt_bl x p (by omega)
 have e : bl (x.extract p (p + 1)) = [(bl x)[p]'(by rw [yC_]; omega)] := by
  rw [bl_extract, List.drop_take, show p + 1 - p = 1 by omega, List.drop_eq_getElem_cons (by rw [yC_]; omega)]
  rfl
 constructor
 ·
  intro h1
  have h2 : x.extract p (p + 1) = ⟨#[66]⟩ := ba_inj (by rw [h1, ByteArray.toList_eq])
  rw [h2] at e
  have e3 : (66 : Nat) = (bl x)[p]'(by rw [yC_]; omega) := by
   have : [66] = [(bl x)[p]'(by rw [yC_]; omega)] := e
   simpa using this
  rw [hb, ← e3]
  rfl
 ·
  intro h1
  have h2 : x.extract p (p + 1) = ⟨#[66]⟩ := by
   apply bl_inj
   rw [e]
   have : ((bl x)[p]'(by rw [yC_]; omega)) = 66 := by omega
   rw [this]
   rfl
  rw [h2, ByteArray.toList_eq]
abbrev IR := Int × ByteArray × ByteArray × Int × Int × Int × Int × Bool
theorem rec_i (x : ByteArray) (hx : x.size ≤ 20000) (p : Nat) (hp : p < x.size) : ∃ ri : IR, Ev (fun k => zn_.f k x (p : Int)) ri ∧ ((recAt x p = none ∧ ri.2.2.2.2.2.2.2 = false) ∨ ∃ kind text key a b, recAt x p = some (kind, text, key, a, b) ∧ ri = (kind, text, key, kind, (a : Int), (text.size : Int), (b : Int), true)) := by
 have bad : ∀ (a : ByteArray) (b : ByteArray) (c : Int) (d : Bool) (e : Int) (f : ByteArray), Ev (fun k => zn_.j0 k a true b c d e f) ((0 : Int), (⟨#[]⟩ : ByteArray), (⟨#[]⟩ : ByteArray), 0, 0, 0, 0, false) := fun a b c d e f =>
  Ev.step (f := fun _ => some _) (fun k => by simp only [zn_.j0]; rw [if_pos trivial]) (Ev.now _)
 unfold zn_.f
 by_cases h33 : p + 33 ≤ x.size
 rotate_left
 ·
  refine ⟨_, ys_ (take_ok x hx p 1 (by omega)) (ys_ (take_no x hx (p + 1) 32 (by omega) (by omega) (by omega)) (Ev.bind (num_b x hx _ (by omega)) (Ev.bind (text_b x hx _ (by omega)) (zu_ rfl (bad _ _ _ _ _ _))))), Or.inl ⟨?_, rfl⟩⟩
  unfold recAt
  rw [if_neg (by omega)]
 have t1 := take_ok x hx p 1 (by omega)
 have t2 := take_ok x hx (p + 1) 32 (by omega)
 rw [show p + 1 + 32 = p + 33 by omega] at t2
 have hn := num_i x hx (p + 33) false h33
 rcases rdn_cases x (p + 33) h33 with ⟨n1, q1, r1, o1, z1, z2, _, _⟩ | ⟨r1, o1⟩
 rotate_left
 ·
  have e1 : rNum x (p + 33) false = (0, x, ((p + 33 : Nat) : Int), true) := by
   unfold rNum
   rw [if_neg (by simp), if_neg o1]
  rw [e1] at hn
  refine ⟨_, ys_ t1 (ys_ t2 (Ev.bind hn (Ev.bind (text_b x hx _ (by omega)) (zu_ rfl (bad _ _ _ _ _ _))))), Or.inl ⟨?_, rfl⟩⟩
  unfold recAt
  rw [r1]
  split <;> rfl
 have e1 : rNum x (p + 33) false = (n1, x, (q1 : Int), false) := by
  unfold rNum
  rw [if_neg (by simp), o1, if_pos rfl]
 rw [e1] at hn
 have ht := text_i x hx q1 false z2
 have nope : ∀ (o : Option (Int × Nat)), rdn x q1 = o → (∀ n q, o = some (n, q) → ¬ (0 ≤ n ∧ n ≤ 2000 ∧ (q : Int) + n ≤ (x.size : Int))) → recAt x p = none := by
  intro o ho h
  unfold recAt
  split
  ·
   rw [r1, Option.bind_some]
   split
   ·
    simp only
    rw [ho]
    cases o with
    | none => rfl
    | some v =>
     obtain ⟨n, q⟩ := v
     rw [Option.bind_some, if_neg (h n q rfl)]
   · rfl
  · rfl
 rcases rdn_cases x q1 z2 with ⟨n2, q2, r2, o2, z3, z4, z5, z6⟩ | ⟨r2, o2⟩
 rotate_left
 ·
  have hto : (tout x (gout q1 (gN 0 0 ((bl x).drop q1)))).2.2 ≠ 0 := by
   unfold tout
   rw [if_neg o2]
   exact o2
  have e2 : rText x q1 false = ((⟨#[]⟩ : ByteArray), x, (q1 : Int), true) := by
   unfold rText
   rw [if_neg (by simp), if_neg hto]
  rw [e2] at ht
  exact ⟨_, ys_ t1 (ys_ t2 (Ev.bind hn (Ev.bind ht (zu_ rfl (bad _ _ _ _ _ _))))), Or.inl ⟨nope _ r2 (fun n q h => by simp at h), rfl⟩⟩
 by_cases c2 : 0 ≤ n2 ∧ n2 ≤ 20000 ∧ (q2 : Int) + n2 ≤ (x.size : Int)
 rotate_left
 ·
  have hto : (tout x (n2, (q2 : Int), 0)).2.2 ≠ 0 := by
   unfold tout
   rw [if_pos rfl]
   by_cases d : 0 ≤ n2 ∧ n2 ≤ 20000
   ·
    rw [if_pos d]
    simp only
    rw [if_pos (by omega)]
    simp
   ·
    rw [if_neg d]
    simp
  have e2 : rText x q1 false = ((⟨#[]⟩ : ByteArray), x, (q1 : Int), true) := by
   unfold rText
   rw [if_neg (by simp), o2, if_neg hto]
  rw [e2] at ht
  exact ⟨_, ys_ t1 (ys_ t2 (Ev.bind hn (Ev.bind ht (zu_ rfl (bad _ _ _ _ _ _))))), Or.inl ⟨nope _ r2 (fun n q h => by
   simp only [Option.some.injEq, Prod.mk.injEq] at h
   obtain ⟨rfl, rfl⟩ := h
   omega), rfl⟩⟩
 obtain ⟨m, rfl⟩ : ∃ m : Nat, n2 = (m : Int) := ⟨n2.toNat, by omega⟩
 have hto : tout x ((m : Int), (q2 : Int), 0) = (x.extract q2 (q2 + m), ((q2 + m : Nat) : Int), 0) := by
  unfold tout
  rw [if_pos rfl, if_pos (by simp only; omega)]
  simp only
  rw [if_neg (by omega), Int.toNat_natCast, show ((q2 : Int) + (m : Int)) = ((q2 + m : Nat) : Int) by omega, Int.toNat_natCast]
 have e2 : rText x q1 false = (x.extract q2 (q2 + m), x, ((q2 + m : Nat) : Int), false) := by
  unfold rText
  rw [if_neg (by simp), o2, hto, if_pos rfl]
 rw [e2] at ht
 have hts : (x.extract q2 (q2 + m)).size = m := by rw [ByteArray.size_extract]; omega
 by_cases h66 : bt x (p : Int) = 66
 rotate_left
 ·
  refine ⟨_, ys_ t1 (ys_ t2 (Ev.bind hn (Ev.bind ht (z0_ (by simp) (z0_ (fun h => h66 ((one_byte x p (by omega)).1 h)) (bad _ _ _ _ _ _)))))), Or.inl ⟨?_, rfl⟩⟩
  unfold recAt
  rw [if_neg (fun h => h66 h.2)]
 have hrec : recAt x p = if n1 = 1 ∨ n1 = 2 then (if 0 ≤ (m : Int) ∧ (m : Int) ≤ 2000 ∧ (q2 : Int) + (m : Int) ≤ (x.size : Int) then (if keyB n1 (x.extract q2 (q2 + m)) = x.extract (p + 1) (p + 33) then some (n1, x.extract q2 (q2 + m), x.extract (p + 1) (p + 33), q2, q2 + m) else none) else none) else none := by
  unfold recAt
  rw [if_pos ⟨h33, h66⟩, r1, Option.bind_some]
  simp only
  rw [r2, Option.bind_some]
  simp only [Int.toNat_natCast]
 have hbr := blobRight_i n1 (x.extract q2 (q2 + m))
 by_cases c1 : (n1 = 1 ∨ n1 = 2) ∧ m ≤ 2000
 rotate_left
 ·
  have ef : ((decide (n1 = 1) || decide (n1 = 2)) && decide (((x.extract q2 (q2 + m)).size : Int) ≤ 2000)) = false := by
   rw [hts]
   by_cases a1 : n1 = 1 <;> by_cases a2 : n1 = 2 <;> simp [a1, a2] <;> omega
  rw [ef] at hbr
  refine ⟨_, ys_ t1 (ys_ t2 (Ev.bind hn (Ev.bind ht (z0_ (by simp) (zu_ ((one_byte x p (by omega)).2 h66) (ys_ hbr (z0_ (by simp) (bad _ _ _ _ _ _)))))))), Or.inl ⟨?_, rfl⟩⟩
  rw [hrec]
  by_cases a1 : n1 = 1 ∨ n1 = 2
  · rw [if_pos a1, if_neg (by omega)]
  · rw [if_neg a1]
 have et : ((decide (n1 = 1) || decide (n1 = 2)) && decide (((x.extract q2 (q2 + m)).size : Int) ≤ 2000)) = true := by
  rw [hts, decide_eq_true (show (m : Int) ≤ 2000 by omega)]
  rcases c1.1 with rfl | rfl <;> rfl
 rw [et] at hbr
 rw [if_pos c1.1, if_pos (by omega)] at hrec
 have hk := blobKey_i n1 (x.extract q2 (q2 + m)) c1.1 (by omega)
 have fin : ∀ r : IR, Ev (fun k => zn_.j0 k (x.extract (p + 1) (p + 33)) ((keyB n1 (x.extract q2 (q2 + m))).toList != (x.extract (p + 1) (p + 33)).toList) x ((q2 + m : Nat) : Int) false n1 (x.extract q2 (q2 + m))) r → Ev (fun k => zn_.f k x (p : Int)) r := by
  intro r hr
  unfold zn_.f
  exact ys_ t1 (ys_ t2 (Ev.bind hn (Ev.bind ht (z0_ (by simp) (zu_ ((one_byte x p (by omega)).2 h66) (ys_ hbr (zu_ rfl (Ev.bind hk hr))))))))
 unfold zn_.f at fin
 by_cases c3 : keyB n1 (x.extract q2 (q2 + m)) = x.extract (p + 1) (p + 33)
 ·
  rw [if_pos c3] at hrec
  refine ⟨(n1, x.extract q2 (q2 + m), x.extract (p + 1) (p + 33), n1, (q2 : Int), (m : Int), ((q2 + m : Nat) : Int), true), fin _ ?_, Or.inr ⟨_, _, _, _, _, hrec, by rw [hts]⟩⟩
  rw [c3, show ((x.extract (p + 1) (p + 33)).toList != (x.extract (p + 1) (p + 33)).toList) = false by simp]
  refine Ev.step (f := fun _ => some _) (fun k => ?_) (Ev.now _)
  simp only [zn_.j0, z6_.f, Option.bind_some, hts]
  rw [if_neg (by simp), w64 (by omega) (by omega), show ((q2 + m : Nat) : Int) - (m : Int) = (q2 : Int) by omega]
 ·
  rw [if_neg c3] at hrec
  refine ⟨((0 : Int), (⟨#[]⟩ : ByteArray), (⟨#[]⟩ : ByteArray), 0, 0, 0, 0, false), fin _ ?_, Or.inl ⟨hrec, rfl⟩⟩
  rw [show ((keyB n1 (x.extract q2 (q2 + m))).toList != (x.extract (p + 1) (p + 33)).toList) = true by simp; exact fun e => c3 (ba_inj e)]
  exact bad _ _ _ _ _ _
theorem j0_bad (x : ByteArray) (p : Nat) : Ev (fun k => zm_.j0 k x (p : Int) true 0 (⟨#[]⟩ : ByteArray)) ((⟨#[]⟩ : ByteArray), 0, 0, 0, 0, (⟨#[]⟩ : ByteArray), 0, false) :=
 Ev.step (f := fun _ => some _) (fun k => by simp only [zm_.j0]; rw [if_pos trivial]) (Ev.now _)
theorem j1_bad (x : ByteArray) (p a b c : Int) : Ev (fun k => zm_.j1 k x p true 0 (⟨#[]⟩ : ByteArray) a b c) ((⟨#[]⟩ : ByteArray), 0, 0, 0, 0, (⟨#[]⟩ : ByteArray), 0, false) :=
 Ev.step (f := fun _ => some _) (fun k => by simp only [zm_.j1]; rw [if_pos trivial]) (Ev.now _)
abbrev SR := ByteArray × Int × Int × Int × Int × ByteArray × Int × Bool
theorem at_s (x : ByteArray) (hx : x.size ≤ 20000) (p : Nat) (hp : p < x.size) : ∃ rs : SR, Ev (fun k => zm_.f k x (p : Int)) rs ∧ ((recAt x p = none ∧ rs.2.2.2.2.2.2.2 = false) ∨ ∃ kind text key a b, recAt x p = some (kind, text, key, a, b) ∧ rs = (key, kind, (a : Int), (text.size : Int), kind, text, (b : Int), true)) := by
 have e33 : wrap64 ((p : Int) + 33) = ((p + 33 : Nat) : Int) := by rw [w64 (by omega) (by omega)]; omega
 have e1 : wrap64 ((p : Int) + 1) = ((p + 1 : Nat) : Int) := by rw [w64 (by omega) (by omega)]; omega
 unfold zm_.f
 by_cases h33 : p + 33 ≤ x.size
 rotate_left
 ·
  refine ⟨_, zu_ (by omega) (j0_bad x p), Or.inl ⟨?_, rfl⟩⟩
  unfold recAt
  rw [if_neg (by omega)]
 by_cases h66 : bt x (p : Int) = 66
 rotate_left
 ·
  refine ⟨_, z0_ (by omega) (zu_ (by omega) (zu_ (by omega) (by rw [show (bt x (p : Int) != 66) = true by simpa using h66]; exact j0_bad x p))), Or.inl ⟨?_, rfl⟩⟩
  unfold recAt
  rw [if_neg (fun h => h66 h.2)]
 have start : ∀ r : SR, Ev (fun k => (zl_.f k x ((p + 33 : Nat) : Int)).bind fun bt179 => (if bt179.2.2 = 0 then (if bt179.1 = 1 then (zm_.j1 k x (p : Int) false 0 (⟨#[]⟩ : ByteArray) bt179.1 bt179.2.1 bt179.2.2) else (zm_.j1 k x (p : Int) (bt179.1 != 2) 0 (⟨#[]⟩ : ByteArray) bt179.1 bt179.2.1 bt179.2.2)) else (zm_.j1 k x (p : Int) true 0 (⟨#[]⟩ : ByteArray) bt179.1 bt179.2.1 bt179.2.2))) r → Ev (fun k => if wrap64 ((p : Int) + 33) > (x.size : Int) then (zm_.j0 k x (p : Int) true 0 (⟨#[]⟩ : ByteArray)) else (if 0 ≤ (p : Int) then (if (p : Int) < (x.size : Int) then (zm_.j0 k x (p : Int) ((bt x (p : Int)) != 66) 0 (⟨#[]⟩ : ByteArray)) else (none)) else (none))) r := by
  intro r hr
  refine z0_ (by omega) (zu_ (by omega) (zu_ (by omega) ?_))
  rw [show (bt x (p : Int) != 66) = false by rw [h66]; rfl]
  exact Ev.step (fun k => by simp only [zm_.j0, e33]; rw [if_neg (by simp)]) hr
 have g1 := getNum_s x (p + 33) hx (by omega)
 have hrec : recAt x p = (rdn x (p + 33)).bind fun a => if a.1 = 1 ∨ a.1 = 2 then (rdn x a.2).bind fun b => if 0 ≤ b.1 ∧ b.1 ≤ 2000 ∧ (b.2 : Int) + b.1 ≤ (x.size : Int) then (if keyB a.1 (x.extract b.2 (b.2 + b.1.toNat)) = x.extract (p + 1) (p + 33) then some (a.1, x.extract b.2 (b.2 + b.1.toNat), x.extract (p + 1) (p + 33), b.2, b.2 + b.1.toNat) else none) else none else none := by
  unfold recAt
  rw [if_pos ⟨h33, h66⟩]
 rcases rdn_cases x (p + 33) h33 with ⟨n1, q1, r1, o1, z1, z2, _, _⟩ | ⟨r1, o1⟩
 rotate_left
 · exact ⟨_, start _ (Ev.bind g1 (z0_ o1 (j1_bad x _ _ _ _))), Or.inl ⟨by rw [hrec, r1]; rfl, rfl⟩⟩
 rw [o1] at g1
 rw [r1, Option.bind_some] at hrec
 by_cases c1 : n1 = 1 ∨ n1 = 2
 rotate_left
 ·
  refine ⟨((⟨#[]⟩ : ByteArray), 0, 0, 0, 0, (⟨#[]⟩ : ByteArray), 0, false), start _ (Ev.bind g1 (zu_ rfl (z0_ (fun e => c1 (Or.inl e)) ?_))), Or.inl ⟨by rw [hrec, if_neg c1], rfl⟩⟩
  rw [show (n1 != 2) = true by simp; exact fun e => c1 (Or.inr e)]
  exact j1_bad x _ _ _ _
 rw [if_pos c1] at hrec
 simp only at hrec
 have start2 : ∀ r : SR, Ev (fun k => zm_.j1 k x (p : Int) false 0 (⟨#[]⟩ : ByteArray) n1 (q1 : Int) 0) r → Ev (fun k => (zl_.f k x ((p + 33 : Nat) : Int)).bind fun bt179 => (if bt179.2.2 = 0 then (if bt179.1 = 1 then (zm_.j1 k x (p : Int) false 0 (⟨#[]⟩ : ByteArray) bt179.1 bt179.2.1 bt179.2.2) else (zm_.j1 k x (p : Int) (bt179.1 != 2) 0 (⟨#[]⟩ : ByteArray) bt179.1 bt179.2.1 bt179.2.2)) else (zm_.j1 k x (p : Int) true 0 (⟨#[]⟩ : ByteArray) bt179.1 bt179.2.1 bt179.2.2))) r := by
  intro r hr
  refine Ev.bind g1 (zu_ rfl ?_)
  by_cases e : n1 = 1
  · exact zu_ e hr
  ·
   refine z0_ e ?_
   rw [show (n1 != 2) = false by simp; omega]
   exact hr
 have g2 := getNum_s x q1 hx (by omega)
 have stepj : ∀ (f : Nat → Option SR) (r : SR), (∀ k, zm_.j1 (k + 1) x (p : Int) false 0 (⟨#[]⟩ : ByteArray) n1 (q1 : Int) 0 = f k) → Ev f r → Ev (fun k => zm_.j1 k x (p : Int) false 0 (⟨#[]⟩ : ByteArray) n1 (q1 : Int) 0) r := fun f r h hr => Ev.step h hr
 rcases rdn_cases x q1 z2 with ⟨n2, q2, r2, o2, z3, z4, z5, z6⟩ | ⟨r2, o2⟩
 rotate_left
 · refine ⟨_, start _ (start2 _ (stepj _ _ (fun k => by simp only [zm_.j1]; rw [if_neg (by simp)]) (Ev.bind g2 (z0_ o2 (Ev.now _))))), Or.inl ⟨by rw [hrec, r2]; rfl, rfl⟩⟩
 rw [o2] at g2
 rw [r2, Option.bind_some] at hrec
 by_cases c2 : 0 ≤ n2 ∧ n2 ≤ 2000 ∧ (q2 : Int) + n2 ≤ (x.size : Int)
 rotate_left
 ·
  refine ⟨((⟨#[]⟩ : ByteArray), 0, 0, 0, 0, (⟨#[]⟩ : ByteArray), 0, false), start _ (start2 _ (stepj _ _ (fun k => by simp only [zm_.j1]; rw [if_neg (by simp)]) (Ev.bind g2 (zu_ rfl ?_)))), Or.inl ⟨by rw [hrec, if_neg c2], rfl⟩⟩
  simp only
  by_cases d1 : n2 < 0
  · exact zu_ d1 (Ev.now _)
  refine z0_ d1 ?_
  by_cases d2 : n2 > 2000
  · exact zu_ d2 (Ev.now _)
  refine z0_ d2 (zu_ ?_ (Ev.now _))
  rw [w64 (by omega) (by omega)]
  omega
 rw [if_pos c2] at hrec
 simp only at hrec
 obtain ⟨m, rfl⟩ : ∃ m : Nat, n2 = (m : Int) := ⟨n2.toNat, by omega⟩
 simp only [Int.toNat_natCast] at hrec
 have eq2 : wrap64 ((q2 : Int) + (m : Int)) = ((q2 + m : Nat) : Int) := by rw [w64 (by omega) (by omega)]; omega
 have esz : wrap64 ((x.size : Int) - (m : Int)) = (x.size : Int) - (m : Int) := by rw [w64 (by omega) (by omega)]
 have hts : (x.extract q2 (q2 + m)).size = m := by rw [ByteArray.size_extract]; omega
 have hk := blobKey_s n1 (x.extract q2 (q2 + m)) c1 (by omega)
 have fin : Ev (fun k => zm_.f k x (p : Int)) (x.extract (p + 1) (p + 33), n1, (q2 : Int), (m : Int), n1, x.extract q2 (q2 + m), ((q2 + m : Nat) : Int), ((keyB n1 (x.extract q2 (q2 + m))).toList == (x.extract (p + 1) (p + 33)).toList)) := by
  unfold zm_.f
  refine start _ (start2 _ (stepj _ _ (fun k => by simp only [zm_.j1]; rw [if_neg (by simp)]) (Ev.bind g2 (zu_ rfl ?_))))
  simp only [e1, e33, eq2, esz, Int.toNat_natCast]
  exact z0_ (by omega) (z0_ (by omega) (z0_ (by omega) (zu_ (by omega) (zu_ (by omega) (zu_ (by omega) (zu_ (by omega) (zu_ (by omega) (zu_ (by omega) (Ev.bind hk (Ev.now _))))))))))
 unfold zm_.f at fin
 refine ⟨_, fin, ?_⟩
 by_cases c3 : keyB n1 (x.extract q2 (q2 + m)) = x.extract (p + 1) (p + 33)
 ·
  rw [if_pos c3] at hrec
  refine Or.inr ⟨_, _, _, _, _, hrec, ?_⟩
  rw [c3, hts]
  simp
 ·
  rw [if_neg c3] at hrec
  refine Or.inl ⟨hrec, ?_⟩
  simp only [beq_eq_false_iff_ne, ne_eq]
  exact fun e => c3 (ba_inj e)
abbrev IB := S60
def rightB (b : IB) : Prop := (b.f0 = 1 ∨ b.f0 = 2) ∧ b.f1.size ≤ 2000
/-- the record of a blob. -/
def recB (b : IB) : ByteArray := (((⟨#[66]⟩ : ByteArray) ++ keyB b.f0 b.f1) ++ yr_ b.f0) ++ (yr_ (b.f1.size : Int) ++ b.f1)
def catB : List IB → ByteArray
 | [] => ⟨#[]⟩
 | b :: l => recB b ++ catB l
theorem recB_cat (b : IB) (rest : ByteArray) : recB b ++ rest = (⟨#[66]⟩ : ByteArray) ++ (keyB b.f0 b.f1 ++ (yr_ b.f0 ++ (yr_ (b.f1.size : Int) ++ (b.f1 ++ rest)))) := by
 unfold recB
 simp only [ByteArray.append_assoc]
theorem size_rng (n : Nat) (h : n ≤ 20000) : -9223372036854775808 ≤ (n : Int) ∧ (n : Int) ≤ 9223372036854775807 := by omega
theorem recB_size (b : IB) (h : rightB b) : (recB b).size = 33 + (yr_ b.f0).size + (yr_ (b.f1.size : Int)).size + b.f1.size ∧ (recB b).size ≤ 3000 := by
 have hr := kind_rng h.1
 have z1 := yP_ b.f0 hr.1 hr.2
 have h2 := h.2
 have hr2 := size_rng b.f1.size (by omega)
 have z2 := yP_ (b.f1.size : Int) hr2.1 hr2.2
 have z3 := keyB_size b.f0 b.f1
 have ez : ((⟨#[66]⟩ : ByteArray)).size = 1 := rfl
 unfold recB
 simp only [ByteArray.size_append, ez]
 omega
theorem ext_mid (a m c : ByteArray) : (a ++ (m ++ c)).extract a.size (a.size + m.size) = m := by
 apply bl_inj
 rw [bl_extract, yS_, yS_, List.drop_take, ← yC_ a, List.drop_left' rfl, show (bl a).length + m.size - (bl a).length = m.size by omega, ← yC_ m, List.take_left' rfl]
theorem rdn_put (a c : ByteArray) (n : Int) (h0 : -9223372036854775808 ≤ n) (h1 : n ≤ 9223372036854775807) : rdn (a ++ (yr_ n ++ c)) a.size = some (n, a.size + (yr_ n).size) := by
 have hd : (bl (a ++ (yr_ n ++ c))).drop a.size = (numL (fold n)).map Int.toNat ++ bl c := by
  rw [yS_, yS_, ← yC_ a, List.drop_left' rfl, bl_putNum n h0 h1]
 have hf := fold_lt n h0 h1
 have hg := gN_put 9 (fold n) 0 0 (bl c) rfl (Nat.lt_of_lt_of_le hf (by decide)) (by omega) (fun h => absurd h (by omega))
 rw [← hd] at hg
 have hz : (numL (fold n)).length = (yr_ n).size := by unfold yr_; rw [strOfNums_size]
 unfold rdn
 rw [hg, show (0 + fold n * 128 ^ 0) = fold n by omega, Nat.zero_add]
 unfold gout
 rw [if_pos rfl, if_pos rfl, unfold_fold, hz]
 simp only [Int.toNat_natCast]
/-- the record that was put is read. -/
theorem recAt_put (pre rest : ByteArray) (b : IB) (h : rightB b) : recAt (pre ++ (recB b ++ rest)) pre.size = some (b.f0, b.f1, keyB b.f0 b.f1, pre.size + 33 + (yr_ b.f0).size + (yr_ (b.f1.size : Int)).size, pre.size + (recB b).size) := by
 have hr := kind_rng h.1
 have h2 := h.2
 have hr2 := size_rng b.f1.size (by omega)
 have z0 := recB_size b h
 have z3 := keyB_size b.f0 b.f1
 have ez : ((⟨#[66]⟩ : ByteArray)).size = 1 := rfl
 have hx : (pre ++ (recB b ++ rest)).size = pre.size + (recB b).size + rest.size := by simp only [ByteArray.size_append]; omega
 have e1 : pre ++ (recB b ++ rest) = pre ++ ((⟨#[66]⟩ : ByteArray) ++ (keyB b.f0 b.f1 ++ (yr_ b.f0 ++ (yr_ (b.f1.size : Int) ++ (b.f1 ++ rest))))) := by rw [recB_cat]
 have e2 : pre ++ (recB b ++ rest) = (pre ++ (⟨#[66]⟩ : ByteArray)) ++ (keyB b.f0 b.f1 ++ (yr_ b.f0 ++ (yr_ (b.f1.size : Int) ++ (b.f1 ++ rest)))) := by rw [e1]; simp only [ByteArray.append_assoc]
 have e3 : pre ++ (recB b ++ rest) = ((pre ++ (⟨#[66]⟩ : ByteArray)) ++ keyB b.f0 b.f1) ++ (yr_ b.f0 ++ (yr_ (b.f1.size : Int) ++ (b.f1 ++ rest))) := by rw [e1]; simp only [ByteArray.append_assoc]
 have e4 : pre ++ (recB b ++ rest) = (((pre ++ (⟨#[66]⟩ : ByteArray)) ++ keyB b.f0 b.f1) ++ yr_ b.f0) ++ (yr_ (b.f1.size : Int) ++ (b.f1 ++ rest)) := by rw [e1]; simp only [ByteArray.append_assoc]
 have e5 : pre ++ (recB b ++ rest) = ((((pre ++ (⟨#[66]⟩ : ByteArray)) ++ keyB b.f0 b.f1) ++ yr_ b.f0) ++ yr_ (b.f1.size : Int)) ++ (b.f1 ++ rest) := by rw [e1]; simp only [ByteArray.append_assoc]
 have x1 := ext_mid pre (⟨#[66]⟩ : ByteArray) (keyB b.f0 b.f1 ++ (yr_ b.f0 ++ (yr_ (b.f1.size : Int) ++ (b.f1 ++ rest))))
 rw [← e1, ez] at x1
 have x2 := ext_mid (pre ++ (⟨#[66]⟩ : ByteArray)) (keyB b.f0 b.f1) (yr_ b.f0 ++ (yr_ (b.f1.size : Int) ++ (b.f1 ++ rest)))
 rw [← e2, ByteArray.size_append, ez, z3] at x2
 have x3 := rdn_put ((pre ++ (⟨#[66]⟩ : ByteArray)) ++ keyB b.f0 b.f1) (yr_ (b.f1.size : Int) ++ (b.f1 ++ rest)) b.f0 hr.1 hr.2
 rw [← e3, ByteArray.size_append, ByteArray.size_append, ez, z3] at x3
 have x4 := rdn_put (((pre ++ (⟨#[66]⟩ : ByteArray)) ++ keyB b.f0 b.f1) ++ yr_ b.f0) (b.f1 ++ rest) (b.f1.size : Int) hr2.1 hr2.2
 rw [← e4, ByteArray.size_append, ByteArray.size_append, ByteArray.size_append, ez, z3] at x4
 have x5 := ext_mid ((((pre ++ (⟨#[66]⟩ : ByteArray)) ++ keyB b.f0 b.f1) ++ yr_ b.f0) ++ yr_ (b.f1.size : Int)) b.f1 rest
 rw [← e5, ByteArray.size_append, ByteArray.size_append, ByteArray.size_append, ByteArray.size_append, ez, z3] at x5
 have h66 : bt (pre ++ (recB b ++ rest)) (pre.size : Int) = 66 := (one_byte _ _ (by omega)).1 (by rw [x1, ByteArray.toList_eq])
 generalize pre ++ (recB b ++ rest) = x at *
 unfold recAt
 rw [if_pos ⟨by omega, h66⟩, show pre.size + 33 = pre.size + 1 + 32 by omega, x3, Option.bind_some, if_pos h.1]
 simp only
 rw [x4, Option.bind_some, if_pos (by simp only; omega)]
 simp only [Int.toNat_natCast]
 rw [x5, show pre.size + 1 + 32 = pre.size + 1 + 32 from rfl, x2, if_pos rfl, z0.1]
 congr 5
 omega
theorem sn_bytesOf (t : ByteArray) : strOfNums (bytesOf t) = t := by
 apply bl_inj
 rw [bl_strOfNums]
 ·
  unfold bytesOf bl
  rw [List.map_map]
  rfl
 ·
  intro x hx
  unfold bytesOf at hx
  obtain ⟨c, _, rfl⟩ := List.mem_map.1 hx
  have := c.toNat_lt
  omega
theorem putText_s (t : ByteArray) (h : t.size ≤ 20000) : Ev (fun k => yD_.f k t) (yr_ (t.size : Int) ++ t) := by
 have hr := size_rng t.size h
 have hz := yP_ (t.size : Int) hr.1 hr.2
 exact z0_ (by omega) (Ev.bind (ev_from 10 (fun k hk => putNum_s _ hr.1 hr.2 k hk)) (zu_ (by omega) (Ev.now _)))
theorem record_s (b : IB) (h : rightB b) : Ev (fun k => zZ_.f k b.f0 b.f1) (recB b) := by
 have hr := kind_rng h.1
 have h2 := h.2
 have z1 := yP_ b.f0 hr.1 hr.2
 have hr2 := size_rng b.f1.size (by omega)
 have z2 := yP_ (b.f1.size : Int) hr2.1 hr2.2
 have z3 := keyB_size b.f0 b.f1
 have ez : ((⟨#[66]⟩ : ByteArray)).size = 1 := rfl
 exact Ev.bind (blobKey_s b.f0 b.f1 h.1 h.2) (zu_ (by omega) (Ev.bind (ev_from 10 (fun k hk => putNum_s _ hr.1 hr.2 k hk)) (zu_ (by simp only [ByteArray.size_append, ez]; omega) (Ev.bind (putText_s b.f1 (by omega)) (zu_ (by simp only [ByteArray.size_append, ez]; omega) (Ev.now _))))))
abbrev rdB := zE_
theorem rdB_nat (l : List IB) (i : Nat) (h : i < l.length) : rdB l (i : Int) = l[i] := by
 unfold rdB zE_
 exact getD_nat l i _ h
/-! ### a pack of blobs: both sides alike -/
instance (b : IB) : Decidable (rightB b) := by unfold rightB; infer_instance
def packGo : List IB → List ByteArray → ByteArray → ByteArray × Bool
 | [], _, out => (out, decide ((out.size : Int) ≤ 12000))
 | b :: l, ks, out => if rightB b then (if (ks.any fun u => u.toList == (keyB b.f0 b.f1).toList) = true then (⟨#[]⟩, false) else packGo l (keyB b.f0 b.f1 :: ks) (out ++ recB b)) else (⟨#[]⟩, false)
def packB (l : List IB) : ByteArray × Bool := if 1 ≤ l.length ∧ l.length ≤ 40 then packGo l [] ⟨#[]⟩ else (⟨#[]⟩, false)
theorem right_flag (b : IB) : ((decide (b.f0 = 1) || decide (b.f0 = 2)) && decide ((b.f1.size : Int) ≤ 2000)) = decide (rightB b) := by
 by_cases h : rightB b
 ·
  rw [decide_eq_true h, decide_eq_true (show (b.f1.size : Int) ≤ 2000 by have := h.2; omega)]
  rcases h.1 with e | e <;> rw [e] <;> rfl
 ·
  rw [decide_eq_false h]
  unfold rightB at h
  by_cases a1 : b.f0 = 1 <;> by_cases a2 : b.f0 = 2 <;> simp [a1, a2] at h ⊢ <;> omega
theorem putTextP_i (t : ByteArray) (h : t.size ≤ 20000) : Ev (fun k => yy_.f k t) (yr_ (t.size : Int) ++ t) := by
 have hr := size_rng t.size h
 have hz := yP_ (t.size : Int) hr.1 hr.2
 unfold yy_.f z6_.f
 exact ys_ rfl (Ev.bind (ev_from 10 (fun k hk => putNum_i _ hr.1 hr.2 k hk)) (zu_ (by omega) (Ev.now _)))
theorem record_i (b : IB) (h : rightB b) : Ev (fun k => zW_.f k b.f0 b.f1) (recB b) := by
 have hr := kind_rng h.1
 have h2 := h.2
 have z1 := yP_ b.f0 hr.1 hr.2
 have hr2 := size_rng b.f1.size (by omega)
 have z2 := yP_ (b.f1.size : Int) hr2.1 hr2.2
 have z3 := keyB_size b.f0 b.f1
 have ez : ((⟨#[66]⟩ : ByteArray)).size = 1 := rfl
 exact Ev.bind (blobKey_i b.f0 b.f1 h.1 h.2) (zu_ (by omega) (Ev.bind (ev_from 10 (fun k hk => putNum_i _ hr.1 hr.2 k hk)) (zu_ (by simp only [ByteArray.size_append, ez]; omega) (Ev.bind (putTextP_i b.f1 (by omega)) (zu_ (by simp only [ByteArray.size_append, ez]; omega) (Ev.now _))))))
theorem in_is (ks : List ByteArray) (t : ByteArray) (h : ks.length ≤ 1000) : Ev (fun k => z7_.f k ks t) (ks.any fun u => u.toList == t.toList) := by
 unfold z7_.f
 have main : ∀ (d i : Nat), i + d = ks.length → Ev (fun k => z7_.l0 k ks t (i : Int)) ((ks.drop i).any fun u => u.toList == t.toList) := by
  intro d
  induction d with
  | zero =>
   intro i hi
   rw [List.drop_eq_nil_of_le (by omega)]
   exact Ev.step (f := fun _ => some false) (fun k => by simp only [z7_.l0]; rw [if_neg (by omega)]) (Ev.now _)
  | succ d ih =>
   intro i hi
   have hlt : i < ks.length := by omega
   have er : rdOf ByteArray.empty ks (i : Int) = ks[i] := by simp [rdOf, hlt]
   rw [List.drop_eq_getElem_cons hlt, List.any_cons]
   by_cases e : (ks[i]).toList = t.toList
   ·
    rw [beq_iff_eq.2 e, Bool.true_or]
    exact Ev.step (f := fun _ => some true) (fun k => by simp only [z7_.l0, er]; rw [if_pos (by omega), if_pos (by omega), if_pos e]) (Ev.now _)
   ·
    rw [beq_eq_false_iff_ne.2 e, Bool.false_or]
    refine Ev.step (fun k => ?_) (ih (i + 1) (by omega))
    simp only [z7_.l0, er]
    rw [if_pos (by omega), if_pos (by omega), if_neg e, show wrap64 ((i : Int) + 1) = ((i + 1 : Nat) : Int) by rw [w64 (by omega) (by omega)]; omega]
 have := main ks.length 0 (by omega)
 simpa using this
theorem any_rev (ks : List ByteArray) (t : ByteArray) : (ks.reverse.any fun u => u.toList == t.toList) = (ks.any fun u => u.toList == t.toList) := by simp
theorem go_both (bs : List IB) (hb : bs.length ≤ 40) : ∀ (d i : Nat) (out : ByteArray) (ks : List ByteArray), i + d = bs.length → ks.length = i → out.size ≤ 3000 * i →
 Ev (fun k => zp_.l0 k bs (bytesOf out) ks.reverse (i : Int)) (packGo (bs.drop i) ks out) ∧ Ev (fun k => zH_.l0 k bs ks out (i : Int)) (packGo (bs.drop i) ks out) := by
 intro d
 induction d with
 | zero =>
  intro i out ks hi hk ho
  rw [List.drop_eq_nil_of_le (by omega)]
  have el : (bytesOf out).length = out.size := bytesOf_length out
  refine ⟨?_, ?_⟩
  ·
   refine Ev.step (f := fun _ => some (out, decide ((out.size : Int) ≤ 12000))) (fun k => ?_) (Ev.now _)
   simp only [zp_.l0]
   rw [if_neg (by omega), sn_bytesOf, el]
  · exact Ev.step (f := fun _ => some (out, decide ((out.size : Int) ≤ 12000))) (fun k => by simp only [zH_.l0]; rw [if_neg (by omega)]) (Ev.now _)
 | succ d ih =>
  intro i out ks hi hk ho
  have hlt : i < bs.length := by omega
  obtain ⟨b, hbi⟩ : ∃ b, bs[i] = b := ⟨_, rfl⟩
  have e : zE_ bs (i : Int) = b := (rdB_nat bs i hlt).trans hbi
  have hbs := blobRight_s b.f0 b.f1
  have hbI := blobRight_i b.f0 b.f1
  rw [right_flag] at hbs hbI
  have ew : wrap64 ((i : Int) + 1) = ((i + 1 : Nat) : Int) := by rw [w64 (by omega) (by omega)]; omega
  rw [List.drop_eq_getElem_cons hlt, hbi]
  unfold packGo
  by_cases hR : rightB b
  rotate_left
  ·
   rw [if_neg hR]
   rw [decide_eq_false hR] at hbs hbI
   refine ⟨?_, ?_⟩
   ·
    refine Ev.step (f := fun _ => some ((⟨#[]⟩ : ByteArray), false)) (fun k => ?_) (Ev.now _)
    simp only [zp_.l0, e, hbs, Option.bind_some]
    rw [if_pos (by omega), if_pos (by omega), if_neg (by simp)]
   ·
    refine Ev.step (f := fun _ => some ((⟨#[]⟩ : ByteArray), false)) (fun k => ?_) (Ev.now _)
    simp only [zH_.l0, e, hbI, Option.bind_some]
    rw [if_pos (by omega), if_pos (by omega), if_neg (by simp)]
  rw [if_pos hR]
  rw [decide_eq_true hR] at hbs hbI
  have zk := keyB_size b.f0 b.f1
  have zr := recB_size b hR
  have hin := in_is ks.reverse (keyB b.f0 b.f1) (by simp; omega)
  rw [any_rev] at hin
  obtain ⟨any, hany⟩ : ∃ q, (ks.any fun u => u.toList == (keyB b.f0 b.f1).toList) = q := ⟨_, rfl⟩
  rw [hany] at hin ⊢
  have hS : ∀ v, Ev (fun k => if any = true then some ((⟨#[]⟩ : ByteArray), false) else (if ks.reverse.length < 8796093022208 then ((zZ_.f k b.f0 b.f1).bind fun t => (if (bytesOf out).length + t.size < 140737488355328 then (zp_.l0 k bs (bytesOf out ++ bytesOf t) (ks.reverse ++ [keyB b.f0 b.f1]) ((i + 1 : Nat) : Int)) else none)) else none)) v → Ev (fun k => zp_.l0 k bs (bytesOf out) ks.reverse (i : Int)) v := by
   intro v hv
   refine Ev.step (f := fun k => (zT_.f k b.f0 b.f1).bind fun t205 => ((z7_.f k ks.reverse t205).bind fun t206 => (if t206 = true then (some ((⟨#[]⟩ : ByteArray), false)) else (if ks.reverse.length < 8796093022208 then ((zZ_.f k b.f0 b.f1).bind fun t => (if (bytesOf out).length + t.size < 140737488355328 then (zp_.l0 k bs (bytesOf out ++ bytesOf t) (ks.reverse ++ [t205]) ((i + 1 : Nat) : Int)) else none)) else none)))) (fun k => ?_) (Ev.bind (blobKey_s b.f0 b.f1 hR.1 hR.2) (Ev.bind hin hv))
   simp only [zp_.l0, e, hbs, Option.bind_some, ew]
   rw [if_pos (by omega), if_pos (by omega), if_pos trivial]
  have hI : ∀ v, Ev (fun k => if any = true then some ((⟨#[]⟩ : ByteArray), false) else ((zW_.f k b.f0 b.f1).bind fun rc => (if out.size + rc.size ≤ 9223372036854775807 then (if ks.length < 1000 then (zH_.l0 k bs (keyB b.f0 b.f1 :: ks) (out ++ rc) ((i + 1 : Nat) : Int)) else none) else none))) v → Ev (fun k => zH_.l0 k bs ks out (i : Int)) v := by
   intro v hv
   refine Ev.step (f := fun k => (zO_.f k b.f0 b.f1).bind fun t => (if t.size ≤ 140737488355328 then (if (ks.any fun u => u.toList == t.toList) = true then (some (⟨#[]⟩, false)) else ((zW_.f k b.f0 b.f1).bind fun rc => (if out.size + rc.size ≤ 9223372036854775807 then (if ks.length < 1000 then (zH_.l0 k bs (t :: ks) (out ++ rc) ((i + 1 : Nat) : Int)) else (none)) else (none)))) else (none))) (fun k => ?_) (Ev.bind (blobKey_i b.f0 b.f1 hR.1 hR.2) (zu_ (by omega) (by rw [hany]; exact hv)))
   simp only [zH_.l0, e, hbI, Option.bind_some, ew]
   rw [if_pos (by omega), if_pos (by omega), if_pos trivial]
  cases any with
  | true =>
   rw [if_pos rfl]
   exact ⟨hS _ (zu_ rfl (Ev.now _)), hI _ (zu_ rfl (Ev.now _))⟩
  | false =>
   rw [if_neg (by simp)]
   obtain ⟨g1, g2⟩ := ih (i + 1) (out ++ recB b) (keyB b.f0 b.f1 :: ks) (by omega) (by simp [hk]) (by rw [ByteArray.size_append]; omega)
   have el : (bytesOf out).length = out.size := bytesOf_length out
   have ea : bytesOf (out ++ recB b) = bytesOf out ++ bytesOf (recB b) := by unfold bytesOf; simp [ByteArray.data_append]
   rw [ea, List.reverse_cons] at g1
   refine ⟨hS _ (z0_ (by simp) (zu_ (by simp; omega) (Ev.bind (record_s b hR) (zu_ (by omega) g1)))), hI _ (z0_ (by simp) (Ev.bind (record_i b hR) (zu_ (by omega) (zu_ (by omega) g2))))⟩
theorem pack_s (bs : List IB) (hb : bs.length ≤ 9223372036854775807) : Ev (fun k => zp_.f k bs) (packB bs) := by
 unfold zp_.f packB
 have bad : Ev (fun k => zp_.j0 k bs true) ((⟨#[]⟩ : ByteArray), false) := Ev.step (f := fun _ => some ((⟨#[]⟩ : ByteArray), false)) (fun k => by simp only [zp_.j0]; exact if_pos trivial) (Ev.now _)
 by_cases c1 : (bs.length : Int) < 1
 ·
  rw [if_neg (by omega)]
  exact zu_ c1 bad
 refine z0_ c1 ?_
 by_cases c2 : (bs.length : Int) > 40
 ·
  rw [if_neg (by omega), decide_eq_true c2]
  exact bad
 ·
  rw [if_pos (by omega), decide_eq_false c2]
  have h := (go_both bs (by omega) bs.length 0 ⟨#[]⟩ [] (by omega) rfl (by decide)).1
  exact Ev.step (f := fun k => zp_.l0 k bs ([] : List Int) ([] : List ByteArray) 0) (fun k => by simp only [zp_.j0]; rw [if_neg (by simp)]) h
theorem pack_i (bs : List IB) (hb : bs.length ≤ 9223372036854775807) : Ev (fun k => zH_.f k bs) (packB bs) := by
 unfold zH_.f packB
 have ew : yw_.f (bs.length : Int) 1 40 = some (decide (1 ≤ bs.length ∧ bs.length ≤ 40)) := by
  unfold yw_.f
  by_cases c : (bs.length : Int) ≥ 1
  ·
   rw [if_pos c]
   congr 1
   by_cases c2 : bs.length ≤ 40
   · rw [decide_eq_true (show (bs.length : Int) ≤ 40 by omega), decide_eq_true (by omega)]
   · rw [decide_eq_false (show ¬ (bs.length : Int) ≤ 40 by omega), decide_eq_false (by omega)]
  · rw [if_neg c, decide_eq_false (by omega)]
 refine ys_ ew ?_
 by_cases c : 1 ≤ bs.length ∧ bs.length ≤ 40
 ·
  rw [if_pos c]
  exact zu_ (decide_eq_true c) (go_both bs (by omega) bs.length 0 ⟨#[]⟩ [] (by omega) rfl (by decide)).2
 ·
  rw [if_neg c]
  exact z0_ (by simpa using c) (Ev.now _)
/-- what was read is what would be put. -/
theorem gN_back : ∀ (l : List Nat) (i u v n : Nat), (∀ c ∈ l, c < 256) → gN i u l = (0, v, n) → ∃ w, v = u + w * 128 ^ i ∧ n = i + (numL w).length ∧ l.take (numL w).length = (numL w).map Int.toNat ∧ (0 < i → 0 < w) := by
 intro l
 induction l with
 | nil => intro i u v n _ h; simp [gN] at h
 | cons c cs ih =>
  intro i u v n hl h
  have hc := hl c (by simp)
  unfold gN at h
  by_cases h1 : i = 9 ∧ 1 < c
  · rw [if_pos h1] at h; simp at h
  rw [if_neg h1] at h
  by_cases h2 : c < 128
  ·
   rw [if_pos h2] at h
   by_cases h3 : c = 0 ∧ 0 < i
   · rw [if_pos h3] at h; simp at h
   rw [if_neg h3] at h
   simp only [Prod.mk.injEq, true_and] at h
   obtain ⟨rfl, rfl⟩ := h
   exact ⟨c, rfl, by rw [numL_lt h2]; rfl, by rw [numL_lt h2]; simp, fun hi => by omega⟩
  ·
   rw [if_neg h2] at h
   obtain ⟨w, e1, e2, e3, e4⟩ := ih (i + 1) _ v n (fun x hx => hl x (by simp [hx])) h
   have hw := e4 (by omega)
   have hge : ¬ (c - 128 + 128 * w) < 128 := by omega
   have m1 : (c - 128 + 128 * w) % 128 = c - 128 := by omega
   have m2 : (c - 128 + 128 * w) / 128 = w := by omega
   refine ⟨c - 128 + 128 * w, ?_, ?_, ?_, fun _ => by omega⟩
   ·
    rw [e1, Nat.add_mul, Nat.pow_succ]
    have : w * (128 ^ i * 128) = 128 * w * 128 ^ i := by rw [Nat.mul_comm (128 ^ i) 128, ← Nat.mul_assoc, Nat.mul_comm w 128]
    omega
   · rw [numL_ge hge, m2, List.length_cons, e2]; omega
   ·
    rw [numL_ge hge, m1, m2, List.length_cons, List.take_succ_cons, e3, List.map_cons]
    congr 1
    omega
theorem fold_unfold (u : Nat) : fold (unfold' u) = u := by
 unfold fold unfold'
 by_cases h : u % 2 = 1
 · rw [if_pos h, if_pos (by omega)]; omega
 · rw [if_neg h, if_neg (by omega)]; omega
theorem ex_cat (x : ByteArray) (i j k : Nat) (h1 : i ≤ j) (h2 : j ≤ k) (h3 : k ≤ x.size) : x.extract i j ++ x.extract j k = x.extract i k := by
 apply bl_inj
 rw [yS_, bl_extract, bl_extract, bl_extract]
 have e : ((bl x).take k).drop i = (((bl x).take k).drop i).take (j - i) ++ (((bl x).take k).drop i).drop (j - i) := (List.take_append_drop _ _).symm
 rw [e, List.drop_drop, List.take_drop, List.take_take]
 rw [show min (i + (j - i)) k = j by omega, show i + (j - i) = j by omega]
theorem num_ok (x : ByteArray) (p : Nat) (v n : Nat) (hp : p ≤ x.size) (h : gN 0 0 ((bl x).drop p) = (0, v, n)) : gout p (gN 0 0 ((bl x).drop p)) = (unfold' v, ((p + n : Nat) : Int), 0) ∧ p + n ≤ x.size ∧ v < 18446744073709551616 ∧ x.extract p (p + n) = yr_ (unfold' v) := by
 have e : gout p (gN 0 0 ((bl x).drop p)) = (unfold' v, ((p + n : Nat) : Int), 0) := by rw [h, gout, if_pos rfl]
 have hl : ∀ c ∈ (bl x).drop p, c < 256 := fun c hc => bl_lt x c (List.mem_of_mem_drop hc)
 obtain ⟨_, h2, h3⟩ := gN_ok ((bl x).drop p) 0 0 (by decide) (by decide) hl (by rw [h])
 rw [h] at h2 h3
 rw [List.length_drop, yC_] at h2
 simp only at h2 h3
 obtain ⟨w, w1, w2, w3, _⟩ := gN_back ((bl x).drop p) 0 0 v n hl h
 obtain rfl : v = w := by simpa using w1
 have hn : n = (numL v).length := by omega
 refine ⟨e, by omega, h3, ?_⟩
 apply bl_inj
 unfold yr_
 rw [fold_unfold, bl_extract, bl_strOfNums _ (numL_range 9 v (by omega)), ← w3, hn, List.drop_take]
 congr 1
 omega
theorem gout_back (x : ByteArray) (p : Nat) (hp : p ≤ x.size) (h : (gout p (gN 0 0 ((bl x).drop p))).2.2 = 0) : ∃ (n : Int) (q : Nat), gout p (gN 0 0 ((bl x).drop p)) = (n, (q : Int), 0) ∧ p ≤ q ∧ q ≤ x.size ∧ (-9223372036854775808 ≤ n ∧ n ≤ 9223372036854775807) ∧ x.extract p q = yr_ n := by
 obtain ⟨g, hg⟩ : ∃ g, gN 0 0 ((bl x).drop p) = g := ⟨_, rfl⟩
 obtain ⟨c, v, n⟩ := g
 by_cases hc : c = 0
 ·
  subst hc
  obtain ⟨e, h1, h2, h3⟩ := num_ok x p v n hp hg
  exact ⟨_, _, e, by omega, h1, unfold_range v h2, h3⟩
 ·
  rw [hg] at h
  unfold gout at h
  rw [if_neg hc] at h
  exact absurd h hc
/-- a source that stands right. -/
def St (b : List Int) (q m : Int) : Prop := 0 ≤ q ∧ q ≤ (b.length : Int) ∧ b.length ≤ 1048576 ∧ 0 ≤ m ∧ m < 18446744073709551616
theorem bits_u64 (op : BinOp) (x y : Int) : 0 ≤ Go.bits op .u64 x y ∧ Go.bits op .u64 x y < 18446744073709551616 := by
 simp only [Go.bits, IntKind.wrap_u64]
 omega
theorem pick_most (v most : Int) (h1 : 1 < most) (h2 : most ≤ 9223372036854775807) : 0 ≤ wrap64 (Int.tmod (IntKind.u64.wrap v) (IntKind.u64.wrap most)) ∧ wrap64 (Int.tmod (IntKind.u64.wrap v) (IntKind.u64.wrap most)) < most ∧ IntKind.u64.wrap most ≠ 0 := by
 simp only [IntKind.wrap_u64]
 have e : most % 18446744073709551616 = most := by omega
 rw [e, Int.tmod_eq_emod_of_nonneg (by omega)]
 have a := Int.emod_nonneg (v % 18446744073709551616) (show most ≠ 0 by omega)
 have b := Int.emod_lt_of_pos (v % 18446744073709551616) (show 0 < most by omega)
 rw [w64 (by omega) (by omega)]
 omega
theorem n_ok (b : List Int) (q m z most : Int) (h : St b q m) (h1 : 1 ≤ most) (h2 : most ≤ 9223372036854775807) : ∃ v q' m', zs_.f b q m z most = some (v, q', m', z) ∧ 0 ≤ v ∧ v < most ∧ St b q' m' := by
 obtain ⟨a1, a2, a3, a4, a5⟩ := h
 unfold zs_.f
 by_cases c : most ≤ 1
 ·
  rw [if_pos c]
  exact ⟨0, q, m, rfl, by omega, by omega, a1, a2, a3, a4, a5⟩
 ·
  rw [if_neg c]
  have hm := bits_u64 .xor (Go.bits .xor .u64 (Go.bits .xor .u64 m (IntKind.u64.wrap (m * 8192))) ((Go.bits .xor .u64 m (IntKind.u64.wrap (m * 8192))) / 128)) (IntKind.u64.wrap ((Go.bits .xor .u64 (Go.bits .xor .u64 m (IntKind.u64.wrap (m * 8192))) ((Go.bits .xor .u64 m (IntKind.u64.wrap (m * 8192))) / 128)) * 131072))
  generalize Go.bits .xor .u64 (Go.bits .xor .u64 (Go.bits .xor .u64 m (IntKind.u64.wrap (m * 8192))) ((Go.bits .xor .u64 m (IntKind.u64.wrap (m * 8192))) / 128)) (IntKind.u64.wrap ((Go.bits .xor .u64 (Go.bits .xor .u64 m (IntKind.u64.wrap (m * 8192))) ((Go.bits .xor .u64 m (IntKind.u64.wrap (m * 8192))) / 128)) * 131072)) = m3 at hm ⊢
  by_cases c2 : q < (b.length : Int)
  ·
   obtain ⟨p1, p2, p3⟩ := pick_most (IntKind.u64.wrap (rd b q) + m3 / 1048576) most (by omega) h2
   rw [if_pos c2, if_pos a1, if_neg p3]
   exact ⟨_, _, _, rfl, p1, p2, by rw [w64 (by omega) (by omega)]; omega, by rw [w64 (by omega) (by omega)]; omega, a3, hm.1, hm.2⟩
  ·
   obtain ⟨p1, p2, p3⟩ := pick_most (0 + m3 / 1048576) most (by omega) h2
   rw [if_neg c2, if_neg p3]
   exact ⟨_, _, _, rfl, p1, p2, a1, a2, a3, hm.1, hm.2⟩
theorem src_ok (l : List Int) (hl : l.length ≤ 1048576) : Evs (fun k => zD_.f k l) (fun r => r.1 = l ∧ St l r.2.1 r.2.2.1 ∧ 0 ≤ r.2.2.2 ∧ r.2.2.2 ≤ 12) := by
 have stop : ∀ (m : Int), 0 ≤ m → m < 18446744073709551616 → ∀ q, q = (if (wrap64 ((l.length : Int) / 20)) > 12 then (some (l, (0 : Int), m, (12 : Int))) else (some (l, 0, m, wrap64 ((l.length : Int) / 20)))) → ∃ r, q = some r ∧ r.1 = l ∧ St l r.2.1 r.2.2.1 ∧ 0 ≤ r.2.2.2 ∧ r.2.2.2 ≤ 12 := by
  intro m h0 h1 q hq
  subst hq
  rw [w64 (n := (l.length : Int) / 20) (by omega) (by omega)]
  by_cases c : (l.length : Int) / 20 > 12
  ·
   rw [if_pos c]
   exact ⟨_, rfl, rfl, ⟨Int.le_refl _, by simp, hl, h0, h1⟩, by simp, by simp⟩
  ·
   rw [if_neg c]
   exact ⟨_, rfl, rfl, ⟨Int.le_refl _, by simp, hl, h0, h1⟩, by simp only; omega, by simp only; omega⟩
 unfold zD_.f
 have main : ∀ (d i : Nat) (m : Int), i + d = 65 → 0 ≤ m → m < 18446744073709551616 → Evs (fun k => zD_.l0 k l (i : Int) l 0 m 0) (fun r => r.1 = l ∧ St l r.2.1 r.2.2.1 ∧ 0 ≤ r.2.2.2 ∧ r.2.2.2 ≤ 12) := by
  intro d
  induction d with
  | zero =>
   intro i m hi h0 h1
   obtain ⟨r, hr, hp⟩ := stop m h0 h1 _ rfl
   refine ⟨r, Ev.step (f := fun _ => some r) (fun k => ?_) (Ev.now _), hp⟩
   simp only [zD_.l0]
   by_cases c : (i : Int) < (l.length : Int)
   · rw [if_pos c, if_neg (by omega)]; exact hr
   · rw [if_neg c]; exact hr
  | succ d ih =>
   intro i m hi h0 h1
   by_cases c : (i : Int) < (l.length : Int) ∧ (i : Int) < 64
   ·
    obtain ⟨v, hv, hp⟩ := ih (i + 1) (IntKind.u64.wrap ((Go.bits .xor .u64 m (IntKind.u64.wrap (rd l i))) * 1099511628211)) (by omega) (by simp only [IntKind.wrap_u64]; omega) (by simp only [IntKind.wrap_u64]; omega)
    refine ⟨v, Ev.step (fun k => ?_) hv, hp⟩
    simp only [zD_.l0]
    rw [if_pos c.1, if_pos c.2, if_pos (by omega), w64 (by omega) (by omega)]
    rfl
   ·
    obtain ⟨r, hr, hp⟩ := stop m h0 h1 _ rfl
    refine ⟨r, Ev.step (f := fun _ => some r) (fun k => ?_) (Ev.now _), hp⟩
    simp only [zD_.l0]
    by_cases c1 : (i : Int) < (l.length : Int)
    · rw [if_pos c1, if_neg (fun q => c ⟨c1, q⟩)]; exact hr
    · rw [if_neg c1]; exact hr
 exact main 65 0 88172645463325252 rfl (by decide) (by decide)
theorem one_ok (b : List Int) (q m z of : Int) (h : St b q m) (h1 : 1 ≤ of) (h2 : of ≤ 9223372036854775807) : ∃ v q' m', zG_.f b q m z of = some (v, q', m', z) ∧ St b q' m' := by
 obtain ⟨v, q', m', hv, _, _, hs⟩ := n_ok b q m z of h h1 h2
 refine ⟨v == 0, q', m', ?_, hs⟩
 unfold zG_.f
 rw [hv]
 rfl
theorem xc_ (l : List Int) : (strOfNums l).size = l.length := by simp [strOfNums, ByteArray.size]
theorem dec_l0 : ∀ (b : Nat) (n : Nat) (x : ByteArray), n ≤ b → b ≤ 4611686018427387904 → x.size + n ≤ 4611686018427387904 → Evs (fun k => zU_.l0 k (n : Int) false x) (fun r => r.size ≤ x.size + n) := by
 intro b
 induction b with
 | zero =>
  intro n x hn _ hx
  obtain rfl : n = 0 := by omega
  refine ⟨x, Ev.step (f := fun _ => some x) (fun k => ?_) (Ev.now _), Nat.le_refl _⟩
  simp only [zU_.l0]
  rw [if_pos (by omega), if_neg (by simp)]
 | succ b ih =>
  intro n x hn hb hx
  by_cases h0 : n = 0
  ·
   subst h0
   refine ⟨x, Ev.step (f := fun _ => some x) (fun k => ?_) (Ev.now _), Nat.le_refl _⟩
   simp only [zU_.l0]
   rw [if_pos (by omega), if_neg (by simp)]
  ·
   have e : wrap64 (Int.tdiv (n : Int) 10) = ((n / 10 : Nat) : Int) := by
    rw [show Int.tdiv (n : Int) 10 = ((n / 10 : Nat) : Int) from rfl]
    exact w64 (by omega) (by omega)
   have e2 : ¬ Int.tmod (n : Int) 10 < 0 := by rw [Int.tmod_eq_emod_of_nonneg (by omega)]; omega
   have hs : ∀ y : ByteArray, (strOfNums [(wrap64 (48 + Int.tmod (n : Int) 10)) % 256] ++ y).size = 1 + y.size := by
    intro y
    rw [ByteArray.size_append, xc_]
    rfl
   obtain ⟨v, hv, hp⟩ := ih (n / 10) (strOfNums [(wrap64 (48 + Int.tmod (n : Int) 10)) % 256] ++ x) (by omega) (by omega) (by rw [hs]; omega)
   refine ⟨v, Ev.step (fun k => ?_) hv, by rw [hs] at hp; omega⟩
   simp only [zU_.l0, Option.bind_some, e]
   rw [if_neg (by omega), if_neg e2, if_pos (by rw [xc_]; simp only [List.length_cons, List.length_nil]; omega)]
theorem dec_ok (n : Nat) (hn : n ≤ 1000) : Evs (fun k => zU_.f k (n : Int)) (fun r => r.size ≤ 1001) := by
 unfold zU_.f
 refine Evs.ite (fun _ => Evs.now _ (by show 1 ≤ 1001; omega)) (fun h => ?_)
 rw [decide_eq_false (show ¬ (n : Int) < 0 by omega)]
 exact (dec_l0 n n (⟨#[]⟩ : ByteArray) (Nat.le_refl _) (by omega) (by show 0 + n ≤ _; omega)).mono (fun r h => by have : (⟨#[]⟩ : ByteArray).size = 0 := rfl; omega)
theorem bytes_ok (b : List Int) (z : Int) (n : Nat) (hn : n ≤ 1048576) : ∀ (d i : Nat) (acc : List Int) (q m : Int), i + d = n → acc.length = i → St b q m → Evs (fun k => zt_.l0 k (n : Int) acc (i : Int) b q m z) (fun r => r.1.size = n ∧ St b r.2.1 r.2.2.1 ∧ r.2.2.2 = z) := by
 intro d
 induction d with
 | zero =>
  intro i acc q m hi ha hs
  refine ⟨(strOfNums acc, q, m, z), Ev.step (f := fun _ => some (strOfNums acc, q, m, z)) (fun k => ?_) (Ev.now _), ?_, hs, rfl⟩
  ·
   simp only [zt_.l0]
   rw [if_neg (by omega)]
  ·
   show (strOfNums acc).size = n
   rw [xc_]; omega
 | succ d ih =>
  intro i acc q m hi ha hs
  obtain ⟨v, q', m', hv, _, _, hs'⟩ := n_ok b q m z 256 hs (by decide) (by decide)
  obtain ⟨r, hr, hp⟩ := ih (i + 1) (acc ++ [v % 256]) q' m' (by omega) (by simp; omega) hs'
  refine ⟨r, Ev.step (fun k => ?_) hr, hp⟩
  simp only [zt_.l0, hv, Option.bind_some]
  rw [if_pos (by omega), if_pos (by omega), w64 (by omega) (by omega)]
  rfl
theorem bytesN_ok (b : List Int) (q m z n : Int) (h0 : 0 ≤ n) (hn : n ≤ 1048576) (hs : St b q m) : Evs (fun k => zt_.f k b q m z n) (fun r => (r.1.size : Int) = n ∧ St b r.2.1 r.2.2.1 ∧ r.2.2.2 = z) := by
 obtain ⟨n, rfl⟩ : ∃ k : Nat, n = (k : Int) := ⟨n.toNat, by omega⟩
 exact (bytes_ok b z n (by omega) n 0 [] q m (by omega) rfl hs).mono (fun r h => ⟨by rw [h.1], h.2⟩)
theorem blob_j0 (b : List Int) (q m z : Int) (hs : St b q m) (kind : Int) (t : ByteArray) : Evs (fun k => zo_.j0 k b q m z kind t) (fun r => St b r.2.2.1 r.2.2.2.1 ∧ r.2.2.2.2 = z) := by
 obtain ⟨v, q1, m1, h1, s1⟩ := one_ok b q m z 60 hs (by omega) (by omega)
 by_cases hv : v = true
 ·
  obtain ⟨w, q2, m2, h2, w0, w1, s2⟩ := n_ok b q1 m1 z 3 s1 (by omega) (by omega)
  have e : wrap64 (1999 + w) = 1999 + w := w64 (by omega) (by omega)
  refine ⟨(kind, strOfNums (List.replicate (wrap64 (1999 + w)).toNat 0), q2, m2, z), Ev.step (f := fun _ => some (kind, strOfNums (List.replicate (wrap64 (1999 + w)).toNat 0), q2, m2, z)) (fun k => ?_) (Ev.now _), s2, rfl⟩
  simp only [zo_.j0, h1, Option.bind_some, h2]
  rw [if_pos hv, if_pos (by omega), if_pos (by omega)]
 ·
  refine ⟨(kind, t, q1, m1, z), Ev.step (f := fun _ => some (kind, t, q1, m1, z)) (fun k => ?_) (Ev.now _), s1, rfl⟩
  simp only [zo_.j0, h1, Option.bind_some]
  rw [if_neg hv]
theorem blob_ok (b : List Int) (q m z : Int) (hs : St b q m) : Evs (fun k => zo_.f k b q m z) (fun r => St b r.2.2.1 r.2.2.2.1 ∧ r.2.2.2.2 = z) := by
 unfold zo_.f
 obtain ⟨v1, q1, m1, h1, _, _, s1⟩ := n_ok b q m z 2 hs (by omega) (by omega)
 obtain ⟨v2, q2, m2, h2, p2, p3, s2⟩ := n_ok b q1 m1 z 30 s1 (by omega) (by omega)
 refine Evs.bind1 h1 (Evs.bind1 h2 (Evs.bind (bytesN_ok b q2 m2 z v2 p2 (by omega) s2) (fun r hr => ?_)))
 obtain ⟨t, q3, m3, z3⟩ := r
 obtain ⟨_, s3, rfl⟩ := hr
 obtain ⟨v4, q4, m4, h4, s4⟩ := one_ok b q3 m3 z3 25 s3 (by omega) (by omega)
 refine Evs.bind1 h4 (Evs.ite (fun _ => ?_) (fun _ => blob_j0 b _ _ _ s4 _ _))
 obtain ⟨v5, q5, m5, h5, _, _, s5⟩ := n_ok b q4 m4 z3 5 s4 (by omega) (by omega)
 exact Evs.bind1 h5 (blob_j0 b _ _ _ s5 _ _)
theorem blobs_l1 (b : List Int) (z : Int) : ∀ (d : Nat) (l : List IB) (i : Nat) (q m : Int), l.length + d = 60 → i ≤ l.length → St b q m → Evs (fun k => ze_.l1 k l (i : Int) b q m z) (fun r => r.1.length ≤ 100 ∧ St b r.2.1 r.2.2.1 ∧ r.2.2.2 = z) := by
 intro d
 induction d with
 | zero =>
  intro l i q m hl hi hs
  obtain ⟨v, q1, m1, h1, p0, p1, s1⟩ := n_ok b q m z 3 hs (by omega) (by omega)
  have e : wrap64 (39 + v) = 39 + v := w64 (by omega) (by omega)
  refine ⟨(l, q1, m1, z), Ev.step (f := fun _ => some (l, q1, m1, z)) (fun k => ?_) (Ev.now _), by show l.length ≤ 100; omega, s1, rfl⟩
  simp only [ze_.l1, h1, Option.bind_some, e]
  rw [if_neg (by omega)]
 | succ d ih =>
  intro l i q m hl hi hs
  obtain ⟨v, q1, m1, h1, p0, p1, s1⟩ := n_ok b q m z 3 hs (by omega) (by omega)
  have e : wrap64 (39 + v) = 39 + v := w64 (by omega) (by omega)
  by_cases c : (l.length : Int) < 39 + v
  rotate_left
  ·
   refine ⟨(l, q1, m1, z), Ev.step (f := fun _ => some (l, q1, m1, z)) (fun k => ?_) (Ev.now _), by show l.length ≤ 100; omega, s1, rfl⟩
   simp only [ze_.l1, h1, Option.bind_some, e]
   rw [if_neg c]
  obtain ⟨t, ht, hts⟩ := dec_ok i (by omega)
  obtain ⟨r, hr, hp⟩ := ih (l ++ [(⟨1, t ++ (⟨#[121]⟩ : ByteArray)⟩ : IB)]) (i + 1) q1 m1 (by simp; omega) (by simp; omega) s1
  refine ⟨r, Ev.step (f := fun k => (zU_.f k (i : Int)).bind fun t266 => (if t266.size + 1 ≤ 9223372036854775807 then (if l.length < 5864062014805 then (ze_.l1 k (l ++ [(⟨1, t266 ++ (⟨#[121]⟩ : ByteArray)⟩ : IB)]) ((i + 1 : Nat) : Int) b q1 m1 z) else (none)) else (none))) (fun k => ?_) (Ev.bind ht (zu_ (by omega) (zu_ (by omega) hr))), hp⟩
  simp only [ze_.l1, h1, Option.bind_some, e]
  rw [if_pos c, show wrap64 ((i : Int) + 1) = ((i + 1 : Nat) : Int) by rw [w64 (by omega) (by omega)]; omega]
theorem blobs_j2 (b : List Int) (z : Int) (l : List IB) (q m : Int) (hl : l.length ≤ 20) (hs : St b q m) : Evs (fun k => ze_.j2 k l b q m z) (fun r => r.1.length ≤ 100 ∧ St b r.2.1 r.2.2.1 ∧ r.2.2.2 = z) := by
 obtain ⟨v, q1, m1, h1, s1⟩ := one_ok b q m z 40 hs (by omega) (by omega)
 by_cases hv : v = true
 ·
  obtain ⟨r, hr, hp⟩ := blobs_l1 b z (60 - l.length) l 0 q1 m1 (by omega) (by omega) s1
  refine ⟨r, Ev.step (fun k => ?_) hr, hp⟩
  simp only [ze_.j2, h1, Option.bind_some]
  rw [if_pos hv]
  rfl
 ·
  refine ⟨(l, q1, m1, z), Ev.step (f := fun _ => some (l, q1, m1, z)) (fun k => ?_) (Ev.now _), by show l.length ≤ 100; omega, s1, rfl⟩
  simp only [ze_.j2, h1, Option.bind_some]
  rw [if_neg hv]
theorem blobs_j1 (b : List Int) (z : Int) (l : List IB) (v : Bool) (q m : Int) (hl : l.length ≤ 19) (hv0 : v = true → 0 < l.length) (hs : St b q m) : Evs (fun k => ze_.j1 k l v b q m z) (fun r => r.1.length ≤ 100 ∧ St b r.2.1 r.2.2.1 ∧ r.2.2.2 = z) := by
 cases v with
 | true =>
  have h0 := hv0 rfl
  obtain ⟨r, hr, hp⟩ := blobs_j2 b z (l ++ [(⟨(zE_ l 0).f0, (zE_ l 0).f1⟩ : IB)]) q m (by simp; omega) hs
  refine ⟨r, Ev.step (fun k => ?_) hr, hp⟩
  simp only [ze_.j1]
  rw [if_pos trivial, if_pos (by omega), if_pos (by omega)]
 | false =>
  obtain ⟨r, hr, hp⟩ := blobs_j2 b z l q m (by omega) hs
  refine ⟨r, Ev.step (fun k => ?_) hr, hp⟩
  simp only [ze_.j1]
  rw [if_neg (by simp)]
theorem blobs_l0 (b : List Int) (z : Int) : ∀ (d : Nat) (l : List IB) (q m : Int), l.length + d ≤ 10 → St b q m → Evs (fun k => ze_.l0 k l (d : Int) b q m z) (fun r => r.1.length ≤ 100 ∧ St b r.2.1 r.2.2.1 ∧ r.2.2.2 = z) := by
 intro d
 induction d with
 | zero =>
  intro l q m hl hs
  by_cases c : (l.length : Int) > 0
  ·
   obtain ⟨v, q1, m1, h1, s1⟩ := one_ok b q m z 15 hs (by omega) (by omega)
   obtain ⟨r, hr, hp⟩ := blobs_j1 b z l v q1 m1 (by omega) (fun _ => by omega) s1
   refine ⟨r, Ev.step (fun k => ?_) hr, hp⟩
   simp only [ze_.l0, h1, Option.bind_some]
   rw [if_neg (by omega), if_pos c]
  ·
   obtain ⟨r, hr, hp⟩ := blobs_j1 b z l false q m (by omega) (fun h => by simp at h) hs
   refine ⟨r, Ev.step (fun k => ?_) hr, hp⟩
   simp only [ze_.l0]
   rw [if_neg (by omega), if_neg c]
 | succ d ih =>
  intro l q m hl hs
  obtain ⟨r1, h1, s1, e1⟩ := blob_ok b q m z hs
  obtain ⟨kd, t, q1, m1, z1⟩ := r1
  simp only at s1 e1
  subst e1
  obtain ⟨r, hr, hp⟩ := ih (l ++ [(⟨kd, t⟩ : IB)]) q1 m1 (by simp; omega) s1
  refine ⟨r, Ev.step (f := fun k => (zo_.f k b q m z1).bind fun bt242 => (if l.length < 5864062014805 then (ze_.l0 k (l ++ [(⟨bt242.1, bt242.2.1⟩ : IB)]) (d : Int) b bt242.2.2.1 bt242.2.2.2.1 bt242.2.2.2.2) else (none))) (fun k => ?_) (Ev.bind h1 (zu_ (by omega) hr)), hp⟩
  simp only [ze_.l0]
  rw [if_pos (by omega), show wrap64 (((d + 1 : Nat) : Int) - 1) = (d : Int) by rw [w64 (by omega) (by omega)]; omega]
theorem blobs_ok (b : List Int) (q m z : Int) (hs : St b q m) : Evs (fun k => ze_.f k b q m z) (fun r => r.1.length ≤ 100 ∧ St b r.2.1 r.2.2.1 ∧ r.2.2.2 = z) := by
 unfold ze_.f
 obtain ⟨v, q1, m1, h1, p0, p1, s1⟩ := n_ok b q m z 5 hs (by omega) (by omega)
 obtain ⟨n, rfl⟩ : ∃ n : Nat, v = (n : Int) := ⟨v.toNat, by omega⟩
 exact Evs.bind1 h1 (blobs_l0 b z n [] q1 m1 (by simp; omega) s1)
theorem ex_sz (t : ByteArray) (i j : Nat) : (t.extract i j).size = min j t.size - i := by rw [ByteArray.size_extract]
theorem w_succN (v : Nat) (h : v ≤ 1000000) : wrap64 ((v : Int) + 1) = ((v + 1 : Nat) : Int) := by rw [w64 (by omega) (by omega)]; omega
theorem spoil_ok (b : List Int) (q m z : Int) (hs : St b q m) (t : ByteArray) (ht : t.size ≤ 900000) : Evs (fun k => zx_.f k b q m z t) (fun r => r.1.size ≤ t.size + 1) := by
 obtain ⟨v, q1, m1, hv, v0, v1, hs1⟩ := n_ok b q m z ((t.size : Int) + 1) hs (by omega) (by omega)
 obtain ⟨u, q2, m2, hu, u0, u1, hs2⟩ := n_ok b q1 m1 z 17 hs1 (by decide) (by decide)
 obtain ⟨v, rfl⟩ : ∃ j : Nat, v = (j : Int) := ⟨v.toNat, by omega⟩
 have main : ∀ (c : ByteArray) (hc : c.size = 1) (w : Bool) (q m : Int) (hs : St b q m), (v : Int) < (t.size : Int) ∨ w = true → Evs (fun k => zx_.j0 k t (v : Int) c w b q m z) (fun r => r.1.size ≤ t.size + 1) := by
  intro c hc w q m hs hw
  have e1 := ex_sz t 0 v
  have e2 := ex_sz t v t.size
  have e3 := ex_sz t (v + 1) t.size
  cases w with
  | true =>
   refine ⟨(((t.extract 0 v) ++ c) ++ (t.extract v t.size), q, m, z), Ev.step (f := fun _ => some (((t.extract 0 v) ++ c) ++ (t.extract v t.size), q, m, z)) (fun k => ?_) (Ev.now _), ?_⟩
   ·
    simp only [zx_.j0, Int.toNat_natCast, ByteArray.size_append]
    rw [if_pos trivial, if_pos (by omega), if_pos (by omega), if_pos (by omega), if_pos (by omega)]
   · simp only [ByteArray.size_append]; omega
  | false =>
   have hlt : v < t.size := by
    rcases hw with h | h
    · omega
    · cases h
   obtain ⟨x, q3, m3, hx, hs3⟩ := one_ok b q m z 2 hs (by decide) (by decide)
   cases x with
   | true =>
    refine ⟨((t.extract 0 v) ++ (t.extract (v + 1) t.size), q3, m3, z), Ev.step (f := fun _ => some ((t.extract 0 v) ++ (t.extract (v + 1) t.size), q3, m3, z)) (fun k => ?_) (Ev.now _), ?_⟩
    ·
     simp only [zx_.j0, hx, Option.bind_some, w_succN v (by omega), Int.toNat_natCast]
     rw [if_neg (by simp), if_pos trivial, if_pos (by omega), if_pos (by omega), if_pos (by omega), if_pos (by omega), if_pos (by omega)]
    · simp only [ByteArray.size_append]; omega
   | false =>
    refine ⟨(((t.extract 0 v) ++ c) ++ (t.extract (v + 1) t.size), q3, m3, z), Ev.step (f := fun _ => some (((t.extract 0 v) ++ c) ++ (t.extract (v + 1) t.size), q3, m3, z)) (fun k => ?_) (Ev.now _), ?_⟩
    ·
     simp only [zx_.j0, hx, Option.bind_some, w_succN v (by omega), Int.toNat_natCast, ByteArray.size_append]
     rw [if_neg (by simp), if_neg (by simp), if_pos (by omega), if_pos (by omega), if_pos (by omega), if_pos (by omega), if_pos (by omega), if_pos (by omega)]
    · simp only [ByteArray.size_append]; omega
 unfold zx_.f
 rw [w64 (by omega) (by omega)]
 refine Evs.bind1 hv (Evs.bind1 hu (Evs.if_pos u0 (Evs.if_pos u1 (Evs.bind1 rfl ?_))))
 refine Evs.ite (fun _ => main _ (by rw [xc_]; rfl) true q2 m2 hs2 (Or.inr rfl)) (fun hne => ?_)
 obtain ⟨x, q3, m3, hx, hs3⟩ := one_ok b q2 m2 z 3 hs2 (by decide) (by decide)
 refine Evs.bind1 hx ?_
 exact main _ (by rw [xc_]; rfl) x q3 m3 hs3 (Or.inl (by simp only at hne; omega))
theorem app_nil (a : ByteArray) : a ++ (⟨#[]⟩ : ByteArray) = a := by
 apply bl_inj
 rw [yS_]
 exact List.append_nil _
theorem nil_app' (a : ByteArray) : (⟨#[]⟩ : ByteArray) ++ a = a := by
 apply bl_inj
 rw [yS_]
 rfl
theorem catB_snoc (l : List IB) (b : IB) : catB (l ++ [b]) = catB l ++ recB b := by
 induction l with
 | nil =>
  show recB b ++ (⟨#[]⟩ : ByteArray) = (⟨#[]⟩ : ByteArray) ++ recB b
  rw [app_nil, nil_app']
 | cons a l ih =>
  show recB a ++ catB (l ++ [b]) = (recB a ++ catB l) ++ recB b
  rw [ih, ByteArray.append_assoc]
theorem right_s (bs : List IB) (hb : bs.length ≤ 1000000) : Ev (fun k => yk_.f k bs) (packB bs).2 := by
 unfold yk_.f
 by_cases c : (bs.length : Int) > 400
 ·
  refine zu_ c (ev_eq ?_)
  unfold packB
  rw [if_neg (by omega)]
 · exact z0_ c (Ev.bind (pack_s bs (by omega)) (Ev.now _))
theorem right_i (bs : List IB) (hb : bs.length ≤ 1000000) : Ev (fun k => z4_.f k bs) (packB bs).2 := by
 unfold z4_.f
 exact Ev.bind (pack_i bs (by omega)) (Ev.now _)
def textP (l : List IB) : ByteArray := if (packB l).2 = true then (packB l).1 else ⟨#[]⟩
theorem pbytes_i (bs : List IB) (hb : bs.length ≤ 1000000) : Ev (fun k => yi_.f k bs) (textP bs) := by
 unfold yi_.f textP
 refine Ev.bind (pack_i bs (by omega)) ?_
 by_cases c : (packB bs).2 = true
 · exact zu_ c (ev_eq (by rw [if_pos c]))
 · exact z0_ c (ev_eq (by rw [if_neg c]))
theorem pbytes_s (bs : List IB) (hb : bs.length ≤ 1000000) : Ev (fun k => z2_.f k bs) (textP bs) := by
 unfold z2_.f textP
 by_cases c : (bs.length : Int) > 400
 ·
  refine zu_ c (ev_eq ?_)
  rw [if_neg]
  unfold packB
  rw [if_neg (by omega)]
  simp
 ·
  refine z0_ c (Ev.bind (pack_s bs (by omega)) ?_)
  by_cases c : (packB bs).2 = true
  · exact zu_ c (ev_eq (by rw [if_pos c]))
  · exact z0_ c (ev_eq (by rw [if_neg c]))
theorem packGo_yes : ∀ (l : List IB) (ks : List ByteArray) (out : ByteArray), (packGo l ks out).2 = true → (packGo l ks out).1 = out ++ catB l ∧ (∀ b ∈ l, rightB b) ∧ (packGo l ks out).1.size ≤ 12000
 | [], ks, out, h => by
  unfold packGo at h ⊢
  have := of_decide_eq_true h
  exact ⟨(app_nil out).symm, by simp, by show out.size ≤ 12000; omega⟩
 | b :: l, ks, out, h => by
  unfold packGo at h ⊢
  by_cases c : rightB b
  rotate_left
  ·
   rw [if_neg c] at h
   simp at h
  rw [if_pos c] at h ⊢
  by_cases c2 : (ks.any fun u => u.toList == (keyB b.f0 b.f1).toList) = true
  ·
   rw [if_pos c2] at h
   simp at h
  rw [if_neg c2] at h ⊢
  obtain ⟨h1, h2, h3⟩ := packGo_yes l _ _ h
  refine ⟨?_, ?_, h3⟩
  ·
   rw [h1, ByteArray.append_assoc]
   rfl
  ·
   intro y hy
   rcases List.mem_cons.1 hy with rfl | hy
   · exact c
   · exact h2 y hy
theorem packB_yes (l : List IB) (h : (packB l).2 = true) : (packB l).1 = catB l ∧ (∀ b ∈ l, rightB b) ∧ (packB l).1.size ≤ 12000 ∧ 1 ≤ l.length ∧ l.length ≤ 40 := by
 unfold packB at h ⊢
 by_cases c : 1 ≤ l.length ∧ l.length ≤ 40
 rotate_left
 ·
  rw [if_neg c] at h
  simp at h
 rw [if_pos c] at h ⊢
 obtain ⟨h1, h2, h3⟩ := packGo_yes l _ _ h
 exact ⟨h1.trans (nil_app' _), h2, h3, c.1, c.2⟩
theorem rdn_back (x : ByteArray) (p : Nat) (hp : p ≤ x.size) (n : Int) (q : Nat) (h : rdn x p = some (n, q)) : p ≤ q ∧ q ≤ x.size ∧ x.extract p q = yr_ n := by
 unfold rdn at h
 by_cases c : (gout p (gN 0 0 ((bl x).drop p))).2.2 = 0
 ·
  obtain ⟨m, r, e, h1, h2, _, h4⟩ := gout_back x p hp c
  rw [if_pos c, e] at h
  simp only [Option.some.injEq, Prod.mk.injEq, Int.toNat_natCast] at h
  obtain ⟨rfl, rfl⟩ := h
  exact ⟨h1, h2, h4⟩
 ·
  rw [if_neg c] at h
  simp at h
theorem recAt_back (x : ByteArray) (p : Nat) (kind : Int) (text key : ByteArray) (a b : Nat) (h : recAt x p = some (kind, text, key, a, b)) : p ≤ b ∧ b ≤ x.size ∧ x.extract p b = recB (⟨kind, text⟩ : IB) := by
 obtain ⟨s1, s2, s3, s4, s5, s6, s7, s8⟩ := recAt_some x p kind text key a b h
 unfold recAt at h
 by_cases c0 : p + 33 ≤ x.size ∧ bt x (p : Int) = 66
 rotate_left
 · rw [if_neg c0] at h; simp at h
 rw [if_pos c0] at h
 rcases rdn_cases x (p + 33) c0.1 with ⟨n1, q1, e1, _, g1, g2, _, _⟩ | ⟨e1, _⟩
 rotate_left
 · rw [e1] at h; simp at h
 obtain ⟨t1, _, t2⟩ := rdn_back x (p + 33) c0.1 n1 q1 e1
 rw [e1, Option.bind_some] at h
 by_cases c1 : n1 = 1 ∨ n1 = 2
 rotate_left
 · rw [if_neg c1] at h; simp at h
 rw [if_pos c1] at h
 simp only at h
 rcases rdn_cases x q1 g2 with ⟨n2, q2, e2, _, g3, g4, _, _⟩ | ⟨e2, _⟩
 rotate_left
 · rw [e2] at h; simp at h
 obtain ⟨t3, _, t4⟩ := rdn_back x q1 g2 n2 q2 e2
 rw [e2, Option.bind_some] at h
 by_cases c2 : 0 ≤ n2 ∧ n2 ≤ 2000 ∧ (q2 : Int) + n2 ≤ (x.size : Int)
 rotate_left
 · rw [if_neg c2] at h; simp at h
 rw [if_pos c2] at h
 simp only at h
 by_cases c3 : keyB n1 (x.extract q2 (q2 + n2.toNat)) = x.extract (p + 1) (p + 33)
 rotate_left
 · rw [if_neg c3] at h; simp at h
 rw [if_pos c3] at h
 simp only [Option.some.injEq, Prod.mk.injEq] at h
 obtain ⟨rfl, rfl, rfl, rfl, rfl⟩ := h
 refine ⟨by omega, s5, ?_⟩
 have z : ((x.extract q2 (q2 + n2.toNat)).size : Int) = n2 := by rw [ByteArray.size_extract]; omega
 have h66 : x.extract p (p + 1) = (⟨#[66]⟩ : ByteArray) := ba_inj (((one_byte x p (by omega)).2 c0.2).trans (by rw [ByteArray.toList_eq]))
 unfold recB
 simp only
 rw [z, c3, ← h66, ← t2, ← t4, ex_cat x _ _ _ t3 (by omega) (by omega), ex_cat x _ _ _ (by omega) (by omega) (by omega), ex_cat x _ _ _ (by omega) t1 (by omega), ex_cat x _ _ _ (by omega) (by omega) (by omega)]
/-! what was packed is read back. -/
theorem fwd (x : ByteArray) (hx : x.size ≤ 20000) : ∀ (rest acc : List IB), x = catB acc ++ catB rest → (∀ b ∈ rest, rightB b) → acc.length + rest.length ≤ 40 → (packB (acc ++ rest)).2 = true → Ev (fun k => zv_.l0 k x acc ((catB acc).size : Int)) (acc ++ rest, 0, 0) := by
 intro rest
 induction rest with
 | nil =>
  intro acc hxe _ hl hp
  have e : x = catB acc := by rw [hxe]; exact app_nil _
  rw [List.append_nil] at hp ⊢
  refine Ev.step (f := fun k => (z4_.f k acc).bind fun t => (if t = true then (some (acc, (0 : Int), (0 : Int))) else (some (([] : List IB), 0, 1)))) (fun k => by simp only [zv_.l0, z6_.f, Option.bind_some]; rw [e, if_neg (by omega)]) (Ev.bind (right_i acc (by simp only [List.length_nil] at hl; omega)) ?_)
  exact zu_ hp (Ev.now _)
 | cons b rest ih =>
  intro acc hxe hr hl hp
  rw [List.length_cons] at hl
  have hb := hr b (by simp)
  have z := recB_size b hb
  have e1 : x = catB acc ++ (recB b ++ catB rest) := hxe
  have hlt : (catB acc).size < x.size := by rw [e1]; simp only [ByteArray.size_append]; omega
  have hat := recAt_put (catB acc) (catB rest) b hb
  rw [← e1] at hat
  obtain ⟨ri, hi, hir⟩ := rec_i x hx (catB acc).size hlt
  rcases hir with ⟨hn, _⟩ | ⟨kind, text, key, a, b', hr', rfl⟩
  ·
   rw [hn] at hat
   cases hat
  rw [hat] at hr'
  simp only [Option.some.injEq, Prod.mk.injEq] at hr'
  obtain ⟨rfl, rfl, _, _, rfl⟩ := hr'
  have h2 := ih (acc ++ [b]) (by rw [catB_snoc, e1, ByteArray.append_assoc]) (fun y hy => hr y (by simp [hy])) (by simp only [List.length_append, List.length_singleton]; omega) (by rw [List.append_assoc]; exact hp)
  rw [catB_snoc, ByteArray.size_append, List.append_assoc] at h2
  have hI : ∀ v, Ev (fun k => if acc.length < 5864062014805 then (zv_.l0 k x (acc ++ [b]) (((catB acc).size + (recB b).size : Nat) : Int)) else none) v → Ev (fun k => zv_.l0 k x acc ((catB acc).size : Int)) v := by
   intro v hv
   refine Ev.step (fun k => by simp only [zv_.l0, z6_.f, Option.bind_some]; rw [if_pos (by omega)]) (Ev.bind hi ?_)
   exact zu_ rfl hv
  exact hI _ (zu_ (by omega) h2)
/-! both sides read alike, and what is read is packed to the same text. -/
theorem read_both (x : ByteArray) (hx : x.size ≤ 20000) : ∀ (d p : Nat) (acc : List IB), x.size ≤ p + d → p ≤ x.size → acc.length + d ≤ 1000000 → x.extract 0 p = catB acc →
 ∃ v : List IB × Int × Int, v.1.length ≤ 1000000 ∧ (v.2.2 = 0 → (packB v.1).2 = true ∧ catB v.1 = x) ∧ Ev (fun k => zC_.l0 k x acc (p : Int)) v ∧ Ev (fun k => zv_.l0 k x acc (p : Int)) v := by
 have done : ∀ (p : Nat) (acc : List IB), p = x.size → acc.length ≤ 1000000 → x.extract 0 p = catB acc → ∃ v : List IB × Int × Int, v.1.length ≤ 1000000 ∧ (v.2.2 = 0 → (packB v.1).2 = true ∧ catB v.1 = x) ∧ Ev (fun k => zC_.l0 k x acc (p : Int)) v ∧ Ev (fun k => zv_.l0 k x acc (p : Int)) v := by
  intro p acc hp ha hc
  refine ⟨if (packB acc).2 = true then (acc, 0, 0) else ([], 0, 1), ?_, ?_, ?_, ?_⟩
  ·
   split
   · exact ha
   · simp
  ·
   by_cases c : (packB acc).2 = true
   ·
    rw [if_pos c]
    exact fun _ => ⟨c, by rw [← hc, hp, ByteArray.extract_zero_size]⟩
   ·
    rw [if_neg c]
    intro h
    simp at h
  ·
   refine Ev.step (f := fun k => (yk_.f k acc).bind fun t => (if t = true then (some (acc, (0 : Int), (0 : Int))) else (some (([] : List IB), 0, 1)))) (fun k => by simp only [zC_.l0]; rw [if_neg (by omega)]) (Ev.bind (right_s acc ha) ?_)
   by_cases c : (packB acc).2 = true
   · exact zu_ c (ev_eq (by rw [if_pos c]))
   · exact z0_ c (ev_eq (by rw [if_neg c]))
  ·
   refine Ev.step (f := fun k => (z4_.f k acc).bind fun t => (if t = true then (some (acc, (0 : Int), (0 : Int))) else (some (([] : List IB), 0, 1)))) (fun k => by simp only [zv_.l0, z6_.f, Option.bind_some]; rw [if_neg (by omega)]) (Ev.bind (right_i acc ha) ?_)
   by_cases c : (packB acc).2 = true
   · exact zu_ c (ev_eq (by rw [if_pos c]))
   · exact z0_ c (ev_eq (by rw [if_neg c]))
 intro d
 induction d with
 | zero => exact fun p acc h1 h2 h3 h4 => done p acc (by omega) (by omega) h4
 | succ d ih =>
  intro p acc h1 h2 h3 h4
  by_cases hp : p = x.size
  · exact done p acc hp (by omega) h4
  obtain ⟨rs, hs, hsr⟩ := at_s x hx p (by omega)
  obtain ⟨ri, hi, hir⟩ := rec_i x hx p (by omega)
  have hS : ∀ v, Ev (fun k => if rs.2.2.2.2.2.2.2 = true then (if acc.length < 5864062014805 then (zC_.l0 k x (acc ++ [(⟨rs.2.2.2.2.1, rs.2.2.2.2.2.1⟩ : IB)]) rs.2.2.2.2.2.2.1) else none) else (some (([] : List IB), (p : Int), 3))) v → Ev (fun k => zC_.l0 k x acc (p : Int)) v := fun v hv => Ev.step (fun k => by simp only [zC_.l0]; rw [if_pos (by omega)]) (Ev.bind hs hv)
  have hI : ∀ v, Ev (fun k => if ri.2.2.2.2.2.2.2 = true then (if acc.length < 5864062014805 then (zv_.l0 k x (acc ++ [(⟨ri.1, ri.2.1⟩ : IB)]) ri.2.2.2.2.2.2.1) else none) else (some (([] : List IB), (p : Int), 3))) v → Ev (fun k => zv_.l0 k x acc (p : Int)) v := fun v hv => Ev.step (fun k => by simp only [zv_.l0, z6_.f, Option.bind_some]; rw [if_pos (by omega)]) (Ev.bind hi hv)
  rcases hsr with ⟨hn, hf⟩ | ⟨kind, text, key, a, b, hr, rfl⟩
  ·
   rcases hir with ⟨_, hf2⟩ | ⟨kind, text, key, a, b, hr, _⟩
   · exact ⟨([], (p : Int), 3), by simp, (fun h => by simp at h), hS _ (z0_ (by rw [hf]; simp) (Ev.now _)), hI _ (z0_ (by rw [hf2]; simp) (Ev.now _))⟩
   ·
    rw [hn] at hr
    cases hr
  ·
   rcases hir with ⟨hn, _⟩ | ⟨kind', text', key', a', b', hr', rfl⟩
   ·
    rw [hn] at hr
    cases hr
   ·
    rw [hr] at hr'
    simp only [Option.some.injEq, Prod.mk.injEq] at hr'
    obtain ⟨rfl, rfl, rfl, rfl, rfl⟩ := hr'
    have g := recAt_some x p kind text key a b hr
    obtain ⟨k1, k2, k3⟩ := recAt_back x p kind text key a b hr
    obtain ⟨v, v1, vt, v2, v3⟩ := ih b (acc ++ [(⟨kind, text⟩ : IB)]) (by omega) (by omega) (by simp; omega) (by rw [catB_snoc, ← h4, ← k3, ex_cat x _ _ _ (Nat.zero_le _) k1 k2])
    exact ⟨v, v1, vt, hS _ (zu_ rfl (zu_ (by omega) v2)), hI _ (zu_ rfl (zu_ (by omega) v3))⟩
theorem same (x : ByteArray) : ∃ v : List IB × Int × Int, v.1.length ≤ 1000000 ∧ (v.2.2 = 0 → (packB v.1).2 = true ∧ catB v.1 = x) ∧ Ev (fun k => zC_.f k x) v ∧ Ev (fun k => zv_.f k x) v := by
 unfold zC_.f zv_.f
 by_cases hl : (x.size : Int) > 20000
 · exact ⟨([], 0, 2), by simp, (fun h => by simp at h), zu_ hl (Ev.now _), ys_ (a := decide ((x.size : Int) > 20000)) rfl (zu_ (decide_eq_true hl) (Ev.now _))⟩
 ·
  have e0 : x.extract 0 0 = catB [] := by
   apply bl_inj
   rw [bl_extract]
   rfl
  obtain ⟨v, h1, ht, h2, h3⟩ := read_both x (by omega) x.size 0 [] (by omega) (by omega) (by simp; omega) e0
  exact ⟨v, h1, ht, z0_ hl h2, ys_ (a := decide ((x.size : Int) > 20000)) rfl (z0_ (by simp; omega) h3)⟩
theorem read_back (l : List IB) (h : (packB l).2 = true) : Ev (fun k => zv_.f k (textP l)) (l, 0, 0) := by
 obtain ⟨h1, h2, h3, h4, h5⟩ := packB_yes l h
 have e : textP l = catB l := by unfold textP; rw [if_pos h, h1]
 rw [h1] at h3
 rw [e]
 unfold zv_.f
 refine ys_ (a := decide (((catB l).size : Int) > 20000)) rfl (z0_ (by simp; omega) ?_)
 exact fwd (catB l) (by omega) l [] (nil_app' _).symm h2 (by simp; omega) h
theorem lw_same (l : List IB) (hl : l.length ≤ 1000000) : Ev (fun k => zV_.f k l l) true := by
 unfold zV_.f
 refine zu_ rfl ?_
 have main : ∀ (d i : Nat), i + d = l.length → Ev (fun k => zV_.l0 k l l (i : Int)) true := by
  intro d
  induction d with
  | zero =>
   intro i hi
   exact Ev.step (f := fun _ => some true) (fun k => by simp only [zV_.l0]; rw [if_neg (by omega)]) (Ev.now _)
  | succ d ih =>
   intro i hi
   refine Ev.step (fun k => ?_) (ih (i + 1) (by omega))
   simp only [zV_.l0]
   rw [if_pos (by omega), if_pos (by omega), if_pos (by omega), if_neg (by simp), show wrap64 ((i : Int) + 1) = ((i + 1 : Nat) : Int) by rw [w64 (by omega) (by omega)]; omega]
 exact main l.length 0 (by omega)
theorem text_size (l : List IB) : (textP l).size ≤ 12000 := by
 unfold textP
 by_cases h : (packB l).2 = true
 ·
  rw [if_pos h]
  exact (packB_yes l h).2.2.1
 ·
  rw [if_neg h]
  exact Nat.zero_le _
theorem draw_bytes (l : List Int) (hl : l.length ≤ 1048576) : Evs (fun k => z8_.f k l) (fun r => r.length ≤ 100) := by
 unfold z8_.f
 refine Evs.bind (src_ok l hl) (fun r hr => ?_)
 obtain ⟨b, q, m, z⟩ := r
 obtain ⟨rfl, hs, hz⟩ := hr
 exact Evs.bind (blobs_ok b q m z hs) (fun r hr => Evs.now _ hr.1)
theorem text_draw (b : List Int) (q m z : Int) (hs : St b q m) : Evs (fun k => yb_.f k b q m z) (fun t => True) := by
 unfold yb_.f
 refine Evs.bind (blobs_ok b q m z hs) (fun r hr => ?_)
 obtain ⟨bs, q1, m1, z1⟩ := r
 obtain ⟨hn, s1, rfl⟩ := hr
 simp only at hn s1
 refine Evs.bind (Evs.of (pbytes_s bs (by omega))) (fun t ht => ?_)
 have hsz : t.size ≤ 12000 := by rw [ht]; exact text_size bs
 obtain ⟨v, q2, m2, h2, _, _, s2⟩ := n_ok b q1 m1 z1 5 s1 (by omega) (by omega)
 refine Evs.bind1 h2 (Evs.ite (fun _ => ?_) (fun _ => Evs.ite (fun _ => ?_) (fun _ => Evs.ite (fun _ => ?_) (fun _ => Evs.now _ trivial))))
 · exact Evs.bind (spoil_ok b q2 m2 z1 s2 t (by omega)) (fun r hr => Evs.now _ trivial)
 ·
  obtain ⟨v3, q3, m3, h3, a3, b3, s3⟩ := n_ok b q2 m2 z1 9 s2 (by omega) (by omega)
  refine Evs.bind1 h3 (Evs.bind (bytesN_ok b q3 m3 z1 v3 a3 (by omega) s3) (fun r hr => Evs.if_pos ?_ (Evs.now _ trivial)))
  have := hr.1
  omega
 ·
  have e : wrap64 ((t.size : Int) + 1) = (t.size : Int) + 1 := w64 (by omega) (by omega)
  obtain ⟨v3, q3, m3, h3, a3, b3, s3⟩ := n_ok b q2 m2 z1 ((t.size : Int) + 1) s2 (by omega) (by omega)
  rw [e]
  exact Evs.bind1 h3 (Evs.if_pos a3 (Evs.if_pos (by first | omega | (simp only; omega)) (Evs.now _ trivial)))
theorem draw_read (l : List Int) (hl : l.length ≤ 1048576) : Evs (fun k => z1_.f k l) (fun t => True) := by
 unfold z1_.f
 refine Evs.bind (src_ok l hl) (fun r hr => ?_)
 obtain ⟨b, q, m, z⟩ := r
 obtain ⟨rfl, hs, hz⟩ := hr
 exact Evs.bind (text_draw b q m z hs) (fun r hr => Evs.now _ trivial)
theorem law_j2 (ys : List Int) (hy : ys.length ≤ 1048576) : Ev (fun k => zz_.j2 k ys) true := by
 obtain ⟨u, hu, _⟩ := draw_read ys hy
 obtain ⟨v, hlen, hb, hs, hi⟩ := same u
 refine Ev.step (fun k => by simp only [zz_.j2]; rfl) (Ev.bind hu (Ev.bind hs (Ev.bind hi (zu_ rfl (zu_ rfl ?_)))))
 by_cases hc : v.2.2 = 0
 ·
  obtain ⟨hr, hx⟩ := hb hc
  have ht := pbytes_i v.1 hlen
  unfold textP at ht
  rw [if_pos hr, (packB_yes v.1 hr).1, hx] at ht
  exact zu_ hc (Ev.bind ht (ev_eq (by simp)))
 · exact z0_ hc (Ev.now _)
theorem FnPack : zz_.Pure := by
 intro l0 l1 _ _ _ _ _ _
 refine Ev.rounds (g := fun k => zz_.f k l0 l1) (Evs.ev ?_)
 have out : Evs (fun k => zz_.j0 k l0 l1 true) (fun x => x = true) := ⟨true, Ev.step (f := fun _ => some true) (fun k => by simp only [zz_.j0]; rw [if_pos trivial]) (Ev.now _), rfl⟩
 unfold zz_.f
 refine Evs.ite (fun _ => out) (fun hl0 => ?_)
 by_cases hl1 : (l1.length : Int) > 1048576
 · rw [decide_eq_true hl1]; exact out
 rw [decide_eq_false hl1]
 obtain ⟨bs, hD, hn⟩ := draw_bytes l0 (by omega)
 have h2 := law_j2 l1 (by omega)
 refine ⟨true, Ev.step (fun k => by simp only [zz_.j0]; rw [if_neg Bool.false_ne_true]) (Ev.bind hD (Ev.bind (pbytes_i bs (by omega)) (Ev.bind (pbytes_s bs (by omega)) (zu_ rfl (Ev.bind (right_i bs (by omega)) ?_))))), rfl⟩
 by_cases hr : (packB bs).2 = true
 ·
  obtain ⟨p1, p2, p3, p4, p5⟩ := packB_yes bs hr
  have hz : 0 < (textP bs).size := by
   unfold textP
   rw [if_pos hr, p1]
   cases bs with
   | nil => simp at p4
   | cons b l =>
    have := recB_size b (p2 b (by simp))
    show 0 < (recB b ++ catB l).size
    rw [ByteArray.size_append]
    omega
  have hne : (textP bs).toList ≠ ([] : List UInt8) := by
   have := not_empty _ hz
   simpa using this
  have e1 : ((packB bs).2 != ((textP bs).toList != ([] : List UInt8))) = false := by
   rw [hr, bne_iff_ne.2 hne]
   rfl
  rw [e1]
  refine Ev.step (fun k => by simp only [zz_.j1]; rw [if_neg Bool.false_ne_true]) (z0_ hne ?_)
  exact Ev.bind (read_back bs hr) (zu_ rfl (Ev.bind (lw_same bs (by omega)) (zu_ rfl h2)))
 ·
  have e0 : textP bs = (⟨#[]⟩ : ByteArray) := by unfold textP; rw [if_neg hr]
  have he : (textP bs).toList = ([] : List UInt8) := by
   rw [e0]
   simp
  have e1 : ((packB bs).2 != ((textP bs).toList != ([] : List UInt8))) = false := by
   rw [he, Bool.eq_false_iff.2 hr]
   rfl
  rw [e1]
  exact Ev.step (fun k => by simp only [zz_.j1]; rw [if_neg Bool.false_ne_true]) (zu_ he h2)
end Go.Proofs.YtfffdndeccipnaaDoor.Pure
