/- The plain law of FnHash: the digest of a text is the same however it is taken in parts, and has 32 bytes. -/
import Derived.Test.YtfffdndeccipnaaDoorPFnHashx7
import Derived.Test.YtfffdndeccipnaaDoorVLibFnHash
namespace Go.Proofs.YtfffdndeccipnaaDoor.Pure
open Go.RowKit Go.Proofs.YtfffdndeccipnaaDoor.PFnHash Go.Proofs.YtfffdndeccipnaaDoor.Lib Go.Proofs.YtfffdndeccipnaaDoorW.PrintWords Go.Proofs.YtfffdndeccipnaaDoorW.PrintLast Go.Proofs.YtfffdndeccipnaaDoorW.PrintMore
set_option linter.unusedVariables false
set_option linter.unusedSimpArgs false
/-- a text as numbers. -/
def bl (t : ByteArray) : List Nat := t.data.toList.map UInt8.toNat
theorem bl_length (t : ByteArray) : (bl t).length = t.size := by unfold bl; rw [List.length_map]; exact data_length t
theorem bl_append (a b : ByteArray) : bl (a ++ b) = bl a ++ bl b := by simp [bl, ByteArray.data_append]
theorem bl_lt (t : ByteArray) : ∀ c ∈ bl t, c < 256 := by
  intro c hc
  obtain ⟨x, _, rfl⟩ := List.mem_map.1 hc
  exact x.toNat_lt
theorem bl_extract (t : ByteArray) (i j : Nat) : bl (t.extract i j) = ((bl t).take j).drop i := by
  simp only [bl, ByteArray.data_extract, Array.toList_extract, List.extract_eq_take_drop, List.map_take, List.map_drop]
  rw [List.drop_take]
theorem bl_inj {a b : ByteArray} (h : bl a = bl b) : a = b := by
  have h2 : a.data.toList = b.data.toList := by
    unfold bl at h
    exact (List.map_inj_right (fun x y q => UInt8.toNat_inj.1 q)).1 h
  cases a; cases b
  simp only at h2
  congr 1
  exact Array.toList_inj.1 h2
theorem bt_bl (t : ByteArray) (i : Nat) (h : i < t.size) : bt t (i : Int) = (((bl t)[i]'(by rw [bl_length]; exact h) : Nat) : Int) := by
  unfold bt
  simp only [Int.toNat_natCast]
  rw [dif_pos h]
  simp [bl]
  rfl
theorem bl_strOfNums (l : List Int) (h : ∀ x ∈ l, 0 ≤ x ∧ x < 256) : bl (strOfNums l) = l.map Int.toNat := by
  unfold bl strOfNums
  simp only [List.map_map]
  refine List.map_congr_left (fun x hx => ?_)
  have := h x hx
  simp only [Function.comp]
  rw [UInt8.toNat_ofNat']
  omega
theorem numL_range (m : Nat) : ∀ u, u < 128 ^ (m + 1) → ∀ x ∈ numL u, 0 ≤ x ∧ x < 256 := by
  induction m with
  | zero =>
    intro u hu x hx
    rw [numL_lt (by simpa using hu)] at hx
    simp at hx; subst hx
    simp at hu
    omega
  | succ m ih =>
    intro u hu x hx
    by_cases h : u < 128
    · rw [numL_lt h] at hx
      simp at hx; omega
    · rw [numL_ge h, List.mem_cons] at hx
      rcases hx with rfl | hx
      · omega
      · exact ih (u / 128) (by rw [Nat.div_lt_iff_lt_mul (by decide), ← Nat.pow_succ]; exact hu) x hx
theorem bl_putNum (n : Int) (h0 : -9223372036854775808 ≤ n) (h1 : n ≤ 9223372036854775807) : bl (putNum n) = (numL (fold n)).map Int.toNat :=
  bl_strOfNums _ (numL_range 9 _ (Nat.lt_of_lt_of_le (fold_lt n h0 h1) (by decide)))
theorem empty_list : ((⟨#[]⟩ : ByteArray).toList == ([] : List UInt8)) = true := by
  rw [ByteArray.toList_eq]; rfl
theorem not_empty (p : ByteArray) (h : 0 < p.size) : (p.toList == ([] : List UInt8)) = false := by
  refine beq_eq_false_iff_ne.2 (fun q => ?_)
  rw [ByteArray.toList_eq] at q
  have := congrArg List.length q
  rw [data_length] at this
  simp only [List.length_nil] at this
  omega
theorem extract_size (p : ByteArray) (n : Nat) (h : n ≤ p.size) : (p.extract 0 n).size = n := by
  rw [ByteArray.size_extract]; omega
theorem outL_len (A : List Int) : ∀ i, (Hand.outL A i).length = 4 * i
  | 0 => rfl
  | i + 1 => by rw [Hand.outL, List.length_append, outL_len A i]; simp; omega
theorem sn_len (l : List Int) : (strOfNums l).size = l.length := by
  unfold strOfNums
  show (List.toArray _).size = _
  simp
theorem outK_rng (S T : List Int) : ∀ n, ∀ x ∈ Hand.outK S T n, 0 ≤ x ∧ x < 4294967296
  | 0, x, h => by simp [Hand.outK] at h
  | n + 1, x, h => by
    rw [Hand.outK, List.mem_append] at h
    rcases h with h | h
    · exact outK_rng S T n x h
    · obtain rfl := List.mem_singleton.1 h
      omega
theorem taken_rng (s : List Int) (b : ByteArray) (hs : s.length = 8) : ∀ x ∈ Hand.takenL s b, 0 ≤ x ∧ x < 4294967296 := by
  have hT : (Hand.sAll (Hand.wAll b 64) s 64).length = 8 := by
    obtain ⟨a, b1, c, d, e, f, g, h, eS⟩ := Hand.sAll_eight (Hand.wAll b 64) s hs 64
    rw [eS]; rfl
  unfold Hand.takenL
  rw [← Hand.outK_eq s _ hs hT]
  exact outK_rng _ _ 8
theorem eat_rng (s : List Int) (b : ByteArray) (hs : s.length = 8) (hr : ∀ x ∈ s, 0 ≤ x ∧ x < 4294967296) : ∀ n, ∀ x ∈ Hand.eat s b n, 0 ≤ x ∧ x < 4294967296
  | 0 => hr
  | n + 1 => taken_rng _ _ (by rw [Hand.eat_length]; exact hs)
theorem map_mod (s : List Int) (hr : ∀ x ∈ s, 0 ≤ x ∧ x < 4294967296) : s.map (· % 4294967296) = s := by
  have : s.map (· % 4294967296) = s.map id := List.map_congr_left (fun x hx => by have := hr x hx; simp only [id]; omega)
  rw [this, List.map_id]
theorem block_ok (s : List Int) (b : ByteArray) (hs : s.length = 8) (hr : ∀ x ∈ s, 0 ≤ x ∧ x < 4294967296) (hb : b.size = 64) : spec_l05Block.f s b = some (Hand.takenL s b) := by
  unfold spec_l05Block.f
  rw [if_pos ⟨hs, hb⟩, map_mod s hr]
theorem more_l (s : List Int) (t : ByteArray) (n : Int) (hs : s.length = 8) (hr : ∀ x ∈ s, 0 ≤ x ∧ x < 4294967296) (ht : t.size ≤ 2147483648) : ∀ (d i : Nat), i + d = t.size / 64 →
    Ev (fun k => spec_l05More.l0 k ((64 * i : Nat) : Int) (Hand.eat s t i) t n) (Hand.eat s t (t.size / 64), t.extract (64 * (t.size / 64)) t.size, n) := by
  intro d
  induction d with
  | zero =>
    intro i hi
    obtain rfl : i = t.size / 64 := by omega
    refine Ev.step (f := fun _ => some (Hand.eat s t (t.size / 64), t.extract (64 * (t.size / 64)) t.size, n)) (fun k => ?_) (Ev.now _)
    simp only [spec_l05More.l0]
    rw [w64 (by omega) (by omega), if_neg (by omega), if_pos (by omega), if_pos (by omega), Int.toNat_natCast]
  | succ d ih =>
    intro i hi
    have hr1 := ih (i + 1) (by omega)
    have ew : wrap64 (((64 * i : Nat) : Int) + 64) = ((64 * (i + 1) : Nat) : Int) := by rw [w64 (by omega) (by omega)]; omega
    have hb : (t.extract (64 * i) (64 * i + 64)).size = 64 := by rw [ByteArray.size_extract]; omega
    refine Ev.step (fun k => ?_) hr1
    simp only [spec_l05More.l0]
    rw [ew, w64 (by omega) (by omega), if_pos (by omega), if_pos (by omega), if_pos (by omega), if_pos (by omega), Int.toNat_natCast, Int.toNat_natCast]
    rw [show 64 * (i + 1) = 64 * i + 64 from rfl, block_ok _ _ (by rw [Hand.eat_length]; exact hs) (eat_rng s t hs hr i) hb, Option.bind_some]
    rfl
theorem more_ok (s : List Int) (r m : ByteArray) (n : Int) (hs : s.length = 8) (hr : ∀ x ∈ s, 0 ≤ x ∧ x < 4294967296) (hn : 0 ≤ n) (hn2 : n ≤ 1073741824) (hrs : r.size ≤ 1000) (hms : m.size ≤ 1073741824) :
    Ev (fun k => spec_l05More.f k s r n m) (Hand.eat s (r ++ m) ((r ++ m).size / 64), (r ++ m).extract (64 * ((r ++ m).size / 64)) (r ++ m).size, n + (m.size : Int)) := by
  unfold spec_l05More.f
  refine ev_bind1 rfl (ev_if_pos (by simp [hs]) (ev_if_pos (by omega) ?_))
  rw [w64 (by omega) (by omega), List.nil_append]
  have h := more_l s (r ++ m) (n + (m.size : Int)) hs hr (by rw [ByteArray.size_append]; omega) ((r ++ m).size / 64) 0 (by omega)
  exact h
/-- the bytes of a length in bits. -/
def lenL (n : Int) : Nat → List Int
  | 0 => []
  | j + 1 => lenL n j ++ [(wrap64 (n * 8) / 2 ^ (8 * (7 - j))) % 256]
theorem lenL_length (n : Int) : ∀ j, (lenL n j).length = j
  | 0 => rfl
  | j + 1 => by rw [lenL, List.length_append, lenL_length n j]; rfl
theorem lenL_rng (n : Int) : ∀ j, ∀ x ∈ lenL n j, 0 ≤ x ∧ x < 256
  | 0, x, h => by simp [lenL] at h
  | j + 1, x, h => by
    rw [lenL, List.mem_append] at h
    rcases h with h | h
    · exact lenL_rng n j x h
    · obtain rfl := List.mem_singleton.1 h
      omega
theorem bl_lenB (n : Int) : ∀ j, bl (Hand.lenB n j) = (lenL n j).map Int.toNat
  | 0 => rfl
  | j + 1 => by
    rw [Hand.lenB, bl_append, bl_lenB n j, lenL, List.map_append, bl_strOfNums _ (fun x hx => by obtain rfl := List.mem_singleton.1 hx; omega)]
theorem bl_zeros : ∀ z, bl (Hand.zeros z) = List.replicate z 0
  | 0 => rfl
  | z + 1 => by
    have h := bl_zeros z
    unfold Hand.zeros bl at h ⊢
    rw [Lib.repeatL, List.replicate_succ, ← h]
    rfl
def zs (r : ByteArray) : Nat := (120 - (r.size + 1)) % 64
def padL (r : ByteArray) (n : Int) : List Int := [128] ++ List.replicate (zs r) 0 ++ lenL n 8
theorem pad_eq (r : ByteArray) (n : Int) : r ++ strOfNums (padL r n) = Hand.pad r n := by
  apply bl_inj
  have hrng : ∀ x ∈ padL r n, 0 ≤ x ∧ x < 256 := by
    intro x hx
    unfold padL at hx
    rw [List.mem_append, List.mem_append] at hx
    rcases hx with (h | h) | h
    · obtain rfl := List.mem_singleton.1 h
      omega
    · have := (List.mem_replicate.1 h).2
      omega
    · exact lenL_rng n 8 x h
  rw [bl_append, bl_strOfNums _ hrng]
  unfold Hand.pad Hand.pad2 Hand.pad1
  rw [bl_append, bl_append, bl_append, bl_zeros, bl_lenB]
  unfold padL zs
  rw [List.map_append, List.map_append, List.map_replicate]
  simp only [List.append_assoc]
  rfl
theorem out_l (A : List Int) (r : ByteArray) (n : Int) (hA : A.length = 8) : ∀ (d i : Nat), i + d = 8 → Ev (fun k => spec_l05End.l2 k (Hand.outL A i) (i : Int) A r n) (strOfNums (Hand.outL A 8)) := by
  intro d
  induction d with
  | zero =>
    intro i hi
    obtain rfl : i = 8 := by omega
    refine Ev.step (f := fun _ => some (strOfNums (Hand.outL A 8))) (fun k => ?_) (Ev.now _)
    simp only [spec_l05End.l2]
    rw [if_neg (by omega)]
  | succ d ih =>
    intro i hi
    have hr := ih (i + 1) (by omega)
    have hl := outL_len A i
    refine Ev.step (fun k => ?_) hr
    simp only [spec_l05End.l2]
    rw [if_pos (by omega), if_pos (by omega), if_pos (by omega), Option.bind_some, if_pos (by simp; omega), w64 (by omega) (by omega)]
    rfl
theorem sh_ok (n : Int) (j : Nat) (hj : j < 8) (h0 : 0 ≤ n) (h1 : n ≤ 1073741824) : shr .u64 (IntKind.u64.wrap (wrap64 (8 * n))) (IntKind.u64.wrap (((8 * (7 - j) : Nat) : Int))) % 256 = (wrap64 (n * 8) / 2 ^ (8 * (7 - j))) % 256 := by
  rw [w64 (by omega) (by omega), w64 (by omega) (by omega), IntKind.wrap_u64, IntKind.wrap_u64]
  unfold shr
  rw [show (8 * n) % 18446744073709551616 = n * 8 by omega, show (((8 * (7 - j) : Nat) : Int)) % 18446744073709551616 = ((8 * (7 - j) : Nat) : Int) by omega, Int.toNat_natCast]
  rw [show min (8 * (7 - j)) IntKind.u64.bits = 8 * (7 - j) by show min _ 64 = _; omega]
theorem end_l1 (s : List Int) (r : ByteArray) (n : Int) (hs : s.length = 8) (hr : ∀ x ∈ s, 0 ≤ x ∧ x < 4294967296) (h0 : 0 ≤ n) (h1 : n ≤ 1000000) (hrs : r.size ≤ 1000) : ∀ (d j : Nat), j + d = 8 →
    Ev (fun k => spec_l05End.l1 k ([128] ++ List.replicate (zs r) 0 ++ lenL n j) (IntKind.u64.wrap (wrap64 (8 * n))) (56 - 8 * (j : Int)) s r n) (Hand.summedL s r n) := by
  have hz : zs r < 64 := by unfold zs; omega
  intro d
  induction d with
  | zero =>
    intro j hj
    obtain rfl : j = 8 := by omega
    have hm : (strOfNums (padL r n)).size ≤ 1073741824 := by
      rw [sn_len]; unfold padL; simp only [List.length_append, List.length_replicate, lenL_length, List.length_singleton]; omega
    have h := more_ok s r (strOfNums (padL r n)) n hs hr h0 (by omega) hrs hm
    rw [pad_eq] at h
    refine Ev.step (f := fun k => (spec_l05More.f k s r n (strOfNums (padL r n))).bind fun bt126 => (spec_l05End.l2 k (([] : List Int)) 0 bt126.1 bt126.2.1 bt126.2.2)) (fun k => ?_) (Ev.bind h ?_)
    · simp only [spec_l05End.l1]
      rw [if_neg (by omega)]
      rfl
    · have ho := out_l (Hand.eat s (Hand.pad r n) ((Hand.pad r n).size / 64)) ((Hand.pad r n).extract (64 * ((Hand.pad r n).size / 64)) (Hand.pad r n).size) (n + ((strOfNums (padL r n)).size : Int)) (by rw [Hand.eat_length]; exact hs) 8 0 (by omega)
      exact ho
  | succ d ih =>
    intro j hj
    have h := ih (j + 1) (by omega)
    have e1 : (56 - 8 * (j : Int)) = ((8 * (7 - j) : Nat) : Int) := by omega
    have e2 : wrap64 (((8 * (7 - j) : Nat) : Int) - 8) = 56 - 8 * ((j + 1 : Nat) : Int) := by rw [w64 (by omega) (by omega)]; omega
    refine Ev.step (fun k => ?_) h
    simp only [spec_l05End.l1, e1]
    rw [if_pos (by omega), if_pos (by rw [IntKind.wrap_u64]; omega), if_pos (by simp only [List.length_append, List.length_replicate, lenL_length, List.length_singleton]; omega), sh_ok n j (by omega) h0 (by omega), e2, lenL, List.append_assoc ([128] ++ List.replicate (zs r) 0)]
theorem end_ok (s : List Int) (r : ByteArray) (n : Int) (hs : s.length = 8) (hr : ∀ x ∈ s, 0 ≤ x ∧ x < 4294967296) (h0 : 0 ≤ n) (h1 : n ≤ 1000000) (hrn : (r.size : Int) = n % 64) : Ev (fun k => spec_l05End.f k s r n) (Hand.summedL s r n) := by
  have hz : zs r = (120 - (r.size + 1)) % 64 := rfl
  have hz2 : zs r < 64 := by omega
  have main : ∀ (d j : Nat), j + d = zs r → Ev (fun k => spec_l05End.l0 k ([128] ++ List.replicate j 0) s r n) (Hand.summedL s r n) := by
    intro d
    induction d with
    | zero =>
      intro j hj
      obtain rfl : j = zs r := by omega
      have h := end_l1 s r n hs hr h0 h1 (by omega) 8 0 (by omega)
      refine Ev.step (fun k => ?_) h
      simp only [spec_l05End.l0]
      rw [w64 (by simp only [List.length_append, List.length_replicate, List.length_singleton]; omega) (by simp only [List.length_append, List.length_replicate, List.length_singleton]; omega), Int.tmod_eq_emod_of_nonneg (by omega), if_pos (by simp only [List.length_append, List.length_replicate, List.length_singleton]; omega)]
      simp only [lenL, List.append_nil]
      rfl
    | succ d ih =>
      intro j hj
      have h := ih (j + 1) (by omega)
      refine Ev.step (fun k => ?_) h
      simp only [spec_l05End.l0]
      rw [w64 (by simp only [List.length_append, List.length_replicate, List.length_singleton]; omega) (by simp only [List.length_append, List.length_replicate, List.length_singleton]; omega), Int.tmod_eq_emod_of_nonneg (by omega), if_neg (by simp only [List.length_append, List.length_replicate, List.length_singleton]; omega), if_pos (by simp only [List.length_append, List.length_replicate, List.length_singleton]; omega)]
      rw [List.append_assoc, ← List.replicate_succ']
  have h := main (zs r) 0 (by omega)
  unfold spec_l05End.f
  exact h
theorem first_ok : Hand.firstL.length = 8 ∧ ∀ x ∈ Hand.firstL, 0 ≤ x ∧ x < 4294967296 := by decide
theorem nil_app (a : ByteArray) : (⟨#[]⟩ : ByteArray) ++ a = a := bl_inj (by rw [bl_append]; rfl)
theorem digest_size (a : ByteArray) : (Hand.digestL a).size = 32 := by
  unfold Hand.digestL Hand.summedL
  rw [sn_len, outL_len]
theorem digest_s (a : ByteArray) (h : a.size ≤ 20000) : Ev (fun k => spec_Digest.f k a) (Hand.digestL a) := by
  unfold spec_Digest.f
  refine ev_if_neg (by omega) (ev_bind1 rfl ?_)
  have hm := more_ok Hand.firstL ⟨#[]⟩ a 0 first_ok.1 first_ok.2 (by omega) (by omega) (by show 0 ≤ 1000; omega) (by omega)
  rw [nil_app, Int.zero_add] at hm
  refine Ev.bind hm ?_
  have he := end_ok (Hand.eat Hand.firstL a (a.size / 64)) (a.extract (64 * (a.size / 64)) a.size) (a.size : Int) (by rw [Hand.eat_length]; exact first_ok.1) (eat_rng _ _ first_ok.1 first_ok.2 _) (by omega) (by omega) (by rw [ByteArray.size_extract]; omega)
  exact Ev.bind he (Ev.now _)
theorem digest_i (a : ByteArray) (h : a.size ≤ 20000) : impl_digest.f a = some (Hand.digestL a) := by
  unfold impl_digest.f
  rw [if_pos (by omega)]
/-- the digit of a number below sixteen. -/
def hxD (n : Nat) : Nat := if n < 10 then 48 + n else 87 + n
/-- what a digit is worth; 16: it is none. -/
def hxV (c : Nat) : Nat := if 48 ≤ c ∧ c ≤ 57 then c - 48 else if 97 ≤ c ∧ c ≤ 102 then c - 87 else 16
theorem hxV_hxD : ∀ n, n < 16 → hxV (hxD n) = n := by decide
theorem hxD_hxV (c : Nat) (h : hxV c < 16) : hxD (hxV c) = c := by
  by_cases q : 48 ≤ c ∧ c ≤ 57
  · have e : hxV c = c - 48 := by unfold hxV; rw [if_pos q]
    rw [e]; unfold hxD; rw [if_pos (by omega)]; omega
  by_cases q2 : 97 ≤ c ∧ c ≤ 102
  · have e : hxV c = c - 87 := by unfold hxV; rw [if_neg q, if_pos q2]
    rw [e]; unfold hxD; rw [if_neg (by omega)]; omega
  · have e : hxV c = 16 := by unfold hxV; rw [if_neg q, if_neg q2]
    omega
def hxL : List Nat → List Nat
  | [] => []
  | b :: l => hxD (b / 16) :: hxD (b % 16) :: hxL l
def unL : List Nat → Option (List Nat)
  | [] => some []
  | [_] => none
  | h :: l :: r => if hxV h < 16 ∧ hxV l < 16 then (unL r).map (fun x => (16 * hxV h + hxV l) :: x) else none
theorem unL_hxL : ∀ l : List Nat, (∀ b ∈ l, b < 256) → unL (hxL l) = some l
  | [], _ => rfl
  | b :: l, h => by
    have hb := h b (by simp)
    have ih := unL_hxL l (fun x hx => h x (by simp [hx]))
    simp only [hxL, unL]
    rw [hxV_hxD _ (by omega), hxV_hxD _ (by omega), if_pos (by omega), ih, Option.map_some]
    congr 2
    omega
theorem hxL_unL : ∀ (l m : List Nat), unL l = some m → hxL m = l
  | [], m, h => by
    simp only [unL, Option.some.injEq] at h
    subst h; rfl
  | [_], _, h => by simp [unL] at h
  | a :: b :: r, m, h => by
    simp only [unL] at h
    split at h
    · rename_i q
      cases hr : unL r with
      | none => rw [hr] at h; simp at h
      | some x =>
        rw [hr] at h
        simp only [Option.map_some, Option.some.injEq] at h
        subst h
        simp only [hxL]
        rw [hxL_unL r x hr, show (16 * hxV a + hxV b) / 16 = hxV a by omega, show (16 * hxV a + hxV b) % 16 = hxV b by omega, hxD_hxV a q.1, hxD_hxV b q.2]
    · simp at h
theorem hxL_length : ∀ l, (hxL l).length = 2 * l.length
  | [] => rfl
  | b :: l => by simp [hxL, hxL_length l]; omega
def HX : ByteArray := ⟨#[48, 49, 50, 51, 52, 53, 54, 55, 56, 57, 97, 98, 99, 100, 101, 102]⟩
theorem hx_bt : ∀ n, n < 16 → bt HX ((n : Nat) : Int) = ((hxD n : Nat) : Int) := by decide +kernel
/-- numbers as a text. -/
def tx (l : List Nat) : List Int := l.map (fun (n : Nat) => (n : Int))
theorem tx_bl (l : List Nat) (h : ∀ x ∈ l, x < 256) : bl (strOfNums (tx l)) = l := by
  rw [bl_strOfNums _ (fun x hx => by
    obtain ⟨n, hn, rfl⟩ := List.mem_map.1 hx
    have := h n hn
    omega)]
  unfold tx
  rw [List.map_map]
  exact List.map_id'' (fun n => Int.toNat_natCast n) l
theorem bl_tx (t : ByteArray) : strOfNums (tx (bl t)) = t := bl_inj (tx_bl _ (bl_lt t))
theorem drop_bl (t : ByteArray) (i : Nat) (h : i < t.size) : ∃ b : Nat, b < 256 ∧ bt t (i : Int) = (b : Int) ∧ (bl t).drop i = b :: (bl t).drop (i + 1) := by
  have hl : i < (bl t).length := by rw [bl_length]; exact h
  exact ⟨(bl t)[i], bl_lt t _ (List.getElem_mem hl), bt_bl t i h, List.drop_eq_getElem_cons hl⟩
def hexT (t : ByteArray) : ByteArray := strOfNums (tx (hxL (bl t)))
theorem hx_hi (b : Nat) (hb : b < 256) : (Int.tdiv ((b : Nat) : Int) 16) % 256 = ((b / 16 : Nat) : Int) := by
  rw [Int.tdiv_eq_ediv_of_nonneg (by omega)]; omega
theorem hx_lo (b : Nat) : Int.tmod ((b : Nat) : Int) 16 = ((b % 16 : Nat) : Int) := by
  rw [Int.tmod_eq_emod_of_nonneg (by omega)]; omega
theorem tx_two (b : Nat) (acc : List Int) (r : List Nat) : acc ++ [((hxD (b / 16) : Nat) : Int), ((hxD (b % 16) : Nat) : Int)] ++ tx (hxL r) = acc ++ tx (hxL (b :: r)) := by
  simp [tx, hxL]
theorem hex_i (t : ByteArray) (ht : t.size ≤ 20001) : ∀ (d i : Nat) (acc : List Int), i + d = t.size → acc.length = 2 * i → Ev (fun k => impl_hex.l0 k t acc (t.size : Int) (i : Int)) (strOfNums (acc ++ tx (hxL ((bl t).drop i)))) := by
  intro d
  induction d with
  | zero =>
    intro i acc hi ha
    refine Ev.step (f := fun _ => some (strOfNums acc)) (fun k => ?_) (ev_eq ?_)
    · simp only [impl_hex.l0]; rw [if_neg (by omega)]
    · rw [List.drop_of_length_le (by rw [bl_length]; omega)]; simp [hxL, tx]
  | succ d ih =>
    intro i acc hi ha
    obtain ⟨b, hb, eb, ed⟩ := drop_bl t i (by omega)
    have hr := ih (i + 1) (acc ++ [((hxD (b / 16) : Nat) : Int), ((hxD (b % 16) : Nat) : Int)]) (by omega) (by simp; omega)
    rw [tx_two, ← ed] at hr
    refine Ev.step (fun k => ?_) hr
    simp only [impl_hex.l0, eb, hx_hi b hb, hx_lo b]
    have e1 := hx_bt (b / 16) (by omega)
    have e2 := hx_bt (b % 16) (by omega)
    unfold HX at e1 e2
    rw [e1, e2, if_pos (by omega), if_pos (by omega), if_pos (by omega), if_pos (by omega), if_pos (by omega), if_pos (by omega), if_pos (by omega), Option.bind_some, if_pos (by simp; omega), w64 (by omega) (by omega)]
    rfl
theorem hexT_size (t : ByteArray) : (hexT t).size = 2 * t.size := by
  unfold hexT
  rw [sn_len]
  unfold tx
  rw [List.length_map, hxL_length, bl_length]
/-- what reading comes to. -/
theorem hxL_append : ∀ (a b : List Nat), hxL (a ++ b) = hxL a ++ hxL b
  | [], b => rfl
  | x :: a, b => by simp only [List.cons_append, hxL, hxL_append a b]
theorem hxL_lt : ∀ l : List Nat, (∀ b ∈ l, b < 256) → ∀ x ∈ hxL l, x < 256
  | [], _, x, h => by simp [hxL] at h
  | b :: l, hl, x, h => by
    have hb := hl b (by simp)
    simp only [hxL, List.mem_cons] at h
    rcases h with rfl | rfl | h
    · unfold hxD; split <;> omega
    · unfold hxD; split <;> omega
    · exact hxL_lt l (fun y hy => hl y (by simp [hy])) x h
theorem hexT_head (t : ByteArray) (n : Nat) : (hexT t).extract 0 (2 * n) = hexT (t.extract 0 n) := by
  apply bl_inj
  unfold hexT
  rw [bl_extract, tx_bl _ (hxL_lt _ (bl_lt t)), tx_bl _ (hxL_lt _ (bl_lt _)), bl_extract, List.drop_zero, List.drop_zero]
  have e : bl t = (bl t).take n ++ (bl t).drop n := (List.take_append_drop n _).symm
  by_cases hn : n ≤ (bl t).length
  · conv => lhs; rw [e, hxL_append]
    rw [List.take_left' (by rw [hxL_length, List.length_take]; omega)]
  · rw [List.take_of_length_le (by rw [hxL_length]; omega), List.take_of_length_le (by omega)]
theorem Hexl_i (t : ByteArray) (ht : t.size ≤ 20000) : Ev (fun k => impl_hex.f k t) (hexT t) := by
  refine ev_if_pos ?_ (ev_if_pos ?_ ?_)
  · rw [w64 (by omega) (by omega)]; omega
  · rw [w64 (by omega) (by omega)]; omega
  · have := hex_i t (by omega) t.size 0 [] (by omega) rfl
    unfold hexT
    simpa using this
/-- a source that stands right. -/
def St (b : List Int) (q m : Int) : Prop := 0 ≤ q ∧ q ≤ (b.length : Int) ∧ b.length ≤ 1048576 ∧ 0 ≤ m ∧ m < 18446744073709551616
theorem bits_u64 (op : BinOp) (x y : Int) : 0 ≤ Go.bits op .u64 x y ∧ Go.bits op .u64 x y < 18446744073709551616 := by
  simp only [Go.bits, IntKind.wrap_u64]
  omega
theorem pick_most (v most : Int) (h1 : 1 < most) (h2 : most ≤ 9223372036854775807) : 0 ≤ wrap64 (Int.tmod (IntKind.u64.wrap v) (IntKind.u64.wrap most)) ∧ wrap64 (Int.tmod (IntKind.u64.wrap v) (IntKind.u64.wrap most)) < most ∧ IntKind.u64.wrap most ≠ 0 := by
  simp only [IntKind.wrap_u64]
  have e : most % 18446744073709551616 = most := by omega
  rw [e, Int.tmod_eq_emod_of_nonneg (by omega)]
  have a := Int.emod_nonneg (v % 18446744073709551616) (show most ≠ 0 by omega)
  have b := Int.emod_lt_of_pos (v % 18446744073709551616) (show 0 < most by omega)
  rw [w64 (by omega) (by omega)]
  omega
theorem n_ok (b : List Int) (q m z most : Int) (h : St b q m) (h1 : 1 ≤ most) (h2 : most ≤ 9223372036854775807) : ∃ v q' m', spec_l01Src_n.f b q m z most = some (v, q', m', z) ∧ 0 ≤ v ∧ v < most ∧ St b q' m' := by
  obtain ⟨a1, a2, a3, a4, a5⟩ := h
  unfold spec_l01Src_n.f
  by_cases c : most ≤ 1
  · rw [if_pos c]
    exact ⟨0, q, m, rfl, by omega, by omega, a1, a2, a3, a4, a5⟩
  · rw [if_neg c]
    have hm := bits_u64 .xor (Go.bits .xor .u64 (Go.bits .xor .u64 m (IntKind.u64.wrap (m * 8192))) ((Go.bits .xor .u64 m (IntKind.u64.wrap (m * 8192))) / 128)) (IntKind.u64.wrap ((Go.bits .xor .u64 (Go.bits .xor .u64 m (IntKind.u64.wrap (m * 8192))) ((Go.bits .xor .u64 m (IntKind.u64.wrap (m * 8192))) / 128)) * 131072))
    generalize Go.bits .xor .u64 (Go.bits .xor .u64 (Go.bits .xor .u64 m (IntKind.u64.wrap (m * 8192))) ((Go.bits .xor .u64 m (IntKind.u64.wrap (m * 8192))) / 128)) (IntKind.u64.wrap ((Go.bits .xor .u64 (Go.bits .xor .u64 m (IntKind.u64.wrap (m * 8192))) ((Go.bits .xor .u64 m (IntKind.u64.wrap (m * 8192))) / 128)) * 131072)) = m3 at hm ⊢
    by_cases c2 : q < (b.length : Int)
    · obtain ⟨p1, p2, p3⟩ := pick_most (IntKind.u64.wrap (rd b q) + m3 / 1048576) most (by omega) h2
      rw [if_pos c2, if_pos a1, if_neg p3]
      exact ⟨_, _, _, rfl, p1, p2, by rw [w64 (by omega) (by omega)]; omega, by rw [w64 (by omega) (by omega)]; omega, a3, hm.1, hm.2⟩
    · obtain ⟨p1, p2, p3⟩ := pick_most (0 + m3 / 1048576) most (by omega) h2
      rw [if_neg c2, if_neg p3]
      exact ⟨_, _, _, rfl, p1, p2, a1, a2, a3, hm.1, hm.2⟩
theorem src_ok (l : List Int) (hl : l.length ≤ 1048576) : Evs (fun k => spec_l01Source.f k l) (fun r => r.1 = l ∧ St l r.2.1 r.2.2.1 ∧ 0 ≤ r.2.2.2 ∧ r.2.2.2 ≤ 12) := by
  have stop : ∀ (m : Int), 0 ≤ m → m < 18446744073709551616 → ∀ q, q = (if (wrap64 ((l.length : Int) / 20)) > 12 then (some (l, (0 : Int), m, (12 : Int))) else (some (l, 0, m, wrap64 ((l.length : Int) / 20)))) → ∃ r, q = some r ∧ r.1 = l ∧ St l r.2.1 r.2.2.1 ∧ 0 ≤ r.2.2.2 ∧ r.2.2.2 ≤ 12 := by
    intro m h0 h1 q hq
    subst hq
    rw [w64 (n := (l.length : Int) / 20) (by omega) (by omega)]
    by_cases c : (l.length : Int) / 20 > 12
    · rw [if_pos c]
      exact ⟨_, rfl, rfl, ⟨Int.le_refl _, by simp, hl, h0, h1⟩, by simp, by simp⟩
    · rw [if_neg c]
      exact ⟨_, rfl, rfl, ⟨Int.le_refl _, by simp, hl, h0, h1⟩, by simp only; omega, by simp only; omega⟩
  unfold spec_l01Source.f
  have main : ∀ (d i : Nat) (m : Int), i + d = 65 → 0 ≤ m → m < 18446744073709551616 → Evs (fun k => spec_l01Source.l0 k l (i : Int) l 0 m 0) (fun r => r.1 = l ∧ St l r.2.1 r.2.2.1 ∧ 0 ≤ r.2.2.2 ∧ r.2.2.2 ≤ 12) := by
    intro d
    induction d with
    | zero =>
      intro i m hi h0 h1
      obtain ⟨r, hr, hp⟩ := stop m h0 h1 _ rfl
      refine ⟨r, Ev.step (f := fun _ => some r) (fun k => ?_) (Ev.now _), hp⟩
      simp only [spec_l01Source.l0]
      by_cases c : (i : Int) < (l.length : Int)
      · rw [if_pos c, if_neg (by omega)]; exact hr
      · rw [if_neg c]; exact hr
    | succ d ih =>
      intro i m hi h0 h1
      by_cases c : (i : Int) < (l.length : Int) ∧ (i : Int) < 64
      · obtain ⟨v, hv, hp⟩ := ih (i + 1) (IntKind.u64.wrap ((Go.bits .xor .u64 m (IntKind.u64.wrap (rd l i))) * 1099511628211)) (by omega) (by simp only [IntKind.wrap_u64]; omega) (by simp only [IntKind.wrap_u64]; omega)
        refine ⟨v, Ev.step (fun k => ?_) hv, hp⟩
        simp only [spec_l01Source.l0]
        rw [if_pos c.1, if_pos c.2, if_pos (by omega), w64 (by omega) (by omega)]
        rfl
      · obtain ⟨r, hr, hp⟩ := stop m h0 h1 _ rfl
        refine ⟨r, Ev.step (f := fun _ => some r) (fun k => ?_) (Ev.now _), hp⟩
        simp only [spec_l01Source.l0]
        by_cases c1 : (i : Int) < (l.length : Int)
        · rw [if_pos c1, if_neg (fun q => c ⟨c1, q⟩)]; exact hr
        · rw [if_neg c1]; exact hr
  exact main 65 0 88172645463325252 rfl (by decide) (by decide)
theorem strOfNums_len (l : List Int) : (strOfNums l).size = l.length := by simp [strOfNums, ByteArray.size]
theorem bytes_ok (b : List Int) (z : Int) (n : Nat) (hn : n ≤ 1048576) : ∀ (d i : Nat) (acc : List Int) (q m : Int), i + d = n → acc.length = i → St b q m → Evs (fun k => spec_l01Src_bytes.l0 k (n : Int) acc (i : Int) b q m z) (fun r => r.1.size = n ∧ St b r.2.1 r.2.2.1 ∧ r.2.2.2 = z) := by
  intro d
  induction d with
  | zero =>
    intro i acc q m hi ha hs
    refine ⟨(strOfNums acc, q, m, z), Ev.step (f := fun _ => some (strOfNums acc, q, m, z)) (fun k => ?_) (Ev.now _), ?_, hs, rfl⟩
    · simp only [spec_l01Src_bytes.l0]
      rw [if_neg (by omega)]
    · show (strOfNums acc).size = n
      rw [strOfNums_len]; omega
  | succ d ih =>
    intro i acc q m hi ha hs
    obtain ⟨v, q', m', hv, _, _, hs'⟩ := n_ok b q m z 256 hs (by decide) (by decide)
    obtain ⟨r, hr, hp⟩ := ih (i + 1) (acc ++ [v % 256]) q' m' (by omega) (by simp; omega) hs'
    refine ⟨r, Ev.step (fun k => ?_) hr, hp⟩
    simp only [spec_l01Src_bytes.l0, hv, Option.bind_some]
    rw [if_pos (by omega), if_pos (by omega), w64 (by omega) (by omega)]
    rfl
theorem bytesN_ok (b : List Int) (q m z n : Int) (h0 : 0 ≤ n) (hn : n ≤ 1048576) (hs : St b q m) : Evs (fun k => spec_l01Src_bytes.f k b q m z n) (fun r => (r.1.size : Int) = n ∧ St b r.2.1 r.2.2.1 ∧ r.2.2.2 = z) := by
  obtain ⟨n, rfl⟩ : ∃ k : Nat, n = (k : Int) := ⟨n.toNat, by omega⟩
  exact (bytes_ok b z n (by omega) n 0 [] q m (by omega) rfl hs).mono (fun r h => ⟨by rw [h.1], h.2⟩)
theorem ex_app (p x : ByteArray) (a b : Nat) (h : b ≤ p.size) : (p ++ x).extract a b = p.extract a b := by
  apply bl_inj
  rw [bl_extract, bl_extract, bl_append, List.take_append_of_le_length (by rw [bl_length]; exact h)]
theorem ex_tail (p x : ByteArray) (c a b : Nat) (h : c ≤ p.size) : (p.extract c p.size ++ x).extract a b = (p ++ x).extract (c + a) (c + b) := by
  apply bl_inj
  rw [bl_extract, bl_extract, bl_append, bl_append, bl_extract, ← bl_length p, List.take_length, ← List.drop_append_of_le_length (by rw [bl_length]; exact h), ← List.drop_drop, List.drop_take, List.drop_take, List.drop_take, Nat.add_sub_cancel_left, List.drop_drop]
theorem eat_app (F : List Int) (p x : ByteArray) : ∀ q, 64 * q ≤ p.size → Hand.eat F (p ++ x) q = Hand.eat F p q
  | 0, _ => rfl
  | q + 1, h => by rw [Hand.eat, Hand.eat, eat_app F p x q (by omega), ex_app p x _ _ (by omega)]
theorem eat_more (F : List Int) (p x : ByteArray) (q : Nat) (h : 64 * q ≤ p.size) : ∀ n, Hand.eat (Hand.eat F p q) (p.extract (64 * q) p.size ++ x) n = Hand.eat F (p ++ x) (q + n)
  | 0 => (eat_app F p x q h).symm
  | n + 1 => by rw [Hand.eat, ← Nat.add_assoc, Hand.eat, eat_more F p x q h n, ex_tail p x _ _ _ h, show 64 * q + 64 * n = 64 * (q + n) by omega, show 64 * q + (64 * n + 64) = 64 * (q + n) + 64 by omega]

theorem more_step (F : List Int) (p x : ByteArray) (q m n : Nat) (hq : q = p.size / 64) (hm : m = (p.extract (64 * q) p.size ++ x).size / 64) (hn : n = (p ++ x).size / 64) :
    Hand.eat (Hand.eat F p q) (p.extract (64 * q) p.size ++ x) m = Hand.eat F (p ++ x) n ∧ (p.extract (64 * q) p.size ++ x).extract (64 * m) (p.extract (64 * q) p.size ++ x).size = (p ++ x).extract (64 * n) (p ++ x).size := by
  have h64 : 64 * q ≤ p.size := by omega
  have hz : (p.extract (64 * q) p.size ++ x).size = p.size - 64 * q + x.size := by simp
  have hz2 : (p ++ x).size = p.size + x.size := by simp
  have e : q + m = n := by rw [hz] at hm; rw [hz2] at hn; omega
  refine ⟨by rw [eat_more F p x q h64 m, e], ?_⟩
  rw [ex_tail p x _ _ _ h64, hz, hz2, show 64 * q + 64 * m = 64 * n by omega, show 64 * q + (p.size - 64 * q + x.size) = p.size + x.size by omega]
theorem wf8 {n : Int} (h : (Lit.int .u8 n).wf = true) : 0 ≤ n ∧ n < 256 := by
  have := h
  simp [Lit.wf, IntKind.signed, IntKind.bits, IntKind.min, IntKind.max] at this
  omega
theorem rd_mem (l : List Int) (v : Int) (P : Int → Prop) (h0 : 0 ≤ v) (h1 : v < (l.length : Int)) (h : ∀ c ∈ l, P c) : P (rd l v) := by
  obtain ⟨n, rfl⟩ : ∃ n : Nat, v = (n : Int) := ⟨v.toNat, by omega⟩
  have e : rd l (n : Int) = l[n]'(by omega) := getD_nat l n 0 (by omega)
  rw [e]
  exact h _ (List.getElem_mem _)
theorem lw_ok (l : List Int) (hw : ∀ x ∈ l, 0 ≤ x ∧ x < 256) (i m : Int) (hi : 0 ≤ i) (hm : 0 < m) : ∃ v, laws_lwAt.f l i m = some v ∧ 0 ≤ v ∧ v < m := by
  unfold laws_lwAt.f
  by_cases h1 : m ≤ 1
  · exact ⟨0, if_pos h1, by omega, by omega⟩
  rw [if_neg h1]
  by_cases h2 : (l.length : Int) = 0
  · exact ⟨0, if_pos h2, by omega, by omega⟩
  rw [if_neg h2]
  have hl : 0 < (l.length : Int) := by omega
  have a0 : 0 ≤ Int.tmod i (l.length : Int) := Int.tmod_nonneg _ hi
  have a1 : Int.tmod i (l.length : Int) < (l.length : Int) := Int.tmod_lt_of_pos _ hl
  rw [if_pos a0, if_pos a1, if_neg (by omega)]
  have hr := rd_mem l _ (fun x => 0 ≤ x ∧ x < 256) a0 a1 hw
  have e : wrap64 (rd l (Int.tmod i l.length)) = rd l (Int.tmod i l.length) := w64 (by omega) (by omega)
  rw [e]
  exact ⟨_, rfl, Int.tmod_nonneg _ hr.1, Int.tmod_lt_of_pos _ (by omega)⟩
/-- the state behind a text. -/
def hS (p : ByteArray) : List Int := Hand.eat Hand.firstL p (p.size / 64)
/-- what is left of it. -/
def hR (p : ByteArray) : ByteArray := p.extract (64 * (p.size / 64)) p.size
theorem hok (p : ByteArray) (hp : p.size ≤ 20000) : Hand.HOk (hS p) (hR p) (p.size : Int) := by
  refine ⟨Hand.eat_ok _ _ Hand.first_ok _, by omega, by omega, ?_⟩
  unfold hR
  rw [ByteArray.size_extract]
  omega
theorem hmore (p x : ByteArray) (hp : p.size ≤ 20000) (hx : x.size ≤ 20000) : impl_HashMore.f (hS p) (hR p) (p.size : Int) x = some (hS (p ++ x), hR (p ++ x), ((p ++ x).size : Int)) := by
  unfold impl_HashMore.f
  rw [if_pos ⟨hok p hp, hx, by omega⟩]
  obtain ⟨h1, h2⟩ := more_step Hand.firstL p x (p.size / 64) ((hR p ++ x).size / 64) ((p ++ x).size / 64) rfl rfl rfl
  unfold hS hR
  unfold hR at h1 h2
  rw [h1, h2, ByteArray.size_append]
  rfl
theorem hend (p : ByteArray) (hp : p.size ≤ 20000) : impl_HashEnd.f (hS p) (hR p) (p.size : Int) = some (Hand.digestL p) := by
  unfold impl_HashEnd.f
  rw [if_pos (hok p hp)]
  rfl
theorem hright (p : ByteArray) (hp : p.size ≤ 20000) : impl_HashRight.f (hS p) (hR p) (p.size : Int) = some true := by
  unfold impl_HashRight.f
  rw [if_pos (hok p hp)]
theorem short_i (t : ByteArray) (ht : t.size ≤ 20000) : Ev (fun k => impl_Short.f k t) (hexT ((Hand.digestL t).extract 0 4)) := by
  have hd := digest_size t
  have hz := hexT_size (Hand.digestL t)
  unfold impl_Short.f impl_isLong.f
  refine ev_bind1 rfl (ev_if_neg (by simp; omega) (ev_bind1 (digest_i t ht) (Ev.bind (Hexl_i _ (by omega)) (ev_if_pos (by omega) (ev_if_pos (by omega) (ev_eq ?_))))))
  rw [← hexT_head]
theorem Hexs_i (t : ByteArray) (ht : t.size ≤ 20000) : Ev (fun k => impl_Hex.f k t) (hexT t) := by
  unfold impl_Hex.f impl_isLong.f
  exact ev_bind1 rfl (ev_if_neg (by simp; omega) (Ev.bind (Hexl_i t ht) (Ev.now _)))
theorem cut_two (x : ByteArray) (v : Nat) (h : v ≤ x.size) : x.extract 0 v ++ x.extract v x.size = x := by
  apply bl_inj
  rw [bl_append, bl_extract, bl_extract, List.drop_zero, ← bl_length x, List.take_length, List.take_append_drop]
theorem law_l0 (t : ByteArray) (ht : t.size ≤ 20000) (l1 : List Int) (hw : ∀ x ∈ l1, 0 ≤ x ∧ x < 256) : ∀ (d i : Nat) (p x : ByteArray), i + d = 5 → p ++ x = t → Ev (fun k => laws_FnHash.l0 k l1 t (Hand.digestL t) x (i : Int) (hS p) (hR p) (p.size : Int)) true := by
  intro d
  induction d with
  | zero =>
    intro i p x hi hp
    have hsz : p.size + x.size = t.size := by rw [← hp, ByteArray.size_append]
    have hd := digest_size t
    have hm := hmore p x (by omega) (by omega)
    rw [hp] at hm
    have e4 : (Hand.digestL t).extract 0 4 = (Hand.digestL t).extract 0 4 := rfl
    refine Ev.step (f := fun k => (impl_HashMore.f (hS p) (hR p) (p.size : Int) x).bind fun bt226 => ((impl_HashEnd.f bt226.1 bt226.2.1 bt226.2.2).bind fun t231 => (if t231.toList = (Hand.digestL t).toList then (if ((Hand.digestL t).size : Int) = 32 then ((impl_Short.f k t).bind fun t232 => (if 0 ≤ 4 then (if 4 ≤ ((Hand.digestL t).size : Int) then ((impl_Hex.f k ((Hand.digestL t).extract 0 4)).bind fun t233 => (if t232.toList = t233.toList then (some (bt226.2.2 == (t.size : Int))) else (some false))) else (none)) else (none))) else (some false)) else (some false)))) (fun k => ?_) ?_
    rotate_left
    · refine ev_bind1 hm (ev_bind1 (hend t ht) (ev_if_pos rfl (ev_if_pos (by omega) (Ev.bind (short_i t ht) (ev_if_pos (by omega) (ev_if_pos (by omega) (Ev.bind (Hexs_i _ (by rw [ByteArray.size_extract]; omega)) (ev_if_pos rfl (ev_eq ?_)))))))))
      simp
    · simp only [laws_FnHash.l0]
      rw [if_neg (by omega)]
  | succ d ih =>
    intro i p x hi hp
    have hsz : p.size + x.size = t.size := by rw [← hp, ByteArray.size_append]
    have e1 : wrap64 ((x.size : Int) + 1) = (x.size : Int) + 1 := w64 (by omega) (by omega)
    obtain ⟨v, hv, v0, v1⟩ := lw_ok l1 hw (i : Int) ((x.size : Int) + 1) (by omega) (by omega)
    obtain ⟨n, rfl⟩ : ∃ n : Nat, v = (n : Int) := ⟨v.toNat, by omega⟩
    have hn : n ≤ x.size := by omega
    have hxs : (x.extract 0 n).size = n := by rw [ByteArray.size_extract]; omega
    have hps : (p ++ x.extract 0 n).size = p.size + n := by rw [ByteArray.size_append, hxs]
    have hm := hmore p (x.extract 0 n) (by omega) (by omega)
    have hr := ih (i + 1) (p ++ x.extract 0 n) (x.extract n x.size) (by omega) (by rw [ByteArray.append_assoc, cut_two x n hn, hp])
    refine Ev.step (fun k => ?_) hr
    simp only [laws_FnHash.l0]
    rw [if_pos (by omega), e1, hv, Option.bind_some, if_pos (by omega), if_pos (by omega), Int.toNat_natCast, hm, Option.bind_some, hright _ (by omega), Option.bind_some, if_pos rfl, w64 (by omega) (by omega)]
    rfl
theorem FnHash : laws_FnHash.Pure := by
  intro l0 l1 _ _ _ _ _ hw
  refine Ev.rounds (g := fun k => laws_FnHash.f k l0 l1) (Evs.ev ?_)
  have out : Evs (fun k => laws_FnHash.j0 k l0 l1 true) (fun x => x = true) := ⟨true, Ev.step (f := fun _ => some true) (fun k => by simp only [laws_FnHash.j0]; rw [if_pos trivial]) (Ev.now _), rfl⟩
  unfold laws_FnHash.f
  refine Evs.ite (fun _ => out) (fun hl0 => ?_)
  by_cases hl1 : (l1.length : Int) > 1048576
  · rw [decide_eq_true hl1]; exact out
  rw [decide_eq_false hl1]
  have hd : Evs (fun k => spec_DrawDigest.f k l0) (fun t => t.size ≤ 200) := by
    unfold spec_DrawDigest.f
    refine Evs.bind (src_ok l0 (by omega)) (fun r hr => ?_)
    obtain ⟨b, q, m, z⟩ := r
    obtain ⟨rfl, hs, hz⟩ := hr
    obtain ⟨n, q1, m1, h1, n0, n1, s1⟩ := n_ok b q m z 200 hs (by omega) (by omega)
    refine Evs.bind1 h1 (Evs.bind (bytesN_ok b q1 m1 z n n0 (by omega) s1) (fun r hr => Evs.now _ ?_))
    have := hr.1
    show r.1.size ≤ 200
    omega
  obtain ⟨t, hD, ht⟩ := hd
  have hL := law_l0 t (by omega) l1 (fun x hx => wf8 (hw x hx)) 5 0 ⟨#[]⟩ t rfl (by apply bl_inj; rw [bl_append]; rfl)
  refine ⟨true, Ev.step (f := fun k => (spec_DrawDigest.f k l0).bind fun t210 => ((impl_Digest.f t210).bind fun t211 => ((spec_Digest.f k t210).bind fun t212 => (if t211.toList = t212.toList then (if (t210.size : Int) > 20000 then (some (t211.toList == ([] : List UInt8))) else ((impl_HashBegin.f).bind fun bt213 => (laws_FnHash.l0 k l1 t210 t211 t210 0 bt213.1 bt213.2.1 bt213.2.2))) else (some false))))) (fun k => by simp only [laws_FnHash.j0]; rw [if_neg (by simp)]) (Ev.bind hD (ev_bind1 ?_ (Ev.bind (digest_s t (by omega)) (ev_if_pos rfl (ev_if_neg (by omega) (ev_bind1 rfl ?_)))))), rfl⟩
  · unfold impl_Digest.f impl_isLong.f
    rw [Option.bind_some, if_neg (by simp; omega), digest_i t (by omega)]
    rfl
  · exact hL
end Go.Proofs.YtfffdndeccipnaaDoor.Pure
