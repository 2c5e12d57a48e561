/- The plain law of FnFrame: a right frame is read back from its bytes, and what is read of bytes is told by just these bytes. -/
import Derived.Test.YtddapeieolfolaaDoorPFnFramex18
import Derived.Test.YtddapeieolfolaaDoorVLibFnFrame
namespace Go.Proofs.YtddapeieolfolaaDoor.Pure
open Go.RowKit Go.Proofs.YtddapeieolfolaaDoor.PFnFrame Go.Proofs.YtddapeieolfolaaDoor.Lib Go.Proofs.YtddapeieolfolaaDoorW.PrintWords Go.Proofs.YtddapeieolfolaaDoorW.PrintLast Go.Proofs.YtddapeieolfolaaDoorW.PrintMore
set_option linter.unusedVariables false
set_option linter.unusedSimpArgs false
/-- a text as numbers. -/
def bl (t : ByteArray) : List Nat := t.data.toList.map UInt8.toNat
theorem bl_length (t : ByteArray) : (bl t).length = t.size := by unfold bl; rw [List.length_map]; exact data_length t
theorem bl_append (a b : ByteArray) : bl (a ++ b) = bl a ++ bl b := by simp [bl, ByteArray.data_append]
theorem bl_lt (t : ByteArray) : ∀ c ∈ bl t, c < 256 := by
  intro c hc
  obtain ⟨x, _, rfl⟩ := List.mem_map.1 hc
  exact x.toNat_lt
theorem bl_extract (t : ByteArray) (i j : Nat) : bl (t.extract i j) = ((bl t).take j).drop i := by
  simp only [bl, ByteArray.data_extract, Array.toList_extract, List.extract_eq_take_drop, List.map_take, List.map_drop]
  rw [List.drop_take]
theorem bl_inj {a b : ByteArray} (h : bl a = bl b) : a = b := by
  have h2 : a.data.toList = b.data.toList := by
    unfold bl at h
    exact (List.map_inj_right (fun x y q => UInt8.toNat_inj.1 q)).1 h
  cases a; cases b
  simp only at h2
  congr 1
  exact Array.toList_inj.1 h2
theorem bt_bl (t : ByteArray) (i : Nat) (h : i < t.size) : bt t (i : Int) = (((bl t)[i]'(by rw [bl_length]; exact h) : Nat) : Int) := by
  unfold bt
  simp only [Int.toNat_natCast]
  rw [dif_pos h]
  simp [bl]
  rfl
theorem bl_strOfNums (l : List Int) (h : ∀ x ∈ l, 0 ≤ x ∧ x < 256) : bl (strOfNums l) = l.map Int.toNat := by
  unfold bl strOfNums
  simp only [List.map_map]
  refine List.map_congr_left (fun x hx => ?_)
  have := h x hx
  simp only [Function.comp]
  rw [UInt8.toNat_ofNat']
  omega
theorem numL_range (m : Nat) : ∀ u, u < 128 ^ (m + 1) → ∀ x ∈ numL u, 0 ≤ x ∧ x < 256 := by
  induction m with
  | zero =>
    intro u hu x hx
    rw [numL_lt (by simpa using hu)] at hx
    simp at hx; subst hx
    simp at hu
    omega
  | succ m ih =>
    intro u hu x hx
    by_cases h : u < 128
    · rw [numL_lt h] at hx
      simp at hx; omega
    · rw [numL_ge h, List.mem_cons] at hx
      rcases hx with rfl | hx
      · omega
      · exact ih (u / 128) (by rw [Nat.div_lt_iff_lt_mul (by decide), ← Nat.pow_succ]; exact hu) x hx
theorem bl_putNum (n : Int) (h0 : -9223372036854775808 ≤ n) (h1 : n ≤ 9223372036854775807) : bl (putNum n) = (numL (fold n)).map Int.toNat :=
  bl_strOfNums _ (numL_range 9 _ (Nat.lt_of_lt_of_le (fold_lt n h0 h1) (by decide)))
theorem empty_list : ((⟨#[]⟩ : ByteArray).toList == ([] : List UInt8)) = true := by
  rw [ByteArray.toList_eq]; rfl
theorem not_empty (p : ByteArray) (h : 0 < p.size) : (p.toList == ([] : List UInt8)) = false := by
  refine beq_eq_false_iff_ne.2 (fun q => ?_)
  rw [ByteArray.toList_eq] at q
  have := congrArg List.length q
  rw [data_length] at this
  simp only [List.length_nil] at this
  omega
theorem extract_size (p : ByteArray) (n : Nat) (h : n ≤ p.size) : (p.extract 0 n).size = n := by
  rw [ByteArray.size_extract]; omega
theorem sn_len (l : List Int) : (strOfNums l).size = l.length := by
  unfold strOfNums
  show (List.toArray _).size = _
  simp
theorem outK_rng (S T : List Int) : ∀ n, ∀ x ∈ Hand.outK S T n, 0 ≤ x ∧ x < 4294967296
  | 0, x, h => by simp [Hand.outK] at h
  | n + 1, x, h => by
    rw [Hand.outK, List.mem_append] at h
    rcases h with h | h
    · exact outK_rng S T n x h
    · obtain rfl := List.mem_singleton.1 h
      omega
theorem taken_rng (s : List Int) (b : ByteArray) (hs : s.length = 8) : ∀ x ∈ Hand.takenL s b, 0 ≤ x ∧ x < 4294967296 := by
  have hT : (Hand.sAll (Hand.wAll b 64) s 64).length = 8 := by
    obtain ⟨a, b1, c, d, e, f, g, h, eS⟩ := Hand.sAll_eight (Hand.wAll b 64) s hs 64
    rw [eS]; rfl
  unfold Hand.takenL
  rw [← Hand.outK_eq s _ hs hT]
  exact outK_rng _ _ 8
theorem eat_rng (s : List Int) (b : ByteArray) (hs : s.length = 8) (hr : ∀ x ∈ s, 0 ≤ x ∧ x < 4294967296) : ∀ n, ∀ x ∈ Hand.eat s b n, 0 ≤ x ∧ x < 4294967296
  | 0 => hr
  | n + 1 => taken_rng _ _ (by rw [Hand.eat_length]; exact hs)
theorem map_mod (s : List Int) (hr : ∀ x ∈ s, 0 ≤ x ∧ x < 4294967296) : s.map (· % 4294967296) = s := by
  have : s.map (· % 4294967296) = s.map id := List.map_congr_left (fun x hx => by have := hr x hx; simp only [id]; omega)
  rw [this, List.map_id]
theorem block_ok (s : List Int) (b : ByteArray) (hs : s.length = 8) (hr : ∀ x ∈ s, 0 ≤ x ∧ x < 4294967296) (hb : b.size = 64) : spec_l05Block.f s b = some (Hand.takenL s b) := by
  unfold spec_l05Block.f
  rw [if_pos ⟨hs, hb⟩, map_mod s hr]
theorem more_l (s : List Int) (t : ByteArray) (n : Int) (hs : s.length = 8) (hr : ∀ x ∈ s, 0 ≤ x ∧ x < 4294967296) (ht : t.size ≤ 2147483648) : ∀ (d i : Nat), i + d = t.size / 64 →
    Ev (fun k => spec_l05More.l0 k ((64 * i : Nat) : Int) (Hand.eat s t i) t n) (Hand.eat s t (t.size / 64), t.extract (64 * (t.size / 64)) t.size, n) := by
  intro d
  induction d with
  | zero =>
    intro i hi
    obtain rfl : i = t.size / 64 := by omega
    refine Ev.step (f := fun _ => some (Hand.eat s t (t.size / 64), t.extract (64 * (t.size / 64)) t.size, n)) (fun k => ?_) (Ev.now _)
    simp only [spec_l05More.l0]
    rw [w64 (by omega) (by omega), if_neg (by omega), if_pos (by omega), if_pos (by omega), Int.toNat_natCast]
  | succ d ih =>
    intro i hi
    have hr1 := ih (i + 1) (by omega)
    have ew : wrap64 (((64 * i : Nat) : Int) + 64) = ((64 * (i + 1) : Nat) : Int) := by rw [w64 (by omega) (by omega)]; omega
    have hb : (t.extract (64 * i) (64 * i + 64)).size = 64 := by rw [ByteArray.size_extract]; omega
    refine Ev.step (fun k => ?_) hr1
    simp only [spec_l05More.l0]
    rw [ew, w64 (by omega) (by omega), if_pos (by omega), if_pos (by omega), if_pos (by omega), if_pos (by omega), Int.toNat_natCast, Int.toNat_natCast]
    rw [show 64 * (i + 1) = 64 * i + 64 from rfl, block_ok _ _ (by rw [Hand.eat_length]; exact hs) (eat_rng s t hs hr i) hb, Option.bind_some]
    rfl
theorem more_ok (s : List Int) (r m : ByteArray) (n : Int) (hs : s.length = 8) (hr : ∀ x ∈ s, 0 ≤ x ∧ x < 4294967296) (hn : 0 ≤ n) (hn2 : n ≤ 1073741824) (hrs : r.size ≤ 1000) (hms : m.size ≤ 1073741824) :
    Ev (fun k => spec_l05More.f k s r n m) (Hand.eat s (r ++ m) ((r ++ m).size / 64), (r ++ m).extract (64 * ((r ++ m).size / 64)) (r ++ m).size, n + (m.size : Int)) := by
  unfold spec_l05More.f
  refine ev_bind1 rfl (ev_if_pos (by simp [hs]) (ev_if_pos (by omega) ?_))
  rw [w64 (by omega) (by omega), List.nil_append]
  have h := more_l s (r ++ m) (n + (m.size : Int)) hs hr (by rw [ByteArray.size_append]; omega) ((r ++ m).size / 64) 0 (by omega)
  exact h
/-- the bytes of a length in bits. -/
def lenL (n : Int) : Nat → List Int
  | 0 => []
  | j + 1 => lenL n j ++ [(wrap64 (n * 8) / 2 ^ (8 * (7 - j))) % 256]
theorem lenL_length (n : Int) : ∀ j, (lenL n j).length = j
  | 0 => rfl
  | j + 1 => by rw [lenL, List.length_append, lenL_length n j]; rfl
theorem lenL_rng (n : Int) : ∀ j, ∀ x ∈ lenL n j, 0 ≤ x ∧ x < 256
  | 0, x, h => by simp [lenL] at h
  | j + 1, x, h => by
    rw [lenL, List.mem_append] at h
    rcases h with h | h
    · exact lenL_rng n j x h
    · obtain rfl := List.mem_singleton.1 h
      omega
theorem bl_lenB (n : Int) : ∀ j, bl (Hand.lenB n j) = (lenL n j).map Int.toNat
  | 0 => rfl
  | j + 1 => by
    rw [Hand.lenB, bl_append, bl_lenB n j, lenL, List.map_append, bl_strOfNums _ (fun x hx => by obtain rfl := List.mem_singleton.1 hx; omega)]
theorem bl_zeros : ∀ z, bl (Hand.zeros z) = List.replicate z 0
  | 0 => rfl
  | z + 1 => by
    have h := bl_zeros z
    unfold Hand.zeros bl at h ⊢
    rw [Lib.repeatL, List.replicate_succ, ← h]
    rfl
def zs (r : ByteArray) : Nat := (120 - (r.size + 1)) % 64
def padL (r : ByteArray) (n : Int) : List Int := [128] ++ List.replicate (zs r) 0 ++ lenL n 8
theorem pad_eq (r : ByteArray) (n : Int) : r ++ strOfNums (padL r n) = Hand.pad r n := by
  apply bl_inj
  have hrng : ∀ x ∈ padL r n, 0 ≤ x ∧ x < 256 := by
    intro x hx
    unfold padL at hx
    rw [List.mem_append, List.mem_append] at hx
    rcases hx with (h | h) | h
    · obtain rfl := List.mem_singleton.1 h
      omega
    · have := (List.mem_replicate.1 h).2
      omega
    · exact lenL_rng n 8 x h
  rw [bl_append, bl_strOfNums _ hrng]
  unfold Hand.pad Hand.pad2 Hand.pad1
  rw [bl_append, bl_append, bl_append, bl_zeros, bl_lenB]
  unfold padL zs
  rw [List.map_append, List.map_append, List.map_replicate]
  simp only [List.append_assoc]
  rfl
theorem out_l (A : List Int) (r : ByteArray) (n : Int) (hA : A.length = 8) : ∀ (d i : Nat), i + d = 8 → Ev (fun k => spec_l05End.l2 k (Hand.outL A i) (i : Int) A r n) (strOfNums (Hand.outL A 8)) := by
  intro d
  induction d with
  | zero =>
    intro i hi
    obtain rfl : i = 8 := by omega
    refine Ev.step (f := fun _ => some (strOfNums (Hand.outL A 8))) (fun k => ?_) (Ev.now _)
    simp only [spec_l05End.l2]
    rw [if_neg (by omega)]
  | succ d ih =>
    intro i hi
    have hr := ih (i + 1) (by omega)
    have hl := Hand.outL_length A i
    refine Ev.step (fun k => ?_) hr
    simp only [spec_l05End.l2]
    rw [if_pos (by omega), if_pos (by omega), if_pos (by omega), Option.bind_some, if_pos (by simp; omega), w64 (by omega) (by omega)]
    rfl
theorem sh_ok (n : Int) (j : Nat) (hj : j < 8) (h0 : 0 ≤ n) (h1 : n ≤ 1073741824) : shr .u64 (IntKind.u64.wrap (wrap64 (8 * n))) (IntKind.u64.wrap (((8 * (7 - j) : Nat) : Int))) % 256 = (wrap64 (n * 8) / 2 ^ (8 * (7 - j))) % 256 := by
  rw [w64 (by omega) (by omega), w64 (by omega) (by omega), IntKind.wrap_u64, IntKind.wrap_u64]
  unfold shr
  rw [show (8 * n) % 18446744073709551616 = n * 8 by omega, show (((8 * (7 - j) : Nat) : Int)) % 18446744073709551616 = ((8 * (7 - j) : Nat) : Int) by omega, Int.toNat_natCast]
  rw [show min (8 * (7 - j)) IntKind.u64.bits = 8 * (7 - j) by show min _ 64 = _; omega]
theorem end_l1 (s : List Int) (r : ByteArray) (n : Int) (hs : s.length = 8) (hr : ∀ x ∈ s, 0 ≤ x ∧ x < 4294967296) (h0 : 0 ≤ n) (h1 : n ≤ 1000000) (hrs : r.size ≤ 1000) : ∀ (d j : Nat), j + d = 8 →
    Ev (fun k => spec_l05End.l1 k ([128] ++ List.replicate (zs r) 0 ++ lenL n j) (IntKind.u64.wrap (wrap64 (8 * n))) (56 - 8 * (j : Int)) s r n) (Hand.summedL s r n) := by
  have hz : zs r < 64 := by unfold zs; omega
  intro d
  induction d with
  | zero =>
    intro j hj
    obtain rfl : j = 8 := by omega
    have hm : (strOfNums (padL r n)).size ≤ 1073741824 := by
      rw [sn_len]; unfold padL; simp only [List.length_append, List.length_replicate, lenL_length, List.length_singleton]; omega
    have h := more_ok s r (strOfNums (padL r n)) n hs hr h0 (by omega) hrs hm
    rw [pad_eq] at h
    refine Ev.step (f := fun k => (spec_l05More.f k s r n (strOfNums (padL r n))).bind fun bt126 => (spec_l05End.l2 k (([] : List Int)) 0 bt126.1 bt126.2.1 bt126.2.2)) (fun k => ?_) (Ev.bind h ?_)
    · simp only [spec_l05End.l1]
      rw [if_neg (by omega)]
      rfl
    · have ho := out_l (Hand.eat s (Hand.pad r n) ((Hand.pad r n).size / 64)) ((Hand.pad r n).extract (64 * ((Hand.pad r n).size / 64)) (Hand.pad r n).size) (n + ((strOfNums (padL r n)).size : Int)) (by rw [Hand.eat_length]; exact hs) 8 0 (by omega)
      exact ho
  | succ d ih =>
    intro j hj
    have h := ih (j + 1) (by omega)
    have e1 : (56 - 8 * (j : Int)) = ((8 * (7 - j) : Nat) : Int) := by omega
    have e2 : wrap64 (((8 * (7 - j) : Nat) : Int) - 8) = 56 - 8 * ((j + 1 : Nat) : Int) := by rw [w64 (by omega) (by omega)]; omega
    refine Ev.step (fun k => ?_) h
    simp only [spec_l05End.l1, e1]
    rw [if_pos (by omega), if_pos (by rw [IntKind.wrap_u64]; omega), if_pos (by simp only [List.length_append, List.length_replicate, lenL_length, List.length_singleton]; omega), sh_ok n j (by omega) h0 (by omega), e2, lenL, List.append_assoc ([128] ++ List.replicate (zs r) 0)]
theorem end_ok (s : List Int) (r : ByteArray) (n : Int) (hs : s.length = 8) (hr : ∀ x ∈ s, 0 ≤ x ∧ x < 4294967296) (h0 : 0 ≤ n) (h1 : n ≤ 1000000) (hrn : (r.size : Int) = n % 64) : Ev (fun k => spec_l05End.f k s r n) (Hand.summedL s r n) := by
  have hz : zs r = (120 - (r.size + 1)) % 64 := rfl
  have hz2 : zs r < 64 := by omega
  have main : ∀ (d j : Nat), j + d = zs r → Ev (fun k => spec_l05End.l0 k ([128] ++ List.replicate j 0) s r n) (Hand.summedL s r n) := by
    intro d
    induction d with
    | zero =>
      intro j hj
      obtain rfl : j = zs r := by omega
      have h := end_l1 s r n hs hr h0 h1 (by omega) 8 0 (by omega)
      refine Ev.step (fun k => ?_) h
      simp only [spec_l05End.l0]
      rw [w64 (by simp only [List.length_append, List.length_replicate, List.length_singleton]; omega) (by simp only [List.length_append, List.length_replicate, List.length_singleton]; omega), Int.tmod_eq_emod_of_nonneg (by omega), if_pos (by simp only [List.length_append, List.length_replicate, List.length_singleton]; omega)]
      simp only [lenL, List.append_nil]
      rfl
    | succ d ih =>
      intro j hj
      have h := ih (j + 1) (by omega)
      refine Ev.step (fun k => ?_) h
      simp only [spec_l05End.l0]
      rw [w64 (by simp only [List.length_append, List.length_replicate, List.length_singleton]; omega) (by simp only [List.length_append, List.length_replicate, List.length_singleton]; omega), Int.tmod_eq_emod_of_nonneg (by omega), if_neg (by simp only [List.length_append, List.length_replicate, List.length_singleton]; omega), if_pos (by simp only [List.length_append, List.length_replicate, List.length_singleton]; omega)]
      rw [List.append_assoc, ← List.replicate_succ']
  have h := main (zs r) 0 (by omega)
  unfold spec_l05End.f
  exact h
theorem first_ok : Hand.firstL.length = 8 ∧ ∀ x ∈ Hand.firstL, 0 ≤ x ∧ x < 4294967296 := by decide
theorem nil_app (a : ByteArray) : (⟨#[]⟩ : ByteArray) ++ a = a := bl_inj (by rw [bl_append]; rfl)
theorem digest_i (a : ByteArray) (h : a.size ≤ 20000) : impl_digest.f a = some (Hand.digestL a) := by
  unfold impl_digest.f
  rw [if_pos (by omega)]
theorem digest_size (a : ByteArray) : (Hand.digestL a).size = 32 := by
  unfold Hand.digestL Hand.summedL
  rw [sn_len, Hand.outL_length]
theorem ext_pre (a b : ByteArray) (i j : Nat) (h : j ≤ a.size) : (a ++ b).extract i j = a.extract i j := by
  apply bl_inj
  rw [bl_extract, bl_extract, bl_append, List.take_append_of_le_length (by rw [bl_length]; exact h)]
theorem ext_suf (a b : ByteArray) (p i j : Nat) (h : p ≤ a.size) : (a ++ b).extract (p + i) (p + j) = (a.extract p a.size ++ b).extract i j := by
  apply bl_inj
  rw [bl_extract, bl_extract, bl_append, bl_append, bl_extract]
  have e : bl a = (bl a).take p ++ (bl a).drop p := (List.take_append_drop p _).symm
  have hp : ((bl a).take p).length = p := by rw [List.length_take, bl_length]; omega
  have e2 : (bl a).take a.size = bl a := List.take_of_length_le (by rw [bl_length]; omega)
  rw [e2]
  conv => lhs; rw [e, List.append_assoc]
  have e3 : List.take (p + j) (List.take p (bl a) ++ (List.drop p (bl a) ++ bl b)) = List.take p (bl a) ++ List.take j (List.drop p (bl a) ++ bl b) := by
    have := List.take_length_add_append (l₁ := List.take p (bl a)) (l₂ := List.drop p (bl a) ++ bl b) (i := j)
    rw [hp] at this
    exact this
  have e4 : ∀ l : List Nat, List.drop (p + i) (List.take p (bl a) ++ l) = List.drop i l := by
    intro l
    have := List.drop_length_add_append (l₁ := List.take p (bl a)) (l₂ := l) (i := i)
    rw [hp] at this
    exact this
  rw [e3, e4]
theorem eat_pre (s : List Int) (a b : ByteArray) : ∀ n, 64 * n ≤ a.size → Hand.eat s (a ++ b) n = Hand.eat s a n
  | 0, _ => rfl
  | n + 1, h => by rw [Hand.eat, Hand.eat, eat_pre s a b n (by omega), ext_pre _ _ _ _ (by omega)]
theorem eat_suf (s : List Int) (a b : ByteArray) (p : Nat) (h : 64 * p ≤ a.size) : ∀ n, Hand.eat s (a ++ b) (p + n) = Hand.eat (Hand.eat s a p) (a.extract (64 * p) a.size ++ b) n
  | 0 => eat_pre s a b p h
  | n + 1 => by
    rw [← Nat.add_assoc, Hand.eat, Hand.eat, eat_suf s a b p h n, ← ext_suf a b (64 * p) (64 * n) (64 * n + 64) h]
    rw [show 64 * (p + n) = 64 * p + 64 * n by omega, Nat.add_assoc]
theorem digest2_s (a b : ByteArray) (ha : a.size ≤ 20000) (hb : b.size ≤ 20000) : Ev (fun k => (spec_HashBegin.f).bind fun x => (spec_l05More.f k x.1 x.2.1 x.2.2 a).bind fun y => (spec_l05More.f k y.1 y.2.1 y.2.2 b).bind fun z => (spec_l05End.f k z.1 z.2.1 z.2.2).bind fun t => some t) (Hand.digestL (a ++ b)) := by
  refine ev_bind1 rfl ?_
  have hm := more_ok Hand.firstL ⟨#[]⟩ a 0 first_ok.1 first_ok.2 (by omega) (by omega) (by show 0 ≤ 1000; omega) (by omega)
  rw [nil_app, Int.zero_add] at hm
  refine Ev.bind hm ?_
  have hp : 64 * (a.size / 64) ≤ a.size := by omega
  have hr : (a.extract (64 * (a.size / 64)) a.size).size ≤ 1000 := by rw [ByteArray.size_extract]; omega
  have h2 := more_ok (Hand.eat Hand.firstL a (a.size / 64)) (a.extract (64 * (a.size / 64)) a.size) b (a.size : Int) (by rw [Hand.eat_length]; exact first_ok.1) (eat_rng _ _ first_ok.1 first_ok.2 _) (by omega) (by omega) hr (by omega)
  refine Ev.bind h2 ?_
  have hs : (a.extract (64 * (a.size / 64)) a.size ++ b).size = a.size % 64 + b.size := by rw [ByteArray.size_append, ByteArray.size_extract]; omega
  have hd : (a ++ b).size / 64 = a.size / 64 + (a.extract (64 * (a.size / 64)) a.size ++ b).size / 64 := by rw [hs, ByteArray.size_append]; omega
  have e1 := eat_suf Hand.firstL a b (a.size / 64) hp ((a.extract (64 * (a.size / 64)) a.size ++ b).size / 64)
  rw [← hd] at e1
  have e2 := ext_suf a b (64 * (a.size / 64)) (64 * ((a.extract (64 * (a.size / 64)) a.size ++ b).size / 64)) ((a.extract (64 * (a.size / 64)) a.size ++ b).size) hp
  rw [show 64 * (a.size / 64) + 64 * ((a.extract (64 * (a.size / 64)) a.size ++ b).size / 64) = 64 * ((a ++ b).size / 64) by omega, show 64 * (a.size / 64) + (a.extract (64 * (a.size / 64)) a.size ++ b).size = (a ++ b).size by rw [hs, ByteArray.size_append]; omega] at e2
  rw [← e1, ← e2]
  have he := end_ok (Hand.eat Hand.firstL (a ++ b) ((a ++ b).size / 64)) ((a ++ b).extract (64 * ((a ++ b).size / 64)) (a ++ b).size) ((a.size : Int) + (b.size : Int)) (by rw [Hand.eat_length]; exact first_ok.1) (eat_rng _ _ first_ok.1 first_ok.2 _) (by omega) (by omega) (by rw [ByteArray.size_extract, ByteArray.size_append]; omega)
  have hsz : (((a ++ b).size : Nat) : Int) = (a.size : Int) + (b.size : Int) := by rw [ByteArray.size_append]; omega
  unfold Hand.digestL
  rw [hsz]
  exact Ev.bind he (Ev.now _)
/-- what is read of bytes: a code, the number's fold, and how many bytes. -/
def gN : Nat → Nat → List Nat → Int × Nat × Nat
  | _, _, [] => (4, 0, 0)
  | i, u, c :: cs => if i = 9 ∧ 1 < c then (3, 0, 0) else if c < 128 then (if c = 0 ∧ 0 < i then (3, 0, 0) else (0, u + c * 128 ^ i, i + 1)) else gN (i + 1) (u + (c - 128) * 128 ^ i) cs
theorem gN_ok : ∀ (l : List Nat) (i u : Nat), i ≤ 9 → u < 128 ^ i → (∀ c ∈ l, c < 256) → (gN i u l).1 = 0 → i < (gN i u l).2.2 ∧ (gN i u l).2.2 ≤ i + l.length ∧ (gN i u l).2.1 < 18446744073709551616 := by
  intro l
  induction l with
  | nil => intro i u _ _ _ h; simp [gN] at h
  | cons c cs ih =>
    intro i u hi hu hl h
    have hc := hl c (by simp)
    unfold gN at h ⊢
    by_cases h1 : i = 9 ∧ 1 < c
    · rw [if_pos h1] at h; simp at h
    rw [if_neg h1] at h ⊢
    have hp : 128 ^ i ≤ 128 ^ 9 := Nat.pow_le_pow_right (by decide) hi
    by_cases h2 : c < 128
    · rw [if_pos h2] at h ⊢
      by_cases h3 : c = 0 ∧ 0 < i
      · rw [if_pos h3] at h; simp at h
      rw [if_neg h3]
      refine ⟨by simp, by simp, ?_⟩
      show u + c * 128 ^ i < _
      by_cases h9 : i = 9
      · subst h9
        have : c ≤ 1 := by omega
        have : c * 128 ^ 9 ≤ 1 * 128 ^ 9 := Nat.mul_le_mul_right _ this
        omega
      · have hp8 : 128 ^ i ≤ 128 ^ 8 := Nat.pow_le_pow_right (by decide) (by omega)
        have : c * 128 ^ i ≤ 127 * 128 ^ 8 := Nat.mul_le_mul (by omega) hp8
        omega
    · rw [if_neg h2] at h ⊢
      have hi9 : i < 9 := by
        by_cases e : i = 9
        · exact absurd ⟨e, by omega⟩ h1
        · omega
      have hu' : u + (c - 128) * 128 ^ i < 128 ^ (i + 1) := by
        have : (c - 128) * 128 ^ i ≤ 127 * 128 ^ i := Nat.mul_le_mul_right _ (by omega)
        rw [Nat.pow_succ]
        omega
      obtain ⟨q1, q2, q3⟩ := ih (i + 1) _ (by omega) hu' (fun x hx => hl x (by simp [hx])) h
      exact ⟨by omega, by simp only [List.length_cons]; omega, q3⟩
/-- a number that was put is got back. -/
theorem gN_put (m : Nat) : ∀ (v i u : Nat) (rest : List Nat), i + m = 9 → v < 128 ^ (m + 1) → v * 128 ^ i < 18446744073709551616 → (0 < i → 0 < v) → gN i u ((numL v).map Int.toNat ++ rest) = (0, u + v * 128 ^ i, i + (numL v).length) := by
  induction m with
  | zero =>
    intro v i u rest hi hv hw h0
    obtain rfl : i = 9 := by omega
    have hv1 : v ≤ 1 := by omega
    rw [numL_lt (by omega)]
    simp only [List.map_cons, List.map_nil, List.cons_append, List.nil_append, Int.toNat_natCast, gN, List.length_cons, List.length_nil]
    rw [if_neg (by omega), if_pos (by omega), if_neg (by have := h0 (by omega); omega)]
  | succ m ih =>
    intro v i u rest hi hv hw h0
    by_cases h : v < 128
    · rw [numL_lt h]
      simp only [List.map_cons, List.map_nil, List.cons_append, List.nil_append, Int.toNat_natCast, gN, List.length_cons, List.length_nil]
      rw [if_neg (by omega), if_pos (by omega), if_neg (by intro q; have := h0 q.2; omega)]
    · rw [numL_ge h]
      simp only [List.map_cons, List.cons_append, Int.toNat_natCast, gN, List.length_cons]
      rw [if_neg (by omega), if_neg (by omega)]
      have e : v / 128 * 128 ^ (i + 1) + v % 128 * 128 ^ i = v * 128 ^ i := by
        rw [Nat.pow_succ, Nat.mul_comm (128 ^ i) 128, ← Nat.mul_assoc, ← Nat.add_mul]
        congr 1
        omega
      rw [ih (v / 128) (i + 1) _ rest (by omega) (by rw [Nat.div_lt_iff_lt_mul (by decide), ← Nat.pow_succ]; exact hv) (by omega) (by intro _; omega)]
      congr 2
      · have : v % 128 + 128 - 128 = v % 128 := by omega
        rw [this]
        omega
      · omega
/-- of a number whose last bytes are gone nothing is got. -/
theorem gN_short (m : Nat) : ∀ (v i u n : Nat), i + m = 9 → v < 128 ^ (m + 1) → n < (numL v).length → gN i u (((numL v).map Int.toNat).take n) = (4, 0, 0) := by
  induction m with
  | zero =>
    intro v i u n hi hv hn
    rw [numL_lt (Nat.lt_of_lt_of_le hv (by decide))] at hn ⊢
    obtain rfl : n = 0 := by simpa using hn
    rfl
  | succ m ih =>
    intro v i u n hi hv hn
    by_cases h : v < 128
    · rw [numL_lt h] at hn ⊢
      obtain rfl : n = 0 := by simpa using hn
      rfl
    · rw [numL_ge h] at hn ⊢
      cases n with
      | zero => rfl
      | succ n =>
        simp only [List.map_cons, List.take_succ_cons, Int.toNat_natCast, gN]
        rw [if_neg (by omega), if_neg (by omega)]
        exact ih (v / 128) (i + 1) _ n (by omega) (by rw [Nat.div_lt_iff_lt_mul (by decide), ← Nat.pow_succ]; exact hv) (by simpa using hn)
/-- the number of a fold. -/
def unfold' (u : Nat) : Int := if u % 2 = 1 then -((u / 2 : Nat) : Int) - 1 else ((u / 2 : Nat) : Int)
/-- what was read is what would be put. -/
theorem gN_back : ∀ (l : List Nat) (i u v n : Nat), (∀ c ∈ l, c < 256) → gN i u l = (0, v, n) → ∃ w, v = u + w * 128 ^ i ∧ n = i + (numL w).length ∧ l.take (numL w).length = (numL w).map Int.toNat ∧ (0 < i → 0 < w) := by
  intro l
  induction l with
  | nil => intro i u v n _ h; simp [gN] at h
  | cons c cs ih =>
    intro i u v n hl h
    have hc := hl c (by simp)
    unfold gN at h
    by_cases h1 : i = 9 ∧ 1 < c
    · rw [if_pos h1] at h; simp at h
    rw [if_neg h1] at h
    by_cases h2 : c < 128
    · rw [if_pos h2] at h
      by_cases h3 : c = 0 ∧ 0 < i
      · rw [if_pos h3] at h; simp at h
      rw [if_neg h3] at h
      simp only [Prod.mk.injEq, true_and] at h
      obtain ⟨rfl, rfl⟩ := h
      exact ⟨c, rfl, by rw [numL_lt h2]; rfl, by rw [numL_lt h2]; simp, fun hi => by omega⟩
    · rw [if_neg h2] at h
      obtain ⟨w, e1, e2, e3, e4⟩ := ih (i + 1) _ v n (fun x hx => hl x (by simp [hx])) h
      have hw := e4 (by omega)
      have hge : ¬ (c - 128 + 128 * w) < 128 := by omega
      have m1 : (c - 128 + 128 * w) % 128 = c - 128 := by omega
      have m2 : (c - 128 + 128 * w) / 128 = w := by omega
      refine ⟨c - 128 + 128 * w, ?_, ?_, ?_, fun _ => by omega⟩
      · rw [e1, Nat.add_mul, Nat.pow_succ]
        have : w * (128 ^ i * 128) = 128 * w * 128 ^ i := by rw [Nat.mul_comm (128 ^ i) 128, ← Nat.mul_assoc, Nat.mul_comm w 128]
        omega
      · rw [numL_ge hge, m2, List.length_cons, e2]; omega
      · rw [numL_ge hge, m1, m2, List.length_cons, List.take_succ_cons, e3, List.map_cons]
        congr 1
        omega
theorem fold_unfold (u : Nat) : fold (unfold' u) = u := by
  unfold fold unfold'
  by_cases h : u % 2 = 1
  · rw [if_pos h, if_pos (by omega)]; omega
  · rw [if_neg h, if_neg (by omega)]; omega
/-- a loop whose rounds each go on or end. -/
theorem loop_evx {σ ρ : Type} (F : Nat → σ → Int → Option ρ) (n : Nat) (inv : Nat → σ → Prop) (Q : ρ → Prop)
    (hstep : ∀ (i : Nat) (s : σ), i < n → inv i s → (∃ s', inv (i + 1) s' ∧ ∀ v, Ev (fun k => F k s' ((i + 1 : Nat) : Int)) v → Ev (fun k => F k s (i : Int)) v) ∨ Evs (fun k => F k s (i : Int)) Q)
    (hend : ∀ (s : σ), inv n s → Evs (fun k => F k s (n : Int)) Q) : ∀ (s : σ), inv 0 s → Evs (fun k => F k s 0) Q := by
  have main : ∀ (d i : Nat) (s : σ), i + d = n → inv i s → Evs (fun k => F k s (i : Int)) Q := by
    intro d
    induction d with
    | zero =>
      intro i s hi hv
      obtain rfl : i = n := by omega
      exact hend s hv
    | succ d ih =>
      intro i s hi hv
      rcases hstep i s (by omega) hv with ⟨s', hs', hv'⟩ | h
      · obtain ⟨v, h1, h2⟩ := ih (i + 1) s' (by omega) hs'
        exact ⟨v, hv' v h1, h2⟩
      · exact h
  intro s hs
  exact main n 0 s (by omega) hs
theorem wnat' (i n : Nat) (hi : i < n) (hn : n ≤ 9223372036854775807) : wrap64 ((i : Int) + 1) = ((i + 1 : Nat) : Int) := by rw [w64 (by omega) (by omega)]; omega
theorem i64_xor_zero (x : Int) (h0 : -9223372036854775808 ≤ x) (h1 : x ≤ 9223372036854775807) : Go.bits .xor .i64 x 0 = x := by
  show IntKind.i64.wrap (((BitVec.ofInt 64 x) ^^^ (BitVec.ofInt 64 0)).toNat : Int) = x
  rw [show BitVec.ofInt 64 0 = 0#64 by decide, BitVec.xor_zero, BitVec.toNat_ofInt, i64_w]
  unfold wrap64
  omega
theorem i64_xor_ones (x : Int) (h0 : -9223372036854775808 ≤ x) (h1 : x ≤ 9223372036854775807) : Go.bits .xor .i64 x (-1) = -x - 1 := by
  show IntKind.i64.wrap (((BitVec.ofInt 64 x) ^^^ (BitVec.ofInt 64 (-1))).toNat : Int) = -x - 1
  rw [show BitVec.ofInt 64 (-1) = BitVec.allOnes 64 by decide, BitVec.xor_allOnes, BitVec.toNat_not, BitVec.toNat_ofInt, i64_w]
  unfold wrap64
  omega
theorem unfold_eq (u : Nat) (h : u < 18446744073709551616) : Go.bits .xor .i64 (wrap64 ((u : Int) / 2)) (wrap64 (-(wrap64 (Go.bits .and .u64 (u : Int) 1)))) = unfold' u := by
  have e : Go.bits .and .u64 (u : Int) 1 = ((u % 2 : Nat) : Int) := by
    refine (u64_and_nat u 1 h (by decide)).trans ?_
    rw [Nat.and_one_is_mod]
  rw [e, w64 (n := (u : Int) / 2) (by omega) (by omega), w64 (n := ((u % 2 : Nat) : Int)) (by omega) (by omega)]
  unfold unfold'
  by_cases q : u % 2 = 1
  · rw [if_pos q, q]
    rw [show wrap64 (-((1 : Nat) : Int)) = -1 by unfold wrap64; omega, i64_xor_ones _ (by omega) (by omega)]
    omega
  · rw [if_neg q, show u % 2 = 0 by omega]
    rw [show wrap64 (-((0 : Nat) : Int)) = 0 by unfold wrap64; omega, i64_xor_zero _ (by omega) (by omega)]
    omega
theorem or_shl (u c i : Nat) (hu : u < 128 ^ i) (h : i ≤ 8 ∧ c < 256 ∨ i = 9 ∧ c ≤ 1) : Go.bits .or .u64 (u : Int) (shl .u64 (IntKind.u64.wrap (Go.bits .and .u8 (c : Int) 127)) (wrap64 (7 * (i : Int)))) = ((u + c % 128 * 128 ^ i : Nat) : Int) := by
  have e1 : Go.bits .and .u8 (c : Int) 127 = ((c % 128 : Nat) : Int) := by
    refine (u8_and_nat c 127 (by omega) (by decide)).trans ?_
    rw [nat_mask7]
  have e2 : (2 : Nat) ^ (7 * i) = 128 ^ i := by rw [Nat.pow_mul]
  have hb : c % 128 * 128 ^ i < 18446744073709551616 := by
    rcases h with ⟨h, hc⟩ | ⟨rfl, hc⟩
    · have : 128 ^ i ≤ 128 ^ 8 := Nat.pow_le_pow_right (by decide) h
      have : c % 128 * 128 ^ i ≤ 127 * 128 ^ 8 := Nat.mul_le_mul (by omega) this
      omega
    · have : c % 128 * 128 ^ 9 ≤ 1 * 128 ^ 9 := Nat.mul_le_mul_right _ (by omega)
      omega
  have hub : u < 18446744073709551616 := by
    have : 128 ^ i ≤ 128 ^ 9 := Nat.pow_le_pow_right (by decide) (by omega)
    omega
  have e3 : shl .u64 (IntKind.u64.wrap (Go.bits .and .u8 (c : Int) 127)) (wrap64 (7 * (i : Int))) = ((c % 128 * 128 ^ i : Nat) : Int) := by
    rw [e1, w64 (by omega) (by omega)]
    unfold shl
    rw [show (7 * (i : Int)).toNat = 7 * i by omega, show IntKind.u64.bits = 64 from rfl, Nat.min_eq_left (by omega)]
    simp only [IntKind.wrap_u64]
    rw [show (2 : Int) ^ (7 * i) = ((128 ^ i : Nat) : Int) by rw [← e2]; simp]
    have : (((c % 128 : Nat) : Int) % 18446744073709551616) = ((c % 128 : Nat) : Int) := by omega
    rw [this, ← Int.natCast_mul]
    omega
  rw [e3, u64_or_nat _ _ hub hb, Nat.or_comm, nat_join (7 * i) _ _ (by rw [e2]; exact Nat.mul_mod_left _ _) (by rw [e2]; exact hu)]
  omega
/-- what is got of bytes: a number, the place behind it, a code. -/
def gout (p : Nat) (g : Int × Nat × Nat) : Int × Int × Int := if g.1 = 0 then (unfold' g.2.1, ((p + g.2.2 : Nat) : Int), 0) else (0, 0, g.1)
theorem getNum_i_l0 (x : ByteArray) (p : Nat) (hx : x.size ≤ 4611686018427387904) (hp : p ≤ 4611686018427387904) : ∀ (m i u : Nat), i + m = 9 → u < 128 ^ i → Ev (fun k => impl_getNum.l0 k x (p : Int) (u : Int) (i : Int)) (gout p (gN i u ((bl x).drop (p + i)))) := by
  intro m
  induction m with
  | zero =>
    intro i u hi hu
    obtain rfl : i = 9 := by omega
    by_cases h : p + 9 < x.size
    · have hc : p + 9 < (bl x).length := by rw [bl_length]; exact h
      have hb := bl_lt x (bl x)[p + 9] (List.getElem_mem hc)
      have hbt := bt_bl x (p + 9) h
      rw [List.drop_eq_getElem_cons hc]
      generalize (bl x)[p + 9] = c at hb hbt ⊢
      have e1 : wrap64 ((p : Int) + (9 : Nat)) = ((p + 9 : Nat) : Int) := by rw [w64 (by omega) (by omega)]; omega
      refine Ev.step (f := fun k => impl_getNum.j1 k x (p : Int) (Go.bits .or .u64 (u : Int) (shl .u64 (IntKind.u64.wrap (Go.bits .and .u8 (c : Int) 127)) (wrap64 (7 * ((9 : Nat) : Int))))) ((9 : Nat) : Int) (c : Int) (decide ((c : Int) > 1))) (fun k => ?_) ?_
      · simp only [impl_getNum.l0, impl_long.f, Option.bind_some, e1, hbt]
        rw [if_neg (by unfold wrap64; omega), if_pos (by omega), if_pos (by omega), if_pos (by rw [w64 (by omega) (by omega)]; omega), if_pos (by omega)]
      · by_cases h1 : 1 < c
        · rw [decide_eq_true (show (c : Int) > 1 by omega)]
          refine Ev.step (f := fun k => impl_getNum.j2 k x (p : Int) (Go.bits .or .u64 (u : Int) (shl .u64 (IntKind.u64.wrap (Go.bits .and .u8 (c : Int) 127)) (wrap64 (7 * ((9 : Nat) : Int))))) ((9 : Nat) : Int) (c : Int) true) (fun k => by simp only [impl_getNum.j1]; rw [if_pos trivial]) ?_
          refine Ev.step (f := fun _ => some (0, 0, 3)) (fun k => by simp only [impl_getNum.j2]; rw [if_pos trivial]) (ev_eq ?_)
          unfold gN
          rw [if_pos ⟨rfl, h1⟩]
          rfl
        · rw [decide_eq_false (show ¬ (c : Int) > 1 by omega), or_shl u c 9 hu (.inr ⟨rfl, by omega⟩), Nat.mod_eq_of_lt (show c < 128 by omega)]
          refine Ev.step (f := fun k => impl_getNum.j2 k x (p : Int) ((u + c * 128 ^ 9 : Nat) : Int) ((9 : Nat) : Int) (c : Int) (decide (c = 0))) (fun k => ?_) ?_
          · simp only [impl_getNum.j1]
            rw [if_neg (by simp)]
            by_cases h0 : c = 0
            · rw [if_pos (by omega), decide_eq_true h0]; rfl
            · rw [if_neg (by omega), decide_eq_false h0]
          · unfold gN
            rw [if_neg (by omega), if_pos (by omega)]
            by_cases h0 : c = 0
            · rw [decide_eq_true h0, if_pos ⟨h0, by decide⟩]
              exact Ev.step (f := fun _ => some (0, 0, 3)) (fun k => by simp only [impl_getNum.j2]; rw [if_pos trivial]) (ev_eq rfl)
            · rw [decide_eq_false h0, if_neg (fun q => h0 q.1)]
              refine Ev.step (f := fun _ => some (Go.bits .xor .i64 (wrap64 (((u + c * 128 ^ 9 : Nat) : Int) / 2)) (wrap64 (-(wrap64 (Go.bits .and .u64 ((u + c * 128 ^ 9 : Nat) : Int) 1)))), wrap64 ((wrap64 ((p : Int) + ((9 : Nat) : Int))) + 1), 0)) (fun k => ?_) (ev_eq ?_)
              · simp only [impl_getNum.j2]
                rw [if_neg (by simp), if_pos (by omega)]
              · have : c * 128 ^ 9 ≤ 1 * 128 ^ 9 := Nat.mul_le_mul_right _ (by omega)
                rw [unfold_eq _ (by omega), e1, w64 (by omega) (by omega)]
                unfold gout
                rw [if_pos rfl]
                simp only [Prod.mk.injEq, true_and]
                exact ⟨by omega, trivial⟩
    · rw [List.drop_eq_nil_of_le (by rw [bl_length]; omega)]
      refine Ev.step (f := fun _ => some (0, 0, 4)) (fun k => ?_) (ev_eq rfl)
      simp only [impl_getNum.l0, impl_long.f, Option.bind_some]
      rw [if_pos (by unfold wrap64; omega)]
  | succ m ih =>
    intro i u hi hu
    by_cases h : p + i < x.size
    · have hc : p + i < (bl x).length := by rw [bl_length]; exact h
      have hb := bl_lt x (bl x)[p + i] (List.getElem_mem hc)
      have hbt := bt_bl x (p + i) h
      rw [List.drop_eq_getElem_cons hc]
      generalize (bl x)[p + i] = c at hb hbt ⊢
      have e1 : wrap64 ((p : Int) + (i : Int)) = ((p + i : Nat) : Int) := by rw [w64 (by omega) (by omega)]; omega
      refine Ev.step (f := fun k => impl_getNum.j1 k x (p : Int) ((u + c % 128 * 128 ^ i : Nat) : Int) (i : Int) (c : Int) false) (fun k => ?_) ?_
      · simp only [impl_getNum.l0, impl_long.f, Option.bind_some, e1, hbt, or_shl u c i hu (.inl ⟨by omega, hb⟩)]
        rw [if_neg (by unfold wrap64; omega), if_pos (by omega), if_pos (by omega), if_pos (by rw [w64 (by omega) (by omega)]; omega), if_neg (by omega)]
      · unfold gN
        rw [if_neg (by omega)]
        by_cases h128 : c < 128
        · rw [Nat.mod_eq_of_lt h128, if_pos h128]
          refine Ev.step (f := fun k => impl_getNum.j2 k x (p : Int) ((u + c * 128 ^ i : Nat) : Int) (i : Int) (c : Int) (decide (c = 0 ∧ 0 < i))) (fun k => ?_) ?_
          · simp only [impl_getNum.j1]
            rw [if_neg (by simp)]
            by_cases h0 : c = 0
            · rw [if_pos (by omega)]
              congr 1
              by_cases hi0 : 0 < i
              · rw [decide_eq_true (show (i : Int) > 0 by omega), decide_eq_true ⟨h0, hi0⟩]
              · rw [decide_eq_false (show ¬ (i : Int) > 0 by omega), decide_eq_false (fun q => hi0 q.2)]
            · rw [if_neg (by omega), decide_eq_false (fun q => h0 q.1)]
          · by_cases h0 : c = 0 ∧ 0 < i
            · rw [decide_eq_true h0, if_pos h0]
              exact Ev.step (f := fun _ => some (0, 0, 3)) (fun k => by simp only [impl_getNum.j2]; rw [if_pos trivial]) (ev_eq rfl)
            · rw [decide_eq_false h0, if_neg h0]
              refine Ev.step (f := fun _ => some (Go.bits .xor .i64 (wrap64 (((u + c * 128 ^ i : Nat) : Int) / 2)) (wrap64 (-(wrap64 (Go.bits .and .u64 ((u + c * 128 ^ i : Nat) : Int) 1)))), wrap64 ((wrap64 ((p : Int) + (i : Int))) + 1), 0)) (fun k => ?_) (ev_eq ?_)
              · simp only [impl_getNum.j2]
                rw [if_neg (by simp), if_pos (by omega)]
              · have h8 : 128 ^ i ≤ 128 ^ 8 := Nat.pow_le_pow_right (by decide) (by omega)
                have : c * 128 ^ i ≤ 127 * 128 ^ 8 := Nat.mul_le_mul (by omega) h8
                rw [unfold_eq _ (by omega), e1, w64 (by omega) (by omega)]
                unfold gout
                rw [if_pos rfl]
                simp only [Prod.mk.injEq, true_and]
                exact ⟨by omega, trivial⟩
        · rw [if_neg h128, show c % 128 = c - 128 by omega]
          have hu' : u + (c - 128) * 128 ^ i < 128 ^ (i + 1) := by
            have : (c - 128) * 128 ^ i ≤ 127 * 128 ^ i := Nat.mul_le_mul_right _ (by omega)
            rw [Nat.pow_succ]
            omega
          have hr := ih (i + 1) (u + (c - 128) * 128 ^ i) (by omega) hu'
          refine Ev.step (f := fun k => impl_getNum.j2 k x (p : Int) ((u + (c - 128) * 128 ^ i : Nat) : Int) (i : Int) (c : Int) false) (fun k => ?_) ?_
          · simp only [impl_getNum.j1]
            rw [if_neg (by simp), if_neg (by omega)]
          · refine Ev.step (fun k => ?_) hr
            simp only [impl_getNum.j2]
            rw [if_neg (by simp), if_neg (by omega), wnat' i 10 (by omega) (by decide)]
    · rw [List.drop_eq_nil_of_le (by rw [bl_length]; omega)]
      refine Ev.step (f := fun _ => some (0, 0, 4)) (fun k => ?_) (ev_eq rfl)
      simp only [impl_getNum.l0, impl_long.f, Option.bind_some]
      rw [if_pos (by unfold wrap64; omega)]
theorem getNum_i (x : ByteArray) (p : Nat) (hx : x.size ≤ 4611686018427387904) (hp : p ≤ 4611686018427387904) : Ev (fun k => impl_getNum.f k x (p : Int)) (gout p (gN 0 0 ((bl x).drop p))) :=
  ev_if_neg (by omega) (getNum_i_l0 x p hx hp 9 0 0 rfl (by decide))
theorem tmod128 (c : Nat) : Int.tmod (c : Int) 128 = ((c % 128 : Nat) : Int) := by rw [Int.tmod_eq_emod_of_nonneg (by omega)]; omega
theorem u7_eq (i : Nat) (h : i ≤ 9) : IntKind.u64.wrap (wrap64 (7 * (i : Int))) = 7 * (i : Int) := by
  rw [w64 (by omega) (by omega)]
  simp only [IntKind.wrap_u64]
  omega
theorem shl_pow (a i : Nat) (hi : i ≤ 9) (h : a * 128 ^ i < 18446744073709551616) : shl .u64 (a : Int) (7 * (i : Int)) = ((a * 128 ^ i : Nat) : Int) := by
  have e2 : (2 : Nat) ^ (7 * i) = 128 ^ i := by rw [Nat.pow_mul]
  unfold shl
  rw [show (7 * (i : Int)).toNat = 7 * i by omega, show IntKind.u64.bits = 64 from rfl, Nat.min_eq_left (by omega)]
  rw [show (2 : Int) ^ (7 * i) = ((128 ^ i : Nat) : Int) by rw [← e2]; simp, ← Int.natCast_mul]
  generalize a * 128 ^ i = b at h ⊢
  simp only [IntKind.wrap_u64]
  omega
theorem add_shl (u c i : Nat) (hu : u < 128 ^ i) (h : i ≤ 8 ∧ c < 256 ∨ i = 9 ∧ c ≤ 1) : IntKind.u64.wrap ((u : Int) + (shl .u64 (Int.tmod (c : Int) 128) (IntKind.u64.wrap (wrap64 (7 * (i : Int)))))) = ((u + c % 128 * 128 ^ i : Nat) : Int) := by
  have hb : c % 128 * 128 ^ i + u < 18446744073709551616 := by
    rcases h with ⟨h, hc⟩ | ⟨rfl, hc⟩
    · have h8 : 128 ^ i ≤ 128 ^ 8 := Nat.pow_le_pow_right (by decide) h
      have : c % 128 * 128 ^ i ≤ 127 * 128 ^ 8 := Nat.mul_le_mul (by omega) h8
      omega
    · have : c % 128 * 128 ^ 9 ≤ 1 * 128 ^ 9 := Nat.mul_le_mul_right _ (by omega)
      omega
  rw [tmod128, u7_eq i (by omega), shl_pow _ i (by omega) (by omega)]
  generalize c % 128 * 128 ^ i = b at hb ⊢
  simp only [IntKind.wrap_u64]
  omega
theorem w_add (a b : Nat) (h : a + b ≤ 1000000) : wrap64 ((a : Int) + (b : Int)) = ((a + b : Nat) : Int) := by rw [w64 (by omega) (by omega)]; omega
theorem w_sub (a b : Nat) (h : a ≤ 1000000) (h2 : b ≤ 1000000) : wrap64 ((a : Int) - (b : Int)) = (a : Int) - (b : Int) := w64 (by omega) (by omega)
theorem u64_id (c : Nat) (h : c < 256) : IntKind.u64.wrap (c : Int) = (c : Int) := by simp only [IntKind.wrap_u64]; omega
theorem u7 (i : Nat) (h : i ≤ 9) : 0 ≤ IntKind.u64.wrap (wrap64 (7 * (i : Int))) := by
  rw [w64 (by omega) (by omega)]
  simp only [IntKind.wrap_u64]
  omega
theorem tmod2 (u : Nat) : Int.tmod (u : Int) 2 = ((u % 2 : Nat) : Int) := by rw [Int.tmod_eq_emod_of_nonneg (by omega)]; omega
theorem tdiv2 (u : Nat) (hu : u < 18446744073709551616) : IntKind.u64.wrap (Int.tdiv (u : Int) 2) = ((u / 2 : Nat) : Int) := by
  rw [Int.tdiv_eq_ediv_of_nonneg (by omega)]
  simp only [IntKind.wrap_u64]
  omega
theorem next_w (p i : Nat) (hp : p ≤ 20000) (hi : i ≤ 9) : wrap64 ((wrap64 ((p : Int) + (i : Int))) + 1) = ((p + (i + 1) : Nat) : Int) := by
  rw [w_add p i (by omega), w64 (by omega) (by omega)]
  omega
theorem neg_w (v : Nat) (hv : v < 9223372036854775808) : wrap64 ((wrap64 (-(wrap64 (v : Int)))) - 1) = -(v : Int) - 1 := by
  rw [w64 (n := (v : Int)) (by omega) (by omega), w64 (n := -(v : Int)) (by omega) (by omega), w64 (by omega) (by omega)]
theorem j2_s (p i u : Nat) (hu : u < 18446744073709551616) (hp : p ≤ 20000) (hi : i ≤ 9) (b : Bool) : Ev (fun k => spec_GetNum.j2 k (p : Int) (u : Int) (i : Int) b) (if b = true then (0, 0, 3) else (unfold' u, ((p + (i + 1) : Nat) : Int), 0)) := by
  cases b
  · refine Ev.step (f := fun _ => some (unfold' u, ((p + (i + 1) : Nat) : Int), 0)) (fun k => ?_) (ev_eq (by rw [if_neg (by simp)]))
    simp only [spec_GetNum.j2, tmod2, tdiv2 u hu, next_w p i hp hi]
    rw [if_neg (by simp)]
    unfold unfold'
    by_cases q : u % 2 = 1
    · rw [if_pos (by omega), if_pos q, neg_w (u / 2) (by omega)]
    · rw [if_neg (by omega), if_neg q, w64 (by omega) (by omega)]
  · exact Ev.step (f := fun _ => some (0, 0, 3)) (fun k => by simp only [spec_GetNum.j2]; rw [if_pos trivial]) (ev_eq (by rw [if_pos rfl]))
theorem j2_bad (p i u : Nat) (hu : u < 18446744073709551616) (hp : p ≤ 20000) (hi : i ≤ 9) : Ev (fun k => spec_GetNum.j2 k (p : Int) (u : Int) (i : Int) true) (0, 0, 3) := by
  have := j2_s p i u hu hp hi true
  rwa [if_pos rfl] at this
theorem j2_ok (p i u : Nat) (hu : u < 18446744073709551616) (hp : p ≤ 20000) (hi : i ≤ 9) : Ev (fun k => spec_GetNum.j2 k (p : Int) (u : Int) (i : Int) false) (unfold' u, ((p + (i + 1) : Nat) : Int), 0) := by
  have := j2_s p i u hu hp hi false
  rwa [if_neg (by simp)] at this
theorem gout_bad (p : Nat) : gout p (3, 0, 0) = (0, 0, 3) := rfl
theorem gout_short (p : Nat) : gout p (4, 0, 0) = (0, 0, 4) := rfl
theorem gout_good (p u n : Nat) : gout p (0, u, n) = (unfold' u, ((p + n : Nat) : Int), 0) := by unfold gout; rw [if_pos rfl]
/-- one byte of a number, as the reference reads it. -/
theorem getNum_s_end (x : ByteArray) (p i u c : Nat) (hp : p ≤ 20000) (hi : i ≤ 9) (hu : u < 128 ^ i) (h : i ≤ 8 ∧ c < 128 ∨ i = 9 ∧ c ≤ 1) : Ev (fun k => spec_GetNum.j1 k x (p : Int) (u : Int) (i : Int) (c : Int) false) (if c = 0 ∧ 0 < i then (0, 0, 3) else (unfold' (u + c * 128 ^ i), ((p + (i + 1) : Nat) : Int), 0)) := by
  have hc : c < 128 := by omega
  have hb : u + c * 128 ^ i < 18446744073709551616 := by
    rcases h with ⟨h, _⟩ | ⟨rfl, h1⟩
    · have h8 : 128 ^ i ≤ 128 ^ 8 := Nat.pow_le_pow_right (by decide) h
      have : c * 128 ^ i ≤ 127 * 128 ^ 8 := Nat.mul_le_mul (by omega) h8
      omega
    · have : c * 128 ^ 9 ≤ 1 * 128 ^ 9 := Nat.mul_le_mul_right _ h1
      omega
  have ha := add_shl u c i hu (by omega)
  rw [Nat.mod_eq_of_lt hc] at ha
  have hbad := j2_bad p i (u + c * 128 ^ i) hb hp hi
  have hok := j2_ok p i (u + c * 128 ^ i) hb hp hi
  generalize u + c * 128 ^ i = v at ha hbad hok ⊢
  have st : ∀ k, spec_GetNum.j1 (k + 1) x (p : Int) (u : Int) (i : Int) (c : Int) false = if (c : Int) = 0 then spec_GetNum.j2 k (p : Int) (v : Int) (i : Int) (decide ((i : Int) > 0)) else spec_GetNum.j2 k (p : Int) (v : Int) (i : Int) false := by
    intro k
    simp only [spec_GetNum.j1, ha]
    rw [if_neg (by simp), if_pos (u7 i hi)]
    exact if_pos (by clear ha; omega)
  clear ha
  by_cases h0 : c = 0
  · by_cases hi0 : 0 < i
    · rw [if_pos ⟨h0, hi0⟩]
      exact Ev.step (fun k => (st k).trans ((if_pos (by omega)).trans (by rw [decide_eq_true (show (i : Int) > 0 by omega)]))) hbad
    · rw [if_neg (fun q => hi0 q.2)]
      exact Ev.step (fun k => (st k).trans ((if_pos (by omega)).trans (by rw [decide_eq_false (show ¬ (i : Int) > 0 by omega)]))) hok
  · rw [if_neg (fun q => h0 q.1)]
    exact Ev.step (fun k => (st k).trans (if_neg (by omega))) hok
theorem getNum_s_more (x : ByteArray) (p i u c k : Nat) (hi : i ≤ 8) (hu : u < 128 ^ i) (hc : c < 256) (h : ¬ c < 128) : spec_GetNum.j1 (k + 1) x (p : Int) (u : Int) (i : Int) (c : Int) false = spec_GetNum.l0 k x (p : Int) ((u + (c - 128) * 128 ^ i : Nat) : Int) ((i + 1 : Nat) : Int) := by
  have ha := add_shl u c i hu (.inl ⟨hi, hc⟩)
  rw [show c % 128 = c - 128 by omega] at ha
  generalize u + (c - 128) * 128 ^ i = v at ha ⊢
  simp only [spec_GetNum.j1, ha]
  clear ha
  rw [if_neg (by simp), if_pos (u7 i (by omega)), if_neg (by omega), wnat' i 10 (by omega) (by decide)]
theorem getNum_s_in (x : ByteArray) (p i u c k : Nat) (hx : x.size ≤ 20000) (hp : p ≤ 20000) (hi : i ≤ 9) (h : p + i < x.size) (hbt : bt x ((p + i : Nat) : Int) = (c : Int)) (hc : c < 256) : spec_GetNum.l0 (k + 1) x (p : Int) (u : Int) (i : Int) = if i = 9 then spec_GetNum.j1 k x (p : Int) (u : Int) (i : Int) (c : Int) (decide (1 < c)) else spec_GetNum.j1 k x (p : Int) (u : Int) (i : Int) (c : Int) false := by
  simp only [spec_GetNum.l0, w_add p i (by omega), w_sub x.size i (by omega) (by omega), hbt, u64_id c hc]
  rw [if_pos (by omega), if_neg (by omega), if_pos (by omega), if_pos (by omega)]
  by_cases h9 : i = 9
  · rw [if_pos (by omega), if_pos h9]
    congr 1
    by_cases h1 : 1 < c
    · rw [decide_eq_true h1, decide_eq_true (by omega)]
    · rw [decide_eq_false h1, decide_eq_false (by omega)]
  · rw [if_neg (by omega), if_neg h9]
theorem getNum_s_out (x : ByteArray) (p i u k : Nat) (hx : x.size ≤ 20000) (hp : p ≤ 20000) (hi : i ≤ 9) (h : ¬ p + i < x.size) : spec_GetNum.l0 (k + 1) x (p : Int) (u : Int) (i : Int) = some (0, 0, 4) := by
  simp only [spec_GetNum.l0, w_sub x.size i (by omega) (by omega)]
  rw [if_pos (by omega), if_pos (by omega)]
theorem getNum_s_l0 (x : ByteArray) (p : Nat) (hx : x.size ≤ 20000) (hp : p ≤ 20000) : ∀ (m i u : Nat), i + m = 9 → u < 128 ^ i → Ev (fun k => spec_GetNum.l0 k x (p : Int) (u : Int) (i : Int)) (gout p (gN i u ((bl x).drop (p + i)))) := by
  intro m
  induction m with
  | zero =>
    intro i u hi hu
    have hi9 : i = 9 := by omega
    by_cases h : p + i < x.size
    · have hc : p + i < (bl x).length := by rw [bl_length]; exact h
      have hb := bl_lt x (bl x)[p + i] (List.getElem_mem hc)
      have hbt := bt_bl x (p + i) h
      rw [List.drop_eq_getElem_cons hc]
      generalize (bl x)[p + i] = c at hb hbt ⊢
      by_cases h1 : 1 < c
      · refine Ev.step (fun k => (getNum_s_in x p i u c k hx hp (by omega) h hbt hb).trans ((if_pos hi9).trans (by rw [decide_eq_true h1]))) (Ev.step (f := fun _ => some (0, 0, 3)) (fun k => by simp only [spec_GetNum.j1]; rw [if_pos trivial]) (ev_eq ?_))
        unfold gN
        rw [if_pos ⟨hi9, h1⟩, gout_bad]
      · refine Ev.step (fun k => (getNum_s_in x p i u c k hx hp (by omega) h hbt hb).trans ((if_pos hi9).trans (by rw [decide_eq_false h1]))) ?_
        have he := getNum_s_end x p i u c hp (by omega) hu (.inr ⟨hi9, by omega⟩)
        unfold gN
        rw [if_neg (fun q => h1 q.2), if_pos (by omega)]
        by_cases h0 : c = 0 ∧ 0 < i
        · rw [if_pos h0] at he ⊢
          rw [gout_bad]; exact he
        · rw [if_neg h0] at he ⊢
          rw [gout_good]; exact he
    · rw [List.drop_eq_nil_of_le (by rw [bl_length]; omega)]
      refine Ev.step (f := fun _ => some (0, 0, 4)) (fun k => getNum_s_out x p i u k hx hp (by omega) h) (ev_eq ?_)
      unfold gN
      rw [gout_short]
  | succ m ih =>
    intro i u hi hu
    by_cases h : p + i < x.size
    · have hc : p + i < (bl x).length := by rw [bl_length]; exact h
      have hb := bl_lt x (bl x)[p + i] (List.getElem_mem hc)
      have hbt := bt_bl x (p + i) h
      rw [List.drop_eq_getElem_cons hc]
      generalize (bl x)[p + i] = c at hb hbt ⊢
      have hi9 : ¬ i = 9 := by omega
      refine Ev.step (fun k => (getNum_s_in x p i u c k hx hp (by omega) h hbt hb).trans (if_neg hi9)) ?_
      unfold gN
      rw [if_neg (fun q => hi9 q.1)]
      by_cases h128 : c < 128
      · rw [if_pos h128]
        have he := getNum_s_end x p i u c hp (by omega) hu (.inl ⟨by omega, h128⟩)
        by_cases h0 : c = 0 ∧ 0 < i
        · rw [if_pos h0] at he ⊢
          rw [gout_bad]; exact he
        · rw [if_neg h0] at he ⊢
          rw [gout_good]; exact he
      · rw [if_neg h128]
        have hu' : u + (c - 128) * 128 ^ i < 128 ^ (i + 1) := by
          have : (c - 128) * 128 ^ i ≤ 127 * 128 ^ i := Nat.mul_le_mul_right _ (by omega)
          rw [Nat.pow_succ]
          omega
        exact Ev.step (fun k => getNum_s_more x p i u c k (by omega) hu hb h128) (ih (i + 1) (u + (c - 128) * 128 ^ i) (by omega) hu')
    · rw [List.drop_eq_nil_of_le (by rw [bl_length]; omega)]
      refine Ev.step (f := fun _ => some (0, 0, 4)) (fun k => getNum_s_out x p i u k hx hp (by omega) h) (ev_eq ?_)
      unfold gN
      rw [gout_short]
theorem getNum_s (x : ByteArray) (p : Nat) (hx : x.size ≤ 20000) (hp : p ≤ 20000) : Ev (fun k => spec_GetNum.f k x (p : Int)) (gout p (gN 0 0 ((bl x).drop p))) :=
  ev_if_neg (by omega) (ev_if_neg (by omega) (getNum_s_l0 x p hx hp 9 0 0 rfl (by decide)))
theorem unfold_range (u : Nat) (h : u < 18446744073709551616) : -9223372036854775808 ≤ unfold' u ∧ unfold' u ≤ 9223372036854775807 := by
  unfold unfold'
  split <;> omega
theorem unfold_fold (n : Int) : unfold' (fold n) = n := by
  unfold unfold' fold
  by_cases h : n < 0
  · rw [if_pos h, if_pos (by omega)]; omega
  · rw [if_neg h, if_neg (by omega)]; omega
/-- what is got of bytes as a number is right, if its code is. -/
theorem gout_ok (x : ByteArray) (p : Nat) (hp : p ≤ x.size) (h : (gout p (gN 0 0 ((bl x).drop p))).2.2 = 0) : ∃ (n : Int) (q : Nat), gout p (gN 0 0 ((bl x).drop p)) = (n, (q : Int), 0) ∧ p < q ∧ q ≤ x.size ∧ -9223372036854775808 ≤ n ∧ n ≤ 9223372036854775807 := by
  unfold gout at h ⊢
  by_cases c : (gN 0 0 ((bl x).drop p)).1 = 0
  · obtain ⟨q1, q2, q3⟩ := gN_ok ((bl x).drop p) 0 0 (by decide) (by decide) (fun c hc => bl_lt x c (List.mem_of_mem_drop hc)) c
    rw [if_pos c]
    have := unfold_range _ q3
    rw [List.length_drop, bl_length] at q2
    exact ⟨_, _, rfl, by omega, by omega, this.1, this.2⟩
  · rw [if_neg c] at h
    exact absurd h c
def rNum (x : ByteArray) (p : Nat) (bad : Bool) : Int × ByteArray × Int × Bool := if bad = true then (0, x, (p : Int), true) else if (gout p (gN 0 0 ((bl x).drop p))).2.2 = 0 then ((gout p (gN 0 0 ((bl x).drop p))).1, x, (gout p (gN 0 0 ((bl x).drop p))).2.1, bad) else (0, x, (p : Int), true)
def rBytes (x : ByteArray) (p : Nat) (bad : Bool) (n : Nat) : ByteArray × ByteArray × Int × Bool := if bad = true then ((⟨#[]⟩ : ByteArray), x, (p : Int), true) else if p + n > x.size then ((⟨#[]⟩ : ByteArray), x, (p : Int), true) else (x.extract p (p + n), x, ((p + n : Nat) : Int), bad)
/-- where a reader stands. -/
def At (x : ByteArray) (s : ByteArray × Int × Bool) : Prop := ∃ (q : Nat) (b : Bool), s = (x, (q : Int), b) ∧ q ≤ x.size
theorem rNum_at (x : ByteArray) (p : Nat) (bad : Bool) (hp : p ≤ x.size) : At x (rNum x p bad).2 := by
  unfold rNum
  by_cases h : bad = true
  · rw [if_pos h]; exact ⟨p, true, rfl, hp⟩
  rw [if_neg h]
  by_cases c : (gout p (gN 0 0 ((bl x).drop p))).2.2 = 0
  · obtain ⟨n, q, e, h1, h2, _⟩ := gout_ok x p hp c
    rw [if_pos c, e]
    exact ⟨q, bad, rfl, h2⟩
  · rw [if_neg c]; exact ⟨p, true, rfl, hp⟩
theorem rBytes_at (x : ByteArray) (p : Nat) (bad : Bool) (n : Nat) (hp : p ≤ x.size) : At x (rBytes x p bad n).2 := by
  unfold rBytes
  by_cases h : bad = true
  · rw [if_pos h]; exact ⟨p, true, rfl, hp⟩
  rw [if_neg h]
  by_cases c : p + n > x.size
  · rw [if_pos c]; exact ⟨p, true, rfl, hp⟩
  · rw [if_neg c]; exact ⟨p + n, bad, rfl, by omega⟩
theorem num_i (x : ByteArray) (hx : x.size ≤ 20000) (p : Nat) (bad : Bool) (hp : p ≤ x.size) : Ev (fun k => impl_reader_num.f k x (p : Int) bad) (rNum x p bad) := by
  refine Ev.bind (getNum_i x p (by omega) (by omega)) ?_
  unfold rNum
  by_cases h : bad = true
  · exact ev_if_pos h (ev_eq (by rw [if_pos h]))
  · refine ev_if_neg h ?_
    by_cases c : (gout p (gN 0 0 ((bl x).drop p))).2.2 = 0
    · exact ev_if_pos c (ev_eq (by rw [if_neg h, if_pos c]))
    · exact ev_if_neg c (ev_eq (by rw [if_neg h, if_neg c]))
theorem bytes_i (x : ByteArray) (hx : x.size ≤ 20000) (p : Nat) (bad : Bool) (n : Nat) (hn : n ≤ 20000) (hp : p ≤ x.size) : impl_reader_take.f x (p : Int) bad (n : Int) = some (rBytes x p bad n) := by
  unfold impl_reader_take.f rBytes impl_long.f
  by_cases h : bad = true
  · rw [if_pos h, if_pos h]
  · rw [if_neg h, if_neg h, Option.bind_some, w64 (n := (x.size : Int) - (p : Int)) (by omega) (by omega), w64 (n := (p : Int) + (n : Int)) (by omega) (by omega), w64 (n := (p : Int) + (n : Int) - (n : Int)) (by omega) (by omega)]
    by_cases c : p + n > x.size
    · rw [if_pos (by omega), if_pos c]
    · rw [if_neg (by omega), if_pos (by omega), if_pos (by omega), if_pos (by omega), if_neg c, show ((p : Int) + (n : Int) - (n : Int)).toNat = p by omega, show ((p : Int) + (n : Int)).toNat = p + n by omega]
      rfl
theorem or128 (y : Nat) (h : y < 128) : Go.bits .or .u8 (((y : Nat) : Int) % 256) 128 = ((y + 128 : Nat) : Int) := by
  have e : ((y : Nat) : Int) % 256 = (y : Int) := by omega
  rw [e]
  refine (u8_or_nat y 128 (by omega) (by omega)).trans ?_
  have := nat_join 7 128 y (by decide) (by omega)
  rw [Nat.or_comm, this]
  congr 1
  omega
theorem putNum_i_l0 (m : Nat) : ∀ (v k : Nat) (acc : List Int), v < 128 ^ (m + 1) → v < 18446744073709551616 → acc.length + m + 1 ≤ 140737488355328 → m < k → impl_PutNum.l0 k (v : Int) acc = some (strOfNums (acc ++ numL v)) := by
  induction m with
  | zero =>
    intro v k acc hv hv2 ha hk
    obtain ⟨k, rfl⟩ : ∃ m, k = m + 1 := ⟨k - 1, by omega⟩
    have hv' : v < 128 := by simpa using hv
    simp only [impl_PutNum.l0]
    rw [if_neg (by omega), if_pos (by omega), numL_lt hv']
    congr 4
    omega
  | succ m ih =>
    intro v k acc hv hv2 ha hk
    obtain ⟨k, rfl⟩ : ∃ m, k = m + 1 := ⟨k - 1, by omega⟩
    by_cases h : v < 128
    · simp only [impl_PutNum.l0]
      rw [if_neg (by omega), if_pos (by omega), numL_lt h]
      congr 4
      omega
    · have e1 : (v : Int) / 128 = ((v / 128 : Nat) : Int) := by omega
      have e2 : Go.bits .or .u8 ((Go.bits .and .u64 (v : Int) 127) % 256) 128 = ((v % 128 + 128 : Nat) : Int) := by
        have e3 : Go.bits .and .u64 (v : Int) 127 = ((v % 128 : Nat) : Int) := by
          have := u64_and_nat v 127 hv2 (by decide)
          rw [nat_mask7] at this
          exact this
        rw [e3, or128 _ (by omega)]
      simp only [impl_PutNum.l0, e1, e2]
      rw [if_pos (by omega), if_pos (by omega), ih (v / 128) k _ (by rw [Nat.div_lt_iff_lt_mul (by decide)]; rw [← Nat.pow_succ]; exact hv) (by omega) (by simp; omega) (by omega), numL_ge h]
      simp
theorem fold_bits (n : Int) (h0 : -9223372036854775808 ≤ n) (h1 : n ≤ 9223372036854775807) : Go.bits .xor .u64 (IntKind.u64.wrap ((IntKind.u64.wrap n) * 2)) (IntKind.u64.wrap (n / 9223372036854775808)) = ((fold n : Nat) : Int) := by
  simp only [IntKind.wrap_u64]
  unfold fold
  by_cases h : n < 0
  · rw [if_pos h]
    have e1 : n / 9223372036854775808 % 18446744073709551616 = ((18446744073709551615 : Nat) : Int) := by omega
    have e2 : n % 18446744073709551616 * 2 % 18446744073709551616 = (((n % 18446744073709551616 * 2 % 18446744073709551616).toNat : Nat) : Int) := by omega
    rw [e1, e2, u64_xor_nat _ _ (by omega) (by omega), xor_ones _ (by omega)]
    omega
  · rw [if_neg h]
    have e1 : n / 9223372036854775808 % 18446744073709551616 = ((0 : Nat) : Int) := by omega
    have e2 : n % 18446744073709551616 * 2 % 18446744073709551616 = (((2 * n).toNat : Nat) : Int) := by omega
    rw [e1, e2, u64_xor_nat _ _ (by omega) (by omega)]
    simp
theorem putNum_i (n : Int) (h0 : -9223372036854775808 ≤ n) (h1 : n ≤ 9223372036854775807) (k : Nat) (hk : 10 ≤ k) : impl_PutNum.f k n = some (putNum n) := by
  have hf := fold_lt n h0 h1
  unfold impl_PutNum.f
  rw [fold_bits n h0 h1, putNum_i_l0 9 _ k _ (Nat.lt_of_lt_of_le hf (by decide)) hf (by simp) (by omega)]
  simp [putNum]
theorem within_eq (a b c : Int) : impl_within.f a b c = some (decide (b ≤ a) && decide (a ≤ c)) := by
  unfold impl_within.f
  by_cases h : a ≥ b <;> simp [h]
theorem codeRight_s (a b : Int) : spec_CodeRight.f a b = some ((decide (1 ≤ a) && decide (a ≤ 8)) && (decide (0 ≤ b) && decide (b ≤ 6))) := by
  unfold spec_CodeRight.f
  by_cases h1 : a ≥ 1 <;> by_cases h2 : a ≤ 8 <;> by_cases h3 : b ≥ 0 <;> simp [h1, h2, h3]
theorem codeRight_i (a b : Int) : impl_CodeRight.f a b = some ((decide (1 ≤ a) && decide (a ≤ 8)) && (decide (0 ≤ b) && decide (b ≤ 6))) := by
  unfold impl_CodeRight.f
  rw [within_eq]
  simp only [within_eq, Option.bind_some]
  by_cases h1 : 1 ≤ a <;> by_cases h2 : a ≤ 8 <;> simp [h1, h2]
def shardSize (k n : Int) : Int := if (1 ≤ k ∧ k ≤ 8) ∧ (0 ≤ n ∧ n ≤ 20000) then (n + k - 1) / k else 0
theorem shardDiv (k n : Int) (h1 : 1 ≤ k) (h2 : k ≤ 8) (h3 : 0 ≤ n) (h4 : n ≤ 20000) : wrap64 (Int.tdiv (wrap64 ((wrap64 (n + k)) - 1)) k) = (n + k - 1) / k := by
  have e0 : wrap64 (n + k) = n + k := by rw [w64 (by omega) (by omega)]
  rw [e0]
  have e1 : wrap64 (n + k - 1) = n + k - 1 := by rw [w64 (by omega) (by omega)]
  rw [e1]
  rw [Int.tdiv_eq_ediv_of_nonneg (by omega)]
  have h5 : 0 ≤ (n + k - 1) / k := Int.ediv_nonneg (by omega) (by omega)
  have h6 : (n + k - 1) / k ≤ n + k - 1 := Int.ediv_le_self _ (by omega)
  rw [w64 (by omega) (by omega)]
theorem shardSize_s (k n : Int) : spec_ShardSize.f k n = some (shardSize k n) := by
  unfold spec_ShardSize.f
  rw [codeRight_s]
  have e : spec_l04Size.f n = some (decide (0 ≤ n) && decide (n ≤ 20000)) := by
    unfold spec_l04Size.f
    by_cases h : n ≥ 0 <;> simp [h]
  rw [e]
  simp only [Option.bind_some, shardSize]
  by_cases h1 : 1 ≤ k
  · by_cases h2 : k ≤ 8
    · by_cases h3 : 0 ≤ n
      · by_cases h4 : n ≤ 20000
        · rw [shardDiv k n h1 h2 h3 h4, if_pos (by simp [h1, h2]), if_pos (by simp [h3, h4]), if_neg (by omega), if_pos ⟨⟨h1, h2⟩, h3, h4⟩]
        · simp [h1, h2, h3, h4]
      · simp [h1, h2, h3]
    · simp [h1, h2]
  · simp [h1]
theorem shardSize_i (k n : Int) : impl_ShardSize.f k n = some (shardSize k n) := by
  unfold impl_ShardSize.f
  simp only [within_eq, Option.bind_some, shardSize]
  by_cases h1 : 1 ≤ k
  · by_cases h2 : k ≤ 8
    · by_cases h3 : 0 ≤ n
      · by_cases h4 : n ≤ 20000
        · rw [shardDiv k n h1 h2 h3 h4, if_pos (by simp [h1, h2]), if_pos (by simp [h3, h4]), if_neg (by omega), if_pos ⟨⟨h1, h2⟩, h3, h4⟩]
        · simp [h1, h2, h3, h4]
      · simp [h1, h2, h3]
    · simp [h1, h2]
  · simp [h1]
def frameRight (k m i n : Int) (w t : ByteArray) : Bool := ((decide (1 ≤ k) && decide (k ≤ 8)) && (decide (0 ≤ m) && decide (m ≤ 6))) && ((decide (0 ≤ i) && decide (i < k + m)) && ((decide (0 ≤ n) && decide (n ≤ 12000)) && (((w.size : Int) == 32) && ((t.size : Int) == shardSize k n))))
theorem frameRight_s (k m i n : Int) (w t : ByteArray) : spec_FrameRight.f k m i n w t = some (frameRight k m i n w t) := by
  unfold spec_FrameRight.f
  simp only [codeRight_s, shardSize_s, Option.bind_some, frameRight]
  by_cases h1 : (decide (1 ≤ k) && decide (k ≤ 8) && (decide (0 ≤ m) && decide (m ≤ 6))) = true
  · rw [if_pos h1]
    have e : wrap64 (k + m) = k + m := by
      simp at h1
      rw [w64 (by omega) (by omega)]
    rw [e]
    simp only [h1, Bool.true_and]
    by_cases h2 : i ≥ 0 <;> by_cases h3 : i < k + m <;> by_cases h4 : n ≥ 0 <;> by_cases h5 : n ≤ 12000 <;> by_cases h6 : (w.size : Int) = 32 <;> simp [h2, h3, h4, h5, h6]
  · rw [if_neg h1]
    simp only [Bool.not_eq_true] at h1
    rw [h1]
    rfl
theorem frameRight_i (k m i n : Int) (w t : ByteArray) : impl_FrameRight.f k m i n w t = some (frameRight k m i n w t) := by
  unfold impl_FrameRight.f
  simp only [codeRight_i, shardSize_i, within_eq, impl_long.f, Option.bind_some, frameRight]
  by_cases h1 : (decide (1 ≤ k) && decide (k ≤ 8) && (decide (0 ≤ m) && decide (m ≤ 6))) = true
  · rw [if_pos h1]
    have e : wrap64 (wrap64 (k + m) - 1) = k + m - 1 := by
      simp at h1
      rw [w64 (n := k + m) (by omega) (by omega), w64 (by omega) (by omega)]
    rw [e]
    have e2 : decide (i ≤ k + m - 1) = decide (i < k + m) := decide_eq_decide.2 (by omega)
    simp only [h1, Bool.true_and, e2]
    by_cases h2 : i ≥ 0 <;> by_cases h3 : i < k + m <;> by_cases h4 : n ≥ 0 <;> by_cases h5 : n ≤ 12000 <;> by_cases h6 : (w.size : Int) = 32 <;> simp [h2, h3, h4, h5, h6]
  · rw [if_neg h1]
    simp only [Bool.not_eq_true] at h1
    rw [h1]
    rfl
theorem ba_inj {a b : ByteArray} (h : a.toList = b.toList) : a = b := by
  rw [ByteArray.toList_eq, ByteArray.toList_eq] at h
  exact ByteArray.ext (Array.toList_inj.1 h)
/-- what a frame is written as, ahead of its sum. -/
def headB (a b c d : Int) (root : ByteArray) : ByteArray := ((((⟨#[70]⟩ : ByteArray) ++ putNum a) ++ putNum b) ++ putNum c) ++ putNum d ++ root
theorem fbytes_ok (a b c d : Int) (root shard : ByteArray) (ha : -9223372036854775808 ≤ a ∧ a ≤ 9223372036854775807) (hb : -9223372036854775808 ≤ b ∧ b ≤ 9223372036854775807) (hc : -9223372036854775808 ≤ c ∧ c ≤ 9223372036854775807) (hd : -9223372036854775808 ≤ d ∧ d ≤ 9223372036854775807) (hr2 : root.size ≤ 32) (hs : shard.size ≤ 20000) (hh : (headB a b c d root ++ shard).size ≤ 20000) :
    Ev (fun k => impl_Frame_bytes.f k a b c d root shard) (((headB a b c d root) ++ Hand.digestL (headB a b c d root ++ shard)) ++ shard) := by
  have za := putNum_size a ha.1 ha.2
  have zb := putNum_size b hb.1 hb.2
  have zc := putNum_size c hc.1 hc.2
  have zd := putNum_size d hd.1 hd.2
  have ez : ((⟨#[70]⟩ : ByteArray)).size = 1 := rfl
  have hdg := digest_size (headB a b c d root ++ shard)
  have hw := digest_i (headB a b c d root ++ shard) hh
  unfold headB at hw hdg ⊢
  refine Ev.bind (ev_from 10 (fun k hk => putNum_i a ha.1 ha.2 k hk)) (ev_if_pos (by omega) ?_)
  refine Ev.bind (ev_from 10 (fun k hk => putNum_i b hb.1 hb.2 k hk)) (ev_if_pos (by simp only [ByteArray.size_append, ez]; omega) ?_)
  refine Ev.bind (ev_from 10 (fun k hk => putNum_i c hc.1 hc.2 k hk)) (ev_if_pos (by simp only [ByteArray.size_append, ez]; omega) ?_)
  refine Ev.bind (ev_from 10 (fun k hk => putNum_i d hd.1 hd.2 k hk)) (ev_if_pos (by simp only [ByteArray.size_append, ez]; omega) ?_)
  refine ev_if_pos (by simp only [ByteArray.size_append, ez]; omega) (ev_if_pos (by simp only [ByteArray.size_append, ez]; omega) (ev_bind1 hw ?_))
  exact ev_if_pos (by simp only [ByteArray.size_append, ez] at hdg ⊢; omega) (ev_if_pos (by simp only [ByteArray.size_append, ez] at hdg ⊢; omega) (Ev.now _))
theorem num_b (x : ByteArray) (hx : x.size ≤ 20000) (p : Nat) (hp : p ≤ x.size) : Ev (fun k => impl_reader_num.f k x (p : Int) true) (0, x, (p : Int), true) := num_i x hx p true hp
theorem take_b (x : ByteArray) (p n : Int) : impl_reader_take.f x p true n = some ((⟨#[]⟩ : ByteArray), x, p, true) := by
  unfold impl_reader_take.f
  rw [if_pos rfl]
/-- a number that is there. -/
theorem num_ok (x : ByteArray) (p : Nat) (v n : Nat) (hp : p ≤ x.size) (h : gN 0 0 ((bl x).drop p) = (0, v, n)) : gout p (gN 0 0 ((bl x).drop p)) = (unfold' v, ((p + n : Nat) : Int), 0) ∧ rNum x p false = (unfold' v, x, ((p + n : Nat) : Int), false) ∧ p + n ≤ x.size ∧ v < 18446744073709551616 ∧ x.extract p (p + n) = putNum (unfold' v) := by
  have e : gout p (gN 0 0 ((bl x).drop p)) = (unfold' v, ((p + n : Nat) : Int), 0) := by rw [h, gout_good]
  have hl : ∀ c ∈ (bl x).drop p, c < 256 := fun c hc => bl_lt x c (List.mem_of_mem_drop hc)
  obtain ⟨_, h2, h3⟩ := gN_ok ((bl x).drop p) 0 0 (by decide) (by decide) hl (by rw [h])
  rw [h] at h2 h3
  rw [List.length_drop, bl_length] at h2
  simp only at h2 h3
  obtain ⟨w, w1, w2, w3, _⟩ := gN_back ((bl x).drop p) 0 0 v n hl h
  obtain rfl : v = w := by simpa using w1
  have hn : n = (numL v).length := by omega
  refine ⟨e, ?_, by omega, h3, ?_⟩
  · unfold rNum
    rw [if_neg (by simp), e, if_pos rfl]
  · apply bl_inj
    unfold putNum
    rw [fold_unfold, bl_extract, bl_strOfNums _ (numL_range 9 v (by omega)), ← w3, hn, List.drop_take]
    congr 1
    omega
theorem num_no (x : ByteArray) (p : Nat) (h : (gN 0 0 ((bl x).drop p)).1 ≠ 0) : (gout p (gN 0 0 ((bl x).drop p))).2.2 ≠ 0 ∧ rNum x p false = (0, x, (p : Int), true) := by
  have e : (gout p (gN 0 0 ((bl x).drop p))).2.2 ≠ 0 := by
    unfold gout
    rw [if_neg h]
    exact h
  refine ⟨e, ?_⟩
  unfold rNum
  rw [if_neg (by simp), if_neg e]
abbrev FR := Int × Int × Int × Int × ByteArray × ByteArray × Bool
def nope : FR := (0, 0, 0, 0, (⟨#[]⟩ : ByteArray), (⟨#[]⟩ : ByteArray), false)
theorem loop_good (x : ByteArray) (hx : x.size ≤ 20000) (acc : List Int) (p i : Nat) (hp : p ≤ x.size) (hi : i < 4) (ha : acc.length = i) (v n : Nat) (h : gN 0 0 ((bl x).drop p) = (0, v, n)) (r : FR)
    (hr : Ev (fun k => spec_l09Frame.l0 k x (acc ++ [unfold' v]) ((p + n : Nat) : Int) ((i + 1 : Nat) : Int) 0 0 0 0 (⟨#[]⟩ : ByteArray) (⟨#[]⟩ : ByteArray)) r) : Ev (fun k => spec_l09Frame.l0 k x acc (p : Int) (i : Int) 0 0 0 0 (⟨#[]⟩ : ByteArray) (⟨#[]⟩ : ByteArray)) r := by
  have hg := getNum_s x p hx (by omega)
  rw [(num_ok x p v n hp h).1] at hg
  refine Ev.step (f := fun k => (spec_GetNum.f k x (p : Int)).bind fun bt => (if bt.2.2 = 0 then (if acc.length < 17592186044416 then (spec_l09Frame.l0 k x (acc ++ [bt.1]) bt.2.1 (wrap64 ((i : Int) + 1)) 0 0 0 0 (⟨#[]⟩ : ByteArray) (⟨#[]⟩ : ByteArray)) else (none)) else (some (0, 0, 0, 0, (⟨#[]⟩ : ByteArray), (⟨#[]⟩ : ByteArray), false)))) (fun k => by simp only [spec_l09Frame.l0]; rw [if_pos (by omega)]) (Ev.bind hg (ev_if_pos rfl (ev_if_pos (by omega) ?_)))
  rw [w64 (by omega) (by omega)]
  exact hr
theorem loop_bad (x : ByteArray) (hx : x.size ≤ 20000) (acc : List Int) (p i : Nat) (hp : p ≤ x.size) (hi : i < 4) (h : (gN 0 0 ((bl x).drop p)).1 ≠ 0) : Ev (fun k => spec_l09Frame.l0 k x acc (p : Int) (i : Int) 0 0 0 0 (⟨#[]⟩ : ByteArray) (⟨#[]⟩ : ByteArray)) nope := by
  have hg := getNum_s x p hx (by omega)
  exact Ev.step (f := fun k => (spec_GetNum.f k x (p : Int)).bind fun bt => (if bt.2.2 = 0 then (if acc.length < 17592186044416 then (spec_l09Frame.l0 k x (acc ++ [bt.1]) bt.2.1 (wrap64 ((i : Int) + 1)) 0 0 0 0 (⟨#[]⟩ : ByteArray) (⟨#[]⟩ : ByteArray)) else (none)) else (some (0, 0, 0, 0, (⟨#[]⟩ : ByteArray), (⟨#[]⟩ : ByteArray), false)))) (fun k => by simp only [spec_l09Frame.l0]; rw [if_pos (by omega)]) (Ev.bind hg (ev_if_neg (num_no x p h).1 (Ev.now _)))
theorem take_ok (x : ByteArray) (hx : x.size ≤ 20000) (p n : Nat) (h : p + n ≤ x.size) : impl_reader_take.f x (p : Int) false (n : Int) = some (x.extract p (p + n), x, ((p + n : Nat) : Int), false) := by
  rw [bytes_i x hx p false n (by omega) (by omega)]
  unfold rBytes
  rw [if_neg (by simp), if_neg (by omega)]
theorem take_no (x : ByteArray) (hx : x.size ≤ 20000) (p n : Nat) (hn : n ≤ 20000) (hp : p ≤ x.size) (h : ¬ p + n ≤ x.size) : impl_reader_take.f x (p : Int) false (n : Int) = some ((⟨#[]⟩ : ByteArray), x, (p : Int), true) := by
  rw [bytes_i x hx p false n hn hp]
  unfold rBytes
  rw [if_neg (by simp), if_pos (by omega)]
/-- the two readers agree, as far as it is asked. -/
def Both (x : ByteArray) (s i : Nat → Option FR) : Prop := ∃ rs ri : FR, Ev s rs ∧ Ev i ri ∧ ((rs.2.2.2.2.2.2 = false ∧ ri.2.2.2.2.2.2 = false) ∨ (rs = ri ∧ ri.2.2.2.2.2.2 = true ∧ frameRight ri.1 ri.2.1 ri.2.2.1 ri.2.2.2.1 ri.2.2.2.2.1 ri.2.2.2.2.2.1 = true ∧ Ev (fun k => impl_Frame_bytes.f k ri.1 ri.2.1 ri.2.2.1 ri.2.2.2.1 ri.2.2.2.2.1 ri.2.2.2.2.2.1) x))
theorem both_no {x : ByteArray} {s i : Nat → Option FR} (hs : Ev s nope) (hi : Ev i nope) : Both x s i := ⟨_, _, hs, hi, Or.inl ⟨rfl, rfl⟩⟩
theorem end_short (x : ByteArray) (hx : x.size ≤ 20000) (p : Nat) (hp : p ≤ x.size) (a b c d : Int) (h : ¬ p + 64 ≤ x.size) : Ev (fun k => spec_l09Frame.l0 k x [a, b, c, d] (p : Int) 4 0 0 0 0 (⟨#[]⟩ : ByteArray) (⟨#[]⟩ : ByteArray)) nope := by
  refine Ev.step (f := fun _ => some nope) (fun k => ?_) (Ev.now _)
  simp only [spec_l09Frame.l0]
  rw [if_neg (by omega), w64 (by omega) (by omega), if_pos (by omega)]
  rfl
theorem end_frame (x : ByteArray) (hx : x.size ≤ 20000) (p : Nat) (a b c d : Int) (h : p + 64 ≤ x.size) : Ev (fun k => spec_l09Frame.l0 k x [a, b, c, d] (p : Int) 4 0 0 0 0 (⟨#[]⟩ : ByteArray) (⟨#[]⟩ : ByteArray))
    (a, b, c, d, x.extract p (p + 32), x.extract (p + 64) x.size, frameRight a b c d (x.extract p (p + 32)) (x.extract (p + 64) x.size) && ((Hand.digestL (x.extract 0 (p + 32) ++ x.extract (p + 64) x.size)).toList == (x.extract (p + 32) (p + 64)).toList)) := by
  have e32 : wrap64 ((p : Int) + 32) = ((p + 32 : Nat) : Int) := by rw [w64 (by omega) (by omega)]; omega
  have e64 : wrap64 ((p : Int) + 64) = ((p + 64 : Nat) : Int) := by rw [w64 (by omega) (by omega)]; omega
  have r0 : rd [a, b, c, d] 0 = a := rfl
  have r1 : rd [a, b, c, d] 1 = b := rfl
  have r2 : rd [a, b, c, d] 2 = c := rfl
  have r3 : rd [a, b, c, d] 3 = d := rfl
  have hfr := frameRight_s a b c d (x.extract p (p + 32)) (x.extract (p + 64) x.size)
  cases hf : frameRight a b c d (x.extract p (p + 32)) (x.extract (p + 64) x.size) with
  | false =>
    rw [hf] at hfr
    refine Ev.step (f := fun _ => some (a, b, c, d, x.extract p (p + 32), x.extract (p + 64) x.size, false)) (fun k => ?_) (Ev.now _)
    simp only [spec_l09Frame.l0, e32, e64, Int.toNat_natCast, r0, r1, r2, r3, hfr]
    rw [if_neg (by omega), if_neg (by omega), if_pos (by simp), if_pos (by simp), if_pos (by simp), if_pos (by simp), if_pos (by omega), if_pos (by omega), if_pos (by omega), if_pos (by omega), if_pos (by omega)]
    rw [Option.bind_some, if_neg (by simp)]
  | true =>
    rw [hf] at hfr
    have hd := digest2_s (x.extract 0 (p + 32)) (x.extract (p + 64) x.size) (by rw [ByteArray.size_extract]; omega) (by rw [ByteArray.size_extract]; omega)
    refine Ev.step (f := fun k => (spec_l09Digest.f k (x.extract 0 (p + 32)) (x.extract (p + 64) x.size)).bind fun t188 => some (a, b, c, d, x.extract p (p + 32), x.extract (p + 64) x.size, (t188.toList == (x.extract (p + 32) (p + 64)).toList))) (fun k => ?_) (Ev.bind hd (Ev.now _))
    simp only [spec_l09Frame.l0, e32, e64, Int.toNat_natCast, r0, r1, r2, r3, hfr]
    rw [if_neg (by omega), if_neg (by omega), if_pos (by simp), if_pos (by simp), if_pos (by simp), if_pos (by simp), if_pos (by omega), if_pos (by omega), if_pos (by omega), if_pos (by omega), if_pos (by omega)]
    rw [Option.bind_some, if_pos rfl, if_pos (by omega)]
    simp only [show (((p + 32 : Nat) : Int) ≤ ((p + 64 : Nat) : Int)) = True from eq_true (by omega), if_true]
theorem spec_j0 (x : ByteArray) : Ev (fun k => spec_l09Frame.j0 k x true 0 0 0 0 (⟨#[]⟩ : ByteArray) (⟨#[]⟩ : ByteArray)) nope := Ev.step (f := fun _ => some nope) (fun k => by simp only [spec_l09Frame.j0]; rw [if_pos trivial]; rfl) (Ev.now _)
/-- all the numbers, whatever they are, and an end that says no. -/
theorem impl_first (x : ByteArray) (hx : x.size ≤ 20000) (h1 : 1 ≤ x.size) (hne : bt x 0 ≠ 70) : Ev (fun k => impl_readFrame.f k x) nope := by
  unfold impl_readFrame.f
  have e0 := take_ok x hx 0 1 h1
  refine ev_bind1 e0 ?_
  obtain ⟨q1, b1, e1, h1'⟩ := rNum_at x 1 false h1
  refine Ev.bind (num_i x hx 1 false h1) ?_
  obtain ⟨t1, s1⟩ : ∃ t, t = rNum x 1 false := ⟨_, rfl⟩
  rw [← s1] at e1 ⊢
  clear s1
  obtain ⟨n1, st1⟩ := t1
  obtain rfl : st1 = (x, (q1 : Int), b1) := e1
  obtain ⟨q2, b2, e2, h2⟩ := rNum_at x q1 b1 h1'
  refine Ev.bind (num_i x hx q1 b1 h1') ?_
  obtain ⟨t2, s2⟩ : ∃ t, t = rNum x q1 b1 := ⟨_, rfl⟩
  rw [← s2] at e2 ⊢
  clear s2
  obtain ⟨n2, st2⟩ := t2
  obtain rfl : st2 = (x, (q2 : Int), b2) := e2
  obtain ⟨q3, b3, e3, h3⟩ := rNum_at x q2 b2 h2
  refine Ev.bind (num_i x hx q2 b2 h2) ?_
  obtain ⟨t3, s3⟩ : ∃ t, t = rNum x q2 b2 := ⟨_, rfl⟩
  rw [← s3] at e3 ⊢
  clear s3
  obtain ⟨n3, st3⟩ := t3
  obtain rfl : st3 = (x, (q3 : Int), b3) := e3
  obtain ⟨q4, b4, e4, h4⟩ := rNum_at x q3 b3 h3
  refine Ev.bind (num_i x hx q3 b3 h3) ?_
  obtain ⟨t4, s4⟩ : ∃ t, t = rNum x q3 b3 := ⟨_, rfl⟩
  rw [← s4] at e4 ⊢
  clear s4
  obtain ⟨n4, st4⟩ := t4
  obtain rfl : st4 = (x, (q4 : Int), b4) := e4
  obtain ⟨q5, b5, e5, h5⟩ := rBytes_at x q4 b4 32 h4
  refine ev_bind1 (bytes_i x hx q4 b4 32 (by omega) h4) ?_
  obtain ⟨t5, s5⟩ : ∃ t, t = rBytes x q4 b4 32 := ⟨_, rfl⟩
  rw [← s5] at e5 ⊢
  clear s5
  obtain ⟨n5, st5⟩ := t5
  obtain rfl : st5 = (x, (q5 : Int), b5) := e5
  obtain ⟨q6, b6, e6, h6⟩ := rBytes_at x q5 b5 32 h5
  refine ev_bind1 (bytes_i x hx q5 b5 32 (by omega) h5) ?_
  obtain ⟨t6, s6⟩ : ∃ t, t = rBytes x q5 b5 32 := ⟨_, rfl⟩
  rw [← s6] at e6 ⊢
  clear s6
  obtain ⟨n6, st6⟩ := t6
  obtain rfl : st6 = (x, (q6 : Int), b6) := e6
  refine ev_bind1 rfl ?_
  obtain ⟨q7, b7, e7, h7⟩ := rBytes_at x q6 b6 (x.size - q6) h6
  have hb := bytes_i x hx q6 b6 (x.size - q6) (by omega) h6
  rw [show ((x.size - q6 : Nat) : Int) = wrap64 ((x.size : Int) - (q6 : Int)) by rw [w64 (by omega) (by omega)]; omega] at hb
  refine ev_bind1 hb ?_
  obtain ⟨t7, s7⟩ : ∃ t, t = rBytes x q6 b6 (x.size - q6) := ⟨_, rfl⟩
  rw [← s7] at e7 ⊢
  clear s7 hb
  obtain ⟨n7, st7⟩ := t7
  obtain rfl : st7 = (x, (q7 : Int), b7) := e7
  by_cases hb7 : b7 = true
  · exact ev_if_pos hb7 (Ev.now _)
  refine ev_if_neg hb7 (ev_if_neg ?_ (Ev.now _))
  intro h
  apply hne
  have hb0 := bt_bl x 0 h1
  have hz : (x.extract 0 1) = ⟨#[70]⟩ := ba_inj (by rw [h, ByteArray.toList_eq])
  have hbl : bl (x.extract 0 1) = [70] := by rw [hz]; rfl
  rw [bl_extract, List.drop_zero] at hbl
  have h0 : (bl x)[0]'(by rw [bl_length]; omega) = 70 := by
    have := congrArg (fun l => l[0]?) hbl
    simp only [List.getElem?_take, List.getElem?_cons_zero] at this
    rw [if_pos (by omega), List.getElem?_eq_getElem (by rw [bl_length]; omega)] at this
    exact Option.some.inj this
  rw [show (0 : Int) = ((0 : Nat) : Int) from rfl, hb0, h0]
  rfl
theorem impl_none (x : ByteArray) (hx : x.size = 0) : Ev (fun k => impl_readFrame.f k x) nope := by
  unfold impl_readFrame.f
  refine ev_bind1 (take_no x (by omega) 0 1 (by omega) (by omega) (by omega)) ?_
  refine Ev.bind (num_b x (by omega) 0 (by omega)) (Ev.bind (num_b x (by omega) 0 (by omega)) (Ev.bind (num_b x (by omega) 0 (by omega)) (Ev.bind (num_b x (by omega) 0 (by omega)) ?_)))
  exact ev_bind1 (take_b x _ _) (ev_bind1 (take_b x _ _) (ev_bind1 rfl (ev_bind1 (take_b x _ _) (ev_if_pos rfl (Ev.now _)))))
theorem ex_cat (x : ByteArray) (i j k : Nat) (h1 : i ≤ j) (h2 : j ≤ k) (h3 : k ≤ x.size) : x.extract i j ++ x.extract j k = x.extract i k := by
  apply bl_inj
  rw [bl_append, bl_extract, bl_extract, bl_extract]
  have e : ((bl x).take k).drop i = (((bl x).take k).drop i).take (j - i) ++ (((bl x).take k).drop i).drop (j - i) := (List.take_append_drop _ _).symm
  rw [e, List.drop_drop, List.take_drop, List.take_take]
  rw [show min (i + (j - i)) k = j by omega, show i + (j - i) = j by omega]
theorem sign_ok (x : ByteArray) (h0 : ¬ x.size = 0) (h70' : bt x 0 = 70) : x.extract 0 1 = ⟨#[70]⟩ := by
  apply bl_inj
  have hb0 := bt_bl x 0 (by omega)
  have : (bl x)[0]'(by rw [bl_length]; omega) = 70 := by
    rw [show ((0 : Nat) : Int) = 0 from rfl, h70'] at hb0
    omega
  rw [bl_extract, List.drop_zero, List.take_one, List.head?_eq_getElem?, List.getElem?_eq_getElem (by rw [bl_length]; omega), this]
  rfl
theorem start_s (x : ByteArray) (h0 : ¬ x.size = 0) (h70' : bt x 0 = 70) : ∀ r, Ev (fun k => spec_l09Frame.l0 k x [] ((1 : Nat) : Int) ((0 : Nat) : Int) 0 0 0 0 (⟨#[]⟩ : ByteArray) (⟨#[]⟩ : ByteArray)) r → Ev (fun k => spec_l09Frame.f k x) r := by
  intro r hr
  unfold spec_l09Frame.f
  refine ev_if_neg (by omega) (ev_if_pos (by omega) ?_)
  rw [show (bt x 0 != 70) = false by rw [h70']; rfl]
  exact Ev.step (fun k => by simp only [spec_l09Frame.j0]; rw [if_neg (by simp)]; rfl) hr
theorem read_main (x : ByteArray) (hx : x.size ≤ 20000) (h0 : ¬ x.size = 0) (h70' : bt x 0 = 70) (v1 m1 v2 m2 v3 m3 v4 m4 p : Nat) (hg1 : gN 0 0 ((bl x).drop 1) = (0, v1, m1)) (hg2 : gN 0 0 ((bl x).drop (1 + m1)) = (0, v2, m2)) (hg3 : gN 0 0 ((bl x).drop (1 + m1 + m2)) = (0, v3, m3)) (hg4 : gN 0 0 ((bl x).drop (1 + m1 + m2 + m3)) = (0, v4, m4)) (hp : 1 + m1 + m2 + m3 + m4 = p) :
    (¬ p + 64 ≤ x.size → Ev (fun k => spec_l09Frame.f k x) nope ∧ Ev (fun k => impl_readFrame.f k x) nope) ∧
    (p + 64 ≤ x.size → Ev (fun k => spec_l09Frame.f k x) (unfold' v1, unfold' v2, unfold' v3, unfold' v4, x.extract p (p + 32), x.extract (p + 64) x.size, frameRight (unfold' v1) (unfold' v2) (unfold' v3) (unfold' v4) (x.extract p (p + 32)) (x.extract (p + 64) x.size) && ((Hand.digestL (x.extract 0 (p + 32) ++ x.extract (p + 64) x.size)).toList == (x.extract (p + 32) (p + 64)).toList)) ∧
      (frameRight (unfold' v1) (unfold' v2) (unfold' v3) (unfold' v4) (x.extract p (p + 32)) (x.extract (p + 64) x.size) = true ∧ Hand.digestL (x.extract 0 (p + 32) ++ x.extract (p + 64) x.size) = x.extract (p + 32) (p + 64) →
        Ev (fun k => impl_readFrame.f k x) (unfold' v1, unfold' v2, unfold' v3, unfold' v4, x.extract p (p + 32), x.extract (p + 64) x.size, true) ∧ Ev (fun k => impl_Frame_bytes.f k (unfold' v1) (unfold' v2) (unfold' v3) (unfold' v4) (x.extract p (p + 32)) (x.extract (p + 64) x.size)) x) ∧
      (¬ (frameRight (unfold' v1) (unfold' v2) (unfold' v3) (unfold' v4) (x.extract p (p + 32)) (x.extract (p + 64) x.size) = true ∧ Hand.digestL (x.extract 0 (p + 32) ++ x.extract (p + 64) x.size) = x.extract (p + 32) (p + 64)) → Ev (fun k => impl_readFrame.f k x) nope)) := by
  have hx1 := sign_ok x h0 h70'
  have start := start_s x h0 h70'
  have hp1 : 1 ≤ x.size := by omega
  have e0 := take_ok x hx 0 1 hp1
  obtain ⟨_, i1, hp2, r1, t1⟩ := num_ok x 1 v1 m1 hp1 hg1
  obtain ⟨_, i2, hp3, r2, t2⟩ := num_ok x (1 + m1) v2 m2 hp2 hg2
  obtain ⟨_, i3, hp4, r3, t3⟩ := num_ok x (1 + m1 + m2) v3 m3 hp3 hg3
  obtain ⟨_, i4, hp5, r4, t4⟩ := num_ok x (1 + m1 + m2 + m3) v4 m4 hp4 hg4
  rw [hp] at hp5 i4 t4
  have spec : ∀ r, Ev (fun k => spec_l09Frame.l0 k x [unfold' v1, unfold' v2, unfold' v3, unfold' v4] (p : Int) 4 0 0 0 0 (⟨#[]⟩ : ByteArray) (⟨#[]⟩ : ByteArray)) r → Ev (fun k => spec_l09Frame.f k x) r := by
    intro r hr
    refine start _ (loop_good x hx [] 1 0 hp1 (by omega) rfl v1 m1 hg1 _ (loop_good x hx _ (1 + m1) 1 hp2 (by omega) rfl v2 m2 hg2 _ (loop_good x hx _ (1 + m1 + m2) 2 hp3 (by omega) rfl v3 m3 hg3 _ (loop_good x hx _ (1 + m1 + m2 + m3) 3 hp4 (by omega) rfl v4 m4 hg4 _ ?_))))
    rw [hp]
    exact hr
  have im : ∀ r, Ev (fun k => (impl_reader_take.f x (p : Int) false 32).bind fun bt256 => ((impl_reader_take.f bt256.2.1 bt256.2.2.1 bt256.2.2.2 32).bind fun bt261 => ((impl_long.f x).bind fun t265 => ((impl_reader_take.f bt261.2.1 bt261.2.2.1 bt261.2.2.2 (wrap64 (t265 - bt261.2.2.1))).bind fun bt266 => (if bt266.2.2.2 = true then (some nope) else (if (x.extract 0 1).toList = ([70] : List UInt8) then ((impl_FrameRight.f (unfold' v1) (unfold' v2) (unfold' v3) (unfold' v4) bt256.1 bt266.1).bind fun t270 => (if t270 = true then ((impl_Frame_bytes.f k (unfold' v1) (unfold' v2) (unfold' v3) (unfold' v4) bt256.1 bt266.1).bind fun t271 => (if t271.toList = x.toList then (some (unfold' v1, unfold' v2, unfold' v3, unfold' v4, bt256.1, bt266.1, true)) else (some nope))) else (some nope))) else (some nope))))))) r → Ev (fun k => impl_readFrame.f k x) r := by
    intro r hr
    unfold impl_readFrame.f
    refine ev_bind1 e0 (Ev.bind (num_i x hx 1 false hp1) ?_)
    rw [i1]
    refine Ev.bind (num_i x hx (1 + m1) false hp2) ?_
    rw [i2]
    refine Ev.bind (num_i x hx (1 + m1 + m2) false hp3) ?_
    rw [i3]
    refine Ev.bind (num_i x hx (1 + m1 + m2 + m3) false hp4) ?_
    rw [i4]
    exact hr
  refine ⟨fun h64 => ?_, fun h64 => ?_⟩
  · refine ⟨spec _ (end_short x hx p hp5 _ _ _ _ h64), im _ ?_⟩
    by_cases h32 : p + 32 ≤ x.size
    · exact ev_bind1 (take_ok x hx p 32 h32) (ev_bind1 (take_no x hx (p + 32) 32 (by omega) h32 (by omega)) (ev_bind1 rfl (ev_bind1 (take_b x _ _) (ev_if_pos rfl (Ev.now _)))))
    · exact ev_bind1 (take_no x hx p 32 (by omega) hp5 h32) (ev_bind1 (take_b x _ _) (ev_bind1 rfl (ev_bind1 (take_b x _ _) (ev_if_pos rfl (Ev.now _)))))
  have hl := take_ok x hx (p + 64) (x.size - (p + 64)) (by omega)
  rw [show p + 64 + (x.size - (p + 64)) = x.size by omega, show ((x.size - (p + 64) : Nat) : Int) = wrap64 ((x.size : Int) - ((p + 64 : Nat) : Int)) by rw [w64 (by omega) (by omega)]; omega] at hl
  have hsp := spec _ (end_frame x hx p (unfold' v1) (unfold' v2) (unfold' v3) (unfold' v4) h64)
  have u1 := unfold_range v1 r1
  have u2 := unfold_range v2 r2
  have u3 := unfold_range v3 r3
  have u4 := unfold_range v4 r4
  have hW : (x.extract p (p + 32)).size = 32 := by rw [ByteArray.size_extract]; omega
  have hT : (x.extract (p + 64) x.size).size ≤ 20000 - 64 := by rw [ByteArray.size_extract]; omega
  have hhead : headB (unfold' v1) (unfold' v2) (unfold' v3) (unfold' v4) (x.extract p (p + 32)) = x.extract 0 (p + 32) := by
    unfold headB
    rw [← hx1, ← t1, ← t2, ← t3, ← t4, ex_cat x _ _ _ (by omega) (by omega) (by omega), ex_cat x _ _ _ (by omega) (by omega) (by omega), ex_cat x _ _ _ (by omega) (by omega) (by omega), ex_cat x _ _ _ (by omega) (by omega) (by omega), ex_cat x _ _ _ (by omega) (by omega) (by omega)]
  have hfi := frameRight_i (unfold' v1) (unfold' v2) (unfold' v3) (unfold' v4) (x.extract p (p + 32)) (x.extract (p + 64) x.size)
  generalize frameRight (unfold' v1) (unfold' v2) (unfold' v3) (unfold' v4) (x.extract p (p + 32)) (x.extract (p + 64) x.size) = fr at hsp hfi ⊢
  have him : ∀ r, Ev (fun k => (if fr = true then ((impl_Frame_bytes.f k (unfold' v1) (unfold' v2) (unfold' v3) (unfold' v4) (x.extract p (p + 32)) (x.extract (p + 64) x.size)).bind fun t271 => (if t271.toList = x.toList then (some (unfold' v1, unfold' v2, unfold' v3, unfold' v4, x.extract p (p + 32), x.extract (p + 64) x.size, true)) else (some nope))) else (some nope))) r → Ev (fun k => impl_readFrame.f k x) r := by
    intro r hr
    exact im r (ev_bind1 (take_ok x hx p 32 (by omega)) (ev_bind1 (take_ok x hx (p + 32) 32 (by omega)) (ev_bind1 rfl (ev_bind1 hl (ev_if_neg (by simp) (ev_if_pos (by rw [hx1, ByteArray.toList_eq]) (ev_bind1 hfi hr)))))))
  have hb := fbytes_ok (unfold' v1) (unfold' v2) (unfold' v3) (unfold' v4) (x.extract p (p + 32)) (x.extract (p + 64) x.size) u1 u2 u3 u4 (by omega) (by omega) (by rw [hhead]; simp only [ByteArray.size_append, ByteArray.size_extract]; omega)
  rw [hhead] at hb
  have hcat : x.extract 0 (p + 32) ++ x.extract (p + 32) (p + 64) ++ x.extract (p + 64) x.size = x := by
    rw [ex_cat x _ _ _ (by omega) (by omega) (by omega), ex_cat x _ _ _ (by omega) (by omega) (by omega), ByteArray.extract_zero_size]
  refine ⟨hsp, fun h => ?_, fun h => ?_⟩
  · obtain ⟨hf, hd⟩ := h
    rw [hd, hcat] at hb
    exact ⟨him _ (ev_if_pos hf (Ev.bind hb (ev_if_pos rfl (Ev.now _)))), hb⟩
  · by_cases hf : fr = true
    · refine him _ (ev_if_pos hf (Ev.bind hb (ev_if_neg (fun e => h ⟨hf, ?_⟩) (Ev.now _))))
      have e2 := ba_inj e
      have e3 : bl (x.extract 0 (p + 32) ++ Hand.digestL (x.extract 0 (p + 32) ++ x.extract (p + 64) x.size) ++ x.extract (p + 64) x.size) = bl (x.extract 0 (p + 32) ++ x.extract (p + 32) (p + 64) ++ x.extract (p + 64) x.size) := by rw [e2, hcat]
      rw [bl_append, bl_append, bl_append, bl_append, List.append_cancel_right_eq, List.append_cancel_left_eq] at e3
      exact bl_inj e3
    · exact him _ (ev_if_neg hf (Ev.now _))
theorem both_all (x : ByteArray) (hx : x.size ≤ 20000) : Both x (fun k => spec_l09Frame.f k x) (fun k => impl_readFrame.f k x) := by
  by_cases h0 : x.size = 0
  · refine both_no ?_ (impl_none x h0)
    unfold spec_l09Frame.f
    exact ev_if_pos (by omega) (spec_j0 x)
  by_cases h70 : bt x 0 ≠ 70
  · refine both_no ?_ (impl_first x hx (by omega) h70)
    unfold spec_l09Frame.f
    refine ev_if_neg (by omega) (ev_if_pos (by omega) ?_)
    rw [show (bt x 0 != 70) = true by simpa using h70]
    exact spec_j0 x
  have h70' : bt x 0 = 70 := Decidable.not_not.1 h70
  have start := start_s x h0 h70'
  have hp1 : 1 ≤ x.size := by omega
  have e0 := take_ok x hx 0 1 hp1
  obtain ⟨g1, hg1⟩ : ∃ g, gN 0 0 ((bl x).drop 1) = g := ⟨_, rfl⟩
  obtain ⟨c1, v1, m1⟩ := g1
  by_cases k1 : c1 = 0
  rotate_left
  · refine both_no (start _ (loop_bad x hx [] 1 0 hp1 (by omega) (by rw [hg1]; exact k1))) ?_
    unfold impl_readFrame.f
    refine ev_bind1 e0 (Ev.bind (num_i x hx 1 false hp1) ?_)
    rw [(num_no x 1 (by rw [hg1]; exact k1)).2]
    refine Ev.bind (num_b x hx 1 hp1) (Ev.bind (num_b x hx 1 hp1) (Ev.bind (num_b x hx 1 hp1) ?_))
    exact ev_bind1 (take_b x _ _) (ev_bind1 (take_b x _ _) (ev_bind1 rfl (ev_bind1 (take_b x _ _) (ev_if_pos rfl (Ev.now _)))))
  subst k1
  obtain ⟨_, i1, hp2, r1, t1⟩ := num_ok x 1 v1 m1 hp1 hg1
  obtain ⟨g2, hg2⟩ : ∃ g, gN 0 0 ((bl x).drop (1 + m1)) = g := ⟨_, rfl⟩
  obtain ⟨c2, v2, m2⟩ := g2
  by_cases k2 : c2 = 0
  rotate_left
  · refine both_no (start _ (loop_good x hx [] 1 0 hp1 (by omega) rfl v1 m1 hg1 _ (loop_bad x hx _ (1 + m1) 1 hp2 (by omega) (by rw [hg2]; exact k2)))) ?_
    unfold impl_readFrame.f
    refine ev_bind1 e0 (Ev.bind (num_i x hx 1 false hp1) ?_)
    rw [i1]
    refine Ev.bind (num_i x hx (1 + m1) false hp2) ?_
    rw [(num_no x (1 + m1) (by rw [hg2]; exact k2)).2]
    refine Ev.bind (num_b x hx _ hp2) (Ev.bind (num_b x hx _ hp2) ?_)
    exact ev_bind1 (take_b x _ _) (ev_bind1 (take_b x _ _) (ev_bind1 rfl (ev_bind1 (take_b x _ _) (ev_if_pos rfl (Ev.now _)))))
  subst k2
  obtain ⟨_, i2, hp3, r2, t2⟩ := num_ok x (1 + m1) v2 m2 hp2 hg2
  obtain ⟨g3, hg3⟩ : ∃ g, gN 0 0 ((bl x).drop (1 + m1 + m2)) = g := ⟨_, rfl⟩
  obtain ⟨c3, v3, m3⟩ := g3
  by_cases k3 : c3 = 0
  rotate_left
  · refine both_no (start _ (loop_good x hx [] 1 0 hp1 (by omega) rfl v1 m1 hg1 _ (loop_good x hx _ (1 + m1) 1 hp2 (by omega) rfl v2 m2 hg2 _ (loop_bad x hx _ (1 + m1 + m2) 2 hp3 (by omega) (by rw [hg3]; exact k3))))) ?_
    unfold impl_readFrame.f
    refine ev_bind1 e0 (Ev.bind (num_i x hx 1 false hp1) ?_)
    rw [i1]
    refine Ev.bind (num_i x hx (1 + m1) false hp2) ?_
    rw [i2]
    refine Ev.bind (num_i x hx (1 + m1 + m2) false hp3) ?_
    rw [(num_no x (1 + m1 + m2) (by rw [hg3]; exact k3)).2]
    refine Ev.bind (num_b x hx _ hp3) ?_
    exact ev_bind1 (take_b x _ _) (ev_bind1 (take_b x _ _) (ev_bind1 rfl (ev_bind1 (take_b x _ _) (ev_if_pos rfl (Ev.now _)))))
  subst k3
  obtain ⟨_, i3, hp4, r3, t3⟩ := num_ok x (1 + m1 + m2) v3 m3 hp3 hg3
  obtain ⟨g4, hg4⟩ : ∃ g, gN 0 0 ((bl x).drop (1 + m1 + m2 + m3)) = g := ⟨_, rfl⟩
  obtain ⟨c4, v4, m4⟩ := g4
  by_cases k4 : c4 = 0
  rotate_left
  · refine both_no (start _ (loop_good x hx [] 1 0 hp1 (by omega) rfl v1 m1 hg1 _ (loop_good x hx _ (1 + m1) 1 hp2 (by omega) rfl v2 m2 hg2 _ (loop_good x hx _ (1 + m1 + m2) 2 hp3 (by omega) rfl v3 m3 hg3 _ (loop_bad x hx _ (1 + m1 + m2 + m3) 3 hp4 (by omega) (by rw [hg4]; exact k4)))))) ?_
    unfold impl_readFrame.f
    refine ev_bind1 e0 (Ev.bind (num_i x hx 1 false hp1) ?_)
    rw [i1]
    refine Ev.bind (num_i x hx (1 + m1) false hp2) ?_
    rw [i2]
    refine Ev.bind (num_i x hx (1 + m1 + m2) false hp3) ?_
    rw [i3]
    refine Ev.bind (num_i x hx (1 + m1 + m2 + m3) false hp4) ?_
    rw [(num_no x (1 + m1 + m2 + m3) (by rw [hg4]; exact k4)).2]
    exact ev_bind1 (take_b x _ _) (ev_bind1 (take_b x _ _) (ev_bind1 rfl (ev_bind1 (take_b x _ _) (ev_if_pos rfl (Ev.now _)))))
  subst k4
  obtain ⟨_, i4, hp5, r4, t4⟩ := num_ok x (1 + m1 + m2 + m3) v4 m4 hp4 hg4
  obtain ⟨p, hp⟩ : ∃ p, 1 + m1 + m2 + m3 + m4 = p := ⟨_, rfl⟩
  obtain ⟨hno, hyes⟩ := read_main x hx h0 h70' v1 m1 v2 m2 v3 m3 v4 m4 p hg1 hg2 hg3 hg4 hp
  by_cases h64 : p + 64 ≤ x.size
  rotate_left
  · exact both_no (hno h64).1 (hno h64).2
  obtain ⟨hs, hi, hn⟩ := hyes h64
  by_cases hc : frameRight (unfold' v1) (unfold' v2) (unfold' v3) (unfold' v4) (x.extract p (p + 32)) (x.extract (p + 64) x.size) = true ∧ Hand.digestL (x.extract 0 (p + 32) ++ x.extract (p + 64) x.size) = x.extract (p + 32) (p + 64)
  · obtain ⟨h1, h2⟩ := hi hc
    rw [hc.1, hc.2, Bool.true_and, show ((x.extract (p + 32) (p + 64)).toList == (x.extract (p + 32) (p + 64)).toList) = true by simp] at hs
    exact ⟨_, _, hs, h1, Or.inr ⟨rfl, rfl, hc.1, h2⟩⟩
  · refine ⟨_, _, hs, hn hc, Or.inl ⟨?_, rfl⟩⟩
    rw [Bool.and_eq_false_iff]
    by_cases hf : frameRight (unfold' v1) (unfold' v2) (unfold' v3) (unfold' v4) (x.extract p (p + 32)) (x.extract (p + 64) x.size) = true
    · refine Or.inr ?_
      simp only [beq_eq_false_iff_ne, ne_eq]
      exact fun e => hc ⟨hf, ba_inj e⟩
    · exact Or.inl (by simpa using hf)
/-- both sides at a text: the same answer; and a frame that is read has just these bytes. -/
theorem frame_same (x : ByteArray) : ∃ v, Ev (fun k => spec_FrameRead.f k x) v ∧ Ev (fun k => impl_FrameRead.f k x) v ∧ (v.2.2.2.2.2.2 = 0 → frameRight v.1 v.2.1 v.2.2.1 v.2.2.2.1 v.2.2.2.2.1 v.2.2.2.2.2.1 = true ∧ Ev (fun k => impl_Frame_bytes.f k v.1 v.2.1 v.2.2.1 v.2.2.2.1 v.2.2.2.2.1 v.2.2.2.2.2.1) x) := by
  unfold spec_FrameRead.f impl_FrameRead.f
  by_cases hl : (x.size : Int) > 20000
  · exact ⟨_, ev_if_pos hl (Ev.now _), ev_bind1 rfl (ev_if_pos (decide_eq_true hl) (Ev.now _)), fun h => by simp at h⟩
  obtain ⟨rs, ri, hs, hi, hr⟩ := both_all x (by omega)
  have ei : impl_isLong.f x = some false := by unfold impl_isLong.f; rw [decide_eq_false hl]
  rcases hr with ⟨e1, e2⟩ | ⟨rfl, e1, e2, e3⟩
  · exact ⟨_, ev_if_neg hl (Ev.bind hs (ev_if_neg (by rw [e1]; simp) (Ev.now _))), ev_bind1 ei (ev_if_neg (by simp) (Ev.bind hi (ev_if_neg (by rw [e2]; simp) (Ev.now _)))), fun h => by simp at h⟩
  · exact ⟨_, ev_if_neg hl (Ev.bind hs (ev_if_pos e1 (Ev.now _))), ev_bind1 ei (ev_if_neg (by simp) (Ev.bind hi (ev_if_pos e1 (Ev.now _)))), fun _ => ⟨e2, e3⟩⟩
theorem putNum_s_l0 (m : Nat) : ∀ (v k : Nat) (acc : List Int), v < 128 ^ (m + 1) → v < 18446744073709551616 → acc.length + m + 1 ≤ 140737488355328 → m < k → spec_PutNum.l0 k (v : Int) acc = some (strOfNums (acc ++ numL v)) := by
  induction m with
  | zero =>
    intro v k acc hv hv2 ha hk
    obtain ⟨k, rfl⟩ : ∃ m, k = m + 1 := ⟨k - 1, by omega⟩
    have hv' : v < 128 := by simpa using hv
    simp only [spec_PutNum.l0]
    rw [if_neg (by omega), if_pos (by omega), numL_lt hv']
    congr 4
    omega
  | succ m ih =>
    intro v k acc hv hv2 ha hk
    obtain ⟨k, rfl⟩ : ∃ m, k = m + 1 := ⟨k - 1, by omega⟩
    by_cases h : v < 128
    · simp only [spec_PutNum.l0]
      rw [if_neg (by omega), if_pos (by omega), numL_lt h]
      congr 4
      omega
    · have e1 : IntKind.u64.wrap (Int.tdiv (v : Int) 128) = ((v / 128 : Nat) : Int) := by
        rw [Int.tdiv_eq_ediv_of_nonneg (by omega), IntKind.wrap_u64]
        omega
      have e2 : (IntKind.u64.wrap ((Int.tmod (v : Int) 128) + 128)) % 256 = ((v % 128 + 128 : Nat) : Int) := by
        rw [Int.tmod_eq_emod_of_nonneg (by omega), IntKind.wrap_u64]
        omega
      simp only [spec_PutNum.l0, e1, e2]
      rw [if_pos (by omega), if_pos (by omega), ih (v / 128) k _ (by rw [Nat.div_lt_iff_lt_mul (by decide)]; rw [← Nat.pow_succ]; exact hv) (by omega) (by simp; omega) (by omega), numL_ge h]
      simp
theorem putNum_s (n : Int) (h0 : -9223372036854775808 ≤ n) (h1 : n ≤ 9223372036854775807) (k : Nat) (hk : 10 ≤ k) : spec_PutNum.f k n = some (putNum n) := by
  have e : spec_l01Fold.f n = some ((fold n : Nat) : Int) := by
    unfold spec_l01Fold.f fold
    by_cases h : n < 0
    · rw [if_pos h, if_pos h]
      simp only [IntKind.wrap_u64, wrap64]
      congr 1
      omega
    · rw [if_neg h, if_neg h]
      simp only [IntKind.wrap_u64]
      congr 1
      omega
  have hf := fold_lt n h0 h1
  unfold spec_PutNum.f
  rw [e, Option.bind_some, putNum_s_l0 9 _ k _ (Nat.lt_of_lt_of_le hf (by decide)) hf (by simp) (by omega)]
  simp [putNum]
theorem shardSize_le (k n : Int) (h0 : 0 ≤ n) (h : n ≤ 12000) : shardSize k n ≤ 12000 := by
  unfold shardSize
  split
  · rename_i h
    obtain rfl | rfl | rfl | rfl | rfl | rfl | rfl | rfl : k = 1 ∨ k = 2 ∨ k = 3 ∨ k = 4 ∨ k = 5 ∨ k = 6 ∨ k = 7 ∨ k = 8 := by omega
    all_goals omega
  · omega
theorem head_s (a b c d : Int) (root shard : ByteArray) (ha : -9223372036854775808 ≤ a ∧ a ≤ 9223372036854775807) (hb : -9223372036854775808 ≤ b ∧ b ≤ 9223372036854775807) (hc : -9223372036854775808 ≤ c ∧ c ≤ 9223372036854775807) (hd : -9223372036854775808 ≤ d ∧ d ≤ 9223372036854775807) (hr2 : root.size ≤ 32) :
    Ev (fun k => spec_l09Head.f k a b c d root shard) (headB a b c d root) := by
  have za := putNum_size a ha.1 ha.2
  have zb := putNum_size b hb.1 hb.2
  have zc := putNum_size c hc.1 hc.2
  have zd := putNum_size d hd.1 hd.2
  have ez : ((⟨#[70]⟩ : ByteArray)).size = 1 := rfl
  unfold headB
  refine Ev.bind (ev_from 10 (fun k hk => putNum_s a ha.1 ha.2 k hk)) (ev_if_pos (by omega) ?_)
  refine Ev.bind (ev_from 10 (fun k hk => putNum_s b hb.1 hb.2 k hk)) (ev_if_pos (by simp only [ByteArray.size_append, ez]; omega) ?_)
  refine Ev.bind (ev_from 10 (fun k hk => putNum_s c hc.1 hc.2 k hk)) (ev_if_pos (by simp only [ByteArray.size_append, ez]; omega) ?_)
  refine Ev.bind (ev_from 10 (fun k hk => putNum_s d hd.1 hd.2 k hk)) (ev_if_pos (by simp only [ByteArray.size_append, ez]; omega) ?_)
  exact ev_if_pos (by simp only [ByteArray.size_append, ez]; omega) (Ev.now _)
theorem headB_size (a b c d : Int) (root : ByteArray) (ha : -9223372036854775808 ≤ a ∧ a ≤ 9223372036854775807) (hb : -9223372036854775808 ≤ b ∧ b ≤ 9223372036854775807) (hc : -9223372036854775808 ≤ c ∧ c ≤ 9223372036854775807) (hd : -9223372036854775808 ≤ d ∧ d ≤ 9223372036854775807) : (headB a b c d root).size ≤ 41 + root.size := by
  have za := putNum_size a ha.1 ha.2
  have zb := putNum_size b hb.1 hb.2
  have zc := putNum_size c hc.1 hc.2
  have zd := putNum_size d hd.1 hd.2
  have ez : ((⟨#[70]⟩ : ByteArray)).size = 1 := rfl
  unfold headB
  simp only [ByteArray.size_append, ez]
  omega
/-- what both sides write for a frame. -/
def frameV (a b c d : Int) (root shard : ByteArray) : ByteArray := if frameRight a b c d root shard = true then (headB a b c d root ++ Hand.digestL (headB a b c d root ++ shard)) ++ shard else ⟨#[]⟩
theorem frameRight_of {a b c d : Int} {root shard : ByteArray} (hf : frameRight a b c d root shard = true) : root.size = 32 ∧ shard.size ≤ 12000 := by
  simp only [frameRight, Bool.and_eq_true, decide_eq_true_eq, beq_iff_eq] at hf
  have hsz := shardSize_le a d (by omega) (by omega)
  omega
/-- both sides, at any frame. -/
theorem frameBytes_both (a b c d : Int) (root shard : ByteArray) (ha : -9223372036854775808 ≤ a ∧ a ≤ 9223372036854775807) (hb : -9223372036854775808 ≤ b ∧ b ≤ 9223372036854775807) (hc : -9223372036854775808 ≤ c ∧ c ≤ 9223372036854775807) (hd : -9223372036854775808 ≤ d ∧ d ≤ 9223372036854775807) :
    Ev (fun k => spec_FrameBytes.f k a b c d root shard) (frameV a b c d root shard) ∧ Ev (fun k => impl_FrameBytes.f k a b c d root shard) (frameV a b c d root shard) := by
  unfold spec_FrameBytes.f impl_FrameBytes.f frameV
  have hs := frameRight_s a b c d root shard
  have hi := frameRight_i a b c d root shard
  cases hf : frameRight a b c d root shard with
  | false =>
    rw [hf] at hs hi
    rw [if_neg (by simp)]
    exact ⟨ev_bind1 hs (ev_if_neg (by simp) (Ev.now _)), ev_bind1 hi (ev_if_neg (by simp) (Ev.now _))⟩
  | true =>
    rw [hf] at hs hi
    rw [if_pos rfl]
    obtain ⟨hw, hm⟩ := frameRight_of hf
    have hh := headB_size a b c d root ha hb hc hd
    have hds := digest_size (headB a b c d root ++ shard)
    have hB := fbytes_ok a b c d root shard ha hb hc hd (by omega) (by omega) (by rw [ByteArray.size_append]; omega)
    exact ⟨ev_bind1 hs (ev_if_pos rfl (Ev.bind (head_s a b c d root shard ha hb hc hd (by omega)) (Ev.bind (digest2_s (headB a b c d root) shard (by omega) (by omega)) (ev_if_pos (by omega) (ev_if_pos (by rw [ByteArray.size_append]; omega) (Ev.now _)))))), ev_bind1 hi (ev_if_pos rfl (Ev.bind hB (Ev.now _)))⟩
theorem frameV_size (a b c d : Int) (root shard : ByteArray) (ha : -9223372036854775808 ≤ a ∧ a ≤ 9223372036854775807) (hb : -9223372036854775808 ≤ b ∧ b ≤ 9223372036854775807) (hc : -9223372036854775808 ≤ c ∧ c ≤ 9223372036854775807) (hd : -9223372036854775808 ≤ d ∧ d ≤ 9223372036854775807) : (frameV a b c d root shard).size ≤ 12200 := by
  unfold frameV
  cases hf : frameRight a b c d root shard with
  | false => rw [if_neg (by simp)]; exact Nat.zero_le _
  | true =>
    rw [if_pos rfl]
    obtain ⟨hw, hm⟩ := frameRight_of hf
    have hh := headB_size a b c d root ha hb hc hd
    have hds := digest_size (headB a b c d root ++ shard)
    simp only [ByteArray.size_append]
    omega
/-- a source that stands right. -/
def St (b : List Int) (q m : Int) : Prop := 0 ≤ q ∧ q ≤ (b.length : Int) ∧ b.length ≤ 1048576 ∧ 0 ≤ m ∧ m < 18446744073709551616
theorem bits_u64 (op : BinOp) (x y : Int) : 0 ≤ Go.bits op .u64 x y ∧ Go.bits op .u64 x y < 18446744073709551616 := by
  simp only [Go.bits, IntKind.wrap_u64]
  omega
theorem pick_most (v most : Int) (h1 : 1 < most) (h2 : most ≤ 9223372036854775807) : 0 ≤ wrap64 (Int.tmod (IntKind.u64.wrap v) (IntKind.u64.wrap most)) ∧ wrap64 (Int.tmod (IntKind.u64.wrap v) (IntKind.u64.wrap most)) < most ∧ IntKind.u64.wrap most ≠ 0 := by
  simp only [IntKind.wrap_u64]
  have e : most % 18446744073709551616 = most := by omega
  rw [e, Int.tmod_eq_emod_of_nonneg (by omega)]
  have a := Int.emod_nonneg (v % 18446744073709551616) (show most ≠ 0 by omega)
  have b := Int.emod_lt_of_pos (v % 18446744073709551616) (show 0 < most by omega)
  rw [w64 (by omega) (by omega)]
  omega
theorem n_ok (b : List Int) (q m z most : Int) (h : St b q m) (h1 : 1 ≤ most) (h2 : most ≤ 9223372036854775807) : ∃ v q' m', spec_l01Src_n.f b q m z most = some (v, q', m', z) ∧ 0 ≤ v ∧ v < most ∧ St b q' m' := by
  obtain ⟨a1, a2, a3, a4, a5⟩ := h
  unfold spec_l01Src_n.f
  by_cases c : most ≤ 1
  · rw [if_pos c]
    exact ⟨0, q, m, rfl, by omega, by omega, a1, a2, a3, a4, a5⟩
  · rw [if_neg c]
    have hm := bits_u64 .xor (Go.bits .xor .u64 (Go.bits .xor .u64 m (IntKind.u64.wrap (m * 8192))) ((Go.bits .xor .u64 m (IntKind.u64.wrap (m * 8192))) / 128)) (IntKind.u64.wrap ((Go.bits .xor .u64 (Go.bits .xor .u64 m (IntKind.u64.wrap (m * 8192))) ((Go.bits .xor .u64 m (IntKind.u64.wrap (m * 8192))) / 128)) * 131072))
    generalize Go.bits .xor .u64 (Go.bits .xor .u64 (Go.bits .xor .u64 m (IntKind.u64.wrap (m * 8192))) ((Go.bits .xor .u64 m (IntKind.u64.wrap (m * 8192))) / 128)) (IntKind.u64.wrap ((Go.bits .xor .u64 (Go.bits .xor .u64 m (IntKind.u64.wrap (m * 8192))) ((Go.bits .xor .u64 m (IntKind.u64.wrap (m * 8192))) / 128)) * 131072)) = m3 at hm ⊢
    by_cases c2 : q < (b.length : Int)
    · obtain ⟨p1, p2, p3⟩ := pick_most (IntKind.u64.wrap (rd b q) + m3 / 1048576) most (by omega) h2
      rw [if_pos c2, if_pos a1, if_neg p3]
      exact ⟨_, _, _, rfl, p1, p2, by rw [w64 (by omega) (by omega)]; omega, by rw [w64 (by omega) (by omega)]; omega, a3, hm.1, hm.2⟩
    · obtain ⟨p1, p2, p3⟩ := pick_most (0 + m3 / 1048576) most (by omega) h2
      rw [if_neg c2, if_neg p3]
      exact ⟨_, _, _, rfl, p1, p2, a1, a2, a3, hm.1, hm.2⟩
theorem src_ok (l : List Int) (hl : l.length ≤ 1048576) : Evs (fun k => spec_l01Source.f k l) (fun r => r.1 = l ∧ St l r.2.1 r.2.2.1 ∧ 0 ≤ r.2.2.2 ∧ r.2.2.2 ≤ 12) := by
  have stop : ∀ (m : Int), 0 ≤ m → m < 18446744073709551616 → ∀ q, q = (if (wrap64 ((l.length : Int) / 20)) > 12 then (some (l, (0 : Int), m, (12 : Int))) else (some (l, 0, m, wrap64 ((l.length : Int) / 20)))) → ∃ r, q = some r ∧ r.1 = l ∧ St l r.2.1 r.2.2.1 ∧ 0 ≤ r.2.2.2 ∧ r.2.2.2 ≤ 12 := by
    intro m h0 h1 q hq
    subst hq
    rw [w64 (n := (l.length : Int) / 20) (by omega) (by omega)]
    by_cases c : (l.length : Int) / 20 > 12
    · rw [if_pos c]
      exact ⟨_, rfl, rfl, ⟨Int.le_refl _, by simp, hl, h0, h1⟩, by simp, by simp⟩
    · rw [if_neg c]
      exact ⟨_, rfl, rfl, ⟨Int.le_refl _, by simp, hl, h0, h1⟩, by simp only; omega, by simp only; omega⟩
  unfold spec_l01Source.f
  have main : ∀ (d i : Nat) (m : Int), i + d = 65 → 0 ≤ m → m < 18446744073709551616 → Evs (fun k => spec_l01Source.l0 k l (i : Int) l 0 m 0) (fun r => r.1 = l ∧ St l r.2.1 r.2.2.1 ∧ 0 ≤ r.2.2.2 ∧ r.2.2.2 ≤ 12) := by
    intro d
    induction d with
    | zero =>
      intro i m hi h0 h1
      obtain ⟨r, hr, hp⟩ := stop m h0 h1 _ rfl
      refine ⟨r, Ev.step (f := fun _ => some r) (fun k => ?_) (Ev.now _), hp⟩
      simp only [spec_l01Source.l0]
      by_cases c : (i : Int) < (l.length : Int)
      · rw [if_pos c, if_neg (by omega)]; exact hr
      · rw [if_neg c]; exact hr
    | succ d ih =>
      intro i m hi h0 h1
      by_cases c : (i : Int) < (l.length : Int) ∧ (i : Int) < 64
      · obtain ⟨v, hv, hp⟩ := ih (i + 1) (IntKind.u64.wrap ((Go.bits .xor .u64 m (IntKind.u64.wrap (rd l i))) * 1099511628211)) (by omega) (by simp only [IntKind.wrap_u64]; omega) (by simp only [IntKind.wrap_u64]; omega)
        refine ⟨v, Ev.step (fun k => ?_) hv, hp⟩
        simp only [spec_l01Source.l0]
        rw [if_pos c.1, if_pos c.2, if_pos (by omega), w64 (by omega) (by omega)]
        rfl
      · obtain ⟨r, hr, hp⟩ := stop m h0 h1 _ rfl
        refine ⟨r, Ev.step (f := fun _ => some r) (fun k => ?_) (Ev.now _), hp⟩
        simp only [spec_l01Source.l0]
        by_cases c1 : (i : Int) < (l.length : Int)
        · rw [if_pos c1, if_neg (fun q => c ⟨c1, q⟩)]; exact hr
        · rw [if_neg c1]; exact hr
  exact main 65 0 88172645463325252 rfl (by decide) (by decide)
theorem one_ok (b : List Int) (q m z of : Int) (h : St b q m) (h1 : 1 ≤ of) (h2 : of ≤ 9223372036854775807) : ∃ v q' m', spec_l01Src_one.f b q m z of = some (v, q', m', z) ∧ St b q' m' := by
  obtain ⟨v, q', m', hv, _, _, hs⟩ := n_ok b q m z of h h1 h2
  refine ⟨v == 0, q', m', ?_, hs⟩
  unfold spec_l01Src_one.f
  rw [hv]
  rfl
theorem strOfNums_len (l : List Int) : (strOfNums l).size = l.length := by simp [strOfNums, ByteArray.size]
theorem bytes_ok (b : List Int) (z : Int) (n : Nat) (hn : n ≤ 1048576) : ∀ (d i : Nat) (acc : List Int) (q m : Int), i + d = n → acc.length = i → St b q m → Evs (fun k => spec_l01Src_bytes.l0 k (n : Int) acc (i : Int) b q m z) (fun r => r.1.size = n ∧ St b r.2.1 r.2.2.1 ∧ r.2.2.2 = z) := by
  intro d
  induction d with
  | zero =>
    intro i acc q m hi ha hs
    refine ⟨(strOfNums acc, q, m, z), Ev.step (f := fun _ => some (strOfNums acc, q, m, z)) (fun k => ?_) (Ev.now _), ?_, hs, rfl⟩
    · simp only [spec_l01Src_bytes.l0]
      rw [if_neg (by omega)]
    · show (strOfNums acc).size = n
      rw [strOfNums_len]; omega
  | succ d ih =>
    intro i acc q m hi ha hs
    obtain ⟨v, q', m', hv, _, _, hs'⟩ := n_ok b q m z 256 hs (by decide) (by decide)
    obtain ⟨r, hr, hp⟩ := ih (i + 1) (acc ++ [v % 256]) q' m' (by omega) (by simp; omega) hs'
    refine ⟨r, Ev.step (fun k => ?_) hr, hp⟩
    simp only [spec_l01Src_bytes.l0, hv, Option.bind_some]
    rw [if_pos (by omega), if_pos (by omega), w64 (by omega) (by omega)]
    rfl
theorem bytesN_ok (b : List Int) (q m z n : Int) (h0 : 0 ≤ n) (hn : n ≤ 1048576) (hs : St b q m) : Evs (fun k => spec_l01Src_bytes.f k b q m z n) (fun r => (r.1.size : Int) = n ∧ St b r.2.1 r.2.2.1 ∧ r.2.2.2 = z) := by
  obtain ⟨n, rfl⟩ : ∃ k : Nat, n = (k : Int) := ⟨n.toNat, by omega⟩
  exact (bytes_ok b z n (by omega) n 0 [] q m (by omega) rfl hs).mono (fun r h => ⟨by rw [h.1], h.2⟩)
theorem ex_sz (t : ByteArray) (i j : Nat) : (t.extract i j).size = min j t.size - i := by rw [ByteArray.size_extract]
theorem w_succN (v : Nat) (h : v ≤ 1000000) : wrap64 ((v : Int) + 1) = ((v + 1 : Nat) : Int) := by rw [w64 (by omega) (by omega)]; omega
theorem spoil_ok (b : List Int) (q m z : Int) (hs : St b q m) (t : ByteArray) (ht : t.size ≤ 900000) : Evs (fun k => spec_l01Src_spoil.f k b q m z t) (fun r => r.1.size ≤ t.size + 1) := by
  obtain ⟨v, q1, m1, hv, v0, v1, hs1⟩ := n_ok b q m z ((t.size : Int) + 1) hs (by omega) (by omega)
  obtain ⟨u, q2, m2, hu, u0, u1, hs2⟩ := n_ok b q1 m1 z 17 hs1 (by decide) (by decide)
  obtain ⟨v, rfl⟩ : ∃ j : Nat, v = (j : Int) := ⟨v.toNat, by omega⟩
  have main : ∀ (c : ByteArray) (hc : c.size = 1) (w : Bool) (q m : Int) (hs : St b q m), (v : Int) < (t.size : Int) ∨ w = true → Evs (fun k => spec_l01Src_spoil.j0 k t (v : Int) c w b q m z) (fun r => r.1.size ≤ t.size + 1) := by
    intro c hc w q m hs hw
    have e1 := ex_sz t 0 v
    have e2 := ex_sz t v t.size
    have e3 := ex_sz t (v + 1) t.size
    cases w with
    | true =>
      refine ⟨(((t.extract 0 v) ++ c) ++ (t.extract v t.size), q, m, z), Ev.step (f := fun _ => some (((t.extract 0 v) ++ c) ++ (t.extract v t.size), q, m, z)) (fun k => ?_) (Ev.now _), ?_⟩
      · simp only [spec_l01Src_spoil.j0, Int.toNat_natCast, ByteArray.size_append]
        rw [if_pos trivial, if_pos (by omega), if_pos (by omega), if_pos (by omega), if_pos (by omega)]
      · simp only [ByteArray.size_append]; omega
    | false =>
      have hlt : v < t.size := by
        rcases hw with h | h
        · omega
        · cases h
      obtain ⟨x, q3, m3, hx, hs3⟩ := one_ok b q m z 2 hs (by decide) (by decide)
      cases x with
      | true =>
        refine ⟨((t.extract 0 v) ++ (t.extract (v + 1) t.size), q3, m3, z), Ev.step (f := fun _ => some ((t.extract 0 v) ++ (t.extract (v + 1) t.size), q3, m3, z)) (fun k => ?_) (Ev.now _), ?_⟩
        · simp only [spec_l01Src_spoil.j0, hx, Option.bind_some, w_succN v (by omega), Int.toNat_natCast]
          rw [if_neg (by simp), if_pos trivial, if_pos (by omega), if_pos (by omega), if_pos (by omega), if_pos (by omega), if_pos (by omega)]
        · simp only [ByteArray.size_append]; omega
      | false =>
        refine ⟨(((t.extract 0 v) ++ c) ++ (t.extract (v + 1) t.size), q3, m3, z), Ev.step (f := fun _ => some (((t.extract 0 v) ++ c) ++ (t.extract (v + 1) t.size), q3, m3, z)) (fun k => ?_) (Ev.now _), ?_⟩
        · simp only [spec_l01Src_spoil.j0, hx, Option.bind_some, w_succN v (by omega), Int.toNat_natCast, ByteArray.size_append]
          rw [if_neg (by simp), if_neg (by simp), if_pos (by omega), if_pos (by omega), if_pos (by omega), if_pos (by omega), if_pos (by omega), if_pos (by omega)]
        · simp only [ByteArray.size_append]; omega
  unfold spec_l01Src_spoil.f
  rw [w64 (by omega) (by omega)]
  refine Evs.bind1 hv (Evs.bind1 hu (Evs.if_pos u0 (Evs.if_pos u1 (Evs.bind1 rfl ?_))))
  refine Evs.ite (fun _ => main _ (by rw [strOfNums_len]; rfl) true q2 m2 hs2 (Or.inr rfl)) (fun hne => ?_)
  obtain ⟨x, q3, m3, hx, hs3⟩ := one_ok b q2 m2 z 3 hs2 (by decide) (by decide)
  refine Evs.bind1 hx ?_
  exact main _ (by rw [strOfNums_len]; rfl) x q3 m3 hs3 (Or.inl (by simp only at hne; omega))
theorem digest_s (a : ByteArray) (h : a.size ≤ 20000) : Ev (fun k => spec_Digest.f k a) (Hand.digestL a) := by
  unfold spec_Digest.f
  refine ev_if_neg (by omega) (ev_bind1 rfl ?_)
  have hm := more_ok Hand.firstL ⟨#[]⟩ a 0 first_ok.1 first_ok.2 (by omega) (by omega) (by show 0 ≤ 1000; omega) (by omega)
  rw [nil_app, Int.zero_add] at hm
  refine Ev.bind hm ?_
  have he := end_ok (Hand.eat Hand.firstL a (a.size / 64)) (a.extract (64 * (a.size / 64)) a.size) (a.size : Int) (by rw [Hand.eat_length]; exact first_ok.1) (eat_rng _ _ first_ok.1 first_ok.2 _) (by omega) (by omega) (by rw [ByteArray.size_extract]; omega)
  exact Ev.bind he (Ev.now _)
theorem wf8 {n : Int} (h : (Lit.int .u8 n).wf = true) : 0 ≤ n ∧ n < 256 := by
  have := h
  simp [Lit.wf, IntKind.signed, IntKind.bits, IntKind.min, IntKind.max] at this
  omega
/-! a frame's bytes are read back -/
theorem ext_mid (a m c : ByteArray) : (a ++ (m ++ c)).extract a.size (a.size + m.size) = m := by
  apply bl_inj
  rw [bl_extract, bl_append, bl_append, List.drop_take, ← bl_length a, List.drop_left' rfl, show (bl a).length + m.size - (bl a).length = m.size by omega, ← bl_length m, List.take_left' rfl]
theorem ext_head (a c : ByteArray) : (a ++ c).extract 0 a.size = a := by
  apply bl_inj
  rw [bl_extract, bl_append, List.drop_zero, ← bl_length a, List.take_left' rfl]
theorem ext_tail (a c : ByteArray) : (a ++ c).extract a.size (a ++ c).size = c := by
  have := ext_mid a c ⟨#[]⟩
  have e : c ++ (⟨#[]⟩ : ByteArray) = c := by
    apply bl_inj
    rw [bl_append]
    show bl c ++ [] = bl c
    simp
  rw [e] at this
  rw [ByteArray.size_append]
  exact this
theorem gN_at (a c : ByteArray) (n : Int) (h : -9223372036854775808 ≤ n ∧ n ≤ 9223372036854775807) : gN 0 0 ((bl (a ++ (putNum n ++ c))).drop a.size) = (0, fold n, (putNum n).size) := by
  have hd : (bl (a ++ (putNum n ++ c))).drop a.size = (numL (fold n)).map Int.toNat ++ bl c := by
    rw [bl_append, bl_append, ← bl_length a, List.drop_left' rfl, bl_putNum n h.1 h.2]
  have hf := fold_lt n h.1 h.2
  have hg := gN_put 9 (fold n) 0 0 (bl c) rfl (Nat.lt_of_lt_of_le hf (by decide)) (by omega) (fun h => absurd h (by omega))
  have hz : (numL (fold n)).length = (putNum n).size := by unfold putNum; rw [strOfNums_size]
  rw [hd, hg, hz]
  congr 2 <;> omega
theorem unfold_fold' (n : Int) : unfold' (fold n) = n := by
  unfold unfold' fold
  by_cases h : n < 0
  · rw [if_pos h, if_pos (by omega)]; omega
  · rw [if_neg h, if_neg (by omega)]; omega
theorem frame_back (a b c d : Int) (root shard : ByteArray) (ha : -9223372036854775808 ≤ a ∧ a ≤ 9223372036854775807) (hb : -9223372036854775808 ≤ b ∧ b ≤ 9223372036854775807) (hc : -9223372036854775808 ≤ c ∧ c ≤ 9223372036854775807) (hd : -9223372036854775808 ≤ d ∧ d ≤ 9223372036854775807) (hf : frameRight a b c d root shard = true) :
    Ev (fun k => impl_FrameRead.f k (frameV a b c d root shard)) (a, b, c, d, root, shard, 0) := by
  obtain ⟨hw, hm⟩ := frameRight_of hf
  have hsz := frameV_size a b c d root shard ha hb hc hd
  obtain ⟨D, hD⟩ : ∃ D, Hand.digestL (headB a b c d root ++ shard) = D := ⟨_, rfl⟩
  have zD : D.size = 32 := by rw [← hD]; exact digest_size _
  obtain ⟨x, hx⟩ : ∃ x, frameV a b c d root shard = x := ⟨_, rfl⟩
  have e0 : x = (headB a b c d root ++ D) ++ shard := by
    rw [← hx, ← hD]
    unfold frameV
    rw [if_pos hf]
  rw [hx] at hsz ⊢
  have ez : ((⟨#[70]⟩ : ByteArray)).size = 1 := rfl
  have e1 : x = (⟨#[70]⟩ : ByteArray) ++ (putNum a ++ (putNum b ++ (putNum c ++ (putNum d ++ (root ++ (D ++ shard)))))) := by rw [e0]; unfold headB; simp only [ByteArray.append_assoc]
  have e2 : x = ((⟨#[70]⟩ : ByteArray) ++ putNum a) ++ (putNum b ++ (putNum c ++ (putNum d ++ (root ++ (D ++ shard))))) := by rw [e1]; simp only [ByteArray.append_assoc]
  have e3 : x = (((⟨#[70]⟩ : ByteArray) ++ putNum a) ++ putNum b) ++ (putNum c ++ (putNum d ++ (root ++ (D ++ shard)))) := by rw [e1]; simp only [ByteArray.append_assoc]
  have e4 : x = ((((⟨#[70]⟩ : ByteArray) ++ putNum a) ++ putNum b) ++ putNum c) ++ (putNum d ++ (root ++ (D ++ shard))) := by rw [e1]; simp only [ByteArray.append_assoc]
  have e5 : x = (((((⟨#[70]⟩ : ByteArray) ++ putNum a) ++ putNum b) ++ putNum c) ++ putNum d) ++ (root ++ (D ++ shard)) := by rw [e1]; simp only [ByteArray.append_assoc]
  have e6 : x = headB a b c d root ++ (D ++ shard) := by rw [e0, ByteArray.append_assoc]
  have g1 := gN_at (⟨#[70]⟩ : ByteArray) (putNum b ++ (putNum c ++ (putNum d ++ (root ++ (D ++ shard))))) a ha
  rw [← e1, ez] at g1
  have g2 := gN_at ((⟨#[70]⟩ : ByteArray) ++ putNum a) (putNum c ++ (putNum d ++ (root ++ (D ++ shard)))) b hb
  rw [← e2, ByteArray.size_append, ez] at g2
  have g3 := gN_at (((⟨#[70]⟩ : ByteArray) ++ putNum a) ++ putNum b) (putNum d ++ (root ++ (D ++ shard))) c hc
  rw [← e3, ByteArray.size_append, ByteArray.size_append, ez] at g3
  have g4 := gN_at ((((⟨#[70]⟩ : ByteArray) ++ putNum a) ++ putNum b) ++ putNum c) (root ++ (D ++ shard)) d hd
  rw [← e4, ByteArray.size_append, ByteArray.size_append, ByteArray.size_append, ez] at g4
  obtain ⟨p, hp⟩ : ∃ p, 1 + (putNum a).size + (putNum b).size + (putNum c).size + (putNum d).size = p := ⟨_, rfl⟩
  have x5 := ext_mid (((((⟨#[70]⟩ : ByteArray) ++ putNum a) ++ putNum b) ++ putNum c) ++ putNum d) root (D ++ shard)
  rw [← e5, ByteArray.size_append, ByteArray.size_append, ByteArray.size_append, ByteArray.size_append, ez, hp, hw] at x5
  have zh : (headB a b c d root).size = p + 32 := by
    unfold headB
    simp only [ByteArray.size_append, ez]
    omega
  have x6 := ext_mid (headB a b c d root) D shard
  rw [← e6, zh, zD, show p + 32 + 32 = p + 64 by omega] at x6
  have x7 := ext_tail (headB a b c d root ++ D) shard
  rw [← e0, ByteArray.size_append, zh, zD, show p + 32 + 32 = p + 64 by omega] at x7
  have x8 := ext_head (headB a b c d root) (D ++ shard)
  rw [← e6, zh] at x8
  have zx : x.size = p + 64 + shard.size := by rw [e0]; simp only [ByteArray.size_append]; omega
  have h70 : bt x 0 = 70 := by
    have h := bt_bl x 0 (by omega)
    have : (bl x)[0]? = some 70 := by
      rw [e1, bl_append]
      rfl
    rw [List.getElem?_eq_getElem (by rw [bl_length]; omega)] at this
    rw [show (0 : Int) = ((0 : Nat) : Int) from rfl, h, Option.some.inj this]
    rfl
  obtain ⟨_, hyes⟩ := read_main x (by omega) (by omega) h70 _ _ _ _ _ _ _ _ p g1 g2 g3 g4 hp
  obtain ⟨_, hi, _⟩ := hyes (by omega)
  rw [unfold_fold', unfold_fold', unfold_fold', unfold_fold', x5, x6, x7, x8] at hi
  obtain ⟨h1, _⟩ := hi ⟨hf, hD⟩
  unfold impl_FrameRead.f
  have ei : impl_isLong.f x = some false := by unfold impl_isLong.f; rw [decide_eq_false (by omega)]
  exact ev_bind1 ei (ev_if_neg (by simp) (Ev.bind h1 (ev_if_pos rfl (Ev.now _))))
/-! draws -/
def R64 (n : Int) : Prop := -9223372036854775808 ≤ n ∧ n ≤ 9223372036854775807
theorem code_ok (b : List Int) (q m z : Int) (hs : St b q m) : ∃ k l q' m', spec_l01Src_l04Code.f b q m z = some (k, l, q', m', z) ∧ (-1 ≤ k ∧ k ≤ 9) ∧ (-1 ≤ l ∧ l ≤ 9) ∧ St b q' m' := by
  obtain ⟨v, q1, m1, h1, s1⟩ := one_ok b q m z 25 hs (by omega) (by omega)
  unfold spec_l01Src_l04Code.f
  rw [h1, Option.bind_some]
  by_cases hv : v = true
  · rw [if_pos hv]
    obtain ⟨v2, q2, m2, h2, a2, b2, s2⟩ := n_ok b q1 m1 z 11 s1 (by omega) (by omega)
    obtain ⟨v3, q3, m3, h3, a3, b3, s3⟩ := n_ok b q2 m2 z 9 s2 (by omega) (by omega)
    simp only [h2, Option.bind_some, h3]
    rw [w64 (n := v2 - 1) (by omega) (by omega), w64 (n := v3 - 1) (by omega) (by omega)]
    exact ⟨_, _, _, _, rfl, by omega, by omega, s3⟩
  · rw [if_neg hv]
    obtain ⟨v2, q2, m2, h2, a2, b2, s2⟩ := n_ok b q1 m1 z 4 s1 (by omega) (by omega)
    obtain ⟨v3, q3, m3, h3, a3, b3, s3⟩ := n_ok b q2 m2 z 4 s2 (by omega) (by omega)
    simp only [h2, Option.bind_some, h3]
    rw [w64 (n := 1 + v2) (by omega) (by omega)]
    exact ⟨_, _, _, _, rfl, by omega, by omega, s3⟩
theorem rd_mem (l : List Int) (v : Int) (P : Int → Prop) (h0 : 0 ≤ v) (h1 : v < (l.length : Int)) (h : ∀ c ∈ l, P c) : P (rd l v) := by
  obtain ⟨n, rfl⟩ : ∃ n : Nat, v = (n : Int) := ⟨v.toNat, by omega⟩
  have e : rd l (n : Int) = l[n]'(by omega) := getD_nat l n 0 (by omega)
  rw [e]
  exact h _ (List.getElem_mem _)
def FrameOk (b : List Int) (z : Int) (r : Int × Int × Int × Int × ByteArray × ByteArray × Int × Int × Int) : Prop := R64 r.1 ∧ R64 r.2.1 ∧ R64 r.2.2.1 ∧ R64 r.2.2.2.1 ∧ St b r.2.2.2.2.2.2.1 r.2.2.2.2.2.2.2.1 ∧ r.2.2.2.2.2.2.2.2 = z
theorem fok {b : List Int} {z k l i s : Int} {W T : ByteArray} {q m : Int} (h1 : R64 k) (h2 : R64 l) (h3 : R64 i) (h4 : R64 s) (hs : St b q m) : FrameOk b z (k, l, i, s, W, T, q, m, z) := ⟨h1, h2, h3, h4, hs, rfl⟩
theorem r64 {n : Int} (h0 : -100000 ≤ n) (h1 : n ≤ 100000) : R64 n := by unfold R64; omega
theorem frame_draw (b : List Int) (q m z : Int) (hs : St b q m) : Evs (fun k => spec_l01Src_l09Frame.f k b q m z) (FrameOk b z) := by
  obtain ⟨k, l, q1, m1, h1, hk, hl, s1⟩ := code_ok b q m z hs
  have ekl : wrap64 (k + l) = k + l := w64 (by omega) (by omega)
  unfold spec_l01Src_l09Frame.f
  refine Evs.bind1 h1 ?_
  simp only [ekl]
  obtain ⟨t, ht, ht1, ht2⟩ : ∃ t, spec_l01Max.f 1 (k + l) = some t ∧ 1 ≤ t ∧ t ≤ 100 := by
    unfold spec_l01Max.f
    by_cases h : 1 > k + l
    · simp [h]
    · simp [h]; omega
  refine Evs.bind1 ht ?_
  obtain ⟨ix, q2, m2, h2, i0, i1, s2⟩ := n_ok b q1 m1 z t s1 (by omega) (by omega)
  obtain ⟨sz, q3, m3, h3, z0, z1, s3⟩ := n_ok b q2 m2 z 40 s2 (by omega) (by omega)
  refine Evs.bind1 h2 (Evs.bind1 h3 (Evs.bind (bytesN_ok b q3 m3 z 2 (by omega) (by omega) s3) (fun r hr => ?_)))
  obtain ⟨t2, q4, m4, z4⟩ := r
  obtain ⟨hz2, s4, rfl⟩ := hr
  simp only at hz2 s4 ⊢
  have hdig := digest_s t2 (by omega)
  refine Evs.bind (Evs.of hdig) (fun W hW => ?_)
  have hss := shardSize_le k sz (by omega) (by omega)
  have hs0 : 0 ≤ shardSize k sz := by
    unfold shardSize
    split
    · rename_i h
      exact Int.ediv_nonneg (by omega) (by omega)
    · omega
  refine Evs.bind1 (shardSize_s k sz) (Evs.bind (bytesN_ok b q4 m4 z4 (shardSize k sz) hs0 (by omega) s4) (fun r hr => ?_))
  obtain ⟨t3, q5, m5, z5⟩ := r
  obtain ⟨hz3, s5, rfl⟩ := hr
  simp only at hz3 s5 ⊢
  obtain ⟨v, q6, m6, h6, s6⟩ := one_ok b q5 m5 z5 12 s5 (by omega) (by omega)
  refine Evs.bind1 h6 (Evs.ite (fun _ => ?_) (fun _ => Evs.now _ (fok (r64 (by omega) (by omega)) (r64 (by omega) (by omega)) (r64 (by omega) (by omega)) (r64 (by omega) (by omega)) s6)))
  obtain ⟨v7, q7, m7, h7, a7, b7, s7⟩ := n_ok b q6 m6 z5 4 s6 (by omega) (by omega)
  refine Evs.bind1 h7 (Evs.ite (fun _ => ?_) (fun _ => Evs.ite (fun _ => ?_) (fun _ => Evs.ite (fun _ => ?_) (fun _ => ?_))))
  · refine Evs.bind1 rfl ?_
    obtain ⟨v8, q8, m8, h8, a8, b8, s8⟩ := n_ok b q7 m7 z5 2 s7 (by omega) (by omega)
    refine Evs.bind1 h8 (Evs.if_pos a8 (Evs.if_pos (by simp; omega) (Evs.now _ (fok (r64 (by omega) (by omega)) (r64 (by omega) (by omega)) ?_ (r64 (by omega) (by omega)) s8))))
    exact rd_mem _ v8 R64 a8 (by simp; omega) (fun c hc => by
      simp at hc
      rcases hc with rfl | rfl <;> unfold R64 <;> omega)
  · refine Evs.bind1 rfl ?_
    obtain ⟨v8, q8, m8, h8, a8, b8, s8⟩ := n_ok b q7 m7 z5 3 s7 (by omega) (by omega)
    refine Evs.bind1 h8 (Evs.if_pos a8 (Evs.if_pos (by simp; omega) (Evs.now _ (fok (r64 (by omega) (by omega)) (r64 (by omega) (by omega)) (r64 (by omega) (by omega)) ?_ s8))))
    have e9 : wrap64 (sz + 1) = sz + 1 := w64 (by omega) (by omega)
    exact rd_mem _ v8 R64 a8 (by simp; omega) (fun c hc => by
      rw [e9] at hc
      simp at hc
      rcases hc with rfl | rfl | rfl <;> unfold R64 <;> omega)
  · have hWs : W.size = 32 := by rw [hW]; exact digest_size _
    exact Evs.if_pos (by omega) (Evs.now _ (fok (r64 (by omega) (by omega)) (r64 (by omega) (by omega)) (r64 (by omega) (by omega)) (r64 (by omega) (by omega)) s7))
  · exact Evs.if_pos (by omega) (Evs.now _ (fok (r64 (by omega) (by omega)) (r64 (by omega) (by omega)) (r64 (by omega) (by omega)) (r64 (by omega) (by omega)) s7))
theorem draw_bytes (l : List Int) (hl : l.length ≤ 1048576) : Evs (fun k => spec_DrawFrameBytes.f k l) (fun r => R64 r.1 ∧ R64 r.2.1 ∧ R64 r.2.2.1 ∧ R64 r.2.2.2.1) := by
  unfold spec_DrawFrameBytes.f
  refine Evs.bind (src_ok l hl) (fun r hr => ?_)
  obtain ⟨b, q, m, z⟩ := r
  obtain ⟨rfl, hs, hz⟩ := hr
  exact Evs.bind (frame_draw b q m z hs) (fun r hr => Evs.now _ ⟨hr.1, hr.2.1, hr.2.2.1, hr.2.2.2.1⟩)
theorem draw_read (l : List Int) (hl : l.length ≤ 1048576) : Evs (fun k => spec_DrawFrameRead.f k l) (fun t => True) := by
  unfold spec_DrawFrameRead.f
  refine Evs.bind (src_ok l hl) (fun r hr => ?_)
  obtain ⟨b, q, m, z⟩ := r
  obtain ⟨rfl, hs, hz⟩ := hr
  refine Evs.bind (frame_draw b q m z hs) (fun r hr => ?_)
  obtain ⟨f1, f2, f3, f4, f5, f6, q1, m1, z1⟩ := r
  obtain ⟨r1, r2, r3, r4, s1, e1⟩ := hr
  simp only at r1 r2 r3 r4 s1 e1 ⊢
  subst e1
  refine Evs.bind (Evs.of (frameBytes_both f1 f2 f3 f4 f5 f6 r1 r2 r3 r4).1) (fun t ht => ?_)
  have hsz := frameV_size f1 f2 f3 f4 f5 f6 r1 r2 r3 r4
  rw [← ht] at hsz
  obtain ⟨v, q2, m2, h2, _, _, s2⟩ := n_ok b q1 m1 z1 5 s1 (by omega) (by omega)
  refine Evs.bind1 h2 (Evs.ite (fun _ => ?_) (fun _ => Evs.ite (fun _ => ?_) (fun _ => Evs.now _ trivial)))
  · exact Evs.bind (spoil_ok b q2 m2 z1 s2 t (by omega)) (fun r hr => Evs.now _ trivial)
  · have e : wrap64 ((t.size : Int) + 1) = (t.size : Int) + 1 := w64 (by omega) (by omega)
    obtain ⟨v3, q3, m3, h3, a3, b3, s3⟩ := n_ok b q2 m2 z1 ((t.size : Int) + 1) s2 (by omega) (by omega)
    rw [e]
    exact Evs.bind1 h3 (Evs.if_pos a3 (Evs.if_pos (by first | omega | (simp only; omega)) (Evs.now _ trivial)))
theorem law_j2 (ys : List Int) (hy : ys.length ≤ 1048576) : Ev (fun k => laws_FnFrame.j2 k ys false) true := by
  obtain ⟨u, hu, _⟩ := draw_read ys hy
  obtain ⟨v, hs, hi, hv⟩ := frame_same u
  refine Ev.step (fun k => by simp only [laws_FnFrame.j2]; rw [if_neg (by simp)]) (Ev.bind hu (Ev.bind hi (Ev.bind hs (ev_if_pos ?_ ?_))))
  · simp only [beq_self_eq_true, Bool.and_self]
  by_cases hc : v.2.2.2.2.2.2 = 0
  · obtain ⟨hf, hb⟩ := hv hc
    refine ev_if_pos hc (Ev.bind (a := u) ?_ (ev_eq (by simp)))
    unfold impl_FrameBytes.f
    have hfi := frameRight_i v.1 v.2.1 v.2.2.1 v.2.2.2.1 v.2.2.2.2.1 v.2.2.2.2.2.1
    rw [hf] at hfi
    exact ev_bind1 hfi (ev_if_pos rfl (Ev.bind hb (Ev.now _)))
  · exact ev_if_neg hc (Ev.now _)
theorem FnFrame : laws_FnFrame.Pure := by
  intro l0 l1 _ _ _ _ _ _
  refine Ev.rounds (g := fun k => laws_FnFrame.f k l0 l1) (Evs.ev ?_)
  have out : Evs (fun k => laws_FnFrame.j0 k l0 l1 true) (fun x => x = true) := ⟨true, Ev.step (f := fun _ => some true) (fun k => by simp only [laws_FnFrame.j0]; rw [if_pos trivial]) (Ev.now _), rfl⟩
  unfold laws_FnFrame.f
  refine Evs.ite (fun _ => out) (fun hl0 => ?_)
  by_cases hl1 : (l1.length : Int) > 1048576
  · rw [decide_eq_true hl1]; exact out
  rw [decide_eq_false hl1]
  obtain ⟨⟨a, b, c, d, W, T⟩, hD, ha, hb, hc, hd⟩ := draw_bytes l0 (by omega)
  simp only at ha hb hc hd
  obtain ⟨hs, hi⟩ := frameBytes_both a b c d W T ha hb hc hd
  have hfi := frameRight_i a b c d W T
  have h2 := law_j2 l1 (by omega)
  refine ⟨true, Ev.step (fun k => by simp only [laws_FnFrame.j0]; rw [if_neg (by simp)]) (Ev.bind hD (Ev.bind hi (Ev.bind hs (ev_if_pos rfl (ev_bind1 hfi ?_))))), rfl⟩
  cases hf : frameRight a b c d W T with
  | false =>
    have e : frameV a b c d W T = ⟨#[]⟩ := by unfold frameV; rw [hf]; rfl
    rw [e, show (false != ((⟨#[]⟩ : ByteArray).toList != ([] : List UInt8))) = false by rw [ByteArray.toList_eq]; rfl]
    refine Ev.step (f := fun k => laws_FnFrame.j2 k l1 false) (fun k => ?_) h2
    simp only [laws_FnFrame.j1]
    rw [if_neg (by simp), if_pos (by rw [ByteArray.toList_eq])]
  | true =>
    have hne : ¬ (frameV a b c d W T).toList = ([] : List UInt8) := by
      intro e
      have e2 : (frameV a b c d W T).size = 0 := by
        have := congrArg List.length e
        rw [ByteArray.toList_eq] at this
        simpa using this
      have e3 : frameV a b c d W T = (headB a b c d W ++ Hand.digestL (headB a b c d W ++ T)) ++ T := by unfold frameV; rw [if_pos hf]
      rw [e3] at e2
      simp only [ByteArray.size_append] at e2
      have := digest_size (headB a b c d W ++ T)
      omega
    rw [show (true != ((frameV a b c d W T).toList != ([] : List UInt8))) = false by
      rw [show ((frameV a b c d W T).toList != ([] : List UInt8)) = true from bne_iff_ne.2 hne]; rfl]
    have hback := frame_back a b c d W T ha hb hc hd hf
    refine Ev.step (f := fun k => (impl_FrameRead.f k (frameV a b c d W T)).bind fun bt473 => (laws_FnFrame.j2 k l1 ((!(bt473.1 == a) || (!(bt473.2.1 == b) || (!(bt473.2.2.1 == c) || (!(bt473.2.2.2.1 == d) || (!(bt473.2.2.2.2.1.toList == W.toList) || (!(bt473.2.2.2.2.2.1.toList == T.toList))))))) || (!(bt473.2.2.2.2.2.2 == 0))))) (fun k => ?_) (Ev.bind hback ?_)
    · simp only [laws_FnFrame.j1]
      rw [if_neg (by simp), if_neg hne]
    · simp only [beq_self_eq_true, Bool.not_true, Bool.or_self]
      exact h2
end Go.Proofs.YtddapeieolfolaaDoor.Pure
