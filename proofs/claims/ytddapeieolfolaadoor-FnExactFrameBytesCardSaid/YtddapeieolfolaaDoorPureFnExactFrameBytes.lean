/- The plain law of FnExactFrameBytes: both sides write a frame with the same bytes. -/
import Derived.Test.YtddapeieolfolaaDoorOkFnExactFrameBytes
import Derived.Test.YtddapeieolfolaaDoorVLibFnExactFrameBytes
namespace Go.Proofs.YtddapeieolfolaaDoor.Pure
open Go.RowKit Go.Proofs.YtddapeieolfolaaDoor.PFnExactFrameBytes Go.Proofs.YtddapeieolfolaaDoor.Lib Go.Proofs.YtddapeieolfolaaDoorW.PrintWords Go.Proofs.YtddapeieolfolaaDoorW.PrintLast Go.Proofs.YtddapeieolfolaaDoorW.PrintMore
set_option linter.unusedVariables false
set_option linter.unusedSimpArgs false
/-- a text as numbers. -/
def bl (t : ByteArray) : List Nat := t.data.toList.map UInt8.toNat
theorem bl_length (t : ByteArray) : (bl t).length = t.size := by unfold bl; rw [List.length_map]; exact data_length t
theorem bl_append (a b : ByteArray) : bl (a ++ b) = bl a ++ bl b := by simp [bl, ByteArray.data_append]
theorem bl_lt (t : ByteArray) : ∀ c ∈ bl t, c < 256 := by
  intro c hc
  obtain ⟨x, _, rfl⟩ := List.mem_map.1 hc
  exact x.toNat_lt
theorem bl_extract (t : ByteArray) (i j : Nat) : bl (t.extract i j) = ((bl t).take j).drop i := by
  simp only [bl, ByteArray.data_extract, Array.toList_extract, List.extract_eq_take_drop, List.map_take, List.map_drop]
  rw [List.drop_take]
theorem bl_inj {a b : ByteArray} (h : bl a = bl b) : a = b := by
  have h2 : a.data.toList = b.data.toList := by
    unfold bl at h
    exact (List.map_inj_right (fun x y q => UInt8.toNat_inj.1 q)).1 h
  cases a; cases b
  simp only at h2
  congr 1
  exact Array.toList_inj.1 h2
theorem bt_bl (t : ByteArray) (i : Nat) (h : i < t.size) : bt t (i : Int) = (((bl t)[i]'(by rw [bl_length]; exact h) : Nat) : Int) := by
  unfold bt
  simp only [Int.toNat_natCast]
  rw [dif_pos h]
  simp [bl]
  rfl
theorem bl_strOfNums (l : List Int) (h : ∀ x ∈ l, 0 ≤ x ∧ x < 256) : bl (strOfNums l) = l.map Int.toNat := by
  unfold bl strOfNums
  simp only [List.map_map]
  refine List.map_congr_left (fun x hx => ?_)
  have := h x hx
  simp only [Function.comp]
  rw [UInt8.toNat_ofNat']
  omega
theorem numL_range (m : Nat) : ∀ u, u < 128 ^ (m + 1) → ∀ x ∈ numL u, 0 ≤ x ∧ x < 256 := by
  induction m with
  | zero =>
    intro u hu x hx
    rw [numL_lt (by simpa using hu)] at hx
    simp at hx; subst hx
    simp at hu
    omega
  | succ m ih =>
    intro u hu x hx
    by_cases h : u < 128
    · rw [numL_lt h] at hx
      simp at hx; omega
    · rw [numL_ge h, List.mem_cons] at hx
      rcases hx with rfl | hx
      · omega
      · exact ih (u / 128) (by rw [Nat.div_lt_iff_lt_mul (by decide), ← Nat.pow_succ]; exact hu) x hx
theorem bl_putNum (n : Int) (h0 : -9223372036854775808 ≤ n) (h1 : n ≤ 9223372036854775807) : bl (putNum n) = (numL (fold n)).map Int.toNat :=
  bl_strOfNums _ (numL_range 9 _ (Nat.lt_of_lt_of_le (fold_lt n h0 h1) (by decide)))
theorem empty_list : ((⟨#[]⟩ : ByteArray).toList == ([] : List UInt8)) = true := by
  rw [ByteArray.toList_eq]; rfl
theorem not_empty (p : ByteArray) (h : 0 < p.size) : (p.toList == ([] : List UInt8)) = false := by
  refine beq_eq_false_iff_ne.2 (fun q => ?_)
  rw [ByteArray.toList_eq] at q
  have := congrArg List.length q
  rw [data_length] at this
  simp only [List.length_nil] at this
  omega
theorem extract_size (p : ByteArray) (n : Nat) (h : n ≤ p.size) : (p.extract 0 n).size = n := by
  rw [ByteArray.size_extract]; omega
theorem sn_len (l : List Int) : (strOfNums l).size = l.length := by
  unfold strOfNums
  show (List.toArray _).size = _
  simp
theorem outK_rng (S T : List Int) : ∀ n, ∀ x ∈ Hand.outK S T n, 0 ≤ x ∧ x < 4294967296
  | 0, x, h => by simp [Hand.outK] at h
  | n + 1, x, h => by
    rw [Hand.outK, List.mem_append] at h
    rcases h with h | h
    · exact outK_rng S T n x h
    · obtain rfl := List.mem_singleton.1 h
      omega
theorem taken_rng (s : List Int) (b : ByteArray) (hs : s.length = 8) : ∀ x ∈ Hand.takenL s b, 0 ≤ x ∧ x < 4294967296 := by
  have hT : (Hand.sAll (Hand.wAll b 64) s 64).length = 8 := by
    obtain ⟨a, b1, c, d, e, f, g, h, eS⟩ := Hand.sAll_eight (Hand.wAll b 64) s hs 64
    rw [eS]; rfl
  unfold Hand.takenL
  rw [← Hand.outK_eq s _ hs hT]
  exact outK_rng _ _ 8
theorem eat_rng (s : List Int) (b : ByteArray) (hs : s.length = 8) (hr : ∀ x ∈ s, 0 ≤ x ∧ x < 4294967296) : ∀ n, ∀ x ∈ Hand.eat s b n, 0 ≤ x ∧ x < 4294967296
  | 0 => hr
  | n + 1 => taken_rng _ _ (by rw [Hand.eat_length]; exact hs)
theorem map_mod (s : List Int) (hr : ∀ x ∈ s, 0 ≤ x ∧ x < 4294967296) : s.map (· % 4294967296) = s := by
  have : s.map (· % 4294967296) = s.map id := List.map_congr_left (fun x hx => by have := hr x hx; simp only [id]; omega)
  rw [this, List.map_id]
theorem block_ok (s : List Int) (b : ByteArray) (hs : s.length = 8) (hr : ∀ x ∈ s, 0 ≤ x ∧ x < 4294967296) (hb : b.size = 64) : spec_l05Block.f s b = some (Hand.takenL s b) := by
  unfold spec_l05Block.f
  rw [if_pos ⟨hs, hb⟩, map_mod s hr]
theorem more_l (s : List Int) (t : ByteArray) (n : Int) (hs : s.length = 8) (hr : ∀ x ∈ s, 0 ≤ x ∧ x < 4294967296) (ht : t.size ≤ 2147483648) : ∀ (d i : Nat), i + d = t.size / 64 →
    Ev (fun k => spec_l05More.l0 k ((64 * i : Nat) : Int) (Hand.eat s t i) t n) (Hand.eat s t (t.size / 64), t.extract (64 * (t.size / 64)) t.size, n) := by
  intro d
  induction d with
  | zero =>
    intro i hi
    obtain rfl : i = t.size / 64 := by omega
    refine Ev.step (f := fun _ => some (Hand.eat s t (t.size / 64), t.extract (64 * (t.size / 64)) t.size, n)) (fun k => ?_) (Ev.now _)
    simp only [spec_l05More.l0]
    rw [w64 (by omega) (by omega), if_neg (by omega), if_pos (by omega), if_pos (by omega), Int.toNat_natCast]
  | succ d ih =>
    intro i hi
    have hr1 := ih (i + 1) (by omega)
    have ew : wrap64 (((64 * i : Nat) : Int) + 64) = ((64 * (i + 1) : Nat) : Int) := by rw [w64 (by omega) (by omega)]; omega
    have hb : (t.extract (64 * i) (64 * i + 64)).size = 64 := by rw [ByteArray.size_extract]; omega
    refine Ev.step (fun k => ?_) hr1
    simp only [spec_l05More.l0]
    rw [ew, w64 (by omega) (by omega), if_pos (by omega), if_pos (by omega), if_pos (by omega), if_pos (by omega), Int.toNat_natCast, Int.toNat_natCast]
    rw [show 64 * (i + 1) = 64 * i + 64 from rfl, block_ok _ _ (by rw [Hand.eat_length]; exact hs) (eat_rng s t hs hr i) hb, Option.bind_some]
    rfl
theorem more_ok (s : List Int) (r m : ByteArray) (n : Int) (hs : s.length = 8) (hr : ∀ x ∈ s, 0 ≤ x ∧ x < 4294967296) (hn : 0 ≤ n) (hn2 : n ≤ 1073741824) (hrs : r.size ≤ 1000) (hms : m.size ≤ 1073741824) :
    Ev (fun k => spec_l05More.f k s r n m) (Hand.eat s (r ++ m) ((r ++ m).size / 64), (r ++ m).extract (64 * ((r ++ m).size / 64)) (r ++ m).size, n + (m.size : Int)) := by
  unfold spec_l05More.f
  refine ev_bind1 rfl (ev_if_pos (by simp [hs]) (ev_if_pos (by omega) ?_))
  rw [w64 (by omega) (by omega), List.nil_append]
  have h := more_l s (r ++ m) (n + (m.size : Int)) hs hr (by rw [ByteArray.size_append]; omega) ((r ++ m).size / 64) 0 (by omega)
  exact h
/-- the bytes of a length in bits. -/
def lenL (n : Int) : Nat → List Int
  | 0 => []
  | j + 1 => lenL n j ++ [(wrap64 (n * 8) / 2 ^ (8 * (7 - j))) % 256]
theorem lenL_length (n : Int) : ∀ j, (lenL n j).length = j
  | 0 => rfl
  | j + 1 => by rw [lenL, List.length_append, lenL_length n j]; rfl
theorem lenL_rng (n : Int) : ∀ j, ∀ x ∈ lenL n j, 0 ≤ x ∧ x < 256
  | 0, x, h => by simp [lenL] at h
  | j + 1, x, h => by
    rw [lenL, List.mem_append] at h
    rcases h with h | h
    · exact lenL_rng n j x h
    · obtain rfl := List.mem_singleton.1 h
      omega
theorem bl_lenB (n : Int) : ∀ j, bl (Hand.lenB n j) = (lenL n j).map Int.toNat
  | 0 => rfl
  | j + 1 => by
    rw [Hand.lenB, bl_append, bl_lenB n j, lenL, List.map_append, bl_strOfNums _ (fun x hx => by obtain rfl := List.mem_singleton.1 hx; omega)]
theorem bl_zeros : ∀ z, bl (Hand.zeros z) = List.replicate z 0
  | 0 => rfl
  | z + 1 => by
    have h := bl_zeros z
    unfold Hand.zeros bl at h ⊢
    rw [Lib.repeatL, List.replicate_succ, ← h]
    rfl
def zs (r : ByteArray) : Nat := (120 - (r.size + 1)) % 64
def padL (r : ByteArray) (n : Int) : List Int := [128] ++ List.replicate (zs r) 0 ++ lenL n 8
theorem pad_eq (r : ByteArray) (n : Int) : r ++ strOfNums (padL r n) = Hand.pad r n := by
  apply bl_inj
  have hrng : ∀ x ∈ padL r n, 0 ≤ x ∧ x < 256 := by
    intro x hx
    unfold padL at hx
    rw [List.mem_append, List.mem_append] at hx
    rcases hx with (h | h) | h
    · obtain rfl := List.mem_singleton.1 h
      omega
    · have := (List.mem_replicate.1 h).2
      omega
    · exact lenL_rng n 8 x h
  rw [bl_append, bl_strOfNums _ hrng]
  unfold Hand.pad Hand.pad2 Hand.pad1
  rw [bl_append, bl_append, bl_append, bl_zeros, bl_lenB]
  unfold padL zs
  rw [List.map_append, List.map_append, List.map_replicate]
  simp only [List.append_assoc]
  rfl
theorem out_l (A : List Int) (r : ByteArray) (n : Int) (hA : A.length = 8) : ∀ (d i : Nat), i + d = 8 → Ev (fun k => spec_l05End.l2 k (Hand.outL A i) (i : Int) A r n) (strOfNums (Hand.outL A 8)) := by
  intro d
  induction d with
  | zero =>
    intro i hi
    obtain rfl : i = 8 := by omega
    refine Ev.step (f := fun _ => some (strOfNums (Hand.outL A 8))) (fun k => ?_) (Ev.now _)
    simp only [spec_l05End.l2]
    rw [if_neg (by omega)]
  | succ d ih =>
    intro i hi
    have hr := ih (i + 1) (by omega)
    have hl := Hand.outL_length A i
    refine Ev.step (fun k => ?_) hr
    simp only [spec_l05End.l2]
    rw [if_pos (by omega), if_pos (by omega), if_pos (by omega), Option.bind_some, if_pos (by simp; omega), w64 (by omega) (by omega)]
    rfl
theorem sh_ok (n : Int) (j : Nat) (hj : j < 8) (h0 : 0 ≤ n) (h1 : n ≤ 1073741824) : shr .u64 (IntKind.u64.wrap (wrap64 (8 * n))) (IntKind.u64.wrap (((8 * (7 - j) : Nat) : Int))) % 256 = (wrap64 (n * 8) / 2 ^ (8 * (7 - j))) % 256 := by
  rw [w64 (by omega) (by omega), w64 (by omega) (by omega), IntKind.wrap_u64, IntKind.wrap_u64]
  unfold shr
  rw [show (8 * n) % 18446744073709551616 = n * 8 by omega, show (((8 * (7 - j) : Nat) : Int)) % 18446744073709551616 = ((8 * (7 - j) : Nat) : Int) by omega, Int.toNat_natCast]
  rw [show min (8 * (7 - j)) IntKind.u64.bits = 8 * (7 - j) by show min _ 64 = _; omega]
theorem end_l1 (s : List Int) (r : ByteArray) (n : Int) (hs : s.length = 8) (hr : ∀ x ∈ s, 0 ≤ x ∧ x < 4294967296) (h0 : 0 ≤ n) (h1 : n ≤ 1000000) (hrs : r.size ≤ 1000) : ∀ (d j : Nat), j + d = 8 →
    Ev (fun k => spec_l05End.l1 k ([128] ++ List.replicate (zs r) 0 ++ lenL n j) (IntKind.u64.wrap (wrap64 (8 * n))) (56 - 8 * (j : Int)) s r n) (Hand.summedL s r n) := by
  have hz : zs r < 64 := by unfold zs; omega
  intro d
  induction d with
  | zero =>
    intro j hj
    obtain rfl : j = 8 := by omega
    have hm : (strOfNums (padL r n)).size ≤ 1073741824 := by
      rw [sn_len]; unfold padL; simp only [List.length_append, List.length_replicate, lenL_length, List.length_singleton]; omega
    have h := more_ok s r (strOfNums (padL r n)) n hs hr h0 (by omega) hrs hm
    rw [pad_eq] at h
    refine Ev.step (f := fun k => (spec_l05More.f k s r n (strOfNums (padL r n))).bind fun bt126 => (spec_l05End.l2 k (([] : List Int)) 0 bt126.1 bt126.2.1 bt126.2.2)) (fun k => ?_) (Ev.bind h ?_)
    · simp only [spec_l05End.l1]
      rw [if_neg (by omega)]
      rfl
    · have ho := out_l (Hand.eat s (Hand.pad r n) ((Hand.pad r n).size / 64)) ((Hand.pad r n).extract (64 * ((Hand.pad r n).size / 64)) (Hand.pad r n).size) (n + ((strOfNums (padL r n)).size : Int)) (by rw [Hand.eat_length]; exact hs) 8 0 (by omega)
      exact ho
  | succ d ih =>
    intro j hj
    have h := ih (j + 1) (by omega)
    have e1 : (56 - 8 * (j : Int)) = ((8 * (7 - j) : Nat) : Int) := by omega
    have e2 : wrap64 (((8 * (7 - j) : Nat) : Int) - 8) = 56 - 8 * ((j + 1 : Nat) : Int) := by rw [w64 (by omega) (by omega)]; omega
    refine Ev.step (fun k => ?_) h
    simp only [spec_l05End.l1, e1]
    rw [if_pos (by omega), if_pos (by rw [IntKind.wrap_u64]; omega), if_pos (by simp only [List.length_append, List.length_replicate, lenL_length, List.length_singleton]; omega), sh_ok n j (by omega) h0 (by omega), e2, lenL, List.append_assoc ([128] ++ List.replicate (zs r) 0)]
theorem end_ok (s : List Int) (r : ByteArray) (n : Int) (hs : s.length = 8) (hr : ∀ x ∈ s, 0 ≤ x ∧ x < 4294967296) (h0 : 0 ≤ n) (h1 : n ≤ 1000000) (hrn : (r.size : Int) = n % 64) : Ev (fun k => spec_l05End.f k s r n) (Hand.summedL s r n) := by
  have hz : zs r = (120 - (r.size + 1)) % 64 := rfl
  have hz2 : zs r < 64 := by omega
  have main : ∀ (d j : Nat), j + d = zs r → Ev (fun k => spec_l05End.l0 k ([128] ++ List.replicate j 0) s r n) (Hand.summedL s r n) := by
    intro d
    induction d with
    | zero =>
      intro j hj
      obtain rfl : j = zs r := by omega
      have h := end_l1 s r n hs hr h0 h1 (by omega) 8 0 (by omega)
      refine Ev.step (fun k => ?_) h
      simp only [spec_l05End.l0]
      rw [w64 (by simp only [List.length_append, List.length_replicate, List.length_singleton]; omega) (by simp only [List.length_append, List.length_replicate, List.length_singleton]; omega), Int.tmod_eq_emod_of_nonneg (by omega), if_pos (by simp only [List.length_append, List.length_replicate, List.length_singleton]; omega)]
      simp only [lenL, List.append_nil]
      rfl
    | succ d ih =>
      intro j hj
      have h := ih (j + 1) (by omega)
      refine Ev.step (fun k => ?_) h
      simp only [spec_l05End.l0]
      rw [w64 (by simp only [List.length_append, List.length_replicate, List.length_singleton]; omega) (by simp only [List.length_append, List.length_replicate, List.length_singleton]; omega), Int.tmod_eq_emod_of_nonneg (by omega), if_neg (by simp only [List.length_append, List.length_replicate, List.length_singleton]; omega), if_pos (by simp only [List.length_append, List.length_replicate, List.length_singleton]; omega)]
      rw [List.append_assoc, ← List.replicate_succ']
  have h := main (zs r) 0 (by omega)
  unfold spec_l05End.f
  exact h
theorem first_ok : Hand.firstL.length = 8 ∧ ∀ x ∈ Hand.firstL, 0 ≤ x ∧ x < 4294967296 := by decide
theorem nil_app (a : ByteArray) : (⟨#[]⟩ : ByteArray) ++ a = a := bl_inj (by rw [bl_append]; rfl)
theorem digest_i (a : ByteArray) (h : a.size ≤ 20000) : impl_digest.f a = some (Hand.digestL a) := by
  unfold impl_digest.f
  rw [if_pos (by omega)]
theorem digest_size (a : ByteArray) : (Hand.digestL a).size = 32 := by
  unfold Hand.digestL Hand.summedL
  rw [sn_len, Hand.outL_length]
theorem ext_pre (a b : ByteArray) (i j : Nat) (h : j ≤ a.size) : (a ++ b).extract i j = a.extract i j := by
  apply bl_inj
  rw [bl_extract, bl_extract, bl_append, List.take_append_of_le_length (by rw [bl_length]; exact h)]
theorem ext_suf (a b : ByteArray) (p i j : Nat) (h : p ≤ a.size) : (a ++ b).extract (p + i) (p + j) = (a.extract p a.size ++ b).extract i j := by
  apply bl_inj
  rw [bl_extract, bl_extract, bl_append, bl_append, bl_extract]
  have e : bl a = (bl a).take p ++ (bl a).drop p := (List.take_append_drop p _).symm
  have hp : ((bl a).take p).length = p := by rw [List.length_take, bl_length]; omega
  have e2 : (bl a).take a.size = bl a := List.take_of_length_le (by rw [bl_length]; omega)
  rw [e2]
  conv => lhs; rw [e, List.append_assoc]
  have e3 : List.take (p + j) (List.take p (bl a) ++ (List.drop p (bl a) ++ bl b)) = List.take p (bl a) ++ List.take j (List.drop p (bl a) ++ bl b) := by
    have := List.take_length_add_append (l₁ := List.take p (bl a)) (l₂ := List.drop p (bl a) ++ bl b) (i := j)
    rw [hp] at this
    exact this
  have e4 : ∀ l : List Nat, List.drop (p + i) (List.take p (bl a) ++ l) = List.drop i l := by
    intro l
    have := List.drop_length_add_append (l₁ := List.take p (bl a)) (l₂ := l) (i := i)
    rw [hp] at this
    exact this
  rw [e3, e4]
theorem eat_pre (s : List Int) (a b : ByteArray) : ∀ n, 64 * n ≤ a.size → Hand.eat s (a ++ b) n = Hand.eat s a n
  | 0, _ => rfl
  | n + 1, h => by rw [Hand.eat, Hand.eat, eat_pre s a b n (by omega), ext_pre _ _ _ _ (by omega)]
theorem eat_suf (s : List Int) (a b : ByteArray) (p : Nat) (h : 64 * p ≤ a.size) : ∀ n, Hand.eat s (a ++ b) (p + n) = Hand.eat (Hand.eat s a p) (a.extract (64 * p) a.size ++ b) n
  | 0 => eat_pre s a b p h
  | n + 1 => by
    rw [← Nat.add_assoc, Hand.eat, Hand.eat, eat_suf s a b p h n, ← ext_suf a b (64 * p) (64 * n) (64 * n + 64) h]
    rw [show 64 * (p + n) = 64 * p + 64 * n by omega, Nat.add_assoc]
theorem digest2_s (a b : ByteArray) (ha : a.size ≤ 20000) (hb : b.size ≤ 20000) : Ev (fun k => (spec_HashBegin.f).bind fun x => (spec_l05More.f k x.1 x.2.1 x.2.2 a).bind fun y => (spec_l05More.f k y.1 y.2.1 y.2.2 b).bind fun z => (spec_l05End.f k z.1 z.2.1 z.2.2).bind fun t => some t) (Hand.digestL (a ++ b)) := by
  refine ev_bind1 rfl ?_
  have hm := more_ok Hand.firstL ⟨#[]⟩ a 0 first_ok.1 first_ok.2 (by omega) (by omega) (by show 0 ≤ 1000; omega) (by omega)
  rw [nil_app, Int.zero_add] at hm
  refine Ev.bind hm ?_
  have hp : 64 * (a.size / 64) ≤ a.size := by omega
  have hr : (a.extract (64 * (a.size / 64)) a.size).size ≤ 1000 := by rw [ByteArray.size_extract]; omega
  have h2 := more_ok (Hand.eat Hand.firstL a (a.size / 64)) (a.extract (64 * (a.size / 64)) a.size) b (a.size : Int) (by rw [Hand.eat_length]; exact first_ok.1) (eat_rng _ _ first_ok.1 first_ok.2 _) (by omega) (by omega) hr (by omega)
  refine Ev.bind h2 ?_
  have hs : (a.extract (64 * (a.size / 64)) a.size ++ b).size = a.size % 64 + b.size := by rw [ByteArray.size_append, ByteArray.size_extract]; omega
  have hd : (a ++ b).size / 64 = a.size / 64 + (a.extract (64 * (a.size / 64)) a.size ++ b).size / 64 := by rw [hs, ByteArray.size_append]; omega
  have e1 := eat_suf Hand.firstL a b (a.size / 64) hp ((a.extract (64 * (a.size / 64)) a.size ++ b).size / 64)
  rw [← hd] at e1
  have e2 := ext_suf a b (64 * (a.size / 64)) (64 * ((a.extract (64 * (a.size / 64)) a.size ++ b).size / 64)) ((a.extract (64 * (a.size / 64)) a.size ++ b).size) hp
  rw [show 64 * (a.size / 64) + 64 * ((a.extract (64 * (a.size / 64)) a.size ++ b).size / 64) = 64 * ((a ++ b).size / 64) by omega, show 64 * (a.size / 64) + (a.extract (64 * (a.size / 64)) a.size ++ b).size = (a ++ b).size by rw [hs, ByteArray.size_append]; omega] at e2
  rw [← e1, ← e2]
  have he := end_ok (Hand.eat Hand.firstL (a ++ b) ((a ++ b).size / 64)) ((a ++ b).extract (64 * ((a ++ b).size / 64)) (a ++ b).size) ((a.size : Int) + (b.size : Int)) (by rw [Hand.eat_length]; exact first_ok.1) (eat_rng _ _ first_ok.1 first_ok.2 _) (by omega) (by omega) (by rw [ByteArray.size_extract, ByteArray.size_append]; omega)
  have hsz : (((a ++ b).size : Nat) : Int) = (a.size : Int) + (b.size : Int) := by rw [ByteArray.size_append]; omega
  unfold Hand.digestL
  rw [hsz]
  exact Ev.bind he (Ev.now _)
theorem putNum_s_l0 (m : Nat) : ∀ (v k : Nat) (acc : List Int), v < 128 ^ (m + 1) → v < 18446744073709551616 → acc.length + m + 1 ≤ 140737488355328 → m < k → spec_PutNum.l0 k (v : Int) acc = some (strOfNums (acc ++ numL v)) := by
  induction m with
  | zero =>
    intro v k acc hv hv2 ha hk
    obtain ⟨k, rfl⟩ : ∃ m, k = m + 1 := ⟨k - 1, by omega⟩
    have hv' : v < 128 := by simpa using hv
    simp only [spec_PutNum.l0]
    rw [if_neg (by omega), if_pos (by omega), numL_lt hv']
    congr 4
    omega
  | succ m ih =>
    intro v k acc hv hv2 ha hk
    obtain ⟨k, rfl⟩ : ∃ m, k = m + 1 := ⟨k - 1, by omega⟩
    by_cases h : v < 128
    · simp only [spec_PutNum.l0]
      rw [if_neg (by omega), if_pos (by omega), numL_lt h]
      congr 4
      omega
    · have e1 : IntKind.u64.wrap (Int.tdiv (v : Int) 128) = ((v / 128 : Nat) : Int) := by
        rw [Int.tdiv_eq_ediv_of_nonneg (by omega), IntKind.wrap_u64]
        omega
      have e2 : (IntKind.u64.wrap ((Int.tmod (v : Int) 128) + 128)) % 256 = ((v % 128 + 128 : Nat) : Int) := by
        rw [Int.tmod_eq_emod_of_nonneg (by omega), IntKind.wrap_u64]
        omega
      simp only [spec_PutNum.l0, e1, e2]
      rw [if_pos (by omega), if_pos (by omega), ih (v / 128) k _ (by rw [Nat.div_lt_iff_lt_mul (by decide)]; rw [← Nat.pow_succ]; exact hv) (by omega) (by simp; omega) (by omega), numL_ge h]
      simp
theorem putNum_s (n : Int) (h0 : -9223372036854775808 ≤ n) (h1 : n ≤ 9223372036854775807) (k : Nat) (hk : 10 ≤ k) : spec_PutNum.f k n = some (putNum n) := by
  have e : spec_l01Fold.f n = some ((fold n : Nat) : Int) := by
    unfold spec_l01Fold.f fold
    by_cases h : n < 0
    · rw [if_pos h, if_pos h]
      simp only [IntKind.wrap_u64, wrap64]
      congr 1
      omega
    · rw [if_neg h, if_neg h]
      simp only [IntKind.wrap_u64]
      congr 1
      omega
  have hf := fold_lt n h0 h1
  unfold spec_PutNum.f
  rw [e, Option.bind_some, putNum_s_l0 9 _ k _ (Nat.lt_of_lt_of_le hf (by decide)) hf (by simp) (by omega)]
  simp [putNum]
theorem within_eq (a b c : Int) : impl_within.f a b c = some (decide (b ≤ a) && decide (a ≤ c)) := by
  unfold impl_within.f
  by_cases h : a ≥ b <;> simp [h]
theorem codeRight_s (a b : Int) : spec_CodeRight.f a b = some ((decide (1 ≤ a) && decide (a ≤ 8)) && (decide (0 ≤ b) && decide (b ≤ 6))) := by
  unfold spec_CodeRight.f
  by_cases h1 : a ≥ 1 <;> by_cases h2 : a ≤ 8 <;> by_cases h3 : b ≥ 0 <;> simp [h1, h2, h3]
theorem codeRight_i (a b : Int) : impl_CodeRight.f a b = some ((decide (1 ≤ a) && decide (a ≤ 8)) && (decide (0 ≤ b) && decide (b ≤ 6))) := by
  unfold impl_CodeRight.f
  rw [within_eq]
  simp only [within_eq, Option.bind_some]
  by_cases h1 : 1 ≤ a <;> by_cases h2 : a ≤ 8 <;> simp [h1, h2]
def shardSize (k n : Int) : Int := if (1 ≤ k ∧ k ≤ 8) ∧ (0 ≤ n ∧ n ≤ 20000) then (n + k - 1) / k else 0
theorem shardDiv (k n : Int) (h1 : 1 ≤ k) (h2 : k ≤ 8) (h3 : 0 ≤ n) (h4 : n ≤ 20000) : wrap64 (Int.tdiv (wrap64 ((wrap64 (n + k)) - 1)) k) = (n + k - 1) / k := by
  have e0 : wrap64 (n + k) = n + k := by rw [w64 (by omega) (by omega)]
  rw [e0]
  have e1 : wrap64 (n + k - 1) = n + k - 1 := by rw [w64 (by omega) (by omega)]
  rw [e1]
  rw [Int.tdiv_eq_ediv_of_nonneg (by omega)]
  have h5 : 0 ≤ (n + k - 1) / k := Int.ediv_nonneg (by omega) (by omega)
  have h6 : (n + k - 1) / k ≤ n + k - 1 := Int.ediv_le_self _ (by omega)
  rw [w64 (by omega) (by omega)]
theorem shardSize_s (k n : Int) : spec_ShardSize.f k n = some (shardSize k n) := by
  unfold spec_ShardSize.f
  rw [codeRight_s]
  have e : spec_l04Size.f n = some (decide (0 ≤ n) && decide (n ≤ 20000)) := by
    unfold spec_l04Size.f
    by_cases h : n ≥ 0 <;> simp [h]
  rw [e]
  simp only [Option.bind_some, shardSize]
  by_cases h1 : 1 ≤ k
  · by_cases h2 : k ≤ 8
    · by_cases h3 : 0 ≤ n
      · by_cases h4 : n ≤ 20000
        · rw [shardDiv k n h1 h2 h3 h4, if_pos (by simp [h1, h2]), if_pos (by simp [h3, h4]), if_neg (by omega), if_pos ⟨⟨h1, h2⟩, h3, h4⟩]
        · simp [h1, h2, h3, h4]
      · simp [h1, h2, h3]
    · simp [h1, h2]
  · simp [h1]
theorem shardSize_i (k n : Int) : impl_ShardSize.f k n = some (shardSize k n) := by
  unfold impl_ShardSize.f
  simp only [within_eq, Option.bind_some, shardSize]
  by_cases h1 : 1 ≤ k
  · by_cases h2 : k ≤ 8
    · by_cases h3 : 0 ≤ n
      · by_cases h4 : n ≤ 20000
        · rw [shardDiv k n h1 h2 h3 h4, if_pos (by simp [h1, h2]), if_pos (by simp [h3, h4]), if_neg (by omega), if_pos ⟨⟨h1, h2⟩, h3, h4⟩]
        · simp [h1, h2, h3, h4]
      · simp [h1, h2, h3]
    · simp [h1, h2]
  · simp [h1]
def frameRight (k m i n : Int) (w t : ByteArray) : Bool := ((decide (1 ≤ k) && decide (k ≤ 8)) && (decide (0 ≤ m) && decide (m ≤ 6))) && ((decide (0 ≤ i) && decide (i < k + m)) && ((decide (0 ≤ n) && decide (n ≤ 12000)) && (((w.size : Int) == 32) && ((t.size : Int) == shardSize k n))))
theorem frameRight_s (k m i n : Int) (w t : ByteArray) : spec_FrameRight.f k m i n w t = some (frameRight k m i n w t) := by
  unfold spec_FrameRight.f
  simp only [codeRight_s, shardSize_s, Option.bind_some, frameRight]
  by_cases h1 : (decide (1 ≤ k) && decide (k ≤ 8) && (decide (0 ≤ m) && decide (m ≤ 6))) = true
  · rw [if_pos h1]
    have e : wrap64 (k + m) = k + m := by
      simp at h1
      rw [w64 (by omega) (by omega)]
    rw [e]
    simp only [h1, Bool.true_and]
    by_cases h2 : i ≥ 0 <;> by_cases h3 : i < k + m <;> by_cases h4 : n ≥ 0 <;> by_cases h5 : n ≤ 12000 <;> by_cases h6 : (w.size : Int) = 32 <;> simp [h2, h3, h4, h5, h6]
  · rw [if_neg h1]
    simp only [Bool.not_eq_true] at h1
    rw [h1]
    rfl
theorem frameRight_i (k m i n : Int) (w t : ByteArray) : impl_FrameRight.f k m i n w t = some (frameRight k m i n w t) := by
  unfold impl_FrameRight.f
  simp only [codeRight_i, shardSize_i, within_eq, impl_long.f, Option.bind_some, frameRight]
  by_cases h1 : (decide (1 ≤ k) && decide (k ≤ 8) && (decide (0 ≤ m) && decide (m ≤ 6))) = true
  · rw [if_pos h1]
    have e : wrap64 (wrap64 (k + m) - 1) = k + m - 1 := by
      simp at h1
      rw [w64 (n := k + m) (by omega) (by omega), w64 (by omega) (by omega)]
    rw [e]
    have e2 : decide (i ≤ k + m - 1) = decide (i < k + m) := decide_eq_decide.2 (by omega)
    simp only [h1, Bool.true_and, e2]
    by_cases h2 : i ≥ 0 <;> by_cases h3 : i < k + m <;> by_cases h4 : n ≥ 0 <;> by_cases h5 : n ≤ 12000 <;> by_cases h6 : (w.size : Int) = 32 <;> simp [h2, h3, h4, h5, h6]
  · rw [if_neg h1]
    simp only [Bool.not_eq_true] at h1
    rw [h1]
    rfl
theorem or128 (y : Nat) (h : y < 128) : Go.bits .or .u8 (((y : Nat) : Int) % 256) 128 = ((y + 128 : Nat) : Int) := by
  have e : ((y : Nat) : Int) % 256 = (y : Int) := by omega
  rw [e]
  refine (u8_or_nat y 128 (by omega) (by omega)).trans ?_
  have := nat_join 7 128 y (by decide) (by omega)
  rw [Nat.or_comm, this]
  congr 1
  omega
theorem putNum_i_l0 (m : Nat) : ∀ (v k : Nat) (acc : List Int), v < 128 ^ (m + 1) → v < 18446744073709551616 → acc.length + m + 1 ≤ 140737488355328 → m < k → impl_PutNum.l0 k (v : Int) acc = some (strOfNums (acc ++ numL v)) := by
  induction m with
  | zero =>
    intro v k acc hv hv2 ha hk
    obtain ⟨k, rfl⟩ : ∃ m, k = m + 1 := ⟨k - 1, by omega⟩
    have hv' : v < 128 := by simpa using hv
    simp only [impl_PutNum.l0]
    rw [if_neg (by omega), if_pos (by omega), numL_lt hv']
    congr 4
    omega
  | succ m ih =>
    intro v k acc hv hv2 ha hk
    obtain ⟨k, rfl⟩ : ∃ m, k = m + 1 := ⟨k - 1, by omega⟩
    by_cases h : v < 128
    · simp only [impl_PutNum.l0]
      rw [if_neg (by omega), if_pos (by omega), numL_lt h]
      congr 4
      omega
    · have e1 : (v : Int) / 128 = ((v / 128 : Nat) : Int) := by omega
      have e2 : Go.bits .or .u8 ((Go.bits .and .u64 (v : Int) 127) % 256) 128 = ((v % 128 + 128 : Nat) : Int) := by
        have e3 : Go.bits .and .u64 (v : Int) 127 = ((v % 128 : Nat) : Int) := by
          have := u64_and_nat v 127 hv2 (by decide)
          rw [nat_mask7] at this
          exact this
        rw [e3, or128 _ (by omega)]
      simp only [impl_PutNum.l0, e1, e2]
      rw [if_pos (by omega), if_pos (by omega), ih (v / 128) k _ (by rw [Nat.div_lt_iff_lt_mul (by decide)]; rw [← Nat.pow_succ]; exact hv) (by omega) (by simp; omega) (by omega), numL_ge h]
      simp
theorem fold_bits (n : Int) (h0 : -9223372036854775808 ≤ n) (h1 : n ≤ 9223372036854775807) : Go.bits .xor .u64 (IntKind.u64.wrap ((IntKind.u64.wrap n) * 2)) (IntKind.u64.wrap (n / 9223372036854775808)) = ((fold n : Nat) : Int) := by
  simp only [IntKind.wrap_u64]
  unfold fold
  by_cases h : n < 0
  · rw [if_pos h]
    have e1 : n / 9223372036854775808 % 18446744073709551616 = ((18446744073709551615 : Nat) : Int) := by omega
    have e2 : n % 18446744073709551616 * 2 % 18446744073709551616 = (((n % 18446744073709551616 * 2 % 18446744073709551616).toNat : Nat) : Int) := by omega
    rw [e1, e2, u64_xor_nat _ _ (by omega) (by omega), xor_ones _ (by omega)]
    omega
  · rw [if_neg h]
    have e1 : n / 9223372036854775808 % 18446744073709551616 = ((0 : Nat) : Int) := by omega
    have e2 : n % 18446744073709551616 * 2 % 18446744073709551616 = (((2 * n).toNat : Nat) : Int) := by omega
    rw [e1, e2, u64_xor_nat _ _ (by omega) (by omega)]
    simp
theorem putNum_i (n : Int) (h0 : -9223372036854775808 ≤ n) (h1 : n ≤ 9223372036854775807) (k : Nat) (hk : 10 ≤ k) : impl_PutNum.f k n = some (putNum n) := by
  have hf := fold_lt n h0 h1
  unfold impl_PutNum.f
  rw [fold_bits n h0 h1, putNum_i_l0 9 _ k _ (Nat.lt_of_lt_of_le hf (by decide)) hf (by simp) (by omega)]
  simp [putNum]
theorem ba_inj {a b : ByteArray} (h : a.toList = b.toList) : a = b := by
  rw [ByteArray.toList_eq, ByteArray.toList_eq] at h
  exact ByteArray.ext (Array.toList_inj.1 h)
/-- what a frame is written as, ahead of its sum. -/
def headB (a b c d : Int) (root : ByteArray) : ByteArray := ((((⟨#[70]⟩ : ByteArray) ++ putNum a) ++ putNum b) ++ putNum c) ++ putNum d ++ root
theorem fbytes_ok (a b c d : Int) (root shard : ByteArray) (ha : -9223372036854775808 ≤ a ∧ a ≤ 9223372036854775807) (hb : -9223372036854775808 ≤ b ∧ b ≤ 9223372036854775807) (hc : -9223372036854775808 ≤ c ∧ c ≤ 9223372036854775807) (hd : -9223372036854775808 ≤ d ∧ d ≤ 9223372036854775807) (hr2 : root.size ≤ 32) (hs : shard.size ≤ 20000) (hh : (headB a b c d root ++ shard).size ≤ 20000) :
    Ev (fun k => impl_Frame_bytes.f k a b c d root shard) (((headB a b c d root) ++ Hand.digestL (headB a b c d root ++ shard)) ++ shard) := by
  have za := putNum_size a ha.1 ha.2
  have zb := putNum_size b hb.1 hb.2
  have zc := putNum_size c hc.1 hc.2
  have zd := putNum_size d hd.1 hd.2
  have ez : ((⟨#[70]⟩ : ByteArray)).size = 1 := rfl
  have hdg := digest_size (headB a b c d root ++ shard)
  have hw := digest_i (headB a b c d root ++ shard) hh
  unfold headB at hw hdg ⊢
  refine Ev.bind (ev_from 10 (fun k hk => putNum_i a ha.1 ha.2 k hk)) (ev_if_pos (by omega) ?_)
  refine Ev.bind (ev_from 10 (fun k hk => putNum_i b hb.1 hb.2 k hk)) (ev_if_pos (by simp only [ByteArray.size_append, ez]; omega) ?_)
  refine Ev.bind (ev_from 10 (fun k hk => putNum_i c hc.1 hc.2 k hk)) (ev_if_pos (by simp only [ByteArray.size_append, ez]; omega) ?_)
  refine Ev.bind (ev_from 10 (fun k hk => putNum_i d hd.1 hd.2 k hk)) (ev_if_pos (by simp only [ByteArray.size_append, ez]; omega) ?_)
  refine ev_if_pos (by simp only [ByteArray.size_append, ez]; omega) (ev_if_pos (by simp only [ByteArray.size_append, ez]; omega) (ev_bind1 hw ?_))
  exact ev_if_pos (by simp only [ByteArray.size_append, ez] at hdg ⊢; omega) (ev_if_pos (by simp only [ByteArray.size_append, ez] at hdg ⊢; omega) (Ev.now _))
theorem shardSize_le (k n : Int) (h0 : 0 ≤ n) (h : n ≤ 12000) : shardSize k n ≤ 12000 := by
  unfold shardSize
  split
  · rename_i h
    obtain rfl | rfl | rfl | rfl | rfl | rfl | rfl | rfl : k = 1 ∨ k = 2 ∨ k = 3 ∨ k = 4 ∨ k = 5 ∨ k = 6 ∨ k = 7 ∨ k = 8 := by omega
    all_goals omega
  · omega
theorem head_s (a b c d : Int) (root shard : ByteArray) (ha : -9223372036854775808 ≤ a ∧ a ≤ 9223372036854775807) (hb : -9223372036854775808 ≤ b ∧ b ≤ 9223372036854775807) (hc : -9223372036854775808 ≤ c ∧ c ≤ 9223372036854775807) (hd : -9223372036854775808 ≤ d ∧ d ≤ 9223372036854775807) (hr2 : root.size ≤ 32) :
    Ev (fun k => spec_l09Head.f k a b c d root shard) (headB a b c d root) := by
  have za := putNum_size a ha.1 ha.2
  have zb := putNum_size b hb.1 hb.2
  have zc := putNum_size c hc.1 hc.2
  have zd := putNum_size d hd.1 hd.2
  have ez : ((⟨#[70]⟩ : ByteArray)).size = 1 := rfl
  unfold headB
  refine Ev.bind (ev_from 10 (fun k hk => putNum_s a ha.1 ha.2 k hk)) (ev_if_pos (by omega) ?_)
  refine Ev.bind (ev_from 10 (fun k hk => putNum_s b hb.1 hb.2 k hk)) (ev_if_pos (by simp only [ByteArray.size_append, ez]; omega) ?_)
  refine Ev.bind (ev_from 10 (fun k hk => putNum_s c hc.1 hc.2 k hk)) (ev_if_pos (by simp only [ByteArray.size_append, ez]; omega) ?_)
  refine Ev.bind (ev_from 10 (fun k hk => putNum_s d hd.1 hd.2 k hk)) (ev_if_pos (by simp only [ByteArray.size_append, ez]; omega) ?_)
  exact ev_if_pos (by simp only [ByteArray.size_append, ez]; omega) (Ev.now _)
theorem headB_size (a b c d : Int) (root : ByteArray) (ha : -9223372036854775808 ≤ a ∧ a ≤ 9223372036854775807) (hb : -9223372036854775808 ≤ b ∧ b ≤ 9223372036854775807) (hc : -9223372036854775808 ≤ c ∧ c ≤ 9223372036854775807) (hd : -9223372036854775808 ≤ d ∧ d ≤ 9223372036854775807) : (headB a b c d root).size ≤ 41 + root.size := by
  have za := putNum_size a ha.1 ha.2
  have zb := putNum_size b hb.1 hb.2
  have zc := putNum_size c hc.1 hc.2
  have zd := putNum_size d hd.1 hd.2
  have ez : ((⟨#[70]⟩ : ByteArray)).size = 1 := rfl
  unfold headB
  simp only [ByteArray.size_append, ez]
  omega
/-- what both sides write for a frame. -/
def frameV (a b c d : Int) (root shard : ByteArray) : ByteArray := if frameRight a b c d root shard = true then (headB a b c d root ++ Hand.digestL (headB a b c d root ++ shard)) ++ shard else ⟨#[]⟩
theorem frameRight_of {a b c d : Int} {root shard : ByteArray} (hf : frameRight a b c d root shard = true) : root.size = 32 ∧ shard.size ≤ 12000 := by
  simp only [frameRight, Bool.and_eq_true, decide_eq_true_eq, beq_iff_eq] at hf
  have hsz := shardSize_le a d (by omega) (by omega)
  omega
/-- both sides, at any frame. -/
theorem frameBytes_both (a b c d : Int) (root shard : ByteArray) (ha : -9223372036854775808 ≤ a ∧ a ≤ 9223372036854775807) (hb : -9223372036854775808 ≤ b ∧ b ≤ 9223372036854775807) (hc : -9223372036854775808 ≤ c ∧ c ≤ 9223372036854775807) (hd : -9223372036854775808 ≤ d ∧ d ≤ 9223372036854775807) :
    Ev (fun k => spec_FrameBytes.f k a b c d root shard) (frameV a b c d root shard) ∧ Ev (fun k => impl_FrameBytes.f k a b c d root shard) (frameV a b c d root shard) := by
  unfold spec_FrameBytes.f impl_FrameBytes.f frameV
  have hs := frameRight_s a b c d root shard
  have hi := frameRight_i a b c d root shard
  cases hf : frameRight a b c d root shard with
  | false =>
    rw [hf] at hs hi
    rw [if_neg (by simp)]
    exact ⟨ev_bind1 hs (ev_if_neg (by simp) (Ev.now _)), ev_bind1 hi (ev_if_neg (by simp) (Ev.now _))⟩
  | true =>
    rw [hf] at hs hi
    rw [if_pos rfl]
    obtain ⟨hw, hm⟩ := frameRight_of hf
    have hh := headB_size a b c d root ha hb hc hd
    have hds := digest_size (headB a b c d root ++ shard)
    have hB := fbytes_ok a b c d root shard ha hb hc hd (by omega) (by omega) (by rw [ByteArray.size_append]; omega)
    exact ⟨ev_bind1 hs (ev_if_pos rfl (Ev.bind (head_s a b c d root shard ha hb hc hd (by omega)) (Ev.bind (digest2_s (headB a b c d root) shard (by omega) (by omega)) (ev_if_pos (by omega) (ev_if_pos (by rw [ByteArray.size_append]; omega) (Ev.now _)))))), ev_bind1 hi (ev_if_pos rfl (Ev.bind hB (Ev.now _)))⟩
theorem frameV_size (a b c d : Int) (root shard : ByteArray) (ha : -9223372036854775808 ≤ a ∧ a ≤ 9223372036854775807) (hb : -9223372036854775808 ≤ b ∧ b ≤ 9223372036854775807) (hc : -9223372036854775808 ≤ c ∧ c ≤ 9223372036854775807) (hd : -9223372036854775808 ≤ d ∧ d ≤ 9223372036854775807) : (frameV a b c d root shard).size ≤ 12200 := by
  unfold frameV
  cases hf : frameRight a b c d root shard with
  | false => rw [if_neg (by simp)]; exact Nat.zero_le _
  | true =>
    rw [if_pos rfl]
    obtain ⟨hw, hm⟩ := frameRight_of hf
    have hh := headB_size a b c d root ha hb hc hd
    have hds := digest_size (headB a b c d root ++ shard)
    simp only [ByteArray.size_append]
    omega
theorem FnExactFrameBytes : FnExactFrameBytes_Pure := by
  intro a b c d root shard ha hb hc hd _ _
  refine Ev.rounds (g := fun k => laws_FnExactFrameBytes.f k a b c d root shard) ?_
  unfold laws_FnExactFrameBytes.f
  have ⟨r, hr⟩ : ∃ r, laws_szFrame.f a b c d root shard 1048576 = some r := by
    unfold laws_szFrame.f
    split
    · exact ⟨_, rfl⟩
    · split <;> exact ⟨_, rfl⟩
  refine ev_bind1 hr ?_
  by_cases h0 : r < 0
  · exact ev_if_pos h0 (Ev.now _)
  obtain ⟨hs, hi⟩ := frameBytes_both a b c d root shard (wf64 ha) (wf64 hb) (wf64 hc) (wf64 hd)
  exact ev_if_neg h0 (ev_bind1 rfl (Ev.bind hs (ev_bind1 rfl (Ev.bind hi (ev_if_pos rfl (Ev.now _))))))
end Go.Proofs.YtddapeieolfolaaDoor.Pure
