/- The plain law of FnHex: what Hex writes HexRead reads; both sides read a drawn text alike, and what is read is written so again. -/
import Derived.Test.YteljfdhjbnlgoaaPFnHexx8
import Derived.Test.YteljfdhjbnlgoaaLib
namespace Go.Proofs.Yteljfdhjbnlgoaa.Pure
open Go.RowKit Go.Proofs.Yteljfdhjbnlgoaa.PFnHex Go.Proofs.Yteljfdhjbnlgoaa.Lib Go.Proofs.YteljfdhjbnlgoaaW.PrintWords Go.Proofs.YteljfdhjbnlgoaaW.PrintLast Go.Proofs.YteljfdhjbnlgoaaW.PrintMore
set_option linter.unusedVariables false
set_option linter.unusedSimpArgs false
/-- a text as numbers. -/
def bl (t : ByteArray) : List Nat := t.data.toList.map UInt8.toNat
theorem bl_length (t : ByteArray) : (bl t).length = t.size := by unfold bl; rw [List.length_map]; exact data_length t
theorem bl_append (a b : ByteArray) : bl (a ++ b) = bl a ++ bl b := by simp [bl, ByteArray.data_append]
theorem bl_lt (t : ByteArray) : ∀ c ∈ bl t, c < 256 := by
  intro c hc
  obtain ⟨x, _, rfl⟩ := List.mem_map.1 hc
  exact x.toNat_lt
theorem bl_extract (t : ByteArray) (i j : Nat) : bl (t.extract i j) = ((bl t).take j).drop i := by
  simp only [bl, ByteArray.data_extract, Array.toList_extract, List.extract_eq_take_drop, List.map_take, List.map_drop]
  rw [List.drop_take]
theorem bl_inj {a b : ByteArray} (h : bl a = bl b) : a = b := by
  have h2 : a.data.toList = b.data.toList := by
    unfold bl at h
    exact (List.map_inj_right (fun x y q => UInt8.toNat_inj.1 q)).1 h
  cases a; cases b
  simp only at h2
  congr 1
  exact Array.toList_inj.1 h2
theorem bt_bl (t : ByteArray) (i : Nat) (h : i < t.size) : bt t (i : Int) = (((bl t)[i]'(by rw [bl_length]; exact h) : Nat) : Int) := by
  unfold bt
  simp only [Int.toNat_natCast]
  rw [dif_pos h]
  simp [bl]
  rfl
theorem bl_strOfNums (l : List Int) (h : ∀ x ∈ l, 0 ≤ x ∧ x < 256) : bl (strOfNums l) = l.map Int.toNat := by
  unfold bl strOfNums
  simp only [List.map_map]
  refine List.map_congr_left (fun x hx => ?_)
  have := h x hx
  simp only [Function.comp]
  rw [UInt8.toNat_ofNat']
  omega
theorem numL_range (m : Nat) : ∀ u, u < 128 ^ (m + 1) → ∀ x ∈ numL u, 0 ≤ x ∧ x < 256 := by
  induction m with
  | zero =>
    intro u hu x hx
    rw [numL_lt (by simpa using hu)] at hx
    simp at hx; subst hx
    simp at hu
    omega
  | succ m ih =>
    intro u hu x hx
    by_cases h : u < 128
    · rw [numL_lt h] at hx
      simp at hx; omega
    · rw [numL_ge h, List.mem_cons] at hx
      rcases hx with rfl | hx
      · omega
      · exact ih (u / 128) (by rw [Nat.div_lt_iff_lt_mul (by decide), ← Nat.pow_succ]; exact hu) x hx
theorem bl_putNum (n : Int) (h0 : -9223372036854775808 ≤ n) (h1 : n ≤ 9223372036854775807) : bl (putNum n) = (numL (fold n)).map Int.toNat :=
  bl_strOfNums _ (numL_range 9 _ (Nat.lt_of_lt_of_le (fold_lt n h0 h1) (by decide)))
theorem empty_list : ((⟨#[]⟩ : ByteArray).toList == ([] : List UInt8)) = true := by
  rw [ByteArray.toList_eq]; rfl
theorem not_empty (p : ByteArray) (h : 0 < p.size) : (p.toList == ([] : List UInt8)) = false := by
  refine beq_eq_false_iff_ne.2 (fun q => ?_)
  rw [ByteArray.toList_eq] at q
  have := congrArg List.length q
  rw [data_length] at this
  simp only [List.length_nil] at this
  omega
theorem extract_size (p : ByteArray) (n : Nat) (h : n ≤ p.size) : (p.extract 0 n).size = n := by
  rw [ByteArray.size_extract]; omega
/-- a source that stands right. -/
def St (b : List Int) (q m : Int) : Prop := 0 ≤ q ∧ q ≤ (b.length : Int) ∧ b.length ≤ 1048576 ∧ 0 ≤ m ∧ m < 18446744073709551616
theorem bits_u64 (op : BinOp) (x y : Int) : 0 ≤ Go.bits op .u64 x y ∧ Go.bits op .u64 x y < 18446744073709551616 := by
  simp only [Go.bits, IntKind.wrap_u64]
  omega
theorem pick_most (v most : Int) (h1 : 1 < most) (h2 : most ≤ 9223372036854775807) : 0 ≤ wrap64 (Int.tmod (IntKind.u64.wrap v) (IntKind.u64.wrap most)) ∧ wrap64 (Int.tmod (IntKind.u64.wrap v) (IntKind.u64.wrap most)) < most ∧ IntKind.u64.wrap most ≠ 0 := by
  simp only [IntKind.wrap_u64]
  have e : most % 18446744073709551616 = most := by omega
  rw [e, Int.tmod_eq_emod_of_nonneg (by omega)]
  have a := Int.emod_nonneg (v % 18446744073709551616) (show most ≠ 0 by omega)
  have b := Int.emod_lt_of_pos (v % 18446744073709551616) (show 0 < most by omega)
  rw [w64 (by omega) (by omega)]
  omega
theorem n_ok (b : List Int) (q m z most : Int) (h : St b q m) (h1 : 1 ≤ most) (h2 : most ≤ 9223372036854775807) : ∃ v q' m', spec_l01Src_n.f b q m z most = some (v, q', m', z) ∧ 0 ≤ v ∧ v < most ∧ St b q' m' := by
  obtain ⟨a1, a2, a3, a4, a5⟩ := h
  unfold spec_l01Src_n.f
  by_cases c : most ≤ 1
  · rw [if_pos c]
    exact ⟨0, q, m, rfl, by omega, by omega, a1, a2, a3, a4, a5⟩
  · rw [if_neg c]
    have hm := bits_u64 .xor (Go.bits .xor .u64 (Go.bits .xor .u64 m (IntKind.u64.wrap (m * 8192))) ((Go.bits .xor .u64 m (IntKind.u64.wrap (m * 8192))) / 128)) (IntKind.u64.wrap ((Go.bits .xor .u64 (Go.bits .xor .u64 m (IntKind.u64.wrap (m * 8192))) ((Go.bits .xor .u64 m (IntKind.u64.wrap (m * 8192))) / 128)) * 131072))
    generalize Go.bits .xor .u64 (Go.bits .xor .u64 (Go.bits .xor .u64 m (IntKind.u64.wrap (m * 8192))) ((Go.bits .xor .u64 m (IntKind.u64.wrap (m * 8192))) / 128)) (IntKind.u64.wrap ((Go.bits .xor .u64 (Go.bits .xor .u64 m (IntKind.u64.wrap (m * 8192))) ((Go.bits .xor .u64 m (IntKind.u64.wrap (m * 8192))) / 128)) * 131072)) = m3 at hm ⊢
    by_cases c2 : q < (b.length : Int)
    · obtain ⟨p1, p2, p3⟩ := pick_most (IntKind.u64.wrap (rd b q) + m3 / 1048576) most (by omega) h2
      rw [if_pos c2, if_pos a1, if_neg p3]
      exact ⟨_, _, _, rfl, p1, p2, by rw [w64 (by omega) (by omega)]; omega, by rw [w64 (by omega) (by omega)]; omega, a3, hm.1, hm.2⟩
    · obtain ⟨p1, p2, p3⟩ := pick_most (0 + m3 / 1048576) most (by omega) h2
      rw [if_neg c2, if_neg p3]
      exact ⟨_, _, _, rfl, p1, p2, a1, a2, a3, hm.1, hm.2⟩
theorem src_ok (l : List Int) (hl : l.length ≤ 1048576) : Evs (fun k => spec_l01Source.f k l) (fun r => r.1 = l ∧ St l r.2.1 r.2.2.1 ∧ 0 ≤ r.2.2.2 ∧ r.2.2.2 ≤ 12) := by
  have stop : ∀ (m : Int), 0 ≤ m → m < 18446744073709551616 → ∀ q, q = (if (wrap64 ((l.length : Int) / 20)) > 12 then (some (l, (0 : Int), m, (12 : Int))) else (some (l, 0, m, wrap64 ((l.length : Int) / 20)))) → ∃ r, q = some r ∧ r.1 = l ∧ St l r.2.1 r.2.2.1 ∧ 0 ≤ r.2.2.2 ∧ r.2.2.2 ≤ 12 := by
    intro m h0 h1 q hq
    subst hq
    rw [w64 (n := (l.length : Int) / 20) (by omega) (by omega)]
    by_cases c : (l.length : Int) / 20 > 12
    · rw [if_pos c]
      exact ⟨_, rfl, rfl, ⟨Int.le_refl _, by simp, hl, h0, h1⟩, by simp, by simp⟩
    · rw [if_neg c]
      exact ⟨_, rfl, rfl, ⟨Int.le_refl _, by simp, hl, h0, h1⟩, by simp only; omega, by simp only; omega⟩
  unfold spec_l01Source.f
  have main : ∀ (d i : Nat) (m : Int), i + d = 65 → 0 ≤ m → m < 18446744073709551616 → Evs (fun k => spec_l01Source.l0 k l (i : Int) l 0 m 0) (fun r => r.1 = l ∧ St l r.2.1 r.2.2.1 ∧ 0 ≤ r.2.2.2 ∧ r.2.2.2 ≤ 12) := by
    intro d
    induction d with
    | zero =>
      intro i m hi h0 h1
      obtain ⟨r, hr, hp⟩ := stop m h0 h1 _ rfl
      refine ⟨r, Ev.step (f := fun _ => some r) (fun k => ?_) (Ev.now _), hp⟩
      simp only [spec_l01Source.l0]
      by_cases c : (i : Int) < (l.length : Int)
      · rw [if_pos c, if_neg (by omega)]; exact hr
      · rw [if_neg c]; exact hr
    | succ d ih =>
      intro i m hi h0 h1
      by_cases c : (i : Int) < (l.length : Int) ∧ (i : Int) < 64
      · obtain ⟨v, hv, hp⟩ := ih (i + 1) (IntKind.u64.wrap ((Go.bits .xor .u64 m (IntKind.u64.wrap (rd l i))) * 1099511628211)) (by omega) (by simp only [IntKind.wrap_u64]; omega) (by simp only [IntKind.wrap_u64]; omega)
        refine ⟨v, Ev.step (fun k => ?_) hv, hp⟩
        simp only [spec_l01Source.l0]
        rw [if_pos c.1, if_pos c.2, if_pos (by omega), w64 (by omega) (by omega)]
        rfl
      · obtain ⟨r, hr, hp⟩ := stop m h0 h1 _ rfl
        refine ⟨r, Ev.step (f := fun _ => some r) (fun k => ?_) (Ev.now _), hp⟩
        simp only [spec_l01Source.l0]
        by_cases c1 : (i : Int) < (l.length : Int)
        · rw [if_pos c1, if_neg (fun q => c ⟨c1, q⟩)]; exact hr
        · rw [if_neg c1]; exact hr
  exact main 65 0 88172645463325252 rfl (by decide) (by decide)
theorem one_ok (b : List Int) (q m z of : Int) (h : St b q m) (h1 : 1 ≤ of) (h2 : of ≤ 9223372036854775807) : ∃ v q' m', spec_l01Src_one.f b q m z of = some (v, q', m', z) ∧ St b q' m' := by
  obtain ⟨v, q', m', hv, _, _, hs⟩ := n_ok b q m z of h h1 h2
  refine ⟨v == 0, q', m', ?_, hs⟩
  unfold spec_l01Src_one.f
  rw [hv]
  rfl
theorem strOfNums_len (l : List Int) : (strOfNums l).size = l.length := by simp [strOfNums, ByteArray.size]
theorem bytes_ok (b : List Int) (z : Int) (n : Nat) (hn : n ≤ 1048576) : ∀ (d i : Nat) (acc : List Int) (q m : Int), i + d = n → acc.length = i → St b q m → Evs (fun k => spec_l01Src_bytes.l0 k (n : Int) acc (i : Int) b q m z) (fun r => r.1.size = n ∧ St b r.2.1 r.2.2.1 ∧ r.2.2.2 = z) := by
  intro d
  induction d with
  | zero =>
    intro i acc q m hi ha hs
    refine ⟨(strOfNums acc, q, m, z), Ev.step (f := fun _ => some (strOfNums acc, q, m, z)) (fun k => ?_) (Ev.now _), ?_, hs, rfl⟩
    · simp only [spec_l01Src_bytes.l0]
      rw [if_neg (by omega)]
    · show (strOfNums acc).size = n
      rw [strOfNums_len]; omega
  | succ d ih =>
    intro i acc q m hi ha hs
    obtain ⟨v, q', m', hv, _, _, hs'⟩ := n_ok b q m z 256 hs (by decide) (by decide)
    obtain ⟨r, hr, hp⟩ := ih (i + 1) (acc ++ [v % 256]) q' m' (by omega) (by simp; omega) hs'
    refine ⟨r, Ev.step (fun k => ?_) hr, hp⟩
    simp only [spec_l01Src_bytes.l0, hv, Option.bind_some]
    rw [if_pos (by omega), if_pos (by omega), w64 (by omega) (by omega)]
    rfl
theorem bytesN_ok (b : List Int) (q m z n : Int) (h0 : 0 ≤ n) (hn : n ≤ 1048576) (hs : St b q m) : Evs (fun k => spec_l01Src_bytes.f k b q m z n) (fun r => (r.1.size : Int) = n ∧ St b r.2.1 r.2.2.1 ∧ r.2.2.2 = z) := by
  obtain ⟨n, rfl⟩ : ∃ k : Nat, n = (k : Int) := ⟨n.toNat, by omega⟩
  exact (bytes_ok b z n (by omega) n 0 [] q m (by omega) rfl hs).mono (fun r h => ⟨by rw [h.1], h.2⟩)
/-- the digit of a number below sixteen. -/
def hxD (n : Nat) : Nat := if n < 10 then 48 + n else 87 + n
/-- what a digit is worth; 16: it is none. -/
def hxV (c : Nat) : Nat := if 48 ≤ c ∧ c ≤ 57 then c - 48 else if 97 ≤ c ∧ c ≤ 102 then c - 87 else 16
theorem hxV_hxD : ∀ n, n < 16 → hxV (hxD n) = n := by decide
theorem hxD_hxV (c : Nat) (h : hxV c < 16) : hxD (hxV c) = c := by
  by_cases q : 48 ≤ c ∧ c ≤ 57
  · have e : hxV c = c - 48 := by unfold hxV; rw [if_pos q]
    rw [e]; unfold hxD; rw [if_pos (by omega)]; omega
  by_cases q2 : 97 ≤ c ∧ c ≤ 102
  · have e : hxV c = c - 87 := by unfold hxV; rw [if_neg q, if_pos q2]
    rw [e]; unfold hxD; rw [if_neg (by omega)]; omega
  · have e : hxV c = 16 := by unfold hxV; rw [if_neg q, if_neg q2]
    omega
def hxL : List Nat → List Nat
  | [] => []
  | b :: l => hxD (b / 16) :: hxD (b % 16) :: hxL l
def unL : List Nat → Option (List Nat)
  | [] => some []
  | [_] => none
  | h :: l :: r => if hxV h < 16 ∧ hxV l < 16 then (unL r).map (fun x => (16 * hxV h + hxV l) :: x) else none
theorem unL_hxL : ∀ l : List Nat, (∀ b ∈ l, b < 256) → unL (hxL l) = some l
  | [], _ => rfl
  | b :: l, h => by
    have hb := h b (by simp)
    have ih := unL_hxL l (fun x hx => h x (by simp [hx]))
    simp only [hxL, unL]
    rw [hxV_hxD _ (by omega), hxV_hxD _ (by omega), if_pos (by omega), ih, Option.map_some]
    congr 2
    omega
theorem hxL_unL : ∀ (l m : List Nat), unL l = some m → hxL m = l
  | [], m, h => by
    simp only [unL, Option.some.injEq] at h
    subst h; rfl
  | [_], _, h => by simp [unL] at h
  | a :: b :: r, m, h => by
    simp only [unL] at h
    split at h
    · rename_i q
      cases hr : unL r with
      | none => rw [hr] at h; simp at h
      | some x =>
        rw [hr] at h
        simp only [Option.map_some, Option.some.injEq] at h
        subst h
        simp only [hxL]
        rw [hxL_unL r x hr, show (16 * hxV a + hxV b) / 16 = hxV a by omega, show (16 * hxV a + hxV b) % 16 = hxV b by omega, hxD_hxV a q.1, hxD_hxV b q.2]
    · simp at h
theorem hxL_length : ∀ l, (hxL l).length = 2 * l.length
  | [] => rfl
  | b :: l => by simp [hxL, hxL_length l]; omega
def HX : ByteArray := ⟨#[48, 49, 50, 51, 52, 53, 54, 55, 56, 57, 97, 98, 99, 100, 101, 102]⟩
theorem hx_bt : ∀ n, n < 16 → bt HX ((n : Nat) : Int) = ((hxD n : Nat) : Int) := by decide +kernel
def hxI (c : Nat) : Int := if hxV c < 16 then (hxV c : Int) else -1
set_option maxRecDepth 100000 in
theorem idx_all : ∀ c, c < 256 → Lib.indexByte HX.data.toList (c : Nat).toUInt8 = hxI c := by decide +kernel
theorem idx_ok (c : Nat) (hc : c < 256) : strings_IndexByte.f HX ((c : Nat) : Int) = some (hxI c) := by
  unfold strings_IndexByte.f stringslite_IndexByte.f
  rw [Int.toNat_natCast, idx_all c hc]
  rfl
theorem dig_ok (c : Nat) (hc : c < 256) : Ev (fun k => spec_l01Digit.f k ((c : Nat) : Int)) (hxI c) := by
  refine ⟨1, fun k hk => ?_⟩
  obtain ⟨k, rfl⟩ : ∃ m, k = m + 1 := ⟨k - 1, by omega⟩
  unfold hxI
  unfold spec_l01Digit.f
  simp only [spec_l01Digit.j0]
  by_cases q : 48 ≤ c ∧ c ≤ 57
  · have e : hxV c = c - 48 := by unfold hxV; rw [if_pos q]
    rw [if_pos (by omega), decide_eq_true (by omega), if_pos rfl, e, if_pos (by omega)]
    congr 1; omega
  by_cases q2 : 97 ≤ c ∧ c ≤ 102
  · have e : hxV c = c - 87 := by unfold hxV; rw [if_neg q, if_pos q2]
    rw [if_pos (by omega), decide_eq_false (by omega), if_neg (by simp), if_pos (by omega), if_pos (by omega), e, if_pos (by omega)]
    congr 1; omega
  · have e : hxV c = 16 := by unfold hxV; rw [if_neg q, if_neg q2]
    rw [e, show (if 16 < 16 then ((16 : Nat) : Int) else -1) = -1 from rfl]
    by_cases a1 : (c : Int) ≥ 48
    · rw [if_pos a1, decide_eq_false (by omega), if_neg (by simp)]
      by_cases a2 : (c : Int) ≥ 97
      · rw [if_pos a2, if_neg (by omega)]
      · rw [if_neg a2]
    · rw [if_neg a1, if_neg (by simp), if_neg (by omega)]
/-- numbers as a text. -/
def tx (l : List Nat) : List Int := l.map (fun (n : Nat) => (n : Int))
theorem tx_bl (l : List Nat) (h : ∀ x ∈ l, x < 256) : bl (strOfNums (tx l)) = l := by
  rw [bl_strOfNums _ (fun x hx => by
    obtain ⟨n, hn, rfl⟩ := List.mem_map.1 hx
    have := h n hn
    omega)]
  unfold tx
  rw [List.map_map]
  exact List.map_id'' (fun n => Int.toNat_natCast n) l
theorem bl_tx (t : ByteArray) : strOfNums (tx (bl t)) = t := bl_inj (tx_bl _ (bl_lt t))
theorem drop_bl (t : ByteArray) (i : Nat) (h : i < t.size) : ∃ b : Nat, b < 256 ∧ bt t (i : Int) = (b : Int) ∧ (bl t).drop i = b :: (bl t).drop (i + 1) := by
  have hl : i < (bl t).length := by rw [bl_length]; exact h
  exact ⟨(bl t)[i], bl_lt t _ (List.getElem_mem hl), bt_bl t i h, List.drop_eq_getElem_cons hl⟩
def hexT (t : ByteArray) : ByteArray := strOfNums (tx (hxL (bl t)))
theorem hx_hi (b : Nat) (hb : b < 256) : (Int.tdiv ((b : Nat) : Int) 16) % 256 = ((b / 16 : Nat) : Int) := by
  rw [Int.tdiv_eq_ediv_of_nonneg (by omega)]; omega
theorem hx_lo (b : Nat) : Int.tmod ((b : Nat) : Int) 16 = ((b % 16 : Nat) : Int) := by
  rw [Int.tmod_eq_emod_of_nonneg (by omega)]; omega
theorem tx_two (b : Nat) (acc : List Int) (r : List Nat) : acc ++ [((hxD (b / 16) : Nat) : Int), ((hxD (b % 16) : Nat) : Int)] ++ tx (hxL r) = acc ++ tx (hxL (b :: r)) := by
  simp [tx, hxL]
theorem hex_i (t : ByteArray) (ht : t.size ≤ 20001) : ∀ (d i : Nat) (acc : List Int), i + d = t.size → acc.length = 2 * i → Ev (fun k => impl_hex.l0 k t acc (t.size : Int) (i : Int)) (strOfNums (acc ++ tx (hxL ((bl t).drop i)))) := by
  intro d
  induction d with
  | zero =>
    intro i acc hi ha
    refine Ev.step (f := fun _ => some (strOfNums acc)) (fun k => ?_) (ev_eq ?_)
    · simp only [impl_hex.l0]; rw [if_neg (by omega)]
    · rw [List.drop_of_length_le (by rw [bl_length]; omega)]; simp [hxL, tx]
  | succ d ih =>
    intro i acc hi ha
    obtain ⟨b, hb, eb, ed⟩ := drop_bl t i (by omega)
    have hr := ih (i + 1) (acc ++ [((hxD (b / 16) : Nat) : Int), ((hxD (b % 16) : Nat) : Int)]) (by omega) (by simp; omega)
    rw [tx_two, ← ed] at hr
    refine Ev.step (fun k => ?_) hr
    simp only [impl_hex.l0, eb, hx_hi b hb, hx_lo b]
    have e1 := hx_bt (b / 16) (by omega)
    have e2 := hx_bt (b % 16) (by omega)
    unfold HX at e1 e2
    rw [e1, e2, if_pos (by omega), if_pos (by omega), if_pos (by omega), if_pos (by omega), if_pos (by omega), if_pos (by omega), if_pos (by omega), Option.bind_some, if_pos (by simp; omega), w64 (by omega) (by omega)]
    rfl
theorem hex_s (t : ByteArray) (ht : t.size ≤ 20001) : ∀ (d i : Nat) (acc : List Int), i + d = t.size → acc.length = 2 * i → Ev (fun k => spec_Hex.l0 k t acc (i : Int)) (strOfNums (acc ++ tx (hxL ((bl t).drop i)))) := by
  intro d
  induction d with
  | zero =>
    intro i acc hi ha
    refine Ev.step (f := fun _ => some (strOfNums acc)) (fun k => ?_) (ev_eq ?_)
    · simp only [spec_Hex.l0]; rw [if_neg (by omega)]
    · rw [List.drop_of_length_le (by rw [bl_length]; omega)]; simp [hxL, tx]
  | succ d ih =>
    intro i acc hi ha
    obtain ⟨b, hb, eb, ed⟩ := drop_bl t i (by omega)
    have hr := ih (i + 1) (acc ++ [((hxD (b / 16) : Nat) : Int), ((hxD (b % 16) : Nat) : Int)]) (by omega) (by simp; omega)
    rw [tx_two, ← ed] at hr
    refine Ev.step (fun k => ?_) hr
    simp only [spec_Hex.l0, eb, hx_hi b hb, hx_lo b]
    have e1 := hx_bt (b / 16) (by omega)
    have e2 := hx_bt (b % 16) (by omega)
    unfold HX at e1 e2
    rw [e1, e2, if_pos (by omega), if_pos (by omega), if_pos (by omega), if_pos (by omega), if_pos (by omega), if_pos (by omega), Option.bind_some, if_pos (by simp; omega), w64 (by omega) (by omega)]
    rfl
theorem Hex_i (t : ByteArray) (ht : t.size ≤ 20000) : Ev (fun k => impl_Hex.f k t) (hexT t) := by
  refine ev_bind1 (a := decide ((t.size : Int) > 20000)) rfl (ev_if_neg (by simp; omega) (Ev.bind ?_ (Ev.now _)))
  refine ev_if_pos ?_ (ev_if_pos ?_ ?_)
  · rw [w64 (by omega) (by omega)]; omega
  · rw [w64 (by omega) (by omega)]; omega
  · have := hex_i t (by omega) t.size 0 [] (by omega) rfl
    unfold hexT
    simpa using this
theorem Hex_s (t : ByteArray) (ht : t.size ≤ 20000) : Ev (fun k => spec_Hex.f k t) (hexT t) := by
  refine ev_if_neg (by omega) ?_
  have := hex_s t (by omega) t.size 0 [] (by omega) rfl
  unfold hexT
  simpa using this
theorem hexT_size (t : ByteArray) : (hexT t).size = 2 * t.size := by
  unfold hexT
  rw [strOfNums_len]
  unfold tx
  rw [List.length_map, hxL_length, bl_length]
/-- what reading comes to. -/
def hrd (l : List Nat) (acc : List Int) : ByteArray × Int × Int := match unL l with
  | some m => (strOfNums (acc ++ tx m), 0, 0)
  | none => ((⟨#[]⟩ : ByteArray), 0, 3)
theorem hrd_two (a b : Nat) (r : List Nat) (acc : List Int) (h : hxV a < 16 ∧ hxV b < 16) : hrd r (acc ++ [((16 * hxV a + hxV b : Nat) : Int)]) = hrd (a :: b :: r) acc := by
  unfold hrd
  simp only [unL]
  rw [if_pos h]
  cases unL r with
  | none => rfl
  | some m => simp [tx]
theorem hrd_bad (a b : Nat) (r : List Nat) (acc : List Int) (h : ¬ (hxV a < 16 ∧ hxV b < 16)) : hrd (a :: b :: r) acc = ((⟨#[]⟩ : ByteArray), 0, 3) := by
  unfold hrd
  simp only [unL]
  rw [if_neg h]
theorem hxI_lt (c : Nat) : (hxI c < 0) = ¬ (hxV c < 16) := by
  unfold hxI
  rw [eq_iff_iff]
  by_cases h : hxV c < 16
  · rw [if_pos h]; constructor
    · intro _; omega
    · intro q; exact absurd h q
  · rw [if_neg h]; constructor
    · intro _; exact h
    · intro _; omega
theorem hx_sum (a b : Nat) (h : hxV a < 16 ∧ hxV b < 16) : (wrap64 ((wrap64 (16 * hxI a)) + hxI b)) % 256 = ((16 * hxV a + hxV b : Nat) : Int) := by
  unfold hxI
  rw [if_pos h.1, if_pos h.2, w64 (n := 16 * _) (by omega) (by omega), w64 (by omega) (by omega)]
  omega
theorem read_i (t : ByteArray) (ht : t.size ≤ 20000) : ∀ (d i : Nat) (acc : List Int), t.size ≤ i + d → i ≤ t.size → i % 2 = 0 → acc.length ≤ i → Ev (fun k => impl_HexRead.l0 k t acc (i : Int)) (hrd ((bl t).drop i) acc) := by
  intro d
  induction d with
  | zero =>
    intro i acc hi hi2 hp ha
    obtain rfl : i = t.size := by omega
    refine Ev.step (f := fun _ => some (strOfNums acc, 0, 0)) (fun k => ?_) (ev_eq ?_)
    · simp only [impl_HexRead.l0]; rw [w64 (by omega) (by omega), if_neg (by omega), if_pos (by omega)]
    · rw [List.drop_of_length_le (by rw [bl_length]; omega)]; simp [hrd, unL, tx]
  | succ d ih =>
    intro i acc hi hi2 hp ha
    by_cases h1 : i + 1 < t.size
    · obtain ⟨a, ha1, ea, eda⟩ := drop_bl t i (by omega)
      obtain ⟨b, hb1, eb, edb⟩ := drop_bl t (i + 1) (by omega)
      have ia := idx_ok a ha1
      have ib := idx_ok b hb1
      unfold HX at ia ib
      have ew : wrap64 ((i : Int) + 1) = ((i + 1 : Nat) : Int) := by rw [w64 (by omega) (by omega)]; omega
      have ew2 : wrap64 ((i : Int) + 2) = ((i + 2 : Nat) : Int) := by rw [w64 (by omega) (by omega)]; omega
      rw [eda, edb]
      by_cases hv : hxV a < 16 ∧ hxV b < 16
      · have hr := ih (i + 2) (acc ++ [((16 * hxV a + hxV b : Nat) : Int)]) (by omega) (by omega) (by omega) (by simp; omega)
        rw [hrd_two a b _ acc hv] at hr
        refine Ev.step (fun k => ?_) hr
        simp only [impl_HexRead.l0, ew, ew2, ea, eb, ia, ib, Option.bind_some, hx_sum a b hv, hxI_lt]
        rw [if_pos (by omega), if_pos (by omega), if_pos (by omega), if_pos (by omega), if_neg (fun q => q hv.1), if_neg (fun q => q hv.2), if_pos (by omega)]
      · rw [hrd_bad a b _ acc hv]
        refine Ev.step (f := fun _ => some ((⟨#[]⟩ : ByteArray), 0, 3)) (fun k => ?_) (Ev.now _)
        simp only [impl_HexRead.l0, ew, ea, eb, ia, ib, Option.bind_some, hxI_lt]
        rw [if_pos (by omega), if_pos (by omega), if_pos (by omega), if_pos (by omega)]
        by_cases q : hxV a < 16
        · rw [if_neg (fun z => z q), if_pos (fun z => hv ⟨q, z⟩)]
        · rw [if_pos q]
    · have ew : wrap64 ((i : Int) + 1) = ((i + 1 : Nat) : Int) := by rw [w64 (by omega) (by omega)]; omega
      by_cases h2 : i = t.size
      · refine Ev.step (f := fun _ => some (strOfNums acc, 0, 0)) (fun k => ?_) (ev_eq ?_)
        · simp only [impl_HexRead.l0, ew]; rw [if_neg (by omega), if_pos (by omega)]
        · rw [List.drop_of_length_le (by rw [bl_length]; omega)]; simp [hrd, unL, tx]
      · obtain ⟨a, ha1, ea, eda⟩ := drop_bl t i (by omega)
        refine Ev.step (f := fun _ => some ((⟨#[]⟩ : ByteArray), 0, 3)) (fun k => ?_) (ev_eq ?_)
        · simp only [impl_HexRead.l0, ew]; rw [if_neg (by omega), if_neg (by omega)]
        · rw [eda, List.drop_of_length_le (by rw [bl_length]; omega)]; simp [hrd, unL]
theorem read_s (t : ByteArray) (ht : t.size ≤ 20000) : ∀ (d i : Nat) (acc : List Int), t.size ≤ i + d → i ≤ t.size → i % 2 = 0 → acc.length ≤ i → Ev (fun k => spec_HexRead.l0 k t acc (i : Int)) (hrd ((bl t).drop i) acc) := by
  intro d
  induction d with
  | zero =>
    intro i acc hi hi2 hp ha
    obtain rfl : i = t.size := by omega
    refine Ev.step (f := fun _ => some (strOfNums acc, 0, 0)) (fun k => ?_) (ev_eq ?_)
    · simp only [spec_HexRead.l0]; rw [w64 (by omega) (by omega), if_neg (by omega), if_neg (by omega)]
    · rw [List.drop_of_length_le (by rw [bl_length]; omega)]; simp [hrd, unL, tx]
  | succ d ih =>
    intro i acc hi hi2 hp ha
    by_cases h1 : i + 1 < t.size
    · obtain ⟨a, ha1, ea, eda⟩ := drop_bl t i (by omega)
      obtain ⟨b, hb1, eb, edb⟩ := drop_bl t (i + 1) (by omega)
      have ia := dig_ok a ha1
      have ib := dig_ok b hb1
      have ew : wrap64 ((i : Int) + 1) = ((i + 1 : Nat) : Int) := by rw [w64 (by omega) (by omega)]; omega
      have ew2 : wrap64 ((i : Int) + 2) = ((i + 2 : Nat) : Int) := by rw [w64 (by omega) (by omega)]; omega
      rw [eda, edb]
      refine Ev.step (f := fun k => (spec_l01Digit.f k ((a : Nat) : Int)).bind fun t204 => ((spec_l01Digit.f k ((b : Nat) : Int)).bind fun t205 => (if t204 < 0 then (some ((⟨#[]⟩ : ByteArray), 0, 3)) else (if t205 < 0 then (some ((⟨#[]⟩ : ByteArray), 0, 3)) else (if acc.length < 140737488355328 then (spec_HexRead.l0 k t (acc ++ [(wrap64 ((wrap64 (16 * t204)) + t205)) % 256]) ((i + 2 : Nat) : Int)) else (none)))))) (fun k => ?_) (Ev.bind ia (Ev.bind ib ?_))
      · simp only [spec_HexRead.l0, ew, ew2, ea, eb]
        rw [if_pos (by omega), if_pos (by omega), if_pos (by omega)]
        simp only [show (0 ≤ ((i + 1 : Nat) : Int)) = True from eq_true (by omega), if_true]
      · by_cases hv : hxV a < 16 ∧ hxV b < 16
        · have hr := ih (i + 2) (acc ++ [((16 * hxV a + hxV b : Nat) : Int)]) (by omega) (by omega) (by omega) (by simp; omega)
          rw [hrd_two a b _ acc hv] at hr
          rw [hx_sum a b hv]
          exact ev_if_neg (by rw [hxI_lt]; exact fun q => q hv.1) (ev_if_neg (by rw [hxI_lt]; exact fun q => q hv.2) (ev_if_pos (by omega) hr))
        · rw [hrd_bad a b _ acc hv]
          by_cases q : hxV a < 16
          · exact ev_if_neg (by rw [hxI_lt]; exact fun z => z q) (ev_if_pos (by rw [hxI_lt]; exact fun z => hv ⟨q, z⟩) (Ev.now _))
          · exact ev_if_pos (by rw [hxI_lt]; exact q) (Ev.now _)
    · have ew : wrap64 ((i : Int) + 1) = ((i + 1 : Nat) : Int) := by rw [w64 (by omega) (by omega)]; omega
      by_cases h2 : i = t.size
      · refine Ev.step (f := fun _ => some (strOfNums acc, 0, 0)) (fun k => ?_) (ev_eq ?_)
        · simp only [spec_HexRead.l0, ew]; rw [if_neg (by omega), if_neg (by omega)]
        · rw [List.drop_of_length_le (by rw [bl_length]; omega)]; simp [hrd, unL, tx]
      · obtain ⟨a, ha1, ea, eda⟩ := drop_bl t i (by omega)
        refine Ev.step (f := fun _ => some ((⟨#[]⟩ : ByteArray), 0, 3)) (fun k => ?_) (ev_eq ?_)
        · simp only [spec_HexRead.l0, ew]; rw [if_neg (by omega), if_pos (by omega)]
        · rw [eda, List.drop_of_length_le (by rw [bl_length]; omega)]; simp [hrd, unL]
theorem Read_i (t : ByteArray) (ht : t.size ≤ 20000) : Ev (fun k => impl_HexRead.f k t) (hrd (bl t) []) := by
  refine ev_bind1 (a := decide ((t.size : Int) > 20000)) rfl (ev_if_neg (by simp; omega) ?_)
  have := read_i t ht t.size 0 [] (by omega) (by omega) rfl (by simp)
  simpa using this
theorem Read_s (t : ByteArray) (ht : t.size ≤ 20000) : Ev (fun k => spec_HexRead.f k t) (hrd (bl t) []) := by
  refine ev_if_neg (by omega) ?_
  have := read_s t ht t.size 0 [] (by omega) (by omega) rfl (by simp)
  simpa using this
theorem unL_lt : ∀ (l m : List Nat), unL l = some m → (∀ x ∈ m, x < 256) ∧ m.length ≤ l.length
  | [], m, h => by
    simp only [unL, Option.some.injEq] at h
    subst h; simp
  | [_], _, h => by simp [unL] at h
  | a :: b :: r, m, h => by
    simp only [unL] at h
    split at h
    · rename_i q
      cases hr : unL r with
      | none => rw [hr] at h; simp at h
      | some x =>
        rw [hr] at h
        simp only [Option.map_some, Option.some.injEq] at h
        subst h
        obtain ⟨h1, h2⟩ := unL_lt r x hr
        refine ⟨fun y hy => ?_, by simp only [List.length_cons]; omega⟩
        rcases List.mem_cons.1 hy with rfl | hy
        · omega
        · exact h1 y hy
    · simp at h
theorem read_hex (t : ByteArray) : hrd (bl (hexT t)) [] = (t, 0, 0) := by
  have hlt : ∀ x ∈ hxL (bl t), x < 256 := by
    have : ∀ l : List Nat, (∀ b ∈ l, b < 256) → ∀ x ∈ hxL l, x < 256 := by
      intro l
      induction l with
      | nil => intro _ x hx; simp [hxL] at hx
      | cons b l ih =>
        intro h x hx
        have hb := h b (by simp)
        simp only [hxL, List.mem_cons] at hx
        rcases hx with rfl | rfl | hx
        · unfold hxD; split <;> omega
        · unfold hxD; split <;> omega
        · exact ih (fun y hy => h y (by simp [hy])) x hx
    exact this _ (bl_lt t)
  unfold hexT
  rw [tx_bl _ hlt]
  unfold hrd
  rw [unL_hxL _ (bl_lt t)]
  simp only [List.nil_append, bl_tx]
theorem draw_hex (l : List Int) (hl : l.length ≤ 1048576) : Evs (fun k => spec_DrawHex.f k l) (fun t => t.size ≤ 20) := by
  unfold spec_DrawHex.f
  refine Evs.bind (src_ok l hl) (fun r hr => ?_)
  obtain ⟨b, q, m, z⟩ := r
  obtain ⟨rfl, hs, _⟩ := hr
  obtain ⟨n, q1, m1, hn, h0, h1, hs1⟩ := n_ok b q m z 20 hs (by decide) (by decide)
  refine Evs.bind1 hn ?_
  exact Evs.bind (bytesN_ok b q1 m1 z n h0 (by omega) hs1) (fun r hr => Evs.now _ (by omega))
theorem ex_sz (t : ByteArray) (i j : Nat) : (t.extract i j).size = min j t.size - i := by rw [ByteArray.size_extract]
theorem w_succN (v : Nat) (h : v ≤ 1000000) : wrap64 ((v : Int) + 1) = ((v + 1 : Nat) : Int) := by rw [w64 (by omega) (by omega)]; omega
theorem spoil_ok (b : List Int) (q m z : Int) (hs : St b q m) (t : ByteArray) (ht : t.size ≤ 100) : Evs (fun k => spec_l01Src_spoil.f k b q m z t) (fun r => r.1.size ≤ 20000) := by
  obtain ⟨v, q1, m1, hv, v0, v1, hs1⟩ := n_ok b q m z ((t.size : Int) + 1) hs (by omega) (by omega)
  obtain ⟨u, q2, m2, hu, u0, u1, hs2⟩ := n_ok b q1 m1 z 17 hs1 (by decide) (by decide)
  obtain ⟨v, rfl⟩ : ∃ j : Nat, v = (j : Int) := ⟨v.toNat, by omega⟩
  have main : ∀ (c : ByteArray) (hc : c.size = 1) (w : Bool) (q m : Int) (hs : St b q m), (v : Int) < (t.size : Int) ∨ w = true → Evs (fun k => spec_l01Src_spoil.j0 k t (v : Int) c w b q m z) (fun r => r.1.size ≤ 20000) := by
    intro c hc w q m hs hw
    have e1 := ex_sz t 0 v
    have e2 := ex_sz t v t.size
    have e3 := ex_sz t (v + 1) t.size
    cases w with
    | true =>
      refine ⟨(((t.extract 0 v) ++ c) ++ (t.extract v t.size), q, m, z), Ev.step (f := fun _ => some (((t.extract 0 v) ++ c) ++ (t.extract v t.size), q, m, z)) (fun k => ?_) (Ev.now _), ?_⟩
      · simp only [spec_l01Src_spoil.j0, Int.toNat_natCast, ByteArray.size_append]
        rw [if_pos trivial, if_pos (by omega), if_pos (by omega), if_pos (by omega), if_pos (by omega)]
      · simp only [ByteArray.size_append]; omega
    | false =>
      have hlt : v < t.size := by
        rcases hw with h | h
        · omega
        · cases h
      obtain ⟨x, q3, m3, hx, hs3⟩ := one_ok b q m z 2 hs (by decide) (by decide)
      cases x with
      | true =>
        refine ⟨((t.extract 0 v) ++ (t.extract (v + 1) t.size), q3, m3, z), Ev.step (f := fun _ => some ((t.extract 0 v) ++ (t.extract (v + 1) t.size), q3, m3, z)) (fun k => ?_) (Ev.now _), ?_⟩
        · simp only [spec_l01Src_spoil.j0, hx, Option.bind_some, w_succN v (by omega), Int.toNat_natCast]
          rw [if_neg (by simp), if_pos trivial, if_pos (by omega), if_pos (by omega), if_pos (by omega), if_pos (by omega), if_pos (by omega)]
        · simp only [ByteArray.size_append]; omega
      | false =>
        refine ⟨(((t.extract 0 v) ++ c) ++ (t.extract (v + 1) t.size), q3, m3, z), Ev.step (f := fun _ => some (((t.extract 0 v) ++ c) ++ (t.extract (v + 1) t.size), q3, m3, z)) (fun k => ?_) (Ev.now _), ?_⟩
        · simp only [spec_l01Src_spoil.j0, hx, Option.bind_some, w_succN v (by omega), Int.toNat_natCast, ByteArray.size_append]
          rw [if_neg (by simp), if_neg (by simp), if_pos (by omega), if_pos (by omega), if_pos (by omega), if_pos (by omega), if_pos (by omega), if_pos (by omega)]
        · simp only [ByteArray.size_append]; omega
  unfold spec_l01Src_spoil.f
  rw [w64 (by omega) (by omega)]
  refine Evs.bind1 hv (Evs.bind1 hu (Evs.if_pos u0 (Evs.if_pos u1 (Evs.bind1 rfl ?_))))
  refine Evs.ite (fun _ => main _ (by rw [strOfNums_len]; rfl) true q2 m2 hs2 (Or.inr rfl)) (fun hne => ?_)
  obtain ⟨x, q3, m3, hx, hs3⟩ := one_ok b q2 m2 z 3 hs2 (by decide) (by decide)
  refine Evs.bind1 hx ?_
  exact main _ (by rw [strOfNums_len]; rfl) x q3 m3 hs3 (Or.inl (by simp only at hne; omega))
theorem draw_read (l : List Int) (hl : l.length ≤ 1048576) : Evs (fun k => spec_DrawHexRead.f k l) (fun t => t.size ≤ 20000) := by
  unfold spec_DrawHexRead.f
  refine Evs.bind (src_ok l hl) (fun r hr => ?_)
  obtain ⟨b, q, m, z⟩ := r
  obtain ⟨rfl, hs, _⟩ := hr
  obtain ⟨n, q1, m1, hn, h0, h1, hs1⟩ := n_ok b q m z 9 hs (by decide) (by decide)
  refine Evs.bind1 hn ?_
  refine Evs.bind (bytesN_ok b q1 m1 z n h0 (by omega) hs1) (fun r hr => ?_)
  obtain ⟨t, q2, m2, z2⟩ := r
  obtain ⟨ht, hs2, rfl⟩ := hr
  simp only at ht hs2
  have hz := hexT_size t
  refine Evs.bind (Evs.of (Hex_s t (by omega))) (fun x hx => ?_)
  subst hx
  obtain ⟨y, q3, m3, hy, hs3⟩ := one_ok b q2 m2 z2 3 hs2 (by decide) (by decide)
  refine Evs.bind1 hy ?_
  refine Evs.ite (fun _ => ?_) (fun _ => Evs.now _ (by omega))
  exact Evs.bind (spoil_ok b q3 m3 z2 hs3 (hexT t) (by omega)) (fun r hr => Evs.now _ hr)
set_option maxHeartbeats 2000000 in
theorem FnHex : laws_FnHex.Pure := by
  intro l0 l1 _ _ _ _ _ _
  refine Ev.rounds (g := fun k => laws_FnHex.f k l0 l1) ?_
  have out : Ev (fun k => laws_FnHex.j0 k l0 l1 true) true := Ev.step (f := fun _ => some true) (fun k => by simp only [laws_FnHex.j0]; rw [if_pos trivial]) (Ev.now _)
  unfold laws_FnHex.f
  by_cases hl0 : (l0.length : Int) > 1048576
  · exact ev_if_pos hl0 out
  refine ev_if_neg hl0 ?_
  by_cases hl1 : (l1.length : Int) > 1048576
  · rw [decide_eq_true hl1]; exact out
  rw [decide_eq_false hl1]
  obtain ⟨t, ht, hts⟩ := draw_hex l0 (by omega)
  obtain ⟨u, hu, hus⟩ := draw_read l1 (by omega)
  have hz := hexT_size t
  refine Ev.step (f := fun k => (spec_DrawHex.f k l0).bind fun t209 => ((spec_DrawHexRead.f k l1).bind fun t210 => ((impl_Hex.f k t209).bind fun t211 => ((impl_HexRead.f k t210).bind fun bt212 => (if (t209.size : Int) ≤ 10000 then (if (t211.size : Int) = (wrap64 (2 * (t209.size : Int))) then ((impl_HexRead.f k t211).bind fun bt216 => (laws_FnHex.j1 k t210 (!(bt216.1.toList == t209.toList) || (!(bt216.2.1 == 0) || (!(bt216.2.2 == 0)))) bt212.1 bt212.2.1 bt212.2.2)) else (laws_FnHex.j1 k t210 true bt212.1 bt212.2.1 bt212.2.2)) else (laws_FnHex.j1 k t210 false bt212.1 bt212.2.1 bt212.2.2)))))) (fun k => by simp only [laws_FnHex.j0]; rw [if_neg (by simp)]) ?_
  refine Ev.bind ht (Ev.bind hu (Ev.bind (Hex_i t (by omega)) (Ev.bind (Read_i u hus) (ev_if_pos (by omega) (ev_if_pos (by rw [w64 (by omega) (by omega)]; omega) ?_)))))
  have hr := Read_i (hexT t) (by omega)
  rw [read_hex] at hr
  refine Ev.bind hr ?_
  have e : (!(((t, (0 : Int), (0 : Int)) : ByteArray × Int × Int).1.toList == t.toList) || (!(((t, (0 : Int), (0 : Int)) : ByteArray × Int × Int).2.1 == 0) || (!(((t, (0 : Int), (0 : Int)) : ByteArray × Int × Int).2.2 == 0)))) = false := by simp
  rw [e]
  obtain ⟨x, hx⟩ : ∃ x, hrd (bl u) [] = x := ⟨_, rfl⟩
  have hS := Read_s u hus
  rw [hx] at hS ⊢
  refine Ev.step (f := fun k => (spec_HexRead.f k u).bind fun bt219 => (if (x.1.toList == bt219.1.toList && (x.2.1 == bt219.2.1 && (x.2.2 == bt219.2.2))) = true then (if x.2.2 = 0 then ((impl_Hex.f k x.1).bind fun t222 => (some (t222.toList == u.toList))) else (some true)) else (some false))) (fun k => by simp only [laws_FnHex.j1]; rw [if_neg (by simp)]) ?_
  refine Ev.bind hS (ev_if_pos (by simp) ?_)
  by_cases hc : x.2.2 = 0
  · refine ev_if_pos hc ?_
    unfold hrd at hx
    cases hm : unL (bl u) with
    | none =>
      rw [hm] at hx
      subst hx
      exact absurd hc (by simp)
    | some m =>
      rw [hm] at hx
      subst hx
      obtain ⟨m1, m2⟩ := unL_lt _ _ hm
      rw [bl_length] at m2
      simp only [List.nil_append]
      have hsz : (strOfNums (tx m)).size ≤ 20000 := by rw [strOfNums_len]; unfold tx; rw [List.length_map]; omega
      refine Ev.bind (Hex_i _ hsz) (ev_eq ?_)
      have : hexT (strOfNums (tx m)) = u := by
        unfold hexT
        rw [tx_bl _ m1, hxL_unL _ _ hm, bl_tx]
      rw [this]
      simp
  · exact ev_if_neg hc (Ev.now _)
end Go.Proofs.Yteljfdhjbnlgoaa.Pure
