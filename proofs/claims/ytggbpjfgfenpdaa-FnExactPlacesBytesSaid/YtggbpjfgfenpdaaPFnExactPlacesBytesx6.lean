/- Functions of the law FnExactPlacesBytes: the print's, with walks of this session's own. No statement is proved here. -/
import Derived.Shelf.Strings.OnBuilder
import Derived.Shelf.Strings.Builder2
import Derived.Shelf.Strings.Builder1
import Derived.WalkLawsBesides
import Derived.Test.YtggbpjfgfenpdaaVRegFnExactPlacesBytes
-- A program of this session wrote this text: a changed copy of the kit print, with given functions.
import Derived.Test.YtggbpjfgfenpdaaPFnExactPlacesBytesx0
import Derived.Test.YtggbpjfgfenpdaaPFnExactPlacesBytesx3
import Derived.Test.YtggbpjfgfenpdaaPFnExactPlacesBytesx4
import Derived.Test.YtggbpjfgfenpdaaPFnExactPlacesBytesx5
namespace Go.Proofs.Ytggbpjfgfenpdaa.PFnExactPlacesBytes
open Go.RowKit Go.Proofs.YtggbpjfgfenpdaaW.PrintWords Go.Proofs.YtggbpjfgfenpdaaW.PrintLast Go.Proofs.YtggbpjfgfenpdaaW.PrintMore Go.Proofs.Ytggbpjfgfenpdaa.Reg Go.Proofs.Ytggbpjfgfenpdaa.Aut
attribute [local go_sem] max2_int min2_int max_two min_two max_three min_three max_four min_four   -- for this text's walks alone
set_option linter.unusedVariables false
set_option linter.unusedSimpArgs false

-- NOT PRINTED: function 153 (abi_NoEscape)

-- NOT PRINTED: function 136 (strings_Builder_copyCheck)

-- NOT PRINTED: function 92 (strings_Builder_WriteString)

/-! ### impl_PutNum: function 93 -/
def impl_PutNum.l0 : Nat → Int → List Int → Option (ByteArray)
  | 0, _, _ => none
  | k + 1, x3, x4 => if x3 > 127 then (if x4.length < 140737488355328 then (impl_PutNum.l0 k (x3 / 128) (x4 ++ [Go.bits .or .u8 ((Go.bits .and .u64 x3 127) % 256) 128])) else (none)) else (if x4.length < 140737488355328 then (some (strOfNums (x4 ++ [(x3) % 256]))) else (none))
def impl_PutNum.f (k : Nat) (a0 : Int) : Option (ByteArray) := impl_PutNum.l0 k (Go.bits .xor .u64 (IntKind.u64.wrap ((IntKind.u64.wrap (a0)) * 2)) (IntKind.u64.wrap (a0 / 9223372036854775808))) ([] : List Int)
theorem impl_PutNum.mono_l : ∀ k, (∀ y0 y1, LeO (impl_PutNum.l0 k y0 y1) (impl_PutNum.l0 (k + 1) y0 y1))
  | 0 => fun _ _ r h => by simp [impl_PutNum.l0] at h
  | k + 1 => by
    have ih0 := impl_PutNum.mono_l k
    · intro y0 y1
      unfold impl_PutNum.l0
      repeat' first
      | (with_reducible exact ih0 _ _)
      | (with_reducible exact LeO.refl _)
      | (with_reducible exact LeO.none _)
      | (with_reducible refine LeO.ite ?_ ?_)
      | (with_reducible refine LeO.bind ?_ (fun _ => ?_))
      | exact ih0 _ _
      | exact LeO.none _
      | refine LeO.ite ?_ ?_
      | refine LeO.bind ?_ (fun _ => ?_)
theorem impl_PutNum.mono : ∀ a0 k, LeO (impl_PutNum.f k a0) (impl_PutNum.f (k + 1) a0) := by
  intro a0 k
  have ih0 := impl_PutNum.mono_l k
  unfold impl_PutNum.f
  repeat' first
      | (with_reducible exact ih0 _ _)
      | (with_reducible exact LeO.refl _)
      | (with_reducible exact LeO.none _)
      | (with_reducible refine LeO.ite ?_ ?_)
      | (with_reducible refine LeO.bind ?_ (fun _ => ?_))
      | exact ih0 _ _
      | exact LeO.none _
      | refine LeO.ite ?_ ?_
      | refine LeO.bind ?_ (fun _ => ?_)
set_option maxHeartbeats 8000000 in
set_option maxRecDepth 100000 in
theorem impl_PutNum.calls (k : Nat) (a0 : Int) (r : ByteArray) (w : World) (h : impl_PutNum.f k a0 = some r) :
    Calls Try.prog 93 #[.int .i64 a0] w fun e w' => e = .returned (.string r) ∧ Below w.heap.size w w' := by
  have HB := AM (Below.refl w.heap.size w)
  have H : (impl_PutNum.l0 k (Go.bits .xor .u64 (IntKind.u64.wrap ((IntKind.u64.wrap (a0)) * 2)) (IntKind.u64.wrap (a0 / 9223372036854775808))) ([] : List Int)) = some r := h
  clear h
  have H' := AM H
  clear H
  go_enter Try.func93, Try.ntmps93
  go_wp2
  go_loopg [3, 4] k (fun kq v3 v4 w' => ∃ (x3_1 : Int) (x4_1 : List Int), v3 = .int .u64 x3_1 ∧ Aside0 (impl_PutNum.l0 kq x3_1 x4_1 = some r) ∧ Aside0 (kq ≤ k) ∧ Aside0 (Kd.R (Kd.int .u8) 5 w' w.heap.size (fun _ => True) v4 x4_1) ∧ Aside0 (Below w.heap.size w w'))
  case atStart => exact ⟨(Go.bits .xor .u64 (IntKind.u64.wrap ((IntKind.u64.wrap (a0)) * 2)) (IntKind.u64.wrap (a0 / 9223372036854775808))), (([] : List Int)), (by first | rfl | (simp; done) | (simp [*]; done)), H', ⟨Nat.le_refl _⟩, ⟨by first | exact Kd.R_nil _ _ _ _ _ | exact Kd.N_nil _ _ _ _ _ | exact Kd.V_nil _ _ _ _ _ | exact Kd.Q_nil _ _ _ _ _ | exact Kd.S_nil _ _ _ _ _⟩, ⟨bel_⟩⟩
  case round =>
    clear H'
    obtain ⟨x3_1, x4_1, rfl, HA, HK1, HO_4, HB⟩ := hrel
    cases gk with
    | zero => exact absurd HA.out (by simp [impl_PutNum.l0])
    | succ k1 =>
      have H := HA.out
      clear HA
      simp only [impl_PutNum.l0] at H
      by_cases c2 : x3_1 > 127
      · rw [if_pos c2] at H
        have c2b0 : decide (127 < x3_1) = true := decide_eq_true c2
        clear c2
        by_cases c3 : x4_1.length < 140737488355328
        · rw [if_pos c3] at H
          have LMc3 := AM c3
          clear c3
          obtain ⟨y188, hy188⟩ : ∃ y_ : List Int, y_ = (x4_1 ++ [Go.bits .or .u8 ((Go.bits .and .u64 x3_1 127) % 256) 128]) := ⟨_, rfl⟩
          replace H : (impl_PutNum.l0 k1 (x3_1 / 128) y188) = some r := by first | (rw [hy188]; with_reducible exact H) | (have H2_ := (Option.bind_some _ _).symm.trans H; rw [hy188]; with_reducible exact H2_) | (have H2_ := (Option.bind_some _ _).symm.trans H; with_reducible exact H2_) | with_reducible exact H | (rw [hy188]; exact H) | exact H
          have Ny188 := AM hy188
          clear hy188
          have H' := AM H
          clear H
          go_wp2_with (first | ((with_reducible refine gate_builtin (b := .append) (xs := #[.tmp 14, .tmp 19]) rfl ?_); at_builtin; refine Kd.R_append (Kd.int .u8) (w0 := w) w.heap.size rfl (.tmp 14) (.tmp 19) 51 5 (.int .u8 0) 1 rfl Try.underlying51 info5 rfl (by decide) (by omega) u4 x4_1 (Go.bits .or .u8 ((Go.bits .and .u64 x3_1 127) % 256) 128) [.int .u8 (Go.bits .or .u8 ((Go.bits .and .u64 x3_1 127) % 256) 128)] (fun _ => True) (fun _ => False) rfl rfl ?aP (fun _ hk => hk.elim) ?aF ?aO ?aB ?aS ?aL ?_; (case aP => exact rfl); (case aB => exact bel_); (case aF => exact (fun _ _ => trivial)); (case aO => exact (ro_ HO_4.out)); (case aS => exact (below_size bel_)); (case aL => have := LMc3.out; omega); intro v189 w4 ho hb hg hat; rw [← Ny188.out] at ho; have n0_ := AM hb; have n1_ := AM ho; clear HB; clear HO_4; have HB := n0_; have HO190 := n1_; clear n0_ n1_; clear ho hb hg hat))
          go_roundg k1
          case measure => have := HK1.out; omega
          case rel => exact ⟨(x3_1 / 128), (y188), (by first | rfl | (simp; done) | (simp [*]; done)), H', ⟨by have := HK1.out; omega⟩, ⟨ro_ HO190.out⟩, ⟨bel_⟩⟩
        · rw [if_neg c3] at H
          exact absurd H (by simp)
      · rw [if_neg c2] at H
        have c2b0 : decide (127 < x3_1) = false := decide_eq_false c2
        clear c2
        by_cases c5 : x4_1.length < 140737488355328
        · rw [if_pos c5] at H
          have LMc5 := AM c5
          clear c5
          obtain ⟨y191, hy191⟩ : ∃ y_ : List Int, y_ = (x4_1 ++ [(x3_1) % 256]) := ⟨_, rfl⟩
          replace H : (some (strOfNums y191)) = some r := by first | (rw [hy191]; with_reducible exact H) | (have H2_ := (Option.bind_some _ _).symm.trans H; rw [hy191]; with_reducible exact H2_) | (have H2_ := (Option.bind_some _ _).symm.trans H; with_reducible exact H2_) | with_reducible exact H | (rw [hy191]; exact H) | exact H
          have Ny191 := AM hy191
          clear hy191
          obtain rfl := Option.some.inj H
          go_wp2_with (first | ((with_reducible refine gate_builtin (b := .append) (xs := #[.tmp 23, .tmp 26]) rfl ?_); at_builtin; refine Kd.R_append (Kd.int .u8) (w0 := w) w.heap.size rfl (.tmp 23) (.tmp 26) 51 5 (.int .u8 0) 1 rfl Try.underlying51 info5 rfl (by decide) (by omega) u4 x4_1 ((x3_1) % 256) [.int .u8 ((x3_1) % 256)] (fun _ => True) (fun _ => False) rfl rfl ?aP (fun _ hk => hk.elim) ?aF ?aO ?aB ?aS ?aL ?_; (case aP => exact rfl); (case aB => exact bel_); (case aF => exact (fun _ _ => trivial)); (case aO => exact (ro_ HO_4.out)); (case aS => exact (below_size bel_)); (case aL => have := LMc5.out; omega); intro v192 w6 ho hb hg hat; rw [← Ny191.out] at ho; have n0_ := AM hb; have n1_ := AM ho; clear HB; clear HO_4; have HB := n0_; have HO193 := n1_; clear n0_ n1_; clear ho hb hg hat; have hcv7 := own_string (P := Try.prog) Try.underlying51 Try.underlying5 Try.underlying9 (Kd.own_of_R HO193.out)))
          go_ret
          exact ⟨ri_, bel_⟩
        · rw [if_neg c5] at H
          exact absurd H (by simp)

/-! ### impl_Place_94: function 94 -/
def impl_Place_94.f (l0 : List (S66)) : Option (Int) := some (l0.length : Int)
set_option maxHeartbeats 8000000 in
set_option maxRecDepth 100000 in
theorem impl_Place_94.calls (A0 : Option Addr) (c0 : Nat) (l0 : List (S66)) (r : Int) (w : World) (hr0 : Kd.C k66 w A0 l0.length l0) (hc0 : l0.length ≤ c0) (h : impl_Place_94.f l0 = some r) :
    Calls Try.prog 94 #[.slice A0 l0.length c0] w fun e w' => e = .returned (.int .i64 r) ∧ Drawn0 w w' := by
  have HR0 := AM hr0
  have HC0 := AM hc0
  clear hr0 hc0
  have H : (some (l0.length : Int)) = some r := h
  clear h
  obtain rfl := Option.some.inj H
  go_enter Try.func94, Try.ntmps94
  go_wp2
  go_ret
  exact ⟨by first | rfl | (simp; done) | (simp [*]; done), by repeat (first | exact Drawn0.refl _ | apply Drawn0.step)⟩

/-! ### impl_putText: function 95 -/
def impl_putText.f (k : Nat) (a0 : ByteArray) : Option (ByteArray) := (impl_long.f a0).bind fun t194 => ((impl_PutNum.f k t194).bind fun t195 => (if t195.size + a0.size ≤ 9223372036854775807 then (some (t195 ++ a0)) else (none)))
theorem impl_putText.mono : ∀ a0 k, LeO (impl_putText.f k a0) (impl_putText.f (k + 1) a0) := by
  intro a0 k
  unfold impl_putText.f
  repeat' first
      | (with_reducible exact impl_PutNum.mono _ _)
      | (with_reducible exact LeO.refl _)
      | (with_reducible exact LeO.none _)
      | (with_reducible refine LeO.ite ?_ ?_)
      | (with_reducible refine LeO.bind ?_ (fun _ => ?_))
      | exact impl_PutNum.mono _ _
      | exact LeO.none _
      | refine LeO.ite ?_ ?_
      | refine LeO.bind ?_ (fun _ => ?_)
set_option maxHeartbeats 8000000 in
set_option maxRecDepth 100000 in
theorem impl_putText.calls (k : Nat) (a0 : ByteArray) (r : ByteArray) (w : World) (h : impl_putText.f k a0 = some r) :
    Calls Try.prog 95 #[.string a0] w fun e w' => e = .returned (.string r) ∧ Below w.heap.size w w' := by
  have HB := AM (Below.refl w.heap.size w)
  have H : ((impl_long.f a0).bind fun t194 => ((impl_PutNum.f k t194).bind fun t195 => (if t195.size + a0.size ≤ 9223372036854775807 then (some (t195 ++ a0)) else (none)))) = some r := h
  clear h
  obtain ⟨t194, A2, H⟩ := OB H
  try dsimp only at H
  replace A2 := AM A2
  obtain ⟨t195, A3, H⟩ := OB H
  try dsimp only at H
  replace A3 := AM A3
  by_cases c4 : t195.size + a0.size ≤ 9223372036854775807
  · rw [if_pos c4] at H
    have c4b0 := eq_true c4
    have c4b1 : decide (t195.size + a0.size ≤ 9223372036854775807) = true := decide_eq_true c4
    try have c4b2 : (9223372036854775807 < t195.size + a0.size) = False := eq_false (Nat.not_lt.2 c4)
    obtain rfl := Option.some.inj H
    go_enter Try.func95, Try.ntmps95
    go_wp2_with (first | ((with_reducible refine gate_callee (f := 137) rfl ?_); refine gl_ (some 4) Try.func137 #[.string a0] ?_; (with_reducible refine (impl_long.calls a0 t194 _ A2.out).mono ?_); rintro e w' ⟨rfl, ⟨nd, rfl⟩⟩; refine ⟨_, rfl, ?_⟩) | ((with_reducible refine gate_callee (f := 93) rfl ?_); refine gl_ (some 5) Try.func93 #[.int .i64 t194] ?_; (with_reducible refine (impl_PutNum.calls k t194 t195 _ A3.out).mono ?_); rintro e w5 ⟨rfl, hb⟩; refine ⟨_, rfl, ?_⟩; replace HB := AM (below_step bel_ hb); (try clear hb); (try clear hb2); (try clear hk); (try clear hi)))
    go_ret
    exact ⟨ri_, bel_⟩
  · rw [if_neg c4] at H
    exact absurd H (by simp)

-- NOT PRINTED: function 96 (strings_Builder_String)

/-! ### impl_placesText: function 45 -/
def bw_ren : Go.Shelf.Ren := ⟨fun | 156 => 103 | 165 => 138 | 166 => 92 | 169 => 96 | 240 => 136 | 241 => 154 | 276 => 153 | 277 => 158 | n => n, fun | 31 => 54 | 9 => 9 | 3 => 3 | 4 => 4 | 0 => 0 | 20 => 20 | 72 => 115 | 76 => 118 | 70 => 113 | 37 => 51 | 75 => 117 | 127 => 154 | 164 => 168 | 5 => 5 | 80 => 94 | n => n, fun | n => n⟩
theorem bw_lays : Go.Proofs.Lays.n156 Try.prog bw_ren := {
  mixed := by kernel_rfl
  f156 := Try.func103.trans (congrArg some (by kernel_rfl))
  f165 := Try.func138.trans (congrArg some (by kernel_rfl))
  f166 := Try.func92.trans (congrArg some (by kernel_rfl))
  f169 := Try.func96.trans (congrArg some (by kernel_rfl))
  f240 := Try.func136.trans (congrArg some (by kernel_rfl))
  f241 := Try.func154.trans (congrArg some (by kernel_rfl))
  f276 := Try.func153.trans (congrArg some (by kernel_rfl))
  f277 := Try.func158.trans (congrArg some (by kernel_rfl))
  t0 := Try.underlying0
  a0 := Try.isAgg0
  z0 := Try.sizeOf0
  v0 := Try.zeroValue0
  t3 := Try.underlying3
  a3 := Try.isAgg3
  z3 := Try.sizeOf3
  v3 := Try.zeroValue3
  t4 := Try.underlying4
  a4 := Try.isAgg4
  z4 := Try.sizeOf4
  v4 := Try.zeroValue4
  t9 := Try.underlying9
  a9 := Try.isAgg9
  z9 := Try.sizeOf9
  v9 := Try.zeroValue9
  t20 := Try.underlying20
  a20 := Try.isAgg20
  z20 := Try.sizeOf20
  v20 := Try.zeroValue20
  t31 := Try.underlying54
  a31 := Try.isAgg54
  z31 := Try.sizeOf54
  v31 := Try.zeroValue54
  t37 := Try.underlying51
  a37 := Try.isAgg51
  z37 := Try.sizeOf51
  v37 := Try.zeroValue51
  t70 := Try.underlying113
  a70 := Try.isAgg113
  z70 := Try.sizeOf113
  v70 := Try.zeroValue113
  t72 := Try.underlying115
  a72 := Try.isAgg115
  z72 := Try.sizeOf115
  v72 := Try.zeroValue115
  t75 := Try.underlying117
  a75 := Try.isAgg117
  z75 := Try.sizeOf117
  v75 := Try.zeroValue117
  t76 := Try.underlying118
  a76 := Try.isAgg118
  z76 := Try.sizeOf118
  v76 := Try.zeroValue118
  t127 := Try.underlying154
  a127 := Try.isAgg154
  z127 := Try.sizeOf154
  v127 := Try.zeroValue154
  t164 := Try.underlying168
  a164 := Try.isAgg168
  z164 := Try.sizeOf168
  v164 := Try.zeroValue168 }
theorem bw_extra : Go.Proofs.Builder.Extra Try.prog bw_ren := {
  sizeBuilder := by kernel_rfl
  liesBuilder := by kernel_rfl
  t5 := Try.underlying5
  a5 := Try.isAgg5
  z5 := Try.sizeOf5
  v5 := Try.zeroValue5
  infoByte := by kernel_rfl
  cellsByte := by kernel_rfl
  sizeByte := by kernel_rfl
  neB5 := by decide }
theorem bw_grow {T e : TypeId} {B b : Nat} {bs : List Value} {w w' : World} (h : Lib.IsBuilder T e B b bs w) (hg : Below w.heap.size w w') : Lib.IsBuilder T e B b bs w' := by
  have key : ∀ p, Lib.BuilderAt T e B b p bs w → Lib.BuilderAt T e B b p bs w' := by
    rintro p ⟨hB, v, hb, hown, hne⟩
    exact ⟨hB, v, (hg.block b (Lib.BuilderAt.lt ⟨hB, v, hb, hown, hne⟩)).trans hb, pw_own_below hown hg, hne⟩
  exact h.imp (key _) (key _)
theorem bw_write (B b : Nat) (acc s : ByteArray) (w : World) (h : Lib.IsBuilder 115 5 B b (Lib.byteCells acc.data.toList) w) (hlen : acc.size + s.size ≤ 140737488355328) (hBw : B ≤ w.heap.size) :
    Calls Try.prog 92 #[.pointer (some ⟨b, 0, none⟩), .string s] w fun e w' => e = .returned (.tuple #[.int .i64 s.size, .nilIface]) ∧ Lib.IsBuilder 115 5 B b (Lib.byteCells (acc ++ s).data.toList) w' ∧ Below B w w' := by
  refine (Any.Builder_WriteString (ρ := bw_ren) { bw_lays with } bw_extra B b (Lib.byteCells acc.data.toList) s w h (by rw [Lib.byteCells_length]; exact hlen) hBw).mono ?_
  rintro e w' ⟨h1, h2, h3⟩
  refine ⟨h1, .inr ?_, h3⟩
  rw [show Lib.byteCells (acc ++ s).data.toList = Lib.byteCells acc.data.toList ++ Lib.strCells s by rw [Lib.strCells_eq, ← Lib.byteCells_append]; simp [ByteArray.data_append]]
  exact h2
theorem bw_text (B b : Nat) (acc : ByteArray) (w : World) (h : Lib.IsBuilder 115 5 B b (Lib.byteCells acc.data.toList) w) (hBw : B ≤ w.heap.size) :
    Calls Try.prog 96 #[.pointer (some ⟨b, 0, none⟩)] w fun e w' => e = .returned (.string acc) ∧ Below B w w' :=
  (Any.Builder_String_any (ρ := bw_ren) { bw_lays with } bw_extra B b acc.data.toList w h hBw)
def bw_cat (l : List ByteArray) : ByteArray := ⟨(Lib.join (l.map (·.data.toList)) []).toArray⟩
theorem bw_join (A : Option Addr) (c : Nat) (l : List ByteArray) (w : World) (hr : Kd.C Kd.string w A l.length l) (hc : l.length ≤ c) (hN : l.length ≤ 140737488355328) (hlen : (bw_cat l).size ≤ 140737488355328) :
    Calls Try.prog 103 #[.slice A l.length c, .string ⟨#[]⟩] w fun e w' => e = .returned (.string (bw_cat l)) ∧ Below w.heap.size w w' := by
  by_cases hl : l = []
  · subst hl
    refine (Any.strings_Join_none (ρ := bw_ren) bw_lays bw_extra A c ⟨#[]⟩ w).mono ?_
    rintro e w' ⟨h1, rfl⟩
    exact ⟨h1, Below.refl _ _⟩
  · have hp : 0 < l.length := List.length_pos_iff.2 hl
    obtain ⟨ad, rfl, h0⟩ := Kd.at_string hr 0 (by omega) (by omega)
    obtain ⟨bk, o, spot⟩ := ad
    have hs : spot = none := by
      simp only [Addr.add, Int.toNat_zero, if_true, World.cell?] at h0
      revert h0
      cases spot with
      | none => intro _; rfl
      | some s => intro h0; split at h0 <;> simp at h0
    subst hs
    have hcells : ∀ (j : Nat) x, l[j]? = some x → w.cell? ⟨bk, o + j, none⟩ = some (.string x) := by
      intro j x hx
      obtain ⟨hj, hjx⟩ := List.getElem?_eq_some_iff.1 hx
      obtain ⟨ad', e', h1⟩ := Kd.at_string hr (j : Int) (by omega) (by omega)
      cases e'
      have e2 : rdOf ByteArray.empty l (j : Int) = x := by
        unfold rdOf
        rw [Int.toNat_natCast, List.getD_eq_getElem?_getD, hx]
        rfl
      rw [e2, Int.toNat_natCast] at h1
      rw [← h1]
      congr 1
      unfold Addr.add
      split
      · rename_i q
        subst q
        rfl
      · rfl
    have hbk : bk < w.heap.size := World.block_lt_of_cell? w _ (hcells 0 _ (List.getElem?_eq_getElem hp))
    exact Any.strings_Join (ρ := bw_ren) bw_lays bw_extra bk o c l ⟨#[]⟩ w hcells hbk hN hc (by simpa [bw_cat, ByteArray.size] using hlen)
/-! A region whose last operation, which waits for all others, writes. -/
section
variable {P : Program} {Q : Exit → Act → World → Prop}
theorem regl_any {ops : Array Oper} (T : List (List Nat)) (R : Nat → Value → World → Prop) {a : Act} {w : World} (n : Nat) (ol : Oper) (hn : ops.size = n + 1) (hol : ops[n]? = some ol) (hall : (List.range n).all (fun j => (T.getD n []).contains j) = true)
    (hd : dstsOk ops.toList = true) (hT : depsOk ops T = true) (hR : ∀ i v w w', Grow w w' → R i v w → R i v w')
    (hS : Reg.Steps P ops Q T R a w (ops.toList.take n) 0)
    (hL : ∀ us w', Grow w w' → (∀ j, j < n → R j (us j) w') → ∀ K : Act → World → Prop, (∀ us' w'', Q .normal (regPut us' ops.toList 0 a) w'' → (∀ j, j < n → us' j = us j) → K (regPut us' ops.toList 0 a) w'') →
      if Region.wanted ol (yielded ops (regPut us ops.toList 0 a).tmps) = true then Oper.wp P ol (regPut us ops.toList 0 a) w' K Q else K ((regPut us ops.toList 0 a).put ol.dst undef) w') :
    ∀ (fuel : Nat) (listed : Array Bool) (us : Nat → Value) (w' : World), ListedClosed .any ops listed → ((List.range ops.size).filter fun j => !listed.getD j false).length ≤ fuel → listed.size = ops.size → Grow w w' → listed.getD n false = false →
      (∀ j, listed.getD j false = true → R j (us j) w') → wpAny P .any ops Q fuel listed (regPut us ops.toList 0 a) w' := by
  have hready : ∀ (listed : Array Bool), listed.size = ops.size → Region.ready .any ops listed = [] → ∀ j, j < ops.size → listed.getD j false = true := by
    intro listed hsz hnil j hj
    induction j using Nat.strongRecOn with
    | ind j ih =>
      cases hb : listed.getD j false with
      | true => rfl
      | false =>
        have hmem : j ∈ Region.ready .any ops listed := by
          rw [mem_ready]
          refine ⟨?_, ops[j], Array.getElem?_eq_getElem hj, fun e he hbe => ?_⟩
          · rw [Array.getD_eq_getD_getElem?, Array.getElem?_eq_getElem (by omega)] at hb ⊢
            exact hb
          · have h1 := List.all_eq_true.1 hT j (List.mem_range.2 hj)
            rw [Array.getElem?_eq_getElem hj] at h1
            simp only [Bool.and_eq_true] at h1
            have h2 := Array.all_eq_true_iff_forall_mem.1 h1.1 e he
            have hlt : e.on < j := by simpa [hbe] using h2
            exact ih e.on hlt (by omega)
        rw [hnil] at hmem
        cases hmem
  intro fuel
  induction fuel with
  | zero =>
    intro listed us w' hc hn' hsz hg hnl hr
    have hlen : ((List.range ops.size).filter fun j => !listed.getD j false) = [] := List.eq_nil_of_length_eq_zero (by omega)
    have : n ∈ ((List.range ops.size).filter fun j => !listed.getD j false) := by
      rw [List.mem_filter]
      exact ⟨List.mem_range.2 (by omega), by rw [hnl]; rfl⟩
    rw [hlen] at this
    cases this
  | succ fuel ih =>
    intro listed us w' hc hn' hsz hg hnl hr
    refine ⟨fun hnil => absurd (hready listed hsz hnil n (by omega)) (by rw [hnl]; simp), fun i hi => ?_⟩
    obtain ⟨h1, o, ho, hdep⟩ := mem_ready.1 hi
    have hil : i < ops.size := (Array.getElem?_eq_some_iff.1 ho).1
    have hun : listed.getD i false = false := by
      rw [Array.getD_eq_getD_getElem?, Array.getElem?_eq_getElem (by omega)] at h1 ⊢
      exact h1
    have hnot : listed[i]'(by omega) = false := by
      rw [Array.getD_eq_getD_getElem?, Array.getElem?_eq_getElem (by omega)] at h1
      exact h1
    have hlt : ((List.range ops.size).filter fun j => !(listed.setIfInBounds i true).getD j false).length < ((List.range ops.size).filter fun j => !listed.getD j false).length := by
      have hsub : ((List.range ops.size).filter fun j => !(listed.setIfInBounds i true).getD j false) = (((List.range ops.size).filter fun j => !listed.getD j false).filter fun j => j != i) := by
        rw [List.filter_filter]
        apply List.filter_congr
        intro j hj
        by_cases e : j = i
        · subst e
          simp [Array.getD_eq_getD_getElem?, show j < listed.size by omega]
        · rw [getD_set_ne false (fun h => e h.symm)]
          simp [e]
      rw [hsub]
      refine List.length_filter_lt_length_iff_exists.2 ⟨i, ?_, by simp⟩
      rw [List.mem_filter]
      exact ⟨List.mem_range.2 hil, by rw [hun]; rfl⟩
    refine wpOp_step ho (fun K' hK => ?_)
    by_cases hin : i = n
    · subst hin
      have hoe : o = ol := Option.some.inj (ho.symm.trans hol)
      subst hoe
      have hprev : ∀ j, j < i → listed.getD j false = true := fun j hj => deps_listed hT hc i o ho hdep j (by
        have := List.all_eq_true.1 hall j (List.mem_range.2 hj)
        simpa using this)
      refine hL us w' hg (fun j hj => hr j (hprev j hj)) K' (fun us' w'' hq _ => hK _ _ ?_)
      have hfull : ∀ j, j < ops.size → (listed.setIfInBounds i true).getD j false = true := by
        intro j hj
        by_cases e : j = i
        · subst e
          simp [Array.getD_eq_getD_getElem?, show j < listed.size by omega]
        · rw [getD_set_ne false (fun h => e h.symm)]
          exact hprev j (by omega)
      have hnil : Region.ready .any ops (listed.setIfInBounds i true) = [] := by
        cases hq : Region.ready .any ops (listed.setIfInBounds i true) with
        | nil => rfl
        | cons k ks =>
          have hk : k ∈ Region.ready .any ops (listed.setIfInBounds i true) := by rw [hq]; simp
          obtain ⟨k1, o', ho', _⟩ := mem_ready.1 hk
          have hkl : k < ops.size := (Array.getElem?_eq_some_iff.1 ho').1
          have h9 := hfull k hkl
          have hks : k < (listed.setIfInBounds i true).size := by simp; omega
          rw [Array.getD_eq_getD_getElem?, Array.getElem?_eq_getElem hks] at h9 k1
          rw [show (some ((listed.setIfInBounds i true)[k])).getD false = (listed.setIfInBounds i true)[k] from rfl] at h9
          rw [show (some ((listed.setIfInBounds i true)[k])).getD true = (listed.setIfInBounds i true)[k] from rfl, h9] at k1
          cases k1
      cases fuel with
      | zero => exact ⟨hnil, hq⟩
      | succ fuel => exact ⟨fun _ => hq, fun k hk => by rw [hnil] at hk; cases hk⟩
    · have hlt2 : i < n := by omega
      have hst := steps_get (ops.toList.take n) 0 i o hS (by rw [List.getElem?_take, if_pos hlt2]; simpa using ho)
      rw [Nat.zero_add] at hst
      refine hst us w' hg (fun j hj => hr j (deps_listed hT hc i o ho hdep j hj)) K' (fun v w'' hg' hv => hK _ _ ?_)
      rw [regPut_upd ops.toList 0 i a o hd (by simpa using ho), Nat.zero_add]
      refine ih (listed.setIfInBounds i true) (upd us i v) w'' (hc.set hi) (by omega) (by simpa using hsz) (grow_trans hg hg') ?_ (fun j hj => ?_)
      · rw [getD_set_ne false hin]
        exact hnl
      · by_cases e : j = i
        · subst e
          unfold upd
          rw [if_pos rfl]
          exact hv
        · unfold upd
          rw [if_neg e]
          rw [getD_set_ne false (fun h => e h.symm)] at hj
          exact hR j _ _ _ hg' (hr j hj)
theorem stepsl_of {ops : Array Oper} {R : Nat → Value → World → Prop} {a : Act} {w : World} {A : (Nat → Value) → Act} {T : List (List Nat)} (hd : dstsOk ops.toList = true) (hs : slotsOk ops a.tmps.size = true) (hA : ∀ us, regPut us ops.toList 0 a = A us) :
    ∀ (os : List Oper) (Ds : List (List Nat)) (i : Nat), (∀ k, k < os.length → T.getD (i + k) [] = Ds.getD k []) → (∀ o ∈ os, o ∈ ops) → Steps1 P Q R A w os Ds i → Reg.Steps P ops Q T R a w os i
  | [], [], _, _, _, _ => trivial
  | [], _ :: _, _, _, _, h => h.elim
  | o :: os, [], _, _, _, h => h.elim
  | o :: os, D :: Ds, i, hT, hm, h => by
    refine ⟨fun us w' hg hD K hK => ?_, stepsl_of hd hs hA os Ds (i + 1) (fun k hk => by have := hT (k + 1) (by simp; omega); rw [show i + 1 + k = i + (k + 1) by omega]; simpa using this) (fun q hq => hm q (by simp [hq])) h.2⟩
    have hTi : T.getD i [] = D := by have := hT 0 (by simp); simpa using this
    rw [hTi] at hD
    have h1 := h.1 us w' hg (allR_of D hD) K (fun v w'' hg' hv => by rw [← hA us]; exact hK v w'' hg' hv)
    rw [wantedG_eq hd hs (hm o (by simp)), hA us]
    exact h1
/-- The region whose last operation writes: a call. -/
theorem wp_regl {id : Nat} {ops : Array Oper} {a : Act} {w : World} (T : List (List Nat)) (R : Nat → Value → World → Prop) (B : (Nat → Value) → List Value) (d : List Deferred) (n : Nat) (ol : Oper) (hn : ops.size = n + 1) (hol : ops[n]? = some ol) (hall : (List.range n).all (fun j => (T.getD n []).contains j) = true)
    (hm : P.follows .mixedOrders = true) (hd : dstsOk ops.toList = true) (hs : slotsOk ops a.tmps.size = true) (hT : depsOk ops T = true)
    (hA : ∀ us, regPut us ops.toList 0 a = ⟨(B us).toArray, d⟩) (hR : ∀ i v w w', Grow w w' → R i v w → R i v w') (hTl : T.length = n + 1)
    (hS : Steps1 P Q R (fun us => ⟨(B us).toArray, d⟩) w (ops.toList.take n) (T.take n) 0)
    {f : FuncId} {fn : Func} {as_ : Array Operand} {ts : Array TypeId} (hg0 : ol.guard = none) (hop : ol.op = .call { callee := .value (.func f), args := as_, argTypes := ts }) (hf : P.funcs[f]? = some fn) (hname : (fn.name == "runtime.NumGoroutine") = false) (hb : fn.body.isSome = true)
    (hL : ∀ us w', Grow w w' → AllR R us w' (List.range n) → ∃ args, as_.map (Act.eval ⟨(B us).toArray, d⟩) = args ∧ Calls P f args w' fun e w'' => ∃ v, e = .returned v ∧ Q .normal (Act.put ⟨(B us).toArray, d⟩ ol.dst v) w'') : (Code.region id ops true).wp P Q a w := by
  refine wp_region_any hm ?_
  have hg : Grow w { w with drawn := w.drawn + 1 } := below_drew1 (grow_refl w)
  have hemp : ∀ j, (Array.replicate ops.size false).getD j false = false := by
    intro j
    rw [Array.getD_eq_getD_getElem?, Array.getElem?_replicate]
    split <;> rfl
  have hmo : ol ∈ ops := Array.mem_of_getElem? hol
  have h := regl_any T R n ol hn hol hall hd hT hR (stepsl_of hd hs hA (ops.toList.take n) (T.take n) 0 (fun k hk => ?_) (fun o ho => by simpa using List.mem_of_mem_take ho) hS) ?_ ops.size (Array.replicate ops.size false) (orig a ops) _ (fun j oj hj hl e he hb => by
      rw [hemp] at hl
      cases hl) (Nat.le_trans (List.length_filter_le _ _) (by simp)) (by simp) hg (hemp n) (fun j hj => by
      rw [hemp] at hj
      cases hj)
  · rwa [regPut_orig a ops ops.toList 0 (fun k => by simp)] at h
  · have hk2 : k < n := by
      have := List.length_take_le n ops.toList
      omega
    rw [Nat.zero_add, List.getD_eq_getElem?_getD, List.getD_eq_getElem?_getD, List.getElem?_take, if_pos hk2]
  · intro us w' hgw hr K hK
    have hw : Region.wanted ol (yielded ops (regPut us ops.toList 0 a).tmps) = true := by
      rw [wantedG_eq hd hs hmo]
      unfold wantedG
      rw [hg0]
    rw [if_pos hw]
    obtain ⟨args, hargs, hcall⟩ := hL us w' hgw (allR_of _ (fun j hj => hr j (List.mem_range.1 hj)))
    have he := enters_ hf hname hb args w'
    have hrun : (execOp (regPut us ops.toList 0 a).eval ol).run P w' = .ok (.enter f args) w' := by
      rw [hA us]
      unfold execOp
      simp [hop, resolve, Deferred.ofValue, invoke, Act.eval, hargs, he]
    unfold Oper.wp
    rw [hrun, Oper.upon_enter]
    refine hcall.mono ?_
    rintro e w'' ⟨v, rfl, hq⟩
    rw [← hA us, regPut_upd ops.toList 0 n a ol hd (by simpa using hol), Nat.zero_add] at hq
    have := hK (upd us n v) w'' hq (fun j hj => by unfold upd; rw [if_neg (by omega)])
    have e2 := regPut_upd (us := us) (v := v) ops.toList 0 n a ol hd (by simpa using hol)
    rw [Nat.zero_add] at e2
    show K ((regPut us ops.toList 0 a).put ol.dst v) w''
    rw [e2]
    exact this
end

def impl_placesText.one (k : Nat) (x : S66) : Option ByteArray :=
  (impl_putText.f k x.f1).bind fun t1 => (impl_PutNum.f k x.f2).bind fun t2 => (impl_PutNum.f k x.f3).bind fun t3 => (impl_PutNum.f k x.f4).bind fun t4 =>
    if x.f0.size + t1.size + t2.size + t3.size + t4.size ≤ 140737488355328 then some (x.f0 ++ t1 ++ t2 ++ t3 ++ t4) else none
def impl_placesText.l0 : Nat → List (S66) → ByteArray → Int → Option (ByteArray)
  | 0, _, _, _ => none
  | k + 1, l, acc, x => if x < (l.length : Int) then (if 0 ≤ x then ((impl_placesText.one k (rd_T66 l x)).bind fun t => (if acc.size + t.size ≤ 140737488355328 then (impl_placesText.l0 k l (acc ++ t) (wrap64 (x + 1))) else (none))) else (none)) else some acc
def impl_placesText.f (k : Nat) (l0 : List (S66)) : Option (ByteArray) := (impl_PutNum.f k (l0.length : Int)).bind fun t => if t.size ≤ 140737488355328 then (impl_placesText.l0 k l0 t 0) else (none)
theorem impl_placesText.mono_1 (x : S66) (k : Nat) : LeO (impl_placesText.one k x) (impl_placesText.one (k + 1) x) := by
  unfold impl_placesText.one
  repeat' first
  | (with_reducible exact impl_putText.mono _ _)
  | (with_reducible exact impl_PutNum.mono _ _)
  | (with_reducible exact LeO.refl _)
  | (with_reducible refine LeO.bind ?_ (fun _ => ?_))
theorem impl_placesText.mono_l : ∀ k, (∀ y0 y1 y2, LeO (impl_placesText.l0 k y0 y1 y2) (impl_placesText.l0 (k + 1) y0 y1 y2))
  | 0 => fun _ _ _ r h => by simp [impl_placesText.l0] at h
  | k + 1 => by
    have ih0 := impl_placesText.mono_l k
    · intro y0 y1 y2
      unfold impl_placesText.l0
      repeat' first
      | (with_reducible exact ih0 _ _ _)
      | (with_reducible exact impl_placesText.mono_1 _ _)
      | (with_reducible exact LeO.refl _)
      | (with_reducible refine LeO.ite ?_ ?_)
      | (with_reducible refine LeO.bind ?_ (fun _ => ?_))
theorem impl_placesText.mono : ∀ a0 k, LeO (impl_placesText.f k a0) (impl_placesText.f (k + 1) a0) := by
  intro a0 k
  unfold impl_placesText.f
  exact LeO.bind (impl_PutNum.mono _ _) (fun _ => LeO.ite (impl_placesText.mono_l k _ _ _) (LeO.refl _))
theorem impl_placesText.open1 (k : Nat) (x : S66) (r : ByteArray) (h : impl_placesText.one k x = some r) : ∃ t1 t2 t3 t4, impl_putText.f k x.f1 = some t1 ∧ impl_PutNum.f k x.f2 = some t2 ∧ impl_PutNum.f k x.f3 = some t3 ∧ impl_PutNum.f k x.f4 = some t4 ∧
    x.f0.size + t1.size + t2.size + t3.size + t4.size ≤ 140737488355328 ∧ r = x.f0 ++ t1 ++ t2 ++ t3 ++ t4 := by
  unfold impl_placesText.one at h
  obtain ⟨t1, h1, h⟩ := Option.bind_eq_some_iff.mp h
  obtain ⟨t2, h2, h⟩ := Option.bind_eq_some_iff.mp h
  obtain ⟨t3, h3, h⟩ := Option.bind_eq_some_iff.mp h
  obtain ⟨t4, h4, h⟩ := Option.bind_eq_some_iff.mp h
  split at h
  · rename_i q
    exact ⟨t1, t2, t3, t4, h1, h2, h3, h4, q, (Option.some.inj h).symm⟩
  · cases h
set_option maxHeartbeats 8000000 in
set_option maxRecDepth 100000 in
theorem impl_placesText.calls (k : Nat) (A0 : Option Addr) (c0 : Nat) (l0 : List (S66)) (r : ByteArray) (w : World) (hr0 : Kd.C k66 w A0 l0.length l0) (hc0 : l0.length ≤ c0) (h : impl_placesText.f k l0 = some r) :
    Calls Try.prog 45 #[.slice A0 l0.length c0] w fun e w' => e = .returned (.string r) ∧ Below w.heap.size w w' := by
  have hu := Try.underlying66
  have HR0 := AM hr0
  have HC0 := AM hc0
  clear hr0 hc0
  obtain ⟨t, A2, H⟩ := OB h
  try dsimp only at H
  replace A2 := AM A2
  clear h
  by_cases c3 : t.size ≤ 140737488355328
  case neg =>
    rw [if_neg c3] at H
    exact absurd H (by simp)
  case pos =>
    rw [if_pos c3] at H
    have H' := AM H
    have C3 := AM c3
    clear H c3
    have HI : Aside0 (Lib.IsBuilder 115 5 w.heap.size w.heap.size (Lib.byteCells ByteArray.empty.data.toList) (w.alloc (.cells #[.pointer none, .slice none 0 0] 115))) := AM (Lib.fresh_isBuilder 115 5 w)
    have HB := AM ((Below.refl w.heap.size w).alloc (Nat.le_refl _) (Obj.cells #[.pointer none, .slice none 0 0] 115))
    go_enter Try.func45, Try.ntmps45
    go_wp2_with (first
      | ((with_reducible refine gate_callee (f := 94) rfl ?_); refine gl_ (some 7) Try.func94 #[.slice A0 l0.length c0] ?_; refine (impl_Place_94.calls A0 c0 l0 _ _ (Kd.C_below HR0.out HB.out) HC0.out rfl).mono ?_; rintro e w2 ⟨rfl, hb⟩; refine ⟨_, rfl, ?_⟩; replace HI := AM (bw_grow HI.out hb.below); replace HB := AM (below_step HB.out hb.below); clear hb)
      | ((with_reducible refine gate_callee (f := 93) rfl ?_); refine gl_ (some 8) Try.func93 #[.int .i64 (l0.length : Int)] ?_; refine (impl_PutNum.calls k _ t _ A2.out).mono ?_; rintro e w3 ⟨rfl, hb⟩; refine ⟨_, rfl, ?_⟩; replace HI := AM (bw_grow HI.out hb); replace HB := AM (below_step HB.out hb); clear hb)
      | ((with_reducible refine gate_callee (f := 92) rfl ?_); refine gl_ (some 9) Try.func92 #[.pointer (some ⟨w.heap.size, 0, none⟩), .string t] ?_; refine (bw_write w.heap.size w.heap.size ByteArray.empty t _ HI.out (by simpa using C3.out) HB.out.size).mono ?_; rintro e w4 ⟨rfl, hi, hb⟩; refine ⟨_, rfl, ?_⟩; rw [ByteArray.empty_append] at hi; replace HI := AM hi; replace HB := AM (HB.out.trans hb); clear hb hi))
    go_loopg [12] k (fun kq v12 w' => ∃ (x : Int) (acc : ByteArray), v12 = .int .i64 x ∧ Aside0 (impl_placesText.l0 kq l0 acc x = some r) ∧ Aside0 (kq ≤ k) ∧ Aside0 (Lib.IsBuilder 115 5 w.heap.size w.heap.size (Lib.byteCells acc.data.toList) w') ∧ Aside0 (Below w.heap.size w w'))
    case atStart => exact ⟨0, t, rfl, H', ⟨Nat.le_refl _⟩, HI, HB⟩
    case round =>
      clear H' HI HB A2 C3
      obtain ⟨x, acc, rfl, HA, HK1, HI, HB⟩ := hrel
      cases gk with
      | zero => exact absurd HA.out (by simp [impl_placesText.l0])
      | succ k1 =>
        have H := HA.out
        clear HA
        simp only [impl_placesText.l0] at H
        by_cases c3 : x < (l0.length : Int)
        · rw [if_pos c3] at H
          by_cases c4 : 0 ≤ x
          · rw [if_pos c4] at H
            obtain ⟨t, ht, H2⟩ := Option.bind_eq_some_iff.mp H
            clear H
            by_cases c5 : acc.size + t.size ≤ 140737488355328
            · rw [if_pos c5] at H2
              obtain ⟨t1, t2, t3, t4, h1, h2, h3, h4, hz, rfl⟩ := impl_placesText.open1 _ _ _ ht
              obtain ⟨ad, rfl, hx0, hx1, hx2, hx3, hx4⟩ := at_T66 HR0.out x c4 c3
              obtain ⟨a0, ha0⟩ : ∃ d, (rd_T66 l0 x).f0 = d := ⟨_, rfl⟩
              rw [ha0] at hx0 hz H2 c5
              have T1 := AM h1
              have T2 := AM h2
              have T3 := AM h3
              have T4 := AM h4
              have C5 := AM c5
              have HN := AM H2
              have s1 : a0.size + t1.size ≤ 9223372036854775807 := by omega
              have s2 : a0.size + t1.size + t2.size ≤ 9223372036854775807 := by omega
              have s3 : a0.size + t1.size + t2.size + t3.size ≤ 9223372036854775807 := by omega
              have s4 : a0.size + t1.size + t2.size + t3.size + t4.size ≤ 9223372036854775807 := by omega
              have S1 := AM s1
              have S2 := AM s2
              have S3 := AM s3
              have S4 := AM s4
              have c3b0 : decide (x < (l0.length : Int)) = true := decide_eq_true c3
              have c4b0 := eq_true c4
              have c3b1 := eq_true c3
              clear h1 h2 h3 h4 hz ht H2 c3 c4 c5 s1 s2 s3 s4 ha0
              replace hx0 := cellG HB.out (grow_refl _) hx0
              replace hx1 := cellG HB.out (grow_refl _) hx1
              replace hx2 := cellG HB.out (grow_refl _) hx2
              replace hx3 := cellG HB.out (grow_refl _) hx3
              replace hx4 := cellG HB.out (grow_refl _) hx4
              go_wp2
              have hs0 : (wr.alloc (Obj.cells #[.string a0, .string (rd_T66 l0 x).f1, .int .i64 (rd_T66 l0 x).f2, .int .i64 (rd_T66 l0 x).f3, .int .i64 (rd_T66 l0 x).f4] 66)).cell? ⟨wr.heap.size, 0, none⟩ = some (.string a0) := by simp
              have hs1 : (wr.alloc (Obj.cells #[.string a0, .string (rd_T66 l0 x).f1, .int .i64 (rd_T66 l0 x).f2, .int .i64 (rd_T66 l0 x).f3, .int .i64 (rd_T66 l0 x).f4] 66)).cell? ⟨wr.heap.size, 1, none⟩ = some (.string (rd_T66 l0 x).f1) := by simp
              have hs2 : (wr.alloc (Obj.cells #[.string a0, .string (rd_T66 l0 x).f1, .int .i64 (rd_T66 l0 x).f2, .int .i64 (rd_T66 l0 x).f3, .int .i64 (rd_T66 l0 x).f4] 66)).cell? ⟨wr.heap.size, 2, none⟩ = some (.int .i64 (rd_T66 l0 x).f2) := by simp
              have hs3 : (wr.alloc (Obj.cells #[.string a0, .string (rd_T66 l0 x).f1, .int .i64 (rd_T66 l0 x).f2, .int .i64 (rd_T66 l0 x).f3, .int .i64 (rd_T66 l0 x).f4] 66)).cell? ⟨wr.heap.size, 3, none⟩ = some (.int .i64 (rd_T66 l0 x).f3) := by simp
              have hs4 : (wr.alloc (Obj.cells #[.string a0, .string (rd_T66 l0 x).f1, .int .i64 (rd_T66 l0 x).f2, .int .i64 (rd_T66 l0 x).f3, .int .i64 (rd_T66 l0 x).f4] 66)).cell? ⟨wr.heap.size, 4, none⟩ = some (.int .i64 (rd_T66 l0 x).f4) := by simp
              replace HI := AM (bw_grow HI.out (below_alloc (Below.refl _ _) (Obj.cells #[.string a0, .string (rd_T66 l0 x).f1, .int .i64 (rd_T66 l0 x).f2, .int .i64 (rd_T66 l0 x).f3, .int .i64 (rd_T66 l0 x).f4] 66)))
              replace HB := AM (HB.out.alloc HB.out.size (Obj.cells #[.string a0, .string (rd_T66 l0 x).f1, .int .i64 (rd_T66 l0 x).f2, .int .i64 (rd_T66 l0 x).f3, .int .i64 (rd_T66 l0 x).f4] 66))
              clear hx0 hx1 hx2 hx3 hx4
              generalize wr.alloc _ = w2 at HI HB hs0 hs1 hs2 hs3 hs4 ⊢
              generalize wr.heap.size = g at hs0 hs1 hs2 hs3 hs4 ⊢
              refine wp_regl [[], [0], [], [2], [3, 2], [1, 4, 0, 3, 2], [], [6], [7, 6], [5, 8, 1, 4, 0, 3, 2, 7, 6], [], [10], [11, 10], [9, 12, 5, 8, 1, 4, 0, 3, 2, 7, 6, 11, 10], [], [14], [15, 14], [13, 16, 9, 12, 5, 8, 1, 4, 0, 3, 2, 7, 6, 11, 10, 15, 14], [17, 13, 16, 9, 12, 5, 8, 1, 4, 0, 3, 2, 7, 6, 11, 10, 15, 14]]
                (isVal [.pointer (some ⟨g, 0, none⟩),
                  .string a0,
                  .pointer (some ⟨g, 1, none⟩),
                  .string (rd_T66 l0 x).f1,
                  .string t1,
                  .string (a0 ++ t1),
                  .pointer (some ⟨g, 2, none⟩),
                  .int .i64 (rd_T66 l0 x).f2,
                  .string t2,
                  .string (a0 ++ t1 ++ t2),
                  .pointer (some ⟨g, 3, none⟩),
                  .int .i64 (rd_T66 l0 x).f3,
                  .string t3,
                  .string (a0 ++ t1 ++ t2 ++ t3),
                  .pointer (some ⟨g, 4, none⟩),
                  .int .i64 (rd_T66 l0 x).f4,
                  .string t4,
                  .string (a0 ++ t1 ++ t2 ++ t3 ++ t4)])
                ?B9 ?d9 18 _ (by kernel_rfl) (by rfl) (by kernel_rfl) (by kernel_rfl) (by kernel_rfl) (by kernel_rfl) (by kernel_rfl) (fun us => ?hA9) (isVal_grow _) (by rfl) ?hS9 (by rfl) (by rfl) Try.func92 (by kernel_rfl) (by rfl) ?hL9
              case hA9 =>
                simp only [regPut, Act.put, List.setIfInBounds_toArray, List.set_cons_zero, List.set_cons_succ, Nat.reduceAdd, Nat.zero_add]
                rfl
              case hS9 =>
                refine ⟨?_, ?_, ?_, ?_, ?_, ?_, ?_, ?_, ?_, ?_, ?_, ?_, ?_, ?_, ?_, ?_, ?_, ?_, trivial⟩
                all_goals (intro us w' hg hd K hK; simp only [AllR, isVal, List.getD_cons_zero, List.getD_cons_succ] at hd; clear HI HN HK1)
                all_goals (have g1_ := True.intro; have g2_ := True.intro; try (obtain ⟨g1_, hd⟩ := hd); try (obtain ⟨g2_, hd⟩ := hd); clear hd)
                all_goals (replace hs0 := cellG (grow_refl _) hg hs0; replace hs1 := cellG (grow_refl _) hg hs1; replace hs2 := cellG (grow_refl _) hg hs2; replace hs3 := cellG (grow_refl _) hg hs3; replace hs4 := cellG (grow_refl _) hg hs4)
                · have _h := True.intro
                  refine reg_val hK ?_ ?_ (grow_refl _) rfl
                  · first | rfl | (simp [wantedG, asB, undef, g1_, g2_]; done)
                  · go_simp
                    done
                · have _h := True.intro
                  refine reg_val hK ?_ ?_ (grow_refl _) rfl
                  · first | rfl | (simp [wantedG, asB, undef, g1_, g2_]; done)
                  · go_simp
                    done
                · have _h := True.intro
                  refine reg_val hK ?_ ?_ (grow_refl _) rfl
                  · first | rfl | (simp [wantedG, asB, undef, g1_, g2_]; done)
                  · go_simp
                    done
                · have _h := True.intro
                  refine reg_val hK ?_ ?_ (grow_refl _) rfl
                  · first | rfl | (simp [wantedG, asB, undef, g1_, g2_]; done)
                  · go_simp
                    done
                · have _h := True.intro
                  refine reg_call hK ?_ rfl Try.func95 (by kernel_rfl) rfl #[.string (rd_T66 l0 x).f1] ?_ ((impl_putText.calls k1 _ _ _ T1.out).mono ?_)
                  · first | rfl | (simp [wantedG, asB, undef, g1_, g2_]; done)
                  · simp [Act.eval, g1_, g2_]
                  · rintro e_ w'' ⟨rfl, hb_⟩
                    exact ⟨_, rfl, (by first | exact hb_ | exact hb_.below), rfl⟩
                · have _h := True.intro
                  have q0 := S1.out
                  have q1 := eq_true q0
                  have q2 := decide_eq_true q0
                  have q3 := eq_false (Nat.not_lt.2 q0)
                  clear q0
                  refine reg_val hK ?_ ?_ (grow_refl _) rfl
                  · first | rfl | (simp [wantedG, asB, undef, g1_, g2_]; done)
                  · go_simp
                    done
                · have _h := True.intro
                  refine reg_val hK ?_ ?_ (grow_refl _) rfl
                  · first | rfl | (simp [wantedG, asB, undef, g1_, g2_]; done)
                  · go_simp
                    done
                · have _h := True.intro
                  refine reg_val hK ?_ ?_ (grow_refl _) rfl
                  · first | rfl | (simp [wantedG, asB, undef, g1_, g2_]; done)
                  · go_simp
                    done
                · have _h := True.intro
                  refine reg_call hK ?_ rfl Try.func93 (by kernel_rfl) rfl #[.int .i64 (rd_T66 l0 x).f2] ?_ ((impl_PutNum.calls k1 _ _ _ T2.out).mono ?_)
                  · first | rfl | (simp [wantedG, asB, undef, g1_, g2_]; done)
                  · simp [Act.eval, g1_, g2_]
                  · rintro e_ w'' ⟨rfl, hb_⟩
                    exact ⟨_, rfl, (by first | exact hb_ | exact hb_.below), rfl⟩
                · have _h := True.intro
                  have q0 := S2.out
                  have q1 := eq_true q0
                  have q2 := decide_eq_true q0
                  have q3 := eq_false (Nat.not_lt.2 q0)
                  clear q0
                  refine reg_val hK ?_ ?_ (grow_refl _) rfl
                  · first | rfl | (simp [wantedG, asB, undef, g1_, g2_]; done)
                  · go_simp
                    done
                · have _h := True.intro
                  refine reg_val hK ?_ ?_ (grow_refl _) rfl
                  · first | rfl | (simp [wantedG, asB, undef, g1_, g2_]; done)
                  · go_simp
                    done
                · have _h := True.intro
                  refine reg_val hK ?_ ?_ (grow_refl _) rfl
                  · first | rfl | (simp [wantedG, asB, undef, g1_, g2_]; done)
                  · go_simp
                    done
                · have _h := True.intro
                  refine reg_call hK ?_ rfl Try.func93 (by kernel_rfl) rfl #[.int .i64 (rd_T66 l0 x).f3] ?_ ((impl_PutNum.calls k1 _ _ _ T3.out).mono ?_)
                  · first | rfl | (simp [wantedG, asB, undef, g1_, g2_]; done)
                  · simp [Act.eval, g1_, g2_]
                  · rintro e_ w'' ⟨rfl, hb_⟩
                    exact ⟨_, rfl, (by first | exact hb_ | exact hb_.below), rfl⟩
                · have _h := True.intro
                  have q0 := S3.out
                  have q1 := eq_true q0
                  have q2 := decide_eq_true q0
                  have q3 := eq_false (Nat.not_lt.2 q0)
                  clear q0
                  refine reg_val hK ?_ ?_ (grow_refl _) rfl
                  · first | rfl | (simp [wantedG, asB, undef, g1_, g2_]; done)
                  · go_simp
                    done
                · have _h := True.intro
                  refine reg_val hK ?_ ?_ (grow_refl _) rfl
                  · first | rfl | (simp [wantedG, asB, undef, g1_, g2_]; done)
                  · go_simp
                    done
                · have _h := True.intro
                  refine reg_val hK ?_ ?_ (grow_refl _) rfl
                  · first | rfl | (simp [wantedG, asB, undef, g1_, g2_]; done)
                  · go_simp
                    done
                · have _h := True.intro
                  refine reg_call hK ?_ rfl Try.func93 (by kernel_rfl) rfl #[.int .i64 (rd_T66 l0 x).f4] ?_ ((impl_PutNum.calls k1 _ _ _ T4.out).mono ?_)
                  · first | rfl | (simp [wantedG, asB, undef, g1_, g2_]; done)
                  · simp [Act.eval, g1_, g2_]
                  · rintro e_ w'' ⟨rfl, hb_⟩
                    exact ⟨_, rfl, (by first | exact hb_ | exact hb_.below), rfl⟩
                · have _h := True.intro
                  have q0 := S4.out
                  have q1 := eq_true q0
                  have q2 := decide_eq_true q0
                  have q3 := eq_false (Nat.not_lt.2 q0)
                  clear q0
                  refine reg_val hK ?_ ?_ (grow_refl _) rfl
                  · first | rfl | (simp [wantedG, asB, undef, g1_, g2_]; done)
                  · go_simp
                    done
              case hL9 =>
                intro us w' hg hd
                have h18 := allR_get hd (j := 17) (by rfl)
                simp only [isVal, List.getD_cons_zero, List.getD_cons_succ] at h18
                refine ⟨#[.pointer (some ⟨w.heap.size, 0, none⟩), .string (a0 ++ t1 ++ t2 ++ t3 ++ t4)], by simp [Act.eval, h18], ?_⟩
                refine (bw_write w.heap.size w.heap.size acc (a0 ++ t1 ++ t2 ++ t3 ++ t4) w' (bw_grow HI.out hg) C5.out (below_grow HB.out hg).size).mono ?_
                rintro e w3 ⟨rfl, hi, hb⟩
                refine ⟨_, rfl, ?_⟩
                replace HI := AM hi
                replace HB := AM ((below_grow HB.out hg).trans hb)
                clear hi hb hd h18 hg hs0 hs1 hs2 hs3 hs4
                simp only [Act.put, List.setIfInBounds_toArray, List.set_cons_zero, List.set_cons_succ]
                go_wp2
                go_roundg k1
                case measure => have := HK1.out; omega
                case rel => exact ⟨(wrap64 (x + 1)), _, (by first | rfl | (simp; done) | (simp [*]; done)), HN, ⟨by have := HK1.out; omega⟩, HI, HB⟩
            · rw [if_neg c5] at H2
              exact absurd H2 (by simp)
          · rw [if_neg c4] at H
            exact absurd H (by simp)
        · rw [if_neg c3] at H
          have c3b0 : decide (x < (l0.length : Int)) = false := decide_eq_false c3
          clear c3
          obtain rfl := Option.some.inj H
          go_wp2_with (go_at_call 96; refine (bw_text w.heap.size w.heap.size acc _ HI.out HB.out.size).mono ?_; rintro e w3 ⟨rfl, hb⟩; replace HB := AM (HB.out.trans hb); clear hb)
          go_ret
          exact ⟨rfl, HB.out⟩

/-! ### impl_PlacesBytes: function 12 -/
def impl_PlacesBytes.f (k : Nat) (l0 : List (S66)) : Option (ByteArray) := (impl_Place_43.f l0).bind fun t196 => (if t196 = true then (some (⟨#[]⟩ : ByteArray)) else ((impl_PlacesRight.f k l0).bind fun t197 => (if t197 = true then ((impl_placesText.f k l0).bind fun t198 => (some t198)) else (some (⟨#[]⟩ : ByteArray)))))
theorem impl_PlacesBytes.mono : ∀ a0 k, LeO (impl_PlacesBytes.f k a0) (impl_PlacesBytes.f (k + 1) a0) := by
  intro a0 k
  unfold impl_PlacesBytes.f
  repeat' first
      | (with_reducible exact impl_PlacesRight.mono _ _)
      | (with_reducible exact impl_placesText.mono _ _)
      | (with_reducible exact LeO.refl _)
      | (with_reducible exact LeO.none _)
      | (with_reducible refine LeO.ite ?_ ?_)
      | (with_reducible refine LeO.bind ?_ (fun _ => ?_))
      | exact impl_PlacesRight.mono _ _
      | exact impl_placesText.mono _ _
      | exact LeO.none _
      | refine LeO.ite ?_ ?_
      | refine LeO.bind ?_ (fun _ => ?_)
set_option maxHeartbeats 8000000 in
set_option maxRecDepth 100000 in
theorem impl_PlacesBytes.calls (k : Nat) (A0 : Option Addr) (c0 : Nat) (l0 : List (S66)) (r : ByteArray) (w : World) (hr0 : Kd.C k66 w A0 l0.length l0) (hc0 : l0.length ≤ c0) (h : impl_PlacesBytes.f k l0 = some r) :
    Calls Try.prog 12 #[.slice A0 l0.length c0] w fun e w' => e = .returned (.string r) ∧ Below w.heap.size w w' := by
  have HR0 := AM hr0
  have HC0 := AM hc0
  clear hr0 hc0
  have HB := AM (Below.refl w.heap.size w)
  have H : ((impl_Place_43.f l0).bind fun t196 => (if t196 = true then (some (⟨#[]⟩ : ByteArray)) else ((impl_PlacesRight.f k l0).bind fun t197 => (if t197 = true then ((impl_placesText.f k l0).bind fun t198 => (some t198)) else (some (⟨#[]⟩ : ByteArray)))))) = some r := h
  clear h
  obtain ⟨t196, A2, H⟩ := OB H
  try dsimp only at H
  replace A2 := AM A2
  by_cases c3 : t196 = true
  · subst c3
    rw [if_pos rfl] at H
    obtain rfl := Option.some.inj H
    go_enter Try.func12, Try.ntmps12
    go_wp2_with (first | ((with_reducible refine gate_callee (f := 43) rfl ?_); refine gl_ (some 4) Try.func43 #[.slice A0 l0.length c0] ?_; (with_reducible refine (impl_Place_43.calls _ _ l0 true _ ?side1 ?side2 A2.out).mono ?_); (case side1 => repeat (first | exact HR0.out | (with_reducible refine Kd.C_alloc ?_ _) | (with_reducible refine Kd.C_drewN ?_ _) | (with_reducible refine Kd.C_drew ?_))); (case side2 => exact HC0.out); rintro e w' ⟨rfl, ⟨nd, rfl⟩⟩; refine ⟨_, rfl, ?_⟩))
    go_ret
    exact ⟨ri_, bel_⟩
  · replace c3 := Bool.eq_false_iff.mpr c3
    subst c3
    rw [if_neg (show ¬ (false = true) by decide)] at H
    obtain ⟨t197, A4, H⟩ := OB H
    try dsimp only at H
    replace A4 := AM A4
    by_cases c5 : t197 = true
    · subst c5
      rw [if_pos rfl] at H
      obtain ⟨t198, A6, H⟩ := OB H
      try dsimp only at H
      replace A6 := AM A6
      obtain rfl := Option.some.inj H
      go_enter Try.func12, Try.ntmps12
      go_wp2_with (first | ((with_reducible refine gate_callee (f := 43) rfl ?_); refine gl_ (some 4) Try.func43 #[.slice A0 l0.length c0] ?_; (with_reducible refine (impl_Place_43.calls _ _ l0 false _ ?side1 ?side2 A2.out).mono ?_); (case side1 => repeat (first | exact HR0.out | (with_reducible refine Kd.C_alloc ?_ _) | (with_reducible refine Kd.C_drewN ?_ _) | (with_reducible refine Kd.C_drew ?_))); (case side2 => exact HC0.out); rintro e w' ⟨rfl, ⟨nd, rfl⟩⟩; refine ⟨_, rfl, ?_⟩) | (go_at_call 44; (with_reducible refine (impl_PlacesRight.calls k _ _ l0 true _ ?side1 ?side2 A4.out).mono ?_); (case side1 => repeat (first | exact HR0.out | (with_reducible refine Kd.C_alloc ?_ _) | (with_reducible refine Kd.C_drewN ?_ _) | (with_reducible refine Kd.C_drew ?_))); (case side2 => exact HC0.out); rintro e w7 ⟨rfl, hb⟩; replace HB := AM (below_step bel_ hb); (try clear hb); (try clear hb2); (try clear hk); (try clear hi)) | ((with_reducible refine gate_callee (f := 45) rfl ?_); refine gl_ (some 11) Try.func45 #[.slice A0 l0.length c0] ?_; (with_reducible refine (impl_placesText.calls k _ _ l0 t198 _ ?side1 ?side2 A6.out).mono ?_); (case side1 => repeat (first | exact (Kd.C_below HR0.out HB.out) | (with_reducible refine Kd.C_alloc ?_ _) | (with_reducible refine Kd.C_drewN ?_ _) | (with_reducible refine Kd.C_drew ?_))); (case side2 => exact HC0.out); rintro e w8 ⟨rfl, hb⟩; refine ⟨_, rfl, ?_⟩; replace HB := AM (below_step bel_ hb); (try clear hb); (try clear hb2); (try clear hk); (try clear hi)))
      go_ret
      exact ⟨ri_, bel_⟩
    · replace c5 := Bool.eq_false_iff.mpr c5
      subst c5
      rw [if_neg (show ¬ (false = true) by decide)] at H
      obtain rfl := Option.some.inj H
      go_enter Try.func12, Try.ntmps12
      go_wp2_with (first | ((with_reducible refine gate_callee (f := 43) rfl ?_); refine gl_ (some 4) Try.func43 #[.slice A0 l0.length c0] ?_; (with_reducible refine (impl_Place_43.calls _ _ l0 false _ ?side1 ?side2 A2.out).mono ?_); (case side1 => repeat (first | exact HR0.out | (with_reducible refine Kd.C_alloc ?_ _) | (with_reducible refine Kd.C_drewN ?_ _) | (with_reducible refine Kd.C_drew ?_))); (case side2 => exact HC0.out); rintro e w' ⟨rfl, ⟨nd, rfl⟩⟩; refine ⟨_, rfl, ?_⟩) | (go_at_call 44; (with_reducible refine (impl_PlacesRight.calls k _ _ l0 false _ ?side1 ?side2 A4.out).mono ?_); (case side1 => repeat (first | exact HR0.out | (with_reducible refine Kd.C_alloc ?_ _) | (with_reducible refine Kd.C_drewN ?_ _) | (with_reducible refine Kd.C_drew ?_))); (case side2 => exact HC0.out); rintro e w9 ⟨rfl, hb⟩; replace HB := AM (below_step bel_ hb); (try clear hb); (try clear hb2); (try clear hk); (try clear hi)))
      go_ret
      exact ⟨ri_, bel_⟩

end Go.Proofs.Ytggbpjfgfenpdaa.PFnExactPlacesBytes
