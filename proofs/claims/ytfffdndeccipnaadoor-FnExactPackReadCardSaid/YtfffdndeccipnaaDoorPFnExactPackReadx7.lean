/- Functions of the law FnExactPackRead: the print's, with walks of this session's own. No statement is proved here. -/
import Derived.Carry
import Derived.StringKeys
import Derived.Maps.Views
import Derived.Maps.OwnSet
import Derived.Maps.OwnOps
import Derived.WalkLawsBesides
import Derived.Test.YtfffdndeccipnaaDoorVRegFnExactPackRead
-- A program of this session wrote this text: a changed copy of the kit print, with given functions.
import Derived.Test.YtfffdndeccipnaaDoorPFnExactPackReadx0
import Derived.Test.YtfffdndeccipnaaDoorPFnExactPackReadx6
namespace Go.Proofs.YtfffdndeccipnaaDoor.PFnExactPackRead
open Go.RowKit Go.Proofs.YtfffdndeccipnaaDoorW.PrintWords Go.Proofs.YtfffdndeccipnaaDoorW.PrintLast Go.Proofs.YtfffdndeccipnaaDoorW.PrintMore Go.Proofs.YtfffdndeccipnaaDoor.Reg Go.Proofs.YtfffdndeccipnaaDoor.Aut
attribute [local go_sem] max2_int min2_int max_two min_two max_three min_three max_four min_four   -- for this text's walks alone
set_option linter.unusedVariables false
set_option linter.unusedSimpArgs false

/-! ### impl_Blob_record: function 94 -/
def impl_Blob_record.f (k : Nat) (a0_0 : Int) (a0_1 : ByteArray) : Option (ByteArray) := (impl_Blob_key.f k a0_0 a0_1).bind fun t256 => (if 1 + t256.size ≤ 9223372036854775807 then ((impl_PutNum.f k a0_0).bind fun t257 => (if ((⟨#[66]⟩ : ByteArray) ++ t256).size + t257.size ≤ 9223372036854775807 then ((impl_putText.f k a0_1).bind fun t258 => (if (((⟨#[66]⟩ : ByteArray) ++ t256) ++ t257).size + t258.size ≤ 9223372036854775807 then (some ((((⟨#[66]⟩ : ByteArray) ++ t256) ++ t257) ++ t258)) else (none))) else (none))) else (none))
theorem impl_Blob_record.mono : ∀ a0 a1 k, LeO (impl_Blob_record.f k a0 a1) (impl_Blob_record.f (k + 1) a0 a1) := by
  intro a0 a1 k
  unfold impl_Blob_record.f
  repeat' first
      | (with_reducible exact impl_Blob_key.mono _ _ _)
      | (with_reducible exact impl_PutNum.mono _ _)
      | (with_reducible exact impl_putText.mono _ _)
      | (with_reducible exact LeO.refl _)
      | (with_reducible exact LeO.none _)
      | (with_reducible refine LeO.ite ?_ ?_)
      | (with_reducible refine LeO.bind ?_ (fun _ => ?_))
      | exact impl_Blob_key.mono _ _ _
      | exact impl_PutNum.mono _ _
      | exact impl_putText.mono _ _
      | exact LeO.none _
      | refine LeO.ite ?_ ?_
      | refine LeO.bind ?_ (fun _ => ?_)
def impl_Blob_record.T1 : Bool × List (List Nat × List Nat) := (true, [([], []), ([0], [0]), ([1], [1]), ([], []), ([3], [3]), ([4, 1], [4]), ([2, 5], [2, 5]), ([], []), ([7], [7]), ([8, 5], [8]), ([6, 9], [6, 9]), ([10, 9, 0, 1, 2, 3, 4, 5, 6, 7, 8, 9, 10], [10])])
def impl_Blob_record.B1 : List Nat := [0, 1, 3, 0, 8, 27, 63, 0, 128, 443, 1023, 2047]
theorem impl_Blob_record.tab1 : rtab .any (opsOf Tryd.f94 1) = impl_Blob_record.T1 := by kernel_rfl
theorem impl_Blob_record.bits1 : waitsOk impl_Blob_record.T1.2 impl_Blob_record.B1 = true := by kernel_rfl
set_option maxHeartbeats 8000000 in
set_option maxRecDepth 100000 in
theorem impl_Blob_record.calls (k : Nat) (a0_0 : Int) (a0_1 : ByteArray) (r : ByteArray) (w : World) (h : impl_Blob_record.f k a0_0 a0_1 = some r) (hL : Hand.LaidG w := by first | exact hL | exact Hand.LaidG.below hL bel_) :
    Calls Tryd.prog 94 #[.agg #[.int .i64 a0_0, .string a0_1]] w fun e w' => e = .returned (.string r) ∧ Below w.heap.size w w' := by
  have hu60 := Tryd.underlying60
  have HB := AM (Below.refl w.heap.size w)
  have H : ((impl_Blob_key.f k a0_0 a0_1).bind fun t256 => (if 1 + t256.size ≤ 9223372036854775807 then ((impl_PutNum.f k a0_0).bind fun t257 => (if ((⟨#[66]⟩ : ByteArray) ++ t256).size + t257.size ≤ 9223372036854775807 then ((impl_putText.f k a0_1).bind fun t258 => (if (((⟨#[66]⟩ : ByteArray) ++ t256) ++ t257).size + t258.size ≤ 9223372036854775807 then (some ((((⟨#[66]⟩ : ByteArray) ++ t256) ++ t257) ++ t258)) else (none))) else (none))) else (none))) = some r := h
  clear h
  obtain ⟨t256, A2, H⟩ := OB H
  try dsimp only at H
  replace A2 := AM A2
  by_cases c3 : 1 + t256.size ≤ 9223372036854775807
  · rw [if_pos c3] at H
    have c3b0 := eq_true c3
    have c3b1 : decide (1 + t256.size ≤ 9223372036854775807) = true := decide_eq_true c3
    try have c3b2 : (9223372036854775807 < 1 + t256.size) = False := eq_false (Nat.not_lt.2 c3)
    obtain ⟨t257, A4, H⟩ := OB H
    try dsimp only at H
    replace A4 := AM A4
    by_cases c5 : ((⟨#[66]⟩ : ByteArray) ++ t256).size + t257.size ≤ 9223372036854775807
    · rw [if_pos c5] at H
      have c5b0 := eq_true c5
      have c5b1 : decide (((⟨#[66]⟩ : ByteArray) ++ t256).size + t257.size ≤ 9223372036854775807) = true := decide_eq_true c5
      try have c5b2 : (9223372036854775807 < ((⟨#[66]⟩ : ByteArray) ++ t256).size + t257.size) = False := eq_false (Nat.not_lt.2 c5)
      try have c5b3 : (9223372036854775807 < 1 + t256.size + t257.size) = False := eq_false (Nat.not_lt.2 (by have z := c5; simp only [ByteArray.size_append] at z; exact z))
      obtain ⟨t258, A6, H⟩ := OB H
      try dsimp only at H
      replace A6 := AM A6
      by_cases c7 : (((⟨#[66]⟩ : ByteArray) ++ t256) ++ t257).size + t258.size ≤ 9223372036854775807
      · rw [if_pos c7] at H
        have c7b0 := eq_true c7
        have c7b1 : decide ((((⟨#[66]⟩ : ByteArray) ++ t256) ++ t257).size + t258.size ≤ 9223372036854775807) = true := decide_eq_true c7
        try have c7b2 : (9223372036854775807 < (((⟨#[66]⟩ : ByteArray) ++ t256) ++ t257).size + t258.size) = False := eq_false (Nat.not_lt.2 c7)
        try have c7b3 : (9223372036854775807 < 1 + t256.size + t257.size + t258.size) = False := eq_false (Nat.not_lt.2 (by have z := c7; simp only [ByteArray.size_append] at z; exact z))
        obtain rfl := Option.some.inj H
        go_enter Tryd.func94, Tryd.ntmps94
        try go_wp2_with (first | ((with_reducible refine gate_dst (N := 1) rfl ?_); refine be_ 1 #[.int .i64 a0_0, .string a0_1] 60 ?_; intro gb255 hg w8 hbox hb; have BK255 := AM hbox; have GW255 := AM ((by rw [hg]; exact (below_size bel_) : w.heap.size ≤ gb255)); have GE255 := AM ((by rw [hg]; exact (below_size bel_) : w.heap.size ≤ gb255)); replace HB := AM (below_step bel_ hb); clear hb hbox hg))
        replace BK255 := AM (blk_drew BK255.out)
        replace HB := AM (below_drew1 HB.out)
        refine start_ (n := 12) (S := fun w' => w'.cell? ⟨gb255, 0, none⟩ = some (.int .i64 a0_0) ∧ w'.cell? ⟨gb255, 1, none⟩ = some (.string a0_1)) (ds := []) #[false, false, false, false, false, false, false, false, false, false, false, false] (by kernel_rfl) rfl rfl ⟨(blk_cell BK255.out 0).trans rfl, (blk_cell BK255.out 1).trans rfl⟩ (fun hHeld => ?_); refine with_tabW impl_Blob_record.tab1 impl_Blob_record.bits1 (fun HT_ HW_ => ?_)
        generalize w8.drew = w9 at BK255 HB hHeld ⊢
        refine pu_ HT_ 3 (some 6) #[false, false, false, true, false, false, false, false, false, false, false, false] ?_
        refine pu_ HT_ 7 (some 10) #[false, false, false, true, false, false, false, true, false, false, false, false] ?_
        refine ta_ HT_ HW_ 0 (some 3) #[true, false, false, true, false, false, false, true, false, false, false, false] hHeld ?_
        refine ta_ HT_ HW_ 4 (some 7) #[true, false, false, true, true, false, false, true, false, false, false, false] hHeld ?_
        refine ta_ HT_ HW_ 8 (some 11) #[true, false, false, true, true, false, false, true, true, false, false, false] hHeld ?_
        refine on_ HT_ 1 (some 4) #[true, true, false, true, true, false, false, true, true, false, false, false] (fun K hK => ?_)
        refine go1_ Tryd.func88 #[.agg #[.int .i64 a0_0, .string a0_1]] ?_
        with_reducible refine (impl_Blob_key.calls k a0_0 a0_1 t256 _ A2.out).mono ?_
        rintro e w10 ⟨rfl, hb⟩
        refine ⟨_, rfl, ?_⟩
        replace BK255 := AM (blk_below (g := gb255) (o := .cells #[.int .i64 a0_0, .string a0_1] 60 (0, 0)) (bk_ BK255.out) hb)
        replace HB := AM (below_step bel_ hb)
        (try clear hb)
        (try clear hb2)
        (try clear hk)
        (try clear hi)
        refine hK.out _ _ ⟨(blk_cell BK255.out 0).trans rfl, (blk_cell BK255.out 1).trans rfl⟩ (fun hHeld => ?_)
        clear hK K
        refine nm_ ?_
        refine pu_ HT_ 2 (some 5) #[true, true, true, true, true, false, false, true, true, false, false, false] ?_
        refine on_ HT_ 5 (some 8) #[true, true, true, true, true, true, false, true, true, false, false, false] (fun K hK => ?_)
        refine go1_ Tryd.func123 #[.int .i64 a0_0] ?_
        with_reducible refine (impl_PutNum.calls k a0_0 t257 _ A4.out).mono ?_
        rintro e w11 ⟨rfl, hb⟩
        refine ⟨_, rfl, ?_⟩
        replace BK255 := AM (blk_below (g := gb255) (o := .cells #[.int .i64 a0_0, .string a0_1] 60 (0, 0)) (bk_ BK255.out) hb)
        replace HB := AM (below_step bel_ hb)
        (try clear hb)
        (try clear hb2)
        (try clear hk)
        (try clear hi)
        refine hK.out _ _ ⟨(blk_cell BK255.out 0).trans rfl, (blk_cell BK255.out 1).trans rfl⟩ (fun hHeld => ?_)
        clear hK K
        refine nm_ ?_
        refine pu_ HT_ 6 (some 9) #[true, true, true, true, true, true, true, true, true, false, false, false] ?_
        refine on_ HT_ 9 (some 12) #[true, true, true, true, true, true, true, true, true, true, false, false] (fun K hK => ?_)
        refine go1_ Tryd.func124 #[.string a0_1] ?_
        with_reducible refine (impl_putText.calls k a0_1 t258 _ A6.out).mono ?_
        rintro e w12 ⟨rfl, hb⟩
        refine ⟨_, rfl, ?_⟩
        replace BK255 := AM (blk_below (g := gb255) (o := .cells #[.int .i64 a0_0, .string a0_1] 60 (0, 0)) (bk_ BK255.out) hb)
        replace HB := AM (below_step bel_ hb)
        (try clear hb)
        (try clear hb2)
        (try clear hk)
        (try clear hi)
        refine hK.out _ _ ⟨(blk_cell BK255.out 0).trans rfl, (blk_cell BK255.out 1).trans rfl⟩ (fun hHeld => ?_)
        clear hK K
        refine nm_ ?_
        refine pu_ HT_ 10 (some 13) #[true, true, true, true, true, true, true, true, true, true, true, false] ?_
        refine pu_ HT_ 11 (some 2) #[true, true, true, true, true, true, true, true, true, true, true, true] ?_
        refine dn_ HT_ ?_
        try go_wp2
        go_ret
        exact ⟨ri_, bel_⟩
      · rw [if_neg c7] at H
        exact absurd H (by simp)
    · rw [if_neg c5] at H
      exact absurd H (by simp)
  · rw [if_neg c3] at H
    exact absurd H (by simp)

/-! ### impl_packed: function 49 -/
/-! A map from texts to bools that the call makes and in which all that is stored is 'true': the set of its keys. -/
abbrev sm_unit := Unit
def sm_D : List ByteArray → DataW Unit
  | [] => .map []
  | s :: ks => (sm_D ks).put (.string s.data.toList) (.lit (.bool true))
/-- the keys stand newest first. -/
def sm_set (P : Program) (w : World) (b : Nat) (ks : List ByteArray) : Prop := w.ownsMap P 9 (plainElem (H := Unit) P 4) b ks.length (sm_D ks)
theorem sm_isMap : ∀ ks, Maps.IsMap (sm_D ks)
  | [] => Maps.isMap_empty
  | s :: ks => (sm_isMap ks).put _ _
theorem sm_at (s : ByteArray) : ∀ ks : List ByteArray, (sm_D ks).atKey (.string s.data.toList) (.lit (.bool false)) = .lit (.bool (ks.any fun u => u.toList == s.toList))
  | [] => rfl
  | u :: ks => by
    show ((sm_D ks).put (.string u.data.toList) (.lit (.bool true))).atKey _ _ = _
    by_cases h : u.data.toList = s.data.toList
    · rw [h, Maps.atKey_put_same (sm_isMap ks) (show WideAt.IsKeyLit (.string s.data.toList) by simp [WideAt.IsKeyLit]), List.any_cons, ByteArray.toList_eq, ByteArray.toList_eq, h]
      simp
    · rw [Maps.atKey_put_other (fun e => h (by injection e with e; exact e.symm)), sm_at s ks, List.any_cons]
      have : (u.toList == s.toList) = false := by
        rw [ByteArray.toList_eq, ByteArray.toList_eq]
        exact beq_eq_false_iff_ne.2 h
      rw [this, Bool.false_or]
theorem sm_new {P : Program} (w : World) : sm_set P (w.alloc (.map #[] 0)) w.heap.size [] := World.ownsMap_made w P 9 _
theorem sm_lt {P : Program} {w : World} {b : Nat} {ks : List ByteArray} (h : sm_set P w b ks) : b < w.heap.size := World.ownsMap.lt h
theorem sm_below {P : Program} {w w' : World} {b : Nat} {ks : List ByteArray} (h : sm_set P w b ks) (hb : Below w.heap.size w w') : sm_set P w' b ks := by
  have hlt := sm_lt h
  obtain ⟨es, clock, h1, r⟩ := h
  exact ⟨es, clock, (hb.block b hlt).trans h1, r⟩
theorem sm_look {P : Program} {w : World} {b t : Nat} {ks : List ByteArray} (h : sm_set P w b ks) (h9 : P.underlying 9 = some .string) (h4 : P.underlying 4 = some .bool) (ht : P.underlying t = some (.map 9 4)) (hz : (zeroValue 4).run P w = .ok (.bool false) w) (s : ByteArray) (hs : s.size ≤ maxLen) :
    (Instr.lookup t (.map (some b)) (.string s) false).run P w = .ok (.bool (ks.any fun u => u.toList == s.toList)) w := by
  obtain ⟨v, ps, hrun, hv⟩ := World.ownsMap.lookup h (Maps.string_keyed h9) ht hz (plainElem_bool (H := Unit) h4 false) (WideMaps.keyOf_string_mk h9 hs)
  rw [sm_at s ks] at hv
  have : v = .bool (ks.any fun u => u.toList == s.toList) := by
    unfold plainElem at hv
    rw [h4] at hv
    cases v <;> simp at hv
    rename_i x
    rw [hv.1]
  rw [hrun, this]
def impl_packed.l0 : Nat → List (S60) → List ByteArray → ByteArray → Int → Option (ByteArray × Bool)
  | 0, _, _, _, _ => none
  | k + 1, l, ks, out, x => if x < (l.length : Int) then (if 0 ≤ x then ((impl_BlobRight.f (rd_T60 l x).f0 (rd_T60 l x).f1).bind fun b => (if b = true then ((impl_Blob_key.f k (rd_T60 l x).f0 (rd_T60 l x).f1).bind fun t => (if t.size ≤ 140737488355328 then (if (ks.any fun u => u.toList == t.toList) = true then (some (⟨#[]⟩, false)) else ((impl_Blob_record.f k (rd_T60 l x).f0 (rd_T60 l x).f1).bind fun rc => (if out.size + rc.size ≤ 9223372036854775807 then (if ks.length < 1000 then (impl_packed.l0 k l (t :: ks) (out ++ rc) (wrap64 (x + 1))) else (none)) else (none)))) else (none))) else (some (⟨#[]⟩, false)))) else (none)) else (some (out, decide ((out.size : Int) ≤ 12000)))
def impl_packed.f (k : Nat) (l0 : List (S60)) : Option (ByteArray × Bool) := (impl_within.f (l0.length : Int) 1 40).bind fun t => if t = true then (impl_packed.l0 k l0 [] ⟨#[]⟩ 0) else (some (⟨#[]⟩, false))
theorem impl_packed.mono_l : ∀ k, (∀ y0 y1 y2 y3, LeO (impl_packed.l0 k y0 y1 y2 y3) (impl_packed.l0 (k + 1) y0 y1 y2 y3))
  | 0 => fun _ _ _ _ r h => by simp [impl_packed.l0] at h
  | k + 1 => by
    have ih0 := impl_packed.mono_l k
    · intro y0 y1 y2 y3
      unfold impl_packed.l0
      repeat' first
      | (with_reducible exact ih0 _ _ _ _)
      | (with_reducible exact impl_Blob_key.mono _ _ _)
      | (with_reducible exact impl_Blob_record.mono _ _ _)
      | (with_reducible exact LeO.refl _)
      | (with_reducible exact LeO.none _)
      | (with_reducible refine LeO.ite ?_ ?_)
      | (with_reducible refine LeO.bind ?_ (fun _ => ?_))
theorem impl_packed.mono : ∀ a0 k, LeO (impl_packed.f k a0) (impl_packed.f (k + 1) a0) := by
  intro a0 k
  unfold impl_packed.f
  exact LeO.bind (LeO.refl _) (fun _ => LeO.ite (impl_packed.mono_l k _ _ _ _) (LeO.refl _))
theorem impl_packed.zero4 (w : World) : (zeroValue 4).run Tryd.prog w = .ok (.bool false) w := by kernel_rfl
theorem impl_packed.size (A0 : Option Addr) (n c0 : Nat) (w : World) : Calls Tryd.prog 93 #[.slice A0 n c0] w fun e w' => e = .returned (.int .i64 (n : Int)) ∧ Below w.heap.size w w' := by
  have HB := AM (Below.refl w.heap.size w)
  go_enter Tryd.func93, Tryd.ntmps93
  go_wp2
  go_ret
  exact ⟨rfl, HB.out⟩
set_option maxHeartbeats 8000000 in
set_option maxRecDepth 100000 in
theorem impl_packed.calls (k : Nat) (A0 : Option Addr) (c0 : Nat) (l0 : List (S60)) (r1 : ByteArray) (r2 : Bool) (w : World) (hr0 : Kd.C k60 w A0 l0.length l0) (hc0 : l0.length ≤ c0) (h : impl_packed.f k l0 = some (r1, r2)) (hL : Hand.LaidG w := by first | exact hL | exact Hand.LaidG.below hL bel_) :
    Calls Tryd.prog 49 #[.slice A0 l0.length c0] w fun e w' => e = .returned (.tuple #[.string r1, .bool r2]) ∧ Below w.heap.size w w' := by
  have hu := Tryd.underlying60
  have HR0 := AM hr0
  have HC0 := AM hc0
  clear hr0 hc0
  have HB := AM (Below.refl w.heap.size w)
  obtain ⟨t, ht, H⟩ := Option.bind_eq_some_iff.mp h
  clear h
  have TW := AM ht
  clear ht
  have hmm := @run_makeMap Tryd.prog
  cases t
  case false =>
    rw [if_neg (by decide)] at H
    simp only [Option.some.injEq, Prod.mk.injEq] at H
    obtain ⟨rfl, rfl⟩ := H
    go_enter Tryd.func49, Tryd.ntmps49
    go_wp2_with (first
      | ((with_reducible refine gate_callee (f := 93) rfl ?_); refine gl_ (some 9) Tryd.func93 #[.slice A0 l0.length c0] ?_; (with_reducible refine (impl_packed.size A0 l0.length c0 _).mono ?_); rintro e w2 ⟨rfl, hb⟩; refine ⟨_, rfl, ?_⟩; replace HB := AM (below_step HB.out hb); clear hb)
      | ((with_reducible refine gate_callee (f := 65) rfl ?_); refine gl_ (some 10) Tryd.func65 #[.int .i64 (l0.length : Int), .int .i64 1, .int .i64 40] ?_; (with_reducible refine (impl_within.calls _ _ _ _ _ TW.out).mono ?_); rintro e w2 ⟨rfl, hb⟩; refine ⟨_, rfl, ?_⟩; replace HB := AM (below_step HB.out hb.below); clear hb))
    go_ret2
    exact ⟨rfl, HB.out⟩
  rw [if_pos rfl] at H
  have H' := AM H
  clear H
  go_enter Tryd.func49, Tryd.ntmps49
  go_wp2_with (first
    | ((with_reducible refine gate_callee (f := 93) rfl ?_); refine gl_ (some 9) Tryd.func93 #[.slice A0 l0.length c0] ?_; (with_reducible refine (impl_packed.size A0 l0.length c0 _).mono ?_); rintro e w2 ⟨rfl, hb⟩; refine ⟨_, rfl, ?_⟩; replace HB := AM (below_step HB.out hb); clear hb)
    | ((with_reducible refine gate_callee (f := 65) rfl ?_); refine gl_ (some 10) Tryd.func65 #[.int .i64 (l0.length : Int), .int .i64 1, .int .i64 40] ?_; (with_reducible refine (impl_within.calls _ _ _ _ _ TW.out).mono ?_); rintro e w3 ⟨rfl, hb⟩; refine ⟨_, rfl, ?_⟩; replace HB := AM (below_step HB.out hb.below); clear hb; have HS := AM (sm_new (P := Tryd.prog) w3); have GB := AM (below_size HB.out); replace HB := AM (HB.out.alloc HB.out.size (Obj.map #[] 0)); (obtain ⟨B, hB⟩ : ∃ B, B = w3.heap.size := ⟨_, rfl⟩)))
  rw [← hB] at HS GB ⊢
  clear hB
  generalize w3.alloc _ = w4 at HS HB ⊢
  go_loopg [5, 15] k (fun kq v5 v15 w' => ∃ (ks : List ByteArray) (out : ByteArray) (x : Int), v5 = .string out ∧ v15 = .int .i64 x ∧ Aside0 (impl_packed.l0 kq l0 ks out x = some (r1, r2)) ∧ Aside0 (kq ≤ k) ∧ Aside0 (sm_set Tryd.prog w' B ks) ∧ Aside0 (Below w.heap.size w w'))
  case atStart => exact ⟨[], ⟨#[]⟩, 0, rfl, rfl, H', ⟨Nat.le_refl _⟩, HS, HB⟩
  case round =>
    clear H' HS HB TW
    obtain ⟨ks, out, x, rfl, rfl, HA, HK1, HS, HB⟩ := hrel
    cases gk with
    | zero => exact absurd HA.out (by simp [impl_packed.l0])
    | succ k1 =>
      have H := HA.out
      clear HA
      simp only [impl_packed.l0] at H
      by_cases c3 : x < (l0.length : Int)
      · rw [if_pos c3] at H
        by_cases c4 : 0 ≤ x
        · rw [if_pos c4] at H
          obtain ⟨b, hb, H2⟩ := Option.bind_eq_some_iff.mp H
          clear H
          obtain ⟨ad, rfl, hx0, hx1⟩ := at_T60 HR0.out x c4 c3
          replace hx0 := cellG HB.out (grow_refl _) hx0
          replace hx1 := cellG HB.out (grow_refl _) hx1
          have TB := AM hb
          have c3b0 : decide (x < (l0.length : Int)) = true := decide_eq_true c3
          have c4b0 := eq_true c4
          have c3b1 := eq_true c3
          clear hb c3 c4
          cases b
          case false =>
            rw [if_neg (by decide)] at H2
            simp only [Option.some.injEq, Prod.mk.injEq] at H2
            obtain ⟨rfl, rfl⟩ := H2
            go_wp2_with (first
              | ((with_reducible refine gate_callee (f := 87) rfl ?_); (obtain ⟨g, hg⟩ : ∃ g, g = wr.heap.size := ⟨_, rfl⟩); have BK : Aside0 ((wr.alloc (Obj.cells #[.int .i64 (rd_T60 l0 x).f0, .string (rd_T60 l0 x).f1] 60)).heap[g]? = some (.cells #[.int .i64 (rd_T60 l0 x).f0, .string (rd_T60 l0 x).f1] 60 (0, 0))) := AM (by rw [hg]; exact blk_new _ _); have HS0 := HS; replace HS := AM (sm_below HS.out (below_alloc (Below.refl _ _) (Obj.cells #[.int .i64 (rd_T60 l0 x).f0, .string (rd_T60 l0 x).f1] 60))); replace HB := AM (HB.out.alloc HB.out.size (Obj.cells #[.int .i64 (rd_T60 l0 x).f0, .string (rd_T60 l0 x).f1] 60)); have NGB : Aside0 (g ≠ B) := AM (by have := sm_lt HS0.out; rw [hg]; omega); rw [← hg]; clear hg hx0 hx1 HS0; generalize wr.alloc _ = w2 at HB HS BK ⊢; refine gl_ (some 20) Tryd.func87 #[.agg #[.int .i64 (rd_T60 l0 x).f0, .string (rd_T60 l0 x).f1]] ?_; (with_reducible refine (impl_BlobRight.calls _ _ _ _ TB.out).mono ?_); rintro e w3 ⟨rfl, hb⟩; refine ⟨_, rfl, ?_⟩; replace HS := AM (sm_below HS.out hb); replace BK := AM (blk_below BK.out hb); replace HB := AM (below_step HB.out hb); clear hb; have hs0 : w3.cell? ⟨g, 0, none⟩ = some (.int .i64 (rd_T60 l0 x).f0) := (blk_cell BK.out 0).trans rfl; have hs1 : w3.cell? ⟨g, 1, none⟩ = some (.string (rd_T60 l0 x).f1) := (blk_cell BK.out 1).trans rfl))
            go_ret2
            exact ⟨rfl, HB.out⟩
          rw [if_pos rfl] at H2
          obtain ⟨tk, htk, H⟩ := Option.bind_eq_some_iff.mp H2
          clear H2
          by_cases c5 : tk.size ≤ 140737488355328
          case neg =>
            rw [if_neg c5] at H
            exact absurd H (by simp)
          rw [if_pos c5] at H
          have TK := AM htk
          have TS := AM c5
          clear htk c5
          obtain ⟨any, hany⟩ : ∃ b, (ks.any fun u => u.toList == tk.toList) = b := ⟨_, rfl⟩
          rw [hany] at H
          have TA := AM hany
          clear hany
          cases any
          case true =>
            rw [if_pos rfl] at H
            simp only [Option.some.injEq, Prod.mk.injEq] at H
            obtain ⟨rfl, rfl⟩ := H
            go_wp2_with (first
              | ((with_reducible refine gate_callee (f := 87) rfl ?_); (obtain ⟨g, hg⟩ : ∃ g, g = wr.heap.size := ⟨_, rfl⟩); have BK : Aside0 ((wr.alloc (Obj.cells #[.int .i64 (rd_T60 l0 x).f0, .string (rd_T60 l0 x).f1] 60)).heap[g]? = some (.cells #[.int .i64 (rd_T60 l0 x).f0, .string (rd_T60 l0 x).f1] 60 (0, 0))) := AM (by rw [hg]; exact blk_new _ _); have HS0 := HS; replace HS := AM (sm_below HS.out (below_alloc (Below.refl _ _) (Obj.cells #[.int .i64 (rd_T60 l0 x).f0, .string (rd_T60 l0 x).f1] 60))); replace HB := AM (HB.out.alloc HB.out.size (Obj.cells #[.int .i64 (rd_T60 l0 x).f0, .string (rd_T60 l0 x).f1] 60)); have NGB : Aside0 (g ≠ B) := AM (by have := sm_lt HS0.out; rw [hg]; omega); rw [← hg]; clear hg hx0 hx1 HS0; generalize wr.alloc _ = w2 at HB HS BK ⊢; refine gl_ (some 20) Tryd.func87 #[.agg #[.int .i64 (rd_T60 l0 x).f0, .string (rd_T60 l0 x).f1]] ?_; (with_reducible refine (impl_BlobRight.calls _ _ _ _ TB.out).mono ?_); rintro e w3 ⟨rfl, hb⟩; refine ⟨_, rfl, ?_⟩; replace HS := AM (sm_below HS.out hb); replace BK := AM (blk_below BK.out hb); replace HB := AM (below_step HB.out hb); clear hb; have hs0 : w3.cell? ⟨g, 0, none⟩ = some (.int .i64 (rd_T60 l0 x).f0) := (blk_cell BK.out 0).trans rfl; have hs1 : w3.cell? ⟨g, 1, none⟩ = some (.string (rd_T60 l0 x).f1) := (blk_cell BK.out 1).trans rfl)
              | (go_at_call 88; clear hs0 hs1; (with_reducible refine (impl_Blob_key.calls k1 _ _ tk _ TK.out).mono ?_); rintro e w4 ⟨rfl, hb⟩; replace HS := AM (sm_below HS.out hb); replace BK := AM (blk_below BK.out hb); replace HB := AM (below_step HB.out hb); clear hb; have hs0 : w4.cell? ⟨g, 0, none⟩ = some (.int .i64 (rd_T60 l0 x).f0) := (blk_cell BK.out 0).trans rfl; have hs1 : w4.cell? ⟨g, 1, none⟩ = some (.string (rd_T60 l0 x).f1) := (blk_cell BK.out 1).trans rfl; have hlk := sm_look HS.out Tryd.underlying9 Tryd.underlying4 Tryd.underlying116 (impl_packed.zero4 _) tk (by have := TS.out; unfold maxLen; omega); rw [TA.out] at hlk))
            go_ret2
            exact ⟨rfl, HB.out⟩
          rw [if_neg (by decide)] at H
          obtain ⟨rc, hrc, H2⟩ := Option.bind_eq_some_iff.mp H
          clear H
          by_cases c6 : out.size + rc.size ≤ 9223372036854775807
          case neg =>
            rw [if_neg c6] at H2
            exact absurd H2 (by simp)
          rw [if_pos c6] at H2
          by_cases c7 : ks.length < 1000
          case neg =>
            rw [if_neg c7] at H2
            exact absurd H2 (by simp)
          rw [if_pos c7] at H2
          have HN := AM H2
          have TR := AM hrc
          have KL := AM c7
          have c6b := eq_true c6
          have c6d := decide_eq_true c6
          have c6n := eq_false (Nat.not_lt.2 c6)
          clear H2 hrc c7 c6
          go_wp2_with (first
            | ((with_reducible refine gate_callee (f := 87) rfl ?_); (obtain ⟨g, hg⟩ : ∃ g, g = wr.heap.size := ⟨_, rfl⟩); have BK : Aside0 ((wr.alloc (Obj.cells #[.int .i64 (rd_T60 l0 x).f0, .string (rd_T60 l0 x).f1] 60)).heap[g]? = some (.cells #[.int .i64 (rd_T60 l0 x).f0, .string (rd_T60 l0 x).f1] 60 (0, 0))) := AM (by rw [hg]; exact blk_new _ _); have HS0 := HS; replace HS := AM (sm_below HS.out (below_alloc (Below.refl _ _) (Obj.cells #[.int .i64 (rd_T60 l0 x).f0, .string (rd_T60 l0 x).f1] 60))); replace HB := AM (HB.out.alloc HB.out.size (Obj.cells #[.int .i64 (rd_T60 l0 x).f0, .string (rd_T60 l0 x).f1] 60)); have NGB : Aside0 (g ≠ B) := AM (by have := sm_lt HS0.out; rw [hg]; omega); rw [← hg]; clear hg hx0 hx1 HS0; generalize wr.alloc _ = w2 at HB HS BK ⊢; refine gl_ (some 20) Tryd.func87 #[.agg #[.int .i64 (rd_T60 l0 x).f0, .string (rd_T60 l0 x).f1]] ?_; (with_reducible refine (impl_BlobRight.calls _ _ _ _ TB.out).mono ?_); rintro e w3 ⟨rfl, hb⟩; refine ⟨_, rfl, ?_⟩; replace HS := AM (sm_below HS.out hb); replace BK := AM (blk_below BK.out hb); replace HB := AM (below_step HB.out hb); clear hb; have hs0 : w3.cell? ⟨g, 0, none⟩ = some (.int .i64 (rd_T60 l0 x).f0) := (blk_cell BK.out 0).trans rfl; have hs1 : w3.cell? ⟨g, 1, none⟩ = some (.string (rd_T60 l0 x).f1) := (blk_cell BK.out 1).trans rfl)
            | (go_at_call 88; clear hs0 hs1; (with_reducible refine (impl_Blob_key.calls k1 _ _ tk _ TK.out).mono ?_); rintro e w4 ⟨rfl, hb⟩; replace HS := AM (sm_below HS.out hb); replace BK := AM (blk_below BK.out hb); replace HB := AM (below_step HB.out hb); clear hb; have hs0 : w4.cell? ⟨g, 0, none⟩ = some (.int .i64 (rd_T60 l0 x).f0) := (blk_cell BK.out 0).trans rfl; have hs1 : w4.cell? ⟨g, 1, none⟩ = some (.string (rd_T60 l0 x).f1) := (blk_cell BK.out 1).trans rfl; have hlk := sm_look HS.out Tryd.underlying9 Tryd.underlying4 Tryd.underlying116 (impl_packed.zero4 _) tk (by have := TS.out; unfold maxLen; omega); rw [TA.out] at hlk)
            | ((with_reducible refine gate_callee (f := 88) rfl ?_); clear hlk hs0 hs1; refine gl_ (some 30) Tryd.func88 #[.agg #[.int .i64 (rd_T60 l0 x).f0, .string (rd_T60 l0 x).f1]] ?_; (with_reducible refine (impl_Blob_key.calls k1 _ _ tk _ TK.out).mono ?_); rintro e w5 ⟨rfl, hb⟩; refine ⟨_, rfl, ?_⟩; replace HS := AM (sm_below HS.out hb); replace BK := AM (blk_below BK.out hb); replace HB := AM (below_step HB.out hb); clear hb)
            | (at_mapUpdate; refine wpList_mapUpdate_own _ rfl _ _ _ 116 rfl 9 4 (Maps.string_keyed Tryd.underlying9) Tryd.underlying116 _ B ks.length (sm_D ks) rfl HS.out (by have := KL.out; unfold maxLen; omega) _ _ _ rfl rfl (WideMaps.keyOf_string_mk Tryd.underlying9 (by have := TS.out; unfold maxLen; omega)) _ [] (plainElem_bool (H := Unit) Tryd.underlying4 true) ?_; intro w6 hown hgrow; replace HS : Aside0 (sm_set Tryd.prog w6 B (tk :: ks)) := AM hown; have BK' := AM (blk_grown BK.out hgrow (by intro e; injection e with e; exact NGB.out (by rw [e]))); replace HB := AM (HB.out.grown hgrow HB.out.size (fun j hj => by cases hj; exact GB.out)); clear hown hgrow BK; have BK := BK'; clear BK'; have hs0 : w6.cell? ⟨g, 0, none⟩ = some (.int .i64 (rd_T60 l0 x).f0) := (blk_cell BK.out 0).trans rfl; have hs1 : w6.cell? ⟨g, 1, none⟩ = some (.string (rd_T60 l0 x).f1) := (blk_cell BK.out 1).trans rfl)
            | ((with_reducible refine gate_callee (f := 94) rfl ?_); clear hs0 hs1; refine gl_ (some 33) Tryd.func94 #[.agg #[.int .i64 (rd_T60 l0 x).f0, .string (rd_T60 l0 x).f1]] ?_; (with_reducible refine (impl_Blob_record.calls k1 _ _ rc _ TR.out).mono ?_); rintro e w7 ⟨rfl, hb⟩; refine ⟨_, rfl, ?_⟩; replace HS := AM (sm_below HS.out hb); replace BK := AM (blk_below BK.out hb); replace HB := AM (below_step HB.out hb); clear hb))
          go_roundg k1
          case measure => have := HK1.out; omega
          case rel => exact ⟨tk :: ks, out ++ rc, (wrap64 (x + 1)), (by first | rfl | (simp; done) | (simp [*]; done)), (by first | rfl | (simp; done) | (simp [*]; done)), HN, ⟨by have := HK1.out; omega⟩, HS, HB⟩
        · rw [if_neg c4] at H
          exact absurd H (by simp)
      · rw [if_neg c3] at H
        have c3b0 : decide (x < (l0.length : Int)) = false := decide_eq_false c3
        clear c3
        simp only [Option.some.injEq, Prod.mk.injEq] at H
        obtain ⟨rfl, rfl⟩ := H
        go_wp2
        go_ret2
        exact ⟨by first | rfl | (simp; done) | (simp [*]; done), HB.out⟩

/-! ### impl_PackRight: function 16 -/
def impl_PackRight.f (k : Nat) (l0 : List (S60)) : Option (Bool) := (impl_packed.f k l0).bind fun bt259 => (some bt259.2)
theorem impl_PackRight.mono : ∀ a0 k, LeO (impl_PackRight.f k a0) (impl_PackRight.f (k + 1) a0) := by
  intro a0 k
  unfold impl_PackRight.f
  repeat' first
      | (with_reducible exact impl_packed.mono _ _)
      | (with_reducible exact LeO.refl _)
      | (with_reducible exact LeO.none _)
      | (with_reducible refine LeO.ite ?_ ?_)
      | (with_reducible refine LeO.bind ?_ (fun _ => ?_))
      | exact impl_packed.mono _ _
      | exact LeO.none _
      | refine LeO.ite ?_ ?_
      | refine LeO.bind ?_ (fun _ => ?_)
set_option maxHeartbeats 8000000 in
set_option maxRecDepth 100000 in
theorem impl_PackRight.calls (k : Nat) (A0 : Option Addr) (c0 : Nat) (l0 : List (S60)) (r : Bool) (w : World) (hr0 : Kd.C k60 w A0 l0.length l0) (hc0 : l0.length ≤ c0) (h : impl_PackRight.f k l0 = some r) (hL : Hand.LaidG w := by first | exact hL | exact Hand.LaidG.below hL bel_) :
    Calls Tryd.prog 16 #[.slice A0 l0.length c0] w fun e w' => e = .returned (.bool r) ∧ Below w.heap.size w w' := by
  have HR0 := AM hr0
  have HC0 := AM hc0
  clear hr0 hc0
  have HB := AM (Below.refl w.heap.size w)
  have H : ((impl_packed.f k l0).bind fun bt259 => (some bt259.2)) = some r := h
  clear h
  obtain ⟨⟨t259, t260⟩, A2, H⟩ := OB H
  try dsimp only at H
  replace A2 := AM A2
  obtain rfl := Option.some.inj H
  go_enter Tryd.func16, Tryd.ntmps16
  go_wp2_with (first | ((with_reducible refine gate_callee (f := 49) rfl ?_); refine gl_ (some 7) Tryd.func49 #[.slice A0 l0.length c0] ?_; (with_reducible refine (impl_packed.calls k _ _ l0 t259 t260 _ ?side1 ?side2 A2.out).mono ?_); (case side1 => repeat (first | exact HR0.out | (with_reducible refine Kd.C_alloc ?_ _) | (with_reducible refine Kd.C_drewN ?_ _) | (with_reducible refine Kd.C_drew ?_))); (case side2 => exact HC0.out); rintro e w3 ⟨rfl, hb⟩; refine ⟨_, rfl, ?_⟩; replace HB := AM (below_step bel_ hb); (try clear hb); (try clear hb2); (try clear hk); (try clear hi)))
  go_ret
  exact ⟨ri_, bel_⟩

/-! ### impl_isLong: function 41 -/
def impl_isLong.f (a0 : ByteArray) : Option (Bool) := some (decide ((a0.size : Int) > 20000))
set_option maxHeartbeats 8000000 in
set_option maxRecDepth 100000 in
theorem impl_isLong.calls (a0 : ByteArray) (r : Bool) (w : World) (h : impl_isLong.f a0 = some r) :
    Calls Tryd.prog 41 #[.string a0] w fun e w' => e = .returned (.bool r) ∧ Drawn0 w w' := by
  have H : (some (decide ((a0.size : Int) > 20000))) = some r := h
  clear h
  obtain rfl := Option.some.inj H
  go_enter Tryd.func41, Tryd.ntmps41
  go_wp2
  go_ret
  exact ⟨by first | rfl | (simp; done) | (simp [*]; done), by repeat (first | exact Drawn0.refl _ | apply Drawn0.step)⟩

/-- A state of type 107 at block g of W; what its slices lead to came in by w0. -/
def IsS107 (w0 W : World) (g : Nat) (f0 : ByteArray) (f1 : Int) (f2 : Bool) : Prop := W.heap[g]? = some (.cells #[.string f0, .int .i64 f1, .bool f2] 107 (0, 0)) ∧ w0.heap.size ≤ g
theorem IsS107.grown {w0 W : World} {g : Nat} {f0 : ByteArray} {f1 : Int} {f2 : Bool} {W1 : World} {row : Option Nat} (h : IsS107 w0 W g f0 f1 f2) (hw : W.grownBy W1 row) (hne : some g ≠ row) : IsS107 w0 W1 g f0 f1 f2 := by
  obtain ⟨hb, hg⟩ := h
  exact ⟨blk_grown hb hw hne, hg⟩
theorem IsS107.own_neN {w0 W : World} {g : Nat} {f0 : ByteArray} {f1 : Int} {f2 : Bool} {α : Type} {d : Kd α} {e : Nat} {base : Nat} {ok : Nat → Prop} {v : Value} {xs : List α} (h : IsS107 w0 W g f0 f1 f2) (ho : Kd.N d e W base ok v xs) (ht : e ≠ 107) : some g ≠ v.ownBlock := by
  obtain ⟨hb, hg⟩ := h
  exact Kd.N_ne ho hb ht
theorem IsS107.fresh {w0 W : World} {g : Nat} {f0 : ByteArray} {f1 : Int} {f2 : Bool} (h : IsS107 w0 W g f0 f1 f2) : ∀ k, W.heap.size ≤ k → k ≠ g := by
  obtain ⟨hb, hg⟩ := h
  exact Kd.freshB hb
theorem IsS107.kept {w0 W : World} {g : Nat} {f0 : ByteArray} {f1 : Int} {f2 : Bool} {W1 : World} {S : Nat → Prop} (h : IsS107 w0 W g f0 f1 f2) (hk : Kept W W1 S) (hne : ¬ S g) : IsS107 w0 W1 g f0 f1 f2 := by
  obtain ⟨hb, hg⟩ := h
  exact ⟨blk_kept hb hk hne, hg⟩
theorem IsS107.below {w0 W : World} {g : Nat} {f0 : ByteArray} {f1 : Int} {f2 : Bool} {W1 : World} (h : IsS107 w0 W g f0 f1 f2) (hw : Below W.heap.size W W1) : IsS107 w0 W1 g f0 f1 f2 := h.grown (grown_of_below hw none) (by simp)
theorem IsS107.alloc {w0 W : World} {g : Nat} {f0 : ByteArray} {f1 : Int} {f2 : Bool} (h : IsS107 w0 W g f0 f1 f2) (o : Obj) : IsS107 w0 (W.alloc o) g f0 f1 f2 := h.below (below_alloc (Below.refl _ _) o)
theorem IsS107.drewN {w0 W : World} {g : Nat} {f0 : ByteArray} {f1 : Int} {f2 : Bool} (h : IsS107 w0 W g f0 f1 f2) (m : Nat) : IsS107 w0 (W.drewN m) g f0 f1 f2 := h
theorem IsS107.drew {w0 W : World} {g : Nat} {f0 : ByteArray} {f1 : Int} {f2 : Bool} (h : IsS107 w0 W g f0 f1 f2) : IsS107 w0 W.drew g f0 f1 f2 := h
theorem IsS107.at_ {w0 W : World} {g : Nat} {f0 : ByteArray} {f1 : Int} {f2 : Bool} {w' : World} {m : Nat} (hq : W.drewN m = w') (h : IsS107 w0 W g f0 f1 f2) : IsS107 w0 w' g f0 f1 f2 := by subst hq; exact IsS107.drewN h m
theorem IsS107.apart {w0 W : World} {g : Nat} {f0 : ByteArray} {f1 : Int} {f2 : Bool} {α : Type} {d : Kd α} {e : Nat} {base : Nat} {ok : Nat → Prop} {v : Value} {xs : List α} (h : IsS107 w0 W g f0 f1 f2) (ho : d.R e W base ok v xs) (ht : ∀ q, q ∈ e :: d.E → q ≠ 107) : d.R e W base (fun k => ok k ∧ k ≠ g) v xs := by
  obtain ⟨hb, hg⟩ := h
  exact Kd.R_types ho hb ht
theorem IsS107.own_ne {w0 W : World} {g : Nat} {f0 : ByteArray} {f1 : Int} {f2 : Bool} {α : Type} {d : Kd α} {e : Nat} {base : Nat} {ok : Nat → Prop} {v : Value} {xs : List α} (h : IsS107 w0 W g f0 f1 f2) (ho : d.R e W base ok v xs) (ht : e ≠ 107) : some g ≠ v.ownBlock := by
  obtain ⟨hb, hg⟩ := h
  exact Kd.R_ne ho hb ht
theorem IsS107.apartQ {w0 W : World} {g : Nat} {f0 : ByteArray} {f1 : Int} {f2 : Bool} {α : Type} {d : Kd α} {e : Nat} {base : Nat} {ok : Nat → Prop} {v : Value} {xs : List α} (h : IsS107 w0 W g f0 f1 f2) (ho : d.Q e W base ok v xs) (ht : ∀ q, q ∈ e :: d.E → q ≠ 107) : d.Q e W base (fun k => ok k ∧ k ≠ g) v xs := by
  obtain ⟨hb, hg⟩ := h
  exact Kd.Q_types ho hb ht
theorem IsS107.own_neQ {w0 W : World} {g : Nat} {f0 : ByteArray} {f1 : Int} {f2 : Bool} {α : Type} {d : Kd α} {e : Nat} {base : Nat} {ok : Nat → Prop} {v : Value} {xs : List α} (h : IsS107 w0 W g f0 f1 f2) (ho : d.Q e W base ok v xs) (ht : e ≠ 107) : some g ≠ v.ownBlock := by
  obtain ⟨hb, hg⟩ := h
  exact Kd.Q_ne ho hb ht
theorem IsS107.apartS {w0 W : World} {g : Nat} {f0 : ByteArray} {f1 : Int} {f2 : Bool} {α : Type} {d : Kd α} {e : Nat} {base : Nat} {ok : Nat → Prop} {v : Value} {xs : List α} (h : IsS107 w0 W g f0 f1 f2) (ho : d.S e W base ok v xs) (ht : ∀ q, q ∈ e :: d.E → q ≠ 107) : d.S e W base (fun k => ok k ∧ k ≠ g) v xs := by
  obtain ⟨hb, hg⟩ := h
  exact Kd.S_types ho hb ht
theorem IsS107.own_neS {w0 W : World} {g : Nat} {f0 : ByteArray} {f1 : Int} {f2 : Bool} {α : Type} {d : Kd α} {e : Nat} {base : Nat} {ok : Nat → Prop} {v : Value} {xs : List α} (h : IsS107 w0 W g f0 f1 f2) (ho : d.S e W base ok v xs) (ht : e ≠ 107) : some g ≠ v.ownBlock := by
  obtain ⟨hb, hg⟩ := h
  exact Kd.S_ne ho hb ht
theorem IsS107.lt {w0 W : World} {g : Nat} {f0 : ByteArray} {f1 : Int} {f2 : Bool} (h : IsS107 w0 W g f0 f1 f2) : g < W.heap.size := by
  obtain ⟨hb, hg⟩ := h
  exact blk_lt hb
theorem IsS107.ge {w0 W : World} {g : Nat} {f0 : ByteArray} {f1 : Int} {f2 : Bool} (h : IsS107 w0 W g f0 f1 f2) : w0.heap.size ≤ g := by
  obtain ⟨hb, hg⟩ := h
  exact hg
theorem IsS107.ne_blk {w0 W : World} {g : Nat} {f0 : ByteArray} {f1 : Int} {f2 : Bool} {a : Nat} {cs : Array Value} {t : TypeId} {fr : Nat × Nat} (h : IsS107 w0 W g f0 f1 f2) (hb2 : W.heap[a]? = some (.cells cs t fr)) (ht : t ≠ 107) : g ≠ a := by
  obtain ⟨hb, hg⟩ := h
  rintro rfl
  rw [hb] at hb2
  injection hb2 with hb2
  injection hb2 with _ ht2
  exact ht ht2.symm
theorem IsS107.far {w0 W : World} {g : Nat} {f0 : ByteArray} {f1 : Int} {f2 : Bool} {p : Addr} (h : IsS107 w0 W g f0 f1 f2) (hne : g ≠ p.block) (u : Value) : IsS107 w0 (W.setCell p u) g f0 f1 f2 := by
  obtain ⟨hb, hg⟩ := h
  exact ⟨blk_far hb hne u, hg⟩
theorem cellS107_0 {W : World} {g : Nat} {f0 : ByteArray} {f1 : Int} {f2 : Bool} (h : W.heap[g]? = some (.cells #[.string f0, .int .i64 f1, .bool f2] 107 (0, 0))) : W.cell? ⟨g, 0, none⟩ = some (.string f0) := (blk_cell h 0).trans rfl
theorem IsS107.set_0 {w0 W : World} {g : Nat} {f0 : ByteArray} {f1 : Int} {f2 : Bool} (h : IsS107 w0 W g f0 f1 f2) (x : ByteArray) : IsS107 w0 (W.setCell ⟨g, 0, none⟩ (.string x)) g x f1 f2 := by
  obtain ⟨hb, hg⟩ := h
  exact ⟨by simpa using blk_set hb 0 (.string x), hg⟩
theorem cellS107_1 {W : World} {g : Nat} {f0 : ByteArray} {f1 : Int} {f2 : Bool} (h : W.heap[g]? = some (.cells #[.string f0, .int .i64 f1, .bool f2] 107 (0, 0))) : W.cell? ⟨g, 1, none⟩ = some (.int .i64 f1) := (blk_cell h 1).trans rfl
theorem IsS107.set_1 {w0 W : World} {g : Nat} {f0 : ByteArray} {f1 : Int} {f2 : Bool} (h : IsS107 w0 W g f0 f1 f2) (x : Int) : IsS107 w0 (W.setCell ⟨g, 1, none⟩ (.int .i64 x)) g f0 x f2 := by
  obtain ⟨hb, hg⟩ := h
  exact ⟨by simpa using blk_set hb 1 (.int .i64 x), hg⟩
theorem cellS107_2 {W : World} {g : Nat} {f0 : ByteArray} {f1 : Int} {f2 : Bool} (h : W.heap[g]? = some (.cells #[.string f0, .int .i64 f1, .bool f2] 107 (0, 0))) : W.cell? ⟨g, 2, none⟩ = some (.bool f2) := (blk_cell h 2).trans rfl
theorem IsS107.set_2 {w0 W : World} {g : Nat} {f0 : ByteArray} {f1 : Int} {f2 : Bool} (h : IsS107 w0 W g f0 f1 f2) (x : Bool) : IsS107 w0 (W.setCell ⟨g, 2, none⟩ (.bool x)) g f0 f1 x := by
  obtain ⟨hb, hg⟩ := h
  exact ⟨by simpa using blk_set hb 2 (.bool x), hg⟩
theorem IsS107.new (w0 W : World) (f0 : ByteArray) (f1 : Int) (f2 : Bool) (hB : Below w0.heap.size w0 W) : IsS107 w0 (W.alloc (.cells #[.string f0, .int .i64 f1, .bool f2] 107)) W.heap.size f0 f1 f2 := ⟨by simpa using heap_alloc_new W _, hB.size⟩

/-! ### impl_reader_take: function 84 -/
theorem IsS107.farA {w0 W : World} {g : Nat} {f0 : ByteArray} {f1 : Int} {f2 : Bool} {p : Addr} {u : Value} (hne : Aside0 (g ≠ p.block)) (h : IsS107 w0 W g f0 f1 f2) : IsS107 w0 (W.setCell p u) g f0 f1 f2 := IsS107.far h hne.out u
theorem is107_ {w0 W : World} {g : Nat} {f0 : ByteArray} {f1 : Int} {f2 : Bool} (h : IsS107 w0 W g f0 f1 f2 := by repeat (first | (with_reducible first | (refine Aside0.out ?_; assumption) | apply IsS107.alloc | apply IsS107.drewN | apply IsS107.drew | (apply IsS107.farA; assumption) | apply IsS107.set_0 | apply IsS107.set_1 | apply IsS107.set_2) | (refine Aside0.out ?_; assumption))) : IsS107 w0 W g f0 f1 f2 := h
def impl_reader_take.f (s0_0 : ByteArray) (s0_1 : Int) (s0_2 : Bool) (a1 : Int) : Option (ByteArray × ByteArray × Int × Bool) := if s0_2 = true then (some ((⟨#[]⟩ : ByteArray), s0_0, s0_1, true)) else ((impl_long.f s0_0).bind fun t261 => (if a1 > (wrap64 (t261 - s0_1)) then (some ((⟨#[]⟩ : ByteArray), s0_0, s0_1, true)) else (if 0 ≤ (wrap64 ((wrap64 (s0_1 + a1)) - a1)) then (if (wrap64 ((wrap64 (s0_1 + a1)) - a1)) ≤ (wrap64 (s0_1 + a1)) then (if (wrap64 (s0_1 + a1)) ≤ (s0_0.size : Int) then (some (s0_0.extract ((wrap64 ((wrap64 (s0_1 + a1)) - a1)) : Int).toNat ((wrap64 (s0_1 + a1)) : Int).toNat, s0_0, wrap64 (s0_1 + a1), s0_2)) else (none)) else (none)) else (none))))
set_option maxHeartbeats 8000000 in
set_option maxRecDepth 100000 in
theorem impl_reader_take.calls (g : Nat) (s0_0 : ByteArray) (s0_1 : Int) (s0_2 : Bool) (a1 : Int) (r1 : ByteArray) (r2 : ByteArray) (r3 : Int) (r4 : Bool) (w0 w : World) (hI : IsS107 w0 w g s0_0 s0_1 s0_2) (hB : Below w0.heap.size w0 w) (h : impl_reader_take.f s0_0 s0_1 s0_2 a1 = some (r1, r2, r3, r4)) :
    Calls Tryd.prog 84 #[.pointer (some ⟨g, 0, none⟩), .int .i64 a1] w fun e w' => e = .returned (.string r1) ∧ IsS107 w0 w' g r2 r3 r4 ∧ Below w0.heap.size w0 w' ∧ KeepBut w w' g none := by
  have HI0 := AM hI
  have HK := AM (KeepBut.refl w g none)
  have HL := AM hB.size
  clear hI
  have HW0 := AM hB.size
  have HB := AM hB
  clear hB
  have H : (if s0_2 = true then (some ((⟨#[]⟩ : ByteArray), s0_0, s0_1, true)) else ((impl_long.f s0_0).bind fun t261 => (if a1 > (wrap64 (t261 - s0_1)) then (some ((⟨#[]⟩ : ByteArray), s0_0, s0_1, true)) else (if 0 ≤ (wrap64 ((wrap64 (s0_1 + a1)) - a1)) then (if (wrap64 ((wrap64 (s0_1 + a1)) - a1)) ≤ (wrap64 (s0_1 + a1)) then (if (wrap64 (s0_1 + a1)) ≤ (s0_0.size : Int) then (some (s0_0.extract ((wrap64 ((wrap64 (s0_1 + a1)) - a1)) : Int).toNat ((wrap64 (s0_1 + a1)) : Int).toNat, s0_0, wrap64 (s0_1 + a1), s0_2)) else (none)) else (none)) else (none))))) = some (r1, r2, r3, r4) := h
  clear h
  by_cases c3 : s0_2 = true
  · subst c3
    rw [if_pos rfl] at H
    simp only [Option.some.injEq, Prod.mk.injEq] at H
    obtain ⟨rfl, rfl, rfl, rfl⟩ := H
    obtain ⟨HGz4, hgz4⟩ := HI0.out
    have hcz4_0 := cellS107_0 HGz4
    have hcz4_1 := cellS107_1 HGz4
    have hcz4_2 := cellS107_2 HGz4
    have hfz4_0 := blk_frozen HGz4 0
    have hfz4_1 := blk_frozen HGz4 1
    have hfz4_2 := blk_frozen HGz4 2
    clear HGz4 hgz4
    go_enter Tryd.func84, Tryd.ntmps84
    go_wp2
    repeat (go_quiet (fail); try go_wp2)
    go_ret
    exact ⟨ri_, is107_, belg_ (IsS107.ge HI0.out), kp_⟩
  · replace c3 := Bool.eq_false_iff.mpr c3
    subst c3
    rw [if_neg (show ¬ (false = true) by decide)] at H
    obtain ⟨t261, A5, H⟩ := OB H
    try dsimp only at H
    replace A5 := AM A5
    by_cases c6 : a1 > (wrap64 (t261 - s0_1))
    · rw [if_pos c6] at H
      have c6b0 : decide ((wrap64 (t261 - s0_1)) < a1) = true := decide_eq_true c6
      try have c6b9 : (decide (((t261 - s0_1)) < a1)) = true := (by have hw0 : wrap64 (t261 - s0_1) = t261 - s0_1 := (by unfold wrap64; omega); have z_ := c6b0; simp only [hw0] at z_; exact z_)
      clear c6
      simp only [Option.some.injEq, Prod.mk.injEq] at H
      obtain ⟨rfl, rfl, rfl, rfl⟩ := H
      obtain ⟨HGz7, hgz7⟩ := HI0.out
      have hcz7_0 := cellS107_0 HGz7
      have hcz7_1 := cellS107_1 HGz7
      have hcz7_2 := cellS107_2 HGz7
      have hfz7_0 := blk_frozen HGz7 0
      have hfz7_1 := blk_frozen HGz7 1
      have hfz7_2 := blk_frozen HGz7 2
      clear HGz7 hgz7
      go_enter Tryd.func84, Tryd.ntmps84
      go_wp2_with (first | (go_at_call 42; (with_reducible refine (impl_long.calls s0_0 t261 _ A5.out).mono ?_); rintro e w' ⟨rfl, ⟨nd, rfl⟩⟩; (try first | exact ⟨rfl, _, World.drewN_drewN _ _ _⟩ | exact ⟨rfl, _, Eq.trans (World.drewN_drewN _ _ _) (congrArg (World.drewN _) (Nat.add_assoc _ _ _))⟩)))
      repeat (go_quiet (first | (go_at_call 42; (with_reducible refine (impl_long.calls s0_0 t261 _ A5.out).mono ?_); rintro e w' ⟨rfl, ⟨nd, rfl⟩⟩; (try first | exact ⟨rfl, _, World.drewN_drewN _ _ _⟩ | exact ⟨rfl, _, Eq.trans (World.drewN_drewN _ _ _) (congrArg (World.drewN _) (Nat.add_assoc _ _ _))⟩))); try go_wp2_with (first | (go_at_call 42; (with_reducible refine (impl_long.calls s0_0 t261 _ A5.out).mono ?_); rintro e w' ⟨rfl, ⟨nd, rfl⟩⟩; (try first | exact ⟨rfl, _, World.drewN_drewN _ _ _⟩ | exact ⟨rfl, _, Eq.trans (World.drewN_drewN _ _ _) (congrArg (World.drewN _) (Nat.add_assoc _ _ _))⟩))))
      go_ret
      exact ⟨ri_, is107_, belg_ (IsS107.ge HI0.out), kp_⟩
    · rw [if_neg c6] at H
      have c6b0 : decide ((wrap64 (t261 - s0_1)) < a1) = false := decide_eq_false c6
      try have c6b9 : (decide (((t261 - s0_1)) < a1)) = false := (by have hw0 : wrap64 (t261 - s0_1) = t261 - s0_1 := (by unfold wrap64; omega); have z_ := c6b0; simp only [hw0] at z_; exact z_)
      clear c6
      obtain ⟨ji8, hji8⟩ : ∃ j_ : Int, (wrap64 ((wrap64 (s0_1 + a1)) - a1)) = j_ := ⟨_, rfl⟩
      replace H : (if 0 ≤ (ji8) then (if (ji8) ≤ (wrap64 (s0_1 + a1)) then (if (wrap64 (s0_1 + a1)) ≤ (s0_0.size : Int) then (some (s0_0.extract ((ji8) : Int).toNat ((wrap64 (s0_1 + a1)) : Int).toNat, s0_0, wrap64 (s0_1 + a1), false)) else (none)) else (none)) else (none)) = some (r1, r2, r3, r4) := by first | (rw [hji8] at H; exact H) | (simp only [hji8] at H ⊢; exact H)
      (try rw [hji8] at A5)
      have hji8w : (IntKind.i64.wrap ((wrap64 (s0_1 + a1)) - a1)) = ji8 := (i64_w _).trans hji8
      by_cases c9 : 0 ≤ (ji8)
      · rw [if_pos c9] at H
        have c9b0 := eq_true c9
        have c9b1 : decide (0 ≤ (ji8)) = true := decide_eq_true c9
        clear c9
        by_cases c10 : (ji8) ≤ (wrap64 (s0_1 + a1))
        · rw [if_pos c10] at H
          have c10b0 := eq_true c10
          have c10b1 : decide ((ji8) ≤ (wrap64 (s0_1 + a1))) = true := decide_eq_true c10
          by_cases c11 : (wrap64 (s0_1 + a1)) ≤ (s0_0.size : Int)
          · rw [if_pos c11] at H
            have c11b0 := eq_true c11
            have c11b1 : decide ((wrap64 (s0_1 + a1)) ≤ (s0_0.size : Int)) = true := decide_eq_true c11
            simp only [Option.some.injEq, Prod.mk.injEq] at H
            obtain ⟨rfl, rfl, rfl, rfl⟩ := H
            obtain ⟨HGz12, hgz12⟩ := HI0.out
            have hcz12_0 := cellS107_0 HGz12
            have hcz12_1 := cellS107_1 HGz12
            have hcz12_2 := cellS107_2 HGz12
            have hfz12_0 := blk_frozen HGz12 0
            have hfz12_1 := blk_frozen HGz12 1
            have hfz12_2 := blk_frozen HGz12 2
            clear HGz12 hgz12
            go_enter Tryd.func84, Tryd.ntmps84
            go_wp2_with (first | (go_at_call 42; (with_reducible refine (impl_long.calls s0_0 t261 _ A5.out).mono ?_); rintro e w' ⟨rfl, ⟨nd, rfl⟩⟩; (try first | exact ⟨rfl, _, World.drewN_drewN _ _ _⟩ | exact ⟨rfl, _, Eq.trans (World.drewN_drewN _ _ _) (congrArg (World.drewN _) (Nat.add_assoc _ _ _))⟩)))
            repeat (go_quiet (first | (go_at_call 42; (with_reducible refine (impl_long.calls s0_0 t261 _ A5.out).mono ?_); rintro e w' ⟨rfl, ⟨nd, rfl⟩⟩; (try first | exact ⟨rfl, _, World.drewN_drewN _ _ _⟩ | exact ⟨rfl, _, Eq.trans (World.drewN_drewN _ _ _) (congrArg (World.drewN _) (Nat.add_assoc _ _ _))⟩))); try go_wp2_with (first | (go_at_call 42; (with_reducible refine (impl_long.calls s0_0 t261 _ A5.out).mono ?_); rintro e w' ⟨rfl, ⟨nd, rfl⟩⟩; (try first | exact ⟨rfl, _, World.drewN_drewN _ _ _⟩ | exact ⟨rfl, _, Eq.trans (World.drewN_drewN _ _ _) (congrArg (World.drewN _) (Nat.add_assoc _ _ _))⟩))))
            go_ret
            exact ⟨by first | rfl | (simp [errW_none, errW_some] <;> rfl) | (simp only [← hji8]; first | rfl | (simp [errW_none, errW_some] <;> rfl)) | (simp [*, errW_none, errW_some] <;> rfl), is107_, belg_ (IsS107.ge HI0.out), kp_⟩
          · rw [if_neg c11] at H
            exact absurd H (by simp)
        · rw [if_neg c10] at H
          exact absurd H (by simp)
      · rw [if_neg c9] at H
        exact absurd H (by simp)

end Go.Proofs.YtfffdndeccipnaaDoor.PFnExactPackRead
