/- Functions of the law FnPack: the print's, with walks of this session's own. No statement is proved here. -/
import Derived.Carry
import Derived.StringKeys
import Derived.Maps.Views
import Derived.Maps.OwnSet
import Derived.Maps.OwnOps
import Derived.WalkLawsBesides
import Derived.Test.YtfffdndeccipnaaDoorPFnPackx7
namespace Go.Proofs.YtfffdndeccipnaaDoor.PFnPack
open Go.RowKit Go.Proofs.YtfffdndeccipnaaDoorW.PrintWords Go.Proofs.YtfffdndeccipnaaDoorW.PrintLast Go.Proofs.YtfffdndeccipnaaDoorW.PrintMore Go.Proofs.YtfffdndeccipnaaDoor.Reg Go.Proofs.YtfffdndeccipnaaDoor.Aut
attribute [local go_sem] max2_int min2_int max_two min_two y9_ y8_ max_four min_four
set_option linter.unusedVariables false
set_option linter.unusedSimpArgs false
set_option maxHeartbeats 8000000
set_option maxRecDepth 100000
/-! ### zW_: function 94 -/
def zW_.f (k : Nat) (a0_0 : Int) (a0_1 : ByteArray) : Option (ByteArray) := (zO_.f k a0_0 a0_1).bind fun t256 => (if 1 + t256.size ≤ 9223372036854775807 then ((zS_.f k a0_0).bind fun t257 => (if ((⟨#[66]⟩ : ByteArray) ++ t256).size + t257.size ≤ 9223372036854775807 then ((yy_.f k a0_1).bind fun t258 => (if (((⟨#[66]⟩ : ByteArray) ++ t256) ++ t257).size + t258.size ≤ 9223372036854775807 then (some ((((⟨#[66]⟩ : ByteArray) ++ t256) ++ t257) ++ t258)) else (none))) else (none))) else (none))
theorem zW_.mono : ∀ a0 a1 k, LeO (zW_.f k a0 a1) (zW_.f (k + 1) a0 a1) := by
 intro a0 a1 k
 unfold zW_.f
 repeat' with_reducible first | exact zO_.mono _ _ _ | exact zS_.mono _ _ | exact yy_.mono _ _ | exact LeO.refl _ | exact LeO.none _ | refine LeO.ite ?_ ?_ | refine LeO.bind ?_ (fun _ => ?_)
def zW_.T1 : Bool × List (List Nat × List Nat) := (true, [([], []), ([0], [0]), ([1], [1]), ([], []), ([3], [3]), ([4, 1], [4]), ([2, 5], [2, 5]), ([], []), ([7], [7]), ([8, 5], [8]), ([6, 9], [6, 9]), ([10, 9, 0, 1, 2, 3, 4, 5, 6, 7, 8, 9, 10], [10])])
def zW_.B1 : List Nat := [0, 1, 3, 0, 8, 27, 63, 0, 128, 443, 1023, 2047]
theorem zW_.tab1 : rtab .any (opsOf Tryd.f94 1) = zW_.T1 := by kernel_rfl
theorem zW_.bits1 : yR_ zW_.T1.2 zW_.B1 = true := by kernel_rfl
theorem zW_.calls (k : Nat) (a0_0 : Int) (a0_1 : ByteArray) (r : ByteArray) (w : World) (h : zW_.f k a0_0 a0_1 = some r) (hL : Hand.LaidG w := by first | exact hL | exact Hand.LaidG.below hL bel_) :
 Calls Tryd.prog 94 #[.agg #[.int .i64 a0_0, .string a0_1]] w fun e w' => e = .returned (.string r) ∧ Below w.heap.size w w' := by
 have hu60 := Tryd.underlying60
 have HB := AM (Below.refl w.heap.size w)
 have H : ((zO_.f k a0_0 a0_1).bind fun t256 => (if 1 + t256.size ≤ 9223372036854775807 then ((zS_.f k a0_0).bind fun t257 => (if ((⟨#[66]⟩ : ByteArray) ++ t256).size + t257.size ≤ 9223372036854775807 then ((yy_.f k a0_1).bind fun t258 => (if (((⟨#[66]⟩ : ByteArray) ++ t256) ++ t257).size + t258.size ≤ 9223372036854775807 then (some ((((⟨#[66]⟩ : ByteArray) ++ t256) ++ t257) ++ t258)) else (none))) else (none))) else (none))) = some r := h
 clear h
 obtain ⟨t256, A2, H⟩ := OB H
 try dsimp only at H
 replace A2 := AM A2
 by_cases c3 : 1 + t256.size ≤ 9223372036854775807
 ·
  rw [if_pos c3] at H
  have c3b0 := eq_true c3
  have c3b1 : decide (1 + t256.size ≤ 9223372036854775807) = true := decide_eq_true c3
  try have c3b2 : (9223372036854775807 < 1 + t256.size) = False := eq_false (Nat.not_lt.2 c3)
  obtain ⟨t257, A4, H⟩ := OB H
  try dsimp only at H
  replace A4 := AM A4
  by_cases c5 : ((⟨#[66]⟩ : ByteArray) ++ t256).size + t257.size ≤ 9223372036854775807
  ·
   rw [if_pos c5] at H
   have c5b0 := eq_true c5
   have c5b1 : decide (((⟨#[66]⟩ : ByteArray) ++ t256).size + t257.size ≤ 9223372036854775807) = true := decide_eq_true c5
   try have c5b2 : (9223372036854775807 < ((⟨#[66]⟩ : ByteArray) ++ t256).size + t257.size) = False := eq_false (Nat.not_lt.2 c5)
   try have c5b3 : (9223372036854775807 < 1 + t256.size + t257.size) = False := eq_false (Nat.not_lt.2 (by have z := c5; simp only [ByteArray.size_append] at z; exact z))
   obtain ⟨t258, A6, H⟩ := OB H
   try dsimp only at H
   replace A6 := AM A6
   by_cases c7 : (((⟨#[66]⟩ : ByteArray) ++ t256) ++ t257).size + t258.size ≤ 9223372036854775807
   ·
    rw [if_pos c7] at H
    have c7b0 := eq_true c7
    have c7b1 : decide ((((⟨#[66]⟩ : ByteArray) ++ t256) ++ t257).size + t258.size ≤ 9223372036854775807) = true := decide_eq_true c7
    try have c7b2 : (9223372036854775807 < (((⟨#[66]⟩ : ByteArray) ++ t256) ++ t257).size + t258.size) = False := eq_false (Nat.not_lt.2 c7)
    try have c7b3 : (9223372036854775807 < 1 + t256.size + t257.size + t258.size) = False := eq_false (Nat.not_lt.2 (by have z := c7; simp only [ByteArray.size_append] at z; exact z))
    obtain rfl := Option.some.inj H
    go_enter Tryd.func94, Tryd.ntmps94
    try go_wp2_with (first | ((with_reducible refine zy_ (N := 1) rfl ?_); refine be_ 1 #[.int .i64 a0_0, .string a0_1] 60 ?_; intro gb255 hg w8 hbox hb; have BK255 := AM hbox; have GW255 := AM ((by rw [hg]; exact (zf_ bel_) : w.heap.size ≤ gb255)); have GE255 := AM ((by rw [hg]; exact (zf_ bel_) : w.heap.size ≤ gb255)); replace HB := AM (zc_ bel_ hb); clear hb hbox hg))
    replace BK255 := AM (zN_ BK255.out)
    replace HB := AM (zF_ HB.out)
    refine yU_ (n := 12) (S := fun w' => w'.cell? ⟨gb255, 0, none⟩ = some (.int .i64 a0_0) ∧ w'.cell? ⟨gb255, 1, none⟩ = some (.string a0_1)) (ds := []) (Array.replicate 12 false) (by kernel_rfl) rfl rfl ⟨(zb_ BK255.out 0).trans rfl, (zb_ BK255.out 1).trans rfl⟩ (fun hHeld => ?_); refine yx_ zW_.tab1 zW_.bits1 (fun HT_ HW_ => ?_)
    generalize w8.drew = w9 at BK255 HB hHeld ⊢
    refine pu_ HT_ 3 (some 6) (bA 12 8) ?_
    refine pu_ HT_ 7 (some 10) (bA 12 136) ?_
    refine ta_ HT_ HW_ 0 (some 3) (bA 12 137) hHeld ?_
    refine ta_ HT_ HW_ 4 (some 7) (bA 12 153) hHeld ?_
    refine ta_ HT_ HW_ 8 (some 11) (bA 12 409) hHeld ?_
    refine on_ HT_ 1 (some 4) (bA 12 411) (fun K hK => ?_)
    refine go1_ Tryd.func88 #[.agg #[.int .i64 a0_0, .string a0_1]] ?_
    with_reducible refine (zO_.calls k a0_0 a0_1 t256 _ A2.out).mono ?_
    rintro e w10 ⟨rfl, hb⟩
    refine ⟨_, rfl, ?_⟩
    replace BK255 := AM (zh_ (g := gb255) (o := .cells #[.int .i64 a0_0, .string a0_1] 60 (0, 0)) (bk_ BK255.out) hb)
    replace HB := AM (zc_ bel_ hb)
    (try clear hb)
    refine hK.out _ _ ⟨(zb_ BK255.out 0).trans rfl, (zb_ BK255.out 1).trans rfl⟩ (fun hHeld => ?_)
    clear hK K
    refine nm_ ?_
    refine pu_ HT_ 2 (some 5) (bA 12 415) ?_
    refine on_ HT_ 5 (some 8) (bA 12 447) (fun K hK => ?_)
    refine go1_ Tryd.func123 #[.int .i64 a0_0] ?_
    with_reducible refine (zS_.calls k a0_0 t257 _ A4.out).mono ?_
    rintro e w11 ⟨rfl, hb⟩
    refine ⟨_, rfl, ?_⟩
    replace BK255 := AM (zh_ (g := gb255) (o := .cells #[.int .i64 a0_0, .string a0_1] 60 (0, 0)) (bk_ BK255.out) hb)
    replace HB := AM (zc_ bel_ hb)
    (try clear hb)
    refine hK.out _ _ ⟨(zb_ BK255.out 0).trans rfl, (zb_ BK255.out 1).trans rfl⟩ (fun hHeld => ?_)
    clear hK K
    refine nm_ ?_
    refine pu_ HT_ 6 (some 9) (bA 12 511) ?_
    refine on_ HT_ 9 (some 12) (bA 12 1023) (fun K hK => ?_)
    refine go1_ Tryd.func124 #[.string a0_1] ?_
    with_reducible refine (yy_.calls k a0_1 t258 _ A6.out).mono ?_
    rintro e w12 ⟨rfl, hb⟩
    refine ⟨_, rfl, ?_⟩
    replace BK255 := AM (zh_ (g := gb255) (o := .cells #[.int .i64 a0_0, .string a0_1] 60 (0, 0)) (bk_ BK255.out) hb)
    replace HB := AM (zc_ bel_ hb)
    (try clear hb)
    refine hK.out _ _ ⟨(zb_ BK255.out 0).trans rfl, (zb_ BK255.out 1).trans rfl⟩ (fun hHeld => ?_)
    clear hK K
    refine nm_ ?_
    refine pu_ HT_ 10 (some 13) (bA 12 2047) ?_
    refine pu_ HT_ 11 (some 2) (bA 12 4095) ?_
    refine dn_ HT_ ?_
    try go_wp2
    go_ret
    exact ⟨ri_, bel_⟩
   ·
    rw [if_neg c7] at H
    exact absurd H (by simp)
  ·
   rw [if_neg c5] at H
   exact absurd H (by simp)
 ·
  rw [if_neg c3] at H
  exact absurd H (by simp)
/-! ### zH_: function 49 -/
/-! A map from texts to bools that the call makes and in which all that is stored is 'true': the set of its keys. -/
abbrev sm_unit := Unit
def sm_D : List ByteArray → DataW Unit
 | [] => .map []
 | s :: ks => (sm_D ks).put (.string s.data.toList) (.lit (.bool true))
/-- the keys stand newest first. -/
def sm_set (P : Program) (w : World) (b : Nat) (ks : List ByteArray) : Prop := w.ownsMap P 9 (plainElem (H := Unit) P 4) b ks.length (sm_D ks)
theorem sm_isMap : ∀ ks, Maps.IsMap (sm_D ks)
 | [] => Maps.isMap_empty
 | s :: ks => (sm_isMap ks).put _ _
theorem sm_at (s : ByteArray) : ∀ ks : List ByteArray, (sm_D ks).atKey (.string s.data.toList) (.lit (.bool false)) = .lit (.bool (ks.any fun u => u.toList == s.toList))
 | [] => rfl
 | u :: ks => by
  show ((sm_D ks).put (.string u.data.toList) (.lit (.bool true))).atKey _ _ = _
  by_cases h : u.data.toList = s.data.toList
  ·
   rw [h, Maps.atKey_put_same (sm_isMap ks) (show WideAt.IsKeyLit (.string s.data.toList) by simp [WideAt.IsKeyLit]), List.any_cons, ByteArray.toList_eq, ByteArray.toList_eq, h]
   simp
  ·
   rw [Maps.atKey_put_other (fun e => h (by injection e with e; exact e.symm)), sm_at s ks, List.any_cons]
   have : (u.toList == s.toList) = false := by
    rw [ByteArray.toList_eq, ByteArray.toList_eq]
    exact beq_eq_false_iff_ne.2 h
   rw [this, Bool.false_or]
theorem sm_new {P : Program} (w : World) : sm_set P (w.alloc (.map #[] 0)) w.heap.size [] := World.ownsMap_made w P 9 _
theorem sm_lt {P : Program} {w : World} {b : Nat} {ks : List ByteArray} (h : sm_set P w b ks) : b < w.heap.size := World.ownsMap.lt h
theorem sm_below {P : Program} {w w' : World} {b : Nat} {ks : List ByteArray} (h : sm_set P w b ks) (hb : Below w.heap.size w w') : sm_set P w' b ks := by
 have hlt := sm_lt h
 obtain ⟨es, clock, h1, r⟩ := h
 exact ⟨es, clock, (hb.block b hlt).trans h1, r⟩
theorem sm_look {P : Program} {w : World} {b t : Nat} {ks : List ByteArray} (h : sm_set P w b ks) (h9 : P.underlying 9 = some .string) (h4 : P.underlying 4 = some .bool) (ht : P.underlying t = some (.map 9 4)) (hz : (zeroValue 4).run P w = .ok (.bool false) w) (s : ByteArray) (hs : s.size ≤ maxLen) :
 (Instr.lookup t (.map (some b)) (.string s) false).run P w = .ok (.bool (ks.any fun u => u.toList == s.toList)) w := by
 obtain ⟨v, ps, hrun, hv⟩ := World.ownsMap.lookup h (Maps.string_keyed h9) ht hz (plainElem_bool (H := Unit) h4 false) (WideMaps.keyOf_string_mk h9 hs)
 rw [sm_at s ks] at hv
 have : v = .bool (ks.any fun u => u.toList == s.toList) := by
  unfold plainElem at hv
  rw [h4] at hv
  cases v <;> simp at hv
  rename_i x
  rw [hv.1]
 rw [hrun, this]
def zH_.l0 : Nat → List (S60) → List ByteArray → ByteArray → Int → Option (ByteArray × Bool)
 | 0, _, _, _, _ => none
 | k + 1, l, ks, out, x => if x < (l.length : Int) then (if 0 ≤ x then ((yq_.f (zE_ l x).f0 (zE_ l x).f1).bind fun b => (if b = true then ((zO_.f k (zE_ l x).f0 (zE_ l x).f1).bind fun t => (if t.size ≤ 140737488355328 then (if (ks.any fun u => u.toList == t.toList) = true then (some (⟨#[]⟩, false)) else ((zW_.f k (zE_ l x).f0 (zE_ l x).f1).bind fun rc => (if out.size + rc.size ≤ 9223372036854775807 then (if ks.length < 1000 then (zH_.l0 k l (t :: ks) (out ++ rc) (wrap64 (x + 1))) else (none)) else (none)))) else (none))) else (some (⟨#[]⟩, false)))) else (none)) else (some (out, decide ((out.size : Int) ≤ 12000)))
def zH_.f (k : Nat) (l0 : List (S60)) : Option (ByteArray × Bool) := (yw_.f (l0.length : Int) 1 40).bind fun t => if t = true then (zH_.l0 k l0 [] ⟨#[]⟩ 0) else (some (⟨#[]⟩, false))
theorem zH_.mono_l : ∀ k, (∀ y0 y1 y2 y3, LeO (zH_.l0 k y0 y1 y2 y3) (zH_.l0 (k + 1) y0 y1 y2 y3))
 | 0 => fun _ _ _ _ r h => by simp [zH_.l0] at h
 | k + 1 => by
  have ih0 := zH_.mono_l k
  ·
   intro y0 y1 y2 y3
   unfold zH_.l0
   repeat' with_reducible first | exact ih0 _ _ _ _ | exact zO_.mono _ _ _ | exact zW_.mono _ _ _ | exact LeO.refl _ | exact LeO.none _ | refine LeO.ite ?_ ?_ | refine LeO.bind ?_ (fun _ => ?_)
theorem zH_.mono : ∀ a0 k, LeO (zH_.f k a0) (zH_.f (k + 1) a0) := by
 intro a0 k
 unfold zH_.f
 exact LeO.bind (LeO.refl _) (fun _ => LeO.ite (zH_.mono_l k _ _ _ _) (LeO.refl _))
theorem zH_.zero4 (w : World) : (zeroValue 4).run Tryd.prog w = .ok (.bool false) w := by kernel_rfl
theorem zH_.size (A0 : Option Addr) (n c0 : Nat) (w : World) : Calls Tryd.prog 93 #[.slice A0 n c0] w fun e w' => e = .returned (.int .i64 (n : Int)) ∧ Below w.heap.size w w' := by
 have HB := AM (Below.refl w.heap.size w)
 go_enter Tryd.func93, Tryd.ntmps93
 go_wp2
 go_ret
 exact ⟨rfl, HB.out⟩
theorem zH_.calls (k : Nat) (A0 : Option Addr) (c0 : Nat) (l0 : List (S60)) (r1 : ByteArray) (r2 : Bool) (w : World) (hr0 : Kd.C k60 w A0 l0.length l0) (hc0 : l0.length ≤ c0) (h : zH_.f k l0 = some (r1, r2)) (hL : Hand.LaidG w := by first | exact hL | exact Hand.LaidG.below hL bel_) :
 Calls Tryd.prog 49 #[.slice A0 l0.length c0] w fun e w' => e = .returned (.tuple #[.string r1, .bool r2]) ∧ Below w.heap.size w w' := by
 have hu := Tryd.underlying60
 have HR0 := AM hr0
 have HC0 := AM hc0
 clear hr0 hc0
 have HB := AM (Below.refl w.heap.size w)
 obtain ⟨t, ht, H⟩ := Option.bind_eq_some_iff.mp h
 clear h
 have TW := AM ht
 clear ht
 have hmm := @run_makeMap Tryd.prog
 cases t
 case false =>
  rw [if_neg (by decide)] at H
  simp only [Option.some.injEq, Prod.mk.injEq] at H
  obtain ⟨rfl, rfl⟩ := H
  go_enter Tryd.func49, Tryd.ntmps49
  go_wp2_with (first
   | ((with_reducible refine zg_ (f := 93) rfl ?_); refine gl_ (some 9) Tryd.func93 #[.slice A0 l0.length c0] ?_; (with_reducible refine (zH_.size A0 l0.length c0 _).mono ?_); rintro e w2 ⟨rfl, hb⟩; refine ⟨_, rfl, ?_⟩; replace HB := AM (zc_ HB.out hb); clear hb)
   | ((with_reducible refine zg_ (f := 65) rfl ?_); refine gl_ (some 10) Tryd.func65 #[.int .i64 (l0.length : Int), .int .i64 1, .int .i64 40] ?_; (with_reducible refine (yw_.calls _ _ _ _ _ TW.out).mono ?_); rintro e w2 ⟨rfl, hb⟩; refine ⟨_, rfl, ?_⟩; replace HB := AM (zc_ HB.out hb.below); clear hb))
  go_ret2
  exact ⟨rfl, HB.out⟩
 rw [if_pos rfl] at H
 have H' := AM H
 clear H
 go_enter Tryd.func49, Tryd.ntmps49
 go_wp2_with (first
  | ((with_reducible refine zg_ (f := 93) rfl ?_); refine gl_ (some 9) Tryd.func93 #[.slice A0 l0.length c0] ?_; (with_reducible refine (zH_.size A0 l0.length c0 _).mono ?_); rintro e w2 ⟨rfl, hb⟩; refine ⟨_, rfl, ?_⟩; replace HB := AM (zc_ HB.out hb); clear hb)
  | ((with_reducible refine zg_ (f := 65) rfl ?_); refine gl_ (some 10) Tryd.func65 #[.int .i64 (l0.length : Int), .int .i64 1, .int .i64 40] ?_; (with_reducible refine (yw_.calls _ _ _ _ _ TW.out).mono ?_); rintro e w3 ⟨rfl, hb⟩; refine ⟨_, rfl, ?_⟩; replace HB := AM (zc_ HB.out hb.below); clear hb; have HS := AM (sm_new (P := Tryd.prog) w3); have GB := AM (zf_ HB.out); replace HB := AM (HB.out.alloc HB.out.size (Obj.map #[] 0)); (obtain ⟨B, hB⟩ : ∃ B, B = w3.heap.size := ⟨_, rfl⟩)))
 rw [← hB] at HS GB ⊢
 clear hB
 generalize w3.alloc _ = w4 at HS HB ⊢
 go_loopg [5, 15] k (fun kq v5 v15 w' => ∃ (ks : List ByteArray) (out : ByteArray) (x : Int), v5 = .string out ∧ v15 = .int .i64 x ∧ zd_ (zH_.l0 kq l0 ks out x = some (r1, r2)) ∧ zd_ (kq ≤ k) ∧ zd_ (sm_set Tryd.prog w' B ks) ∧ zd_ (Below w.heap.size w w'))
 case atStart => exact ⟨[], ⟨#[]⟩, 0, rfl, rfl, H', ⟨Nat.le_refl _⟩, HS, HB⟩
 case round =>
  clear H' HS HB TW
  obtain ⟨ks, out, x, rfl, rfl, HA, HK1, HS, HB⟩ := hrel
  cases gk with
  | zero => exact absurd HA.out (by simp [zH_.l0])
  | succ k1 =>
   have H := HA.out
   clear HA
   simp only [zH_.l0] at H
   by_cases c3 : x < (l0.length : Int)
   ·
    rw [if_pos c3] at H
    by_cases c4 : 0 ≤ x
    ·
     rw [if_pos c4] at H
     obtain ⟨b, hb, H2⟩ := Option.bind_eq_some_iff.mp H
     clear H
     obtain ⟨ad, rfl, hx0, hx1⟩ := at_T60 HR0.out x c4 c3
     replace hx0 := cellG HB.out (grow_refl _) hx0
     replace hx1 := cellG HB.out (grow_refl _) hx1
     have TB := AM hb
     have c3b0 : decide (x < (l0.length : Int)) = true := decide_eq_true c3
     have c4b0 := eq_true c4
     have c3b1 := eq_true c3
     clear hb c3 c4
     cases b
     case false =>
      rw [if_neg (by decide)] at H2
      simp only [Option.some.injEq, Prod.mk.injEq] at H2
      obtain ⟨rfl, rfl⟩ := H2
      go_wp2_with (first
       | ((with_reducible refine zg_ (f := 87) rfl ?_); (obtain ⟨g, hg⟩ : ∃ g, g = wr.heap.size := ⟨_, rfl⟩); have BK : zd_ ((wr.alloc (Obj.cells #[.int .i64 (zE_ l0 x).f0, .string (zE_ l0 x).f1] 60)).heap[g]? = some (.cells #[.int .i64 (zE_ l0 x).f0, .string (zE_ l0 x).f1] 60 (0, 0))) := AM (by rw [hg]; exact blk_new _ _); have HS0 := HS; replace HS := AM (sm_below HS.out (ym_ (Below.refl _ _) (Obj.cells #[.int .i64 (zE_ l0 x).f0, .string (zE_ l0 x).f1] 60))); replace HB := AM (HB.out.alloc HB.out.size (Obj.cells #[.int .i64 (zE_ l0 x).f0, .string (zE_ l0 x).f1] 60)); have NGB : zd_ (g ≠ B) := AM (by have := sm_lt HS0.out; rw [hg]; omega); rw [← hg]; clear hg hx0 hx1 HS0; generalize wr.alloc _ = w2 at HB HS BK ⊢; refine gl_ (some 20) Tryd.func87 #[.agg #[.int .i64 (zE_ l0 x).f0, .string (zE_ l0 x).f1]] ?_; (with_reducible refine (yq_.calls _ _ _ _ TB.out).mono ?_); rintro e w3 ⟨rfl, hb⟩; refine ⟨_, rfl, ?_⟩; replace HS := AM (sm_below HS.out hb); replace BK := AM (zh_ BK.out hb); replace HB := AM (zc_ HB.out hb); clear hb; have hs0 : w3.cell? ⟨g, 0, none⟩ = some (.int .i64 (zE_ l0 x).f0) := (zb_ BK.out 0).trans rfl; have hs1 : w3.cell? ⟨g, 1, none⟩ = some (.string (zE_ l0 x).f1) := (zb_ BK.out 1).trans rfl))
      go_ret2
      exact ⟨rfl, HB.out⟩
     rw [if_pos rfl] at H2
     obtain ⟨tk, htk, H⟩ := Option.bind_eq_some_iff.mp H2
     clear H2
     by_cases c5 : tk.size ≤ 140737488355328
     case neg =>
      rw [if_neg c5] at H
      exact absurd H (by simp)
     rw [if_pos c5] at H
     have TK := AM htk
     have TS := AM c5
     clear htk c5
     obtain ⟨any, hany⟩ : ∃ b, (ks.any fun u => u.toList == tk.toList) = b := ⟨_, rfl⟩
     rw [hany] at H
     have TA := AM hany
     clear hany
     cases any
     case true =>
      rw [if_pos rfl] at H
      simp only [Option.some.injEq, Prod.mk.injEq] at H
      obtain ⟨rfl, rfl⟩ := H
      go_wp2_with (first
       | ((with_reducible refine zg_ (f := 87) rfl ?_); (obtain ⟨g, hg⟩ : ∃ g, g = wr.heap.size := ⟨_, rfl⟩); have BK : zd_ ((wr.alloc (Obj.cells #[.int .i64 (zE_ l0 x).f0, .string (zE_ l0 x).f1] 60)).heap[g]? = some (.cells #[.int .i64 (zE_ l0 x).f0, .string (zE_ l0 x).f1] 60 (0, 0))) := AM (by rw [hg]; exact blk_new _ _); have HS0 := HS; replace HS := AM (sm_below HS.out (ym_ (Below.refl _ _) (Obj.cells #[.int .i64 (zE_ l0 x).f0, .string (zE_ l0 x).f1] 60))); replace HB := AM (HB.out.alloc HB.out.size (Obj.cells #[.int .i64 (zE_ l0 x).f0, .string (zE_ l0 x).f1] 60)); have NGB : zd_ (g ≠ B) := AM (by have := sm_lt HS0.out; rw [hg]; omega); rw [← hg]; clear hg hx0 hx1 HS0; generalize wr.alloc _ = w2 at HB HS BK ⊢; refine gl_ (some 20) Tryd.func87 #[.agg #[.int .i64 (zE_ l0 x).f0, .string (zE_ l0 x).f1]] ?_; (with_reducible refine (yq_.calls _ _ _ _ TB.out).mono ?_); rintro e w3 ⟨rfl, hb⟩; refine ⟨_, rfl, ?_⟩; replace HS := AM (sm_below HS.out hb); replace BK := AM (zh_ BK.out hb); replace HB := AM (zc_ HB.out hb); clear hb; have hs0 : w3.cell? ⟨g, 0, none⟩ = some (.int .i64 (zE_ l0 x).f0) := (zb_ BK.out 0).trans rfl; have hs1 : w3.cell? ⟨g, 1, none⟩ = some (.string (zE_ l0 x).f1) := (zb_ BK.out 1).trans rfl)
       | (go_at_call 88; clear hs0 hs1; (with_reducible refine (zO_.calls k1 _ _ tk _ TK.out).mono ?_); rintro e w4 ⟨rfl, hb⟩; replace HS := AM (sm_below HS.out hb); replace BK := AM (zh_ BK.out hb); replace HB := AM (zc_ HB.out hb); clear hb; have hs0 : w4.cell? ⟨g, 0, none⟩ = some (.int .i64 (zE_ l0 x).f0) := (zb_ BK.out 0).trans rfl; have hs1 : w4.cell? ⟨g, 1, none⟩ = some (.string (zE_ l0 x).f1) := (zb_ BK.out 1).trans rfl; have hlk := sm_look HS.out Tryd.underlying9 Tryd.underlying4 Tryd.underlying116 (zH_.zero4 _) tk (by have := TS.out; unfold maxLen; omega); rw [TA.out] at hlk))
      go_ret2
      exact ⟨rfl, HB.out⟩
     rw [if_neg (by decide)] at H
     obtain ⟨rc, hrc, H2⟩ := Option.bind_eq_some_iff.mp H
     clear H
     by_cases c6 : out.size + rc.size ≤ 9223372036854775807
     case neg =>
      rw [if_neg c6] at H2
      exact absurd H2 (by simp)
     rw [if_pos c6] at H2
     by_cases c7 : ks.length < 1000
     case neg =>
      rw [if_neg c7] at H2
      exact absurd H2 (by simp)
     rw [if_pos c7] at H2
     have HN := AM H2
     have TR := AM hrc
     have KL := AM c7
     have c6b := eq_true c6
     have c6d := decide_eq_true c6
     have c6n := eq_false (Nat.not_lt.2 c6)
     clear H2 hrc c7 c6
     go_wp2_with (first
      | ((with_reducible refine zg_ (f := 87) rfl ?_); (obtain ⟨g, hg⟩ : ∃ g, g = wr.heap.size := ⟨_, rfl⟩); have BK : zd_ ((wr.alloc (Obj.cells #[.int .i64 (zE_ l0 x).f0, .string (zE_ l0 x).f1] 60)).heap[g]? = some (.cells #[.int .i64 (zE_ l0 x).f0, .string (zE_ l0 x).f1] 60 (0, 0))) := AM (by rw [hg]; exact blk_new _ _); have HS0 := HS; replace HS := AM (sm_below HS.out (ym_ (Below.refl _ _) (Obj.cells #[.int .i64 (zE_ l0 x).f0, .string (zE_ l0 x).f1] 60))); replace HB := AM (HB.out.alloc HB.out.size (Obj.cells #[.int .i64 (zE_ l0 x).f0, .string (zE_ l0 x).f1] 60)); have NGB : zd_ (g ≠ B) := AM (by have := sm_lt HS0.out; rw [hg]; omega); rw [← hg]; clear hg hx0 hx1 HS0; generalize wr.alloc _ = w2 at HB HS BK ⊢; refine gl_ (some 20) Tryd.func87 #[.agg #[.int .i64 (zE_ l0 x).f0, .string (zE_ l0 x).f1]] ?_; (with_reducible refine (yq_.calls _ _ _ _ TB.out).mono ?_); rintro e w3 ⟨rfl, hb⟩; refine ⟨_, rfl, ?_⟩; replace HS := AM (sm_below HS.out hb); replace BK := AM (zh_ BK.out hb); replace HB := AM (zc_ HB.out hb); clear hb; have hs0 : w3.cell? ⟨g, 0, none⟩ = some (.int .i64 (zE_ l0 x).f0) := (zb_ BK.out 0).trans rfl; have hs1 : w3.cell? ⟨g, 1, none⟩ = some (.string (zE_ l0 x).f1) := (zb_ BK.out 1).trans rfl)
      | (go_at_call 88; clear hs0 hs1; (with_reducible refine (zO_.calls k1 _ _ tk _ TK.out).mono ?_); rintro e w4 ⟨rfl, hb⟩; replace HS := AM (sm_below HS.out hb); replace BK := AM (zh_ BK.out hb); replace HB := AM (zc_ HB.out hb); clear hb; have hs0 : w4.cell? ⟨g, 0, none⟩ = some (.int .i64 (zE_ l0 x).f0) := (zb_ BK.out 0).trans rfl; have hs1 : w4.cell? ⟨g, 1, none⟩ = some (.string (zE_ l0 x).f1) := (zb_ BK.out 1).trans rfl; have hlk := sm_look HS.out Tryd.underlying9 Tryd.underlying4 Tryd.underlying116 (zH_.zero4 _) tk (by have := TS.out; unfold maxLen; omega); rw [TA.out] at hlk)
      | ((with_reducible refine zg_ (f := 88) rfl ?_); clear hlk hs0 hs1; refine gl_ (some 30) Tryd.func88 #[.agg #[.int .i64 (zE_ l0 x).f0, .string (zE_ l0 x).f1]] ?_; (with_reducible refine (zO_.calls k1 _ _ tk _ TK.out).mono ?_); rintro e w5 ⟨rfl, hb⟩; refine ⟨_, rfl, ?_⟩; replace HS := AM (sm_below HS.out hb); replace BK := AM (zh_ BK.out hb); replace HB := AM (zc_ HB.out hb); clear hb)
      | (at_mapUpdate; refine wpList_mapUpdate_own _ rfl _ _ _ 116 rfl 9 4 (Maps.string_keyed Tryd.underlying9) Tryd.underlying116 _ B ks.length (sm_D ks) rfl HS.out (by have := KL.out; unfold maxLen; omega) _ _ _ rfl rfl (WideMaps.keyOf_string_mk Tryd.underlying9 (by have := TS.out; unfold maxLen; omega)) _ [] (plainElem_bool (H := Unit) Tryd.underlying4 true) ?_; intro w6 hown hgrow; replace HS : zd_ (sm_set Tryd.prog w6 B (tk :: ks)) := AM hown; have BK' := AM (yu_ BK.out hgrow (by intro e; injection e with e; exact NGB.out (by rw [e]))); replace HB := AM (HB.out.grown hgrow HB.out.size (fun j hj => by cases hj; exact GB.out)); clear hown hgrow BK; have BK := BK'; clear BK'; have hs0 : w6.cell? ⟨g, 0, none⟩ = some (.int .i64 (zE_ l0 x).f0) := (zb_ BK.out 0).trans rfl; have hs1 : w6.cell? ⟨g, 1, none⟩ = some (.string (zE_ l0 x).f1) := (zb_ BK.out 1).trans rfl)
      | ((with_reducible refine zg_ (f := 94) rfl ?_); clear hs0 hs1; refine gl_ (some 33) Tryd.func94 #[.agg #[.int .i64 (zE_ l0 x).f0, .string (zE_ l0 x).f1]] ?_; (with_reducible refine (zW_.calls k1 _ _ rc _ TR.out).mono ?_); rintro e w7 ⟨rfl, hb⟩; refine ⟨_, rfl, ?_⟩; replace HS := AM (sm_below HS.out hb); replace BK := AM (zh_ BK.out hb); replace HB := AM (zc_ HB.out hb); clear hb))
     go_roundg k1
     case measure => have := HK1.out; omega
     case rel => exact ⟨tk :: ks, out ++ rc, (wrap64 (x + 1)), re_, re_, HN, ⟨by have := HK1.out; omega⟩, HS, HB⟩
    ·
     rw [if_neg c4] at H
     exact absurd H (by simp)
   ·
    rw [if_neg c3] at H
    have c3b0 : decide (x < (l0.length : Int)) = false := decide_eq_false c3
    clear c3
    simp only [Option.some.injEq, Prod.mk.injEq] at H
    obtain ⟨rfl, rfl⟩ := H
    go_wp2
    go_ret2
    exact ⟨re_, HB.out⟩
/-! ### z4_: function 16 -/
def z4_.f (k : Nat) (l0 : List (S60)) : Option (Bool) := (zH_.f k l0).bind fun bt259 => (some bt259.2)
theorem z4_.mono : ∀ a0 k, LeO (z4_.f k a0) (z4_.f (k + 1) a0) := by
 intro a0 k
 unfold z4_.f
 repeat' with_reducible first | exact zH_.mono _ _ | exact LeO.refl _ | exact LeO.none _ | refine LeO.ite ?_ ?_ | refine LeO.bind ?_ (fun _ => ?_)
theorem z4_.calls (k : Nat) (A0 : Option Addr) (c0 : Nat) (l0 : List (S60)) (r : Bool) (w : World) (hr0 : Kd.C k60 w A0 l0.length l0) (hc0 : l0.length ≤ c0) (h : z4_.f k l0 = some r) (hL : Hand.LaidG w := by first | exact hL | exact Hand.LaidG.below hL bel_) :
 Calls Tryd.prog 16 #[.slice A0 l0.length c0] w fun e w' => e = .returned (.bool r) ∧ Below w.heap.size w w' := by
 have HR0 := AM hr0
 have HC0 := AM hc0
 clear hr0 hc0
 have HB := AM (Below.refl w.heap.size w)
 have H : ((zH_.f k l0).bind fun bt259 => (some bt259.2)) = some r := h
 clear h
 obtain ⟨⟨t259, t260⟩, A2, H⟩ := OB H
 try dsimp only at H
 replace A2 := AM A2
 obtain rfl := Option.some.inj H
 go_enter Tryd.func16, Tryd.ntmps16
 go_wp2_with (first | ((with_reducible refine zg_ (f := 49) rfl ?_); refine gl_ (some 7) Tryd.func49 #[.slice A0 l0.length c0] ?_; (with_reducible refine (zH_.calls k _ _ l0 t259 t260 _ ?side1 ?side2 A2.out).mono ?_); (case side1 => repeat (first | exact HR0.out | (with_reducible refine Kd.yo_ ?_ _) | (with_reducible refine Kd.yn_ ?_ _) | (with_reducible refine Kd.yz_ ?_))); (case side2 => exact HC0.out); rintro e w3 ⟨rfl, hb⟩; refine ⟨_, rfl, ?_⟩; replace HB := AM (zc_ bel_ hb); (try clear hb)))
 go_ret
 exact ⟨ri_, bel_⟩
/-! ### xa_: function 41 -/
def xa_.f (a0 : ByteArray) : Option (Bool) := some (decide ((a0.size : Int) > 20000))
theorem xa_.calls (a0 : ByteArray) (r : Bool) (w : World) (h : xa_.f a0 = some r) :
 Calls Tryd.prog 41 #[.string a0] w fun e w' => e = .returned (.bool r) ∧ yO_ w w' := by
 have H : (some (decide ((a0.size : Int) > 20000))) = some r := h
 clear h
 obtain rfl := Option.some.inj H
 go_enter Tryd.func41, Tryd.ntmps41
 go_wp2
 go_ret
 exact ⟨re_, dr_⟩
/-- A state of type 107 at block g of W; what its slices lead to came in by w0. -/
def zj_ (w0 W : World) (g : Nat) (f0 : ByteArray) (f1 : Int) (f2 : Bool) : Prop := W.heap[g]? = some (.cells #[.string f0, .int .i64 f1, .bool f2] 107 (0, 0)) ∧ w0.heap.size ≤ g
theorem zj_.grown {w0 W : World} {g : Nat} {f0 : ByteArray} {f1 : Int} {f2 : Bool} {W1 : World} {row : Option Nat} (h : zj_ w0 W g f0 f1 f2) (hw : W.grownBy W1 row) (hne : some g ≠ row) : zj_ w0 W1 g f0 f1 f2 := by
 obtain ⟨hb, hg⟩ := h
 exact ⟨yu_ hb hw hne, hg⟩
theorem zj_.own_neN {w0 W : World} {g : Nat} {f0 : ByteArray} {f1 : Int} {f2 : Bool} {α : Type} {d : Kd α} {e : Nat} {base : Nat} {ok : Nat → Prop} {v : Value} {xs : List α} (h : zj_ w0 W g f0 f1 f2) (ho : Kd.N d e W base ok v xs) (ht : e ≠ 107) : some g ≠ v.ownBlock := by
 obtain ⟨hb, hg⟩ := h
 exact Kd.N_ne ho hb ht
theorem zj_.fresh {w0 W : World} {g : Nat} {f0 : ByteArray} {f1 : Int} {f2 : Bool} (h : zj_ w0 W g f0 f1 f2) : ∀ k, W.heap.size ≤ k → k ≠ g := by
 obtain ⟨hb, hg⟩ := h
 exact Kd.freshB hb
theorem zj_.kept {w0 W : World} {g : Nat} {f0 : ByteArray} {f1 : Int} {f2 : Bool} {W1 : World} {S : Nat → Prop} (h : zj_ w0 W g f0 f1 f2) (hk : Kept W W1 S) (hne : ¬ S g) : zj_ w0 W1 g f0 f1 f2 := by
 obtain ⟨hb, hg⟩ := h
 exact ⟨blk_kept hb hk hne, hg⟩
theorem zj_.below {w0 W : World} {g : Nat} {f0 : ByteArray} {f1 : Int} {f2 : Bool} {W1 : World} (h : zj_ w0 W g f0 f1 f2) (hw : Below W.heap.size W W1) : zj_ w0 W1 g f0 f1 f2 := h.grown (grown_of_below hw none) (by simp)
theorem zj_.alloc {w0 W : World} {g : Nat} {f0 : ByteArray} {f1 : Int} {f2 : Bool} (h : zj_ w0 W g f0 f1 f2) (o : Obj) : zj_ w0 (W.alloc o) g f0 f1 f2 := h.below (ym_ (Below.refl _ _) o)
theorem zj_.drewN {w0 W : World} {g : Nat} {f0 : ByteArray} {f1 : Int} {f2 : Bool} (h : zj_ w0 W g f0 f1 f2) (m : Nat) : zj_ w0 (W.drewN m) g f0 f1 f2 := h
theorem zj_.drew {w0 W : World} {g : Nat} {f0 : ByteArray} {f1 : Int} {f2 : Bool} (h : zj_ w0 W g f0 f1 f2) : zj_ w0 W.drew g f0 f1 f2 := h
theorem zj_.at_ {w0 W : World} {g : Nat} {f0 : ByteArray} {f1 : Int} {f2 : Bool} {w' : World} {m : Nat} (hq : W.drewN m = w') (h : zj_ w0 W g f0 f1 f2) : zj_ w0 w' g f0 f1 f2 := by subst hq; exact zj_.drewN h m
theorem zj_.apart {w0 W : World} {g : Nat} {f0 : ByteArray} {f1 : Int} {f2 : Bool} {α : Type} {d : Kd α} {e : Nat} {base : Nat} {ok : Nat → Prop} {v : Value} {xs : List α} (h : zj_ w0 W g f0 f1 f2) (ho : d.R e W base ok v xs) (ht : ∀ q, q ∈ e :: d.E → q ≠ 107) : d.R e W base (fun k => ok k ∧ k ≠ g) v xs := by
 obtain ⟨hb, hg⟩ := h
 exact Kd.yB_ ho hb ht
theorem zj_.own_ne {w0 W : World} {g : Nat} {f0 : ByteArray} {f1 : Int} {f2 : Bool} {α : Type} {d : Kd α} {e : Nat} {base : Nat} {ok : Nat → Prop} {v : Value} {xs : List α} (h : zj_ w0 W g f0 f1 f2) (ho : d.R e W base ok v xs) (ht : e ≠ 107) : some g ≠ v.ownBlock := by
 obtain ⟨hb, hg⟩ := h
 exact Kd.R_ne ho hb ht
theorem zj_.apartQ {w0 W : World} {g : Nat} {f0 : ByteArray} {f1 : Int} {f2 : Bool} {α : Type} {d : Kd α} {e : Nat} {base : Nat} {ok : Nat → Prop} {v : Value} {xs : List α} (h : zj_ w0 W g f0 f1 f2) (ho : d.Q e W base ok v xs) (ht : ∀ q, q ∈ e :: d.E → q ≠ 107) : d.Q e W base (fun k => ok k ∧ k ≠ g) v xs := by
 obtain ⟨hb, hg⟩ := h
 exact Kd.Q_types ho hb ht
theorem zj_.own_neQ {w0 W : World} {g : Nat} {f0 : ByteArray} {f1 : Int} {f2 : Bool} {α : Type} {d : Kd α} {e : Nat} {base : Nat} {ok : Nat → Prop} {v : Value} {xs : List α} (h : zj_ w0 W g f0 f1 f2) (ho : d.Q e W base ok v xs) (ht : e ≠ 107) : some g ≠ v.ownBlock := by
 obtain ⟨hb, hg⟩ := h
 exact Kd.Q_ne ho hb ht
theorem zj_.apartS {w0 W : World} {g : Nat} {f0 : ByteArray} {f1 : Int} {f2 : Bool} {α : Type} {d : Kd α} {e : Nat} {base : Nat} {ok : Nat → Prop} {v : Value} {xs : List α} (h : zj_ w0 W g f0 f1 f2) (ho : d.S e W base ok v xs) (ht : ∀ q, q ∈ e :: d.E → q ≠ 107) : d.S e W base (fun k => ok k ∧ k ≠ g) v xs := by
 obtain ⟨hb, hg⟩ := h
 exact Kd.S_types ho hb ht
theorem zj_.own_neS {w0 W : World} {g : Nat} {f0 : ByteArray} {f1 : Int} {f2 : Bool} {α : Type} {d : Kd α} {e : Nat} {base : Nat} {ok : Nat → Prop} {v : Value} {xs : List α} (h : zj_ w0 W g f0 f1 f2) (ho : d.S e W base ok v xs) (ht : e ≠ 107) : some g ≠ v.ownBlock := by
 obtain ⟨hb, hg⟩ := h
 exact Kd.S_ne ho hb ht
theorem zj_.lt {w0 W : World} {g : Nat} {f0 : ByteArray} {f1 : Int} {f2 : Bool} (h : zj_ w0 W g f0 f1 f2) : g < W.heap.size := by
 obtain ⟨hb, hg⟩ := h
 exact zA_ hb
theorem zj_.ge {w0 W : World} {g : Nat} {f0 : ByteArray} {f1 : Int} {f2 : Bool} (h : zj_ w0 W g f0 f1 f2) : w0.heap.size ≤ g := by
 obtain ⟨hb, hg⟩ := h
 exact hg
theorem zj_.ne_blk {w0 W : World} {g : Nat} {f0 : ByteArray} {f1 : Int} {f2 : Bool} {a : Nat} {cs : Array Value} {t : TypeId} {fr : Nat × Nat} (h : zj_ w0 W g f0 f1 f2) (hb2 : W.heap[a]? = some (.cells cs t fr)) (ht : t ≠ 107) : g ≠ a := by
 obtain ⟨hb, hg⟩ := h
 rintro rfl
 rw [hb] at hb2
 injection hb2 with hb2
 injection hb2 with _ ht2
 exact ht ht2.symm
theorem zj_.far {w0 W : World} {g : Nat} {f0 : ByteArray} {f1 : Int} {f2 : Bool} {p : Addr} (h : zj_ w0 W g f0 f1 f2) (hne : g ≠ p.block) (u : Value) : zj_ w0 (W.setCell p u) g f0 f1 f2 := by
 obtain ⟨hb, hg⟩ := h
 exact ⟨blk_far hb hne u, hg⟩
theorem zR_ {W : World} {g : Nat} {f0 : ByteArray} {f1 : Int} {f2 : Bool} (h : W.heap[g]? = some (.cells #[.string f0, .int .i64 f1, .bool f2] 107 (0, 0))) : W.cell? ⟨g, 0, none⟩ = some (.string f0) := (zb_ h 0).trans rfl
theorem zj_.set_0 {w0 W : World} {g : Nat} {f0 : ByteArray} {f1 : Int} {f2 : Bool} (h : zj_ w0 W g f0 f1 f2) (x : ByteArray) : zj_ w0 (W.setCell ⟨g, 0, none⟩ (.string x)) g x f1 f2 := by
 obtain ⟨hb, hg⟩ := h
 exact ⟨by simpa using blk_set hb 0 (.string x), hg⟩
theorem zQ_ {W : World} {g : Nat} {f0 : ByteArray} {f1 : Int} {f2 : Bool} (h : W.heap[g]? = some (.cells #[.string f0, .int .i64 f1, .bool f2] 107 (0, 0))) : W.cell? ⟨g, 1, none⟩ = some (.int .i64 f1) := (zb_ h 1).trans rfl
theorem zj_.set_1 {w0 W : World} {g : Nat} {f0 : ByteArray} {f1 : Int} {f2 : Bool} (h : zj_ w0 W g f0 f1 f2) (x : Int) : zj_ w0 (W.setCell ⟨g, 1, none⟩ (.int .i64 x)) g f0 x f2 := by
 obtain ⟨hb, hg⟩ := h
 exact ⟨by simpa using blk_set hb 1 (.int .i64 x), hg⟩
theorem zP_ {W : World} {g : Nat} {f0 : ByteArray} {f1 : Int} {f2 : Bool} (h : W.heap[g]? = some (.cells #[.string f0, .int .i64 f1, .bool f2] 107 (0, 0))) : W.cell? ⟨g, 2, none⟩ = some (.bool f2) := (zb_ h 2).trans rfl
theorem zj_.set_2 {w0 W : World} {g : Nat} {f0 : ByteArray} {f1 : Int} {f2 : Bool} (h : zj_ w0 W g f0 f1 f2) (x : Bool) : zj_ w0 (W.setCell ⟨g, 2, none⟩ (.bool x)) g f0 f1 x := by
 obtain ⟨hb, hg⟩ := h
 exact ⟨by simpa using blk_set hb 2 (.bool x), hg⟩
theorem zj_.new (w0 W : World) (f0 : ByteArray) (f1 : Int) (f2 : Bool) (hB : Below w0.heap.size w0 W) : zj_ w0 (W.alloc (.cells #[.string f0, .int .i64 f1, .bool f2] 107)) W.heap.size f0 f1 f2 := ⟨by simpa using heap_alloc_new W _, hB.size⟩
/-! ### yj_: function 84 -/
theorem zj_.farA {w0 W : World} {g : Nat} {f0 : ByteArray} {f1 : Int} {f2 : Bool} {p : Addr} {u : Value} (hne : zd_ (g ≠ p.block)) (h : zj_ w0 W g f0 f1 f2) : zj_ w0 (W.setCell p u) g f0 f1 f2 := zj_.far h hne.out u
theorem z5_ {w0 W : World} {g : Nat} {f0 : ByteArray} {f1 : Int} {f2 : Bool} (h : zj_ w0 W g f0 f1 f2 := by repeat (first | (with_reducible first | (refine zd_.out ?_; assumption) | apply zj_.alloc | apply zj_.drewN | apply zj_.drew | (apply zj_.farA; assumption) | apply zj_.set_0 | apply zj_.set_1 | apply zj_.set_2) | (refine zd_.out ?_; assumption))) : zj_ w0 W g f0 f1 f2 := h
def yj_.f (s0_0 : ByteArray) (s0_1 : Int) (s0_2 : Bool) (a1 : Int) : Option (ByteArray × ByteArray × Int × Bool) := if s0_2 = true then (some ((⟨#[]⟩ : ByteArray), s0_0, s0_1, true)) else ((z6_.f s0_0).bind fun t261 => (if a1 > (wrap64 (t261 - s0_1)) then (some ((⟨#[]⟩ : ByteArray), s0_0, s0_1, true)) else (if 0 ≤ (wrap64 ((wrap64 (s0_1 + a1)) - a1)) then (if (wrap64 ((wrap64 (s0_1 + a1)) - a1)) ≤ (wrap64 (s0_1 + a1)) then (if (wrap64 (s0_1 + a1)) ≤ (s0_0.size : Int) then (some (s0_0.extract ((wrap64 ((wrap64 (s0_1 + a1)) - a1)) : Int).toNat ((wrap64 (s0_1 + a1)) : Int).toNat, s0_0, wrap64 (s0_1 + a1), s0_2)) else (none)) else (none)) else (none))))
theorem yj_.calls (g : Nat) (s0_0 : ByteArray) (s0_1 : Int) (s0_2 : Bool) (a1 : Int) (r1 : ByteArray) (r2 : ByteArray) (r3 : Int) (r4 : Bool) (w0 w : World) (hI : zj_ w0 w g s0_0 s0_1 s0_2) (hB : Below w0.heap.size w0 w) (h : yj_.f s0_0 s0_1 s0_2 a1 = some (r1, r2, r3, r4)) :
 Calls Tryd.prog 84 #[.pointer (some ⟨g, 0, none⟩), .int .i64 a1] w fun e w' => e = .returned (.string r1) ∧ zj_ w0 w' g r2 r3 r4 ∧ Below w0.heap.size w0 w' ∧ zw_ w w' g none := by
 have HI0 := AM hI
 have HK := AM (zw_.refl w g none)
 have HL := AM hB.size
 clear hI
 have HW0 := AM hB.size
 have HB := AM hB
 clear hB
 have H : (if s0_2 = true then (some ((⟨#[]⟩ : ByteArray), s0_0, s0_1, true)) else ((z6_.f s0_0).bind fun t261 => (if a1 > (wrap64 (t261 - s0_1)) then (some ((⟨#[]⟩ : ByteArray), s0_0, s0_1, true)) else (if 0 ≤ (wrap64 ((wrap64 (s0_1 + a1)) - a1)) then (if (wrap64 ((wrap64 (s0_1 + a1)) - a1)) ≤ (wrap64 (s0_1 + a1)) then (if (wrap64 (s0_1 + a1)) ≤ (s0_0.size : Int) then (some (s0_0.extract ((wrap64 ((wrap64 (s0_1 + a1)) - a1)) : Int).toNat ((wrap64 (s0_1 + a1)) : Int).toNat, s0_0, wrap64 (s0_1 + a1), s0_2)) else (none)) else (none)) else (none))))) = some (r1, r2, r3, r4) := h
 clear h
 by_cases c3 : s0_2 = true
 ·
  subst c3
  rw [if_pos rfl] at H
  simp only [Option.some.injEq, Prod.mk.injEq] at H
  obtain ⟨rfl, rfl, rfl, rfl⟩ := H
  obtain ⟨HGz4, hgz4⟩ := HI0.out
  have hcz4_0 := zR_ HGz4
  have hcz4_1 := zQ_ HGz4
  have hcz4_2 := zP_ HGz4
  have hfz4_0 := za_ HGz4 0
  have hfz4_1 := za_ HGz4 1
  have hfz4_2 := za_ HGz4 2
  clear HGz4 hgz4
  go_enter Tryd.func84, Tryd.ntmps84
  go_wp2
  repeat (go_quiet (fail); try go_wp2)
  go_ret
  exact ⟨ri_, z5_, belg_ (zj_.ge HI0.out), kp_⟩
 ·
  replace c3 := Bool.eq_false_iff.mpr c3
  subst c3
  rw [if_neg (show ¬ (false = true) by decide)] at H
  obtain ⟨t261, A5, H⟩ := OB H
  try dsimp only at H
  replace A5 := AM A5
  by_cases c6 : a1 > (wrap64 (t261 - s0_1))
  ·
   rw [if_pos c6] at H
   have c6b0 : decide ((wrap64 (t261 - s0_1)) < a1) = true := decide_eq_true c6
   try have c6b9 : (decide (((t261 - s0_1)) < a1)) = true := (by have hw0 : wrap64 (t261 - s0_1) = t261 - s0_1 := (by unfold wrap64; omega); have z_ := c6b0; simp only [hw0] at z_; exact z_)
   clear c6
   simp only [Option.some.injEq, Prod.mk.injEq] at H
   obtain ⟨rfl, rfl, rfl, rfl⟩ := H
   obtain ⟨HGz7, hgz7⟩ := HI0.out
   have hcz7_0 := zR_ HGz7
   have hcz7_1 := zQ_ HGz7
   have hcz7_2 := zP_ HGz7
   have hfz7_0 := za_ HGz7 0
   have hfz7_1 := za_ HGz7 1
   have hfz7_2 := za_ HGz7 2
   clear HGz7 hgz7
   go_enter Tryd.func84, Tryd.ntmps84
   go_wp2_with (first | (go_at_call 42; (with_reducible refine (z6_.calls s0_0 t261 _ A5.out).mono ?_); rintro e w' ⟨rfl, ⟨nd, rfl⟩⟩; (try first | exact ⟨rfl, _, World.drewN_drewN _ _ _⟩ | exact ⟨rfl, _, Eq.trans (World.drewN_drewN _ _ _) (congrArg (World.drewN _) (Nat.add_assoc _ _ _))⟩)))
   repeat (go_quiet (first | (go_at_call 42; (with_reducible refine (z6_.calls s0_0 t261 _ A5.out).mono ?_); rintro e w' ⟨rfl, ⟨nd, rfl⟩⟩; (try first | exact ⟨rfl, _, World.drewN_drewN _ _ _⟩ | exact ⟨rfl, _, Eq.trans (World.drewN_drewN _ _ _) (congrArg (World.drewN _) (Nat.add_assoc _ _ _))⟩))); try go_wp2_with (first | (go_at_call 42; (with_reducible refine (z6_.calls s0_0 t261 _ A5.out).mono ?_); rintro e w' ⟨rfl, ⟨nd, rfl⟩⟩; (try first | exact ⟨rfl, _, World.drewN_drewN _ _ _⟩ | exact ⟨rfl, _, Eq.trans (World.drewN_drewN _ _ _) (congrArg (World.drewN _) (Nat.add_assoc _ _ _))⟩))))
   go_ret
   exact ⟨ri_, z5_, belg_ (zj_.ge HI0.out), kp_⟩
  ·
   rw [if_neg c6] at H
   have c6b0 : decide ((wrap64 (t261 - s0_1)) < a1) = false := decide_eq_false c6
   try have c6b9 : (decide (((t261 - s0_1)) < a1)) = false := (by have hw0 : wrap64 (t261 - s0_1) = t261 - s0_1 := (by unfold wrap64; omega); have z_ := c6b0; simp only [hw0] at z_; exact z_)
   clear c6
   obtain ⟨ji8, hji8⟩ : ∃ j_ : Int, (wrap64 ((wrap64 (s0_1 + a1)) - a1)) = j_ := ⟨_, rfl⟩
   replace H : (if 0 ≤ (ji8) then (if (ji8) ≤ (wrap64 (s0_1 + a1)) then (if (wrap64 (s0_1 + a1)) ≤ (s0_0.size : Int) then (some (s0_0.extract ((ji8) : Int).toNat ((wrap64 (s0_1 + a1)) : Int).toNat, s0_0, wrap64 (s0_1 + a1), false)) else (none)) else (none)) else (none)) = some (r1, r2, r3, r4) := by first | (rw [hji8] at H; exact H) | (simp only [hji8] at H ⊢; exact H)
   (try rw [hji8] at A5)
   have hji8w : (IntKind.i64.wrap ((wrap64 (s0_1 + a1)) - a1)) = ji8 := (i64_w _).trans hji8
   by_cases c9 : 0 ≤ (ji8)
   ·
    rw [if_pos c9] at H
    have c9b0 := eq_true c9
    have c9b1 : decide (0 ≤ (ji8)) = true := decide_eq_true c9
    clear c9
    by_cases c10 : (ji8) ≤ (wrap64 (s0_1 + a1))
    ·
     rw [if_pos c10] at H
     have c10b0 := eq_true c10
     have c10b1 : decide ((ji8) ≤ (wrap64 (s0_1 + a1))) = true := decide_eq_true c10
     by_cases c11 : (wrap64 (s0_1 + a1)) ≤ (s0_0.size : Int)
     ·
      rw [if_pos c11] at H
      have c11b0 := eq_true c11
      have c11b1 : decide ((wrap64 (s0_1 + a1)) ≤ (s0_0.size : Int)) = true := decide_eq_true c11
      simp only [Option.some.injEq, Prod.mk.injEq] at H
      obtain ⟨rfl, rfl, rfl, rfl⟩ := H
      obtain ⟨HGz12, hgz12⟩ := HI0.out
      have hcz12_0 := zR_ HGz12
      have hcz12_1 := zQ_ HGz12
      have hcz12_2 := zP_ HGz12
      have hfz12_0 := za_ HGz12 0
      have hfz12_1 := za_ HGz12 1
      have hfz12_2 := za_ HGz12 2
      clear HGz12 hgz12
      go_enter Tryd.func84, Tryd.ntmps84
      go_wp2_with (first | (go_at_call 42; (with_reducible refine (z6_.calls s0_0 t261 _ A5.out).mono ?_); rintro e w' ⟨rfl, ⟨nd, rfl⟩⟩; (try first | exact ⟨rfl, _, World.drewN_drewN _ _ _⟩ | exact ⟨rfl, _, Eq.trans (World.drewN_drewN _ _ _) (congrArg (World.drewN _) (Nat.add_assoc _ _ _))⟩)))
      repeat (go_quiet (first | (go_at_call 42; (with_reducible refine (z6_.calls s0_0 t261 _ A5.out).mono ?_); rintro e w' ⟨rfl, ⟨nd, rfl⟩⟩; (try first | exact ⟨rfl, _, World.drewN_drewN _ _ _⟩ | exact ⟨rfl, _, Eq.trans (World.drewN_drewN _ _ _) (congrArg (World.drewN _) (Nat.add_assoc _ _ _))⟩))); try go_wp2_with (first | (go_at_call 42; (with_reducible refine (z6_.calls s0_0 t261 _ A5.out).mono ?_); rintro e w' ⟨rfl, ⟨nd, rfl⟩⟩; (try first | exact ⟨rfl, _, World.drewN_drewN _ _ _⟩ | exact ⟨rfl, _, Eq.trans (World.drewN_drewN _ _ _) (congrArg (World.drewN _) (Nat.add_assoc _ _ _))⟩))))
      go_ret
      exact ⟨by first | rfl | (simp [yd_, yc_] <;> rfl) | (simp only [← hji8]; first | rfl | (simp [yd_, yc_] <;> rfl)) | (simp [*, yd_, yc_] <;> rfl), z5_, belg_ (zj_.ge HI0.out), kp_⟩
     ·
      rw [if_neg c11] at H
      exact absurd H (by simp)
    ·
     rw [if_neg c10] at H
     exact absurd H (by simp)
   ·
    rw [if_neg c9] at H
    exact absurd H (by simp)
/-! ### zk_: function 120 -/
mutual
def zk_.l0 : Nat → ByteArray → Int → Int → Int → Option (Int × Int × Int)
 | 0, _, _, _, _ => none
 | k + 1, x0, x1, x5, x6 => (z6_.f x0).bind fun t263 => (if x1 > (wrap64 ((wrap64 (t263 - 1)) - x6)) then (some (0, 0, 4)) else (if 0 ≤ (wrap64 (x1 + x6)) then (if (wrap64 (x1 + x6)) < (x0.size : Int) then (if 0 ≤ (wrap64 (7 * x6)) then (if x6 = 9 then (zk_.j1 k x0 x1 (Go.bits .or .u64 x5 (shl .u64 (IntKind.u64.wrap (Go.bits .and .u8 (bt x0 (wrap64 (x1 + x6))) 127)) (wrap64 (7 * x6)))) x6 (bt x0 (wrap64 (x1 + x6))) (decide ((bt x0 (wrap64 (x1 + x6))) > 1))) else (zk_.j1 k x0 x1 (Go.bits .or .u64 x5 (shl .u64 (IntKind.u64.wrap (Go.bits .and .u8 (bt x0 (wrap64 (x1 + x6))) 127)) (wrap64 (7 * x6)))) x6 (bt x0 (wrap64 (x1 + x6))) false)) else (none)) else (none)) else (none)))
def zk_.j1 : Nat → ByteArray → Int → Int → Int → Int → Bool → Option (Int × Int × Int)
 | 0, _, _, _, _, _, _ => none
 | k + 1, x0, x1, x5, x6, x7, x34 => if x34 = true then (zk_.j2 k x0 x1 x5 x6 x7 x34) else (if x7 = 0 then (zk_.j2 k x0 x1 x5 x6 x7 (decide (x6 > 0))) else (zk_.j2 k x0 x1 x5 x6 x7 false))
def zk_.j2 : Nat → ByteArray → Int → Int → Int → Int → Bool → Option (Int × Int × Int)
 | 0, _, _, _, _, _, _ => none
 | k + 1, x0, x1, x5, x6, x7, x34 => if x34 = true then (some (0, 0, 3)) else (if x7 < 128 then (some (Go.bits .xor .i64 (wrap64 (x5 / 2)) (wrap64 (-(wrap64 (Go.bits .and .u64 x5 1)))), wrap64 ((wrap64 (x1 + x6)) + 1), 0)) else (zk_.l0 k x0 x1 x5 (wrap64 (x6 + 1))))
end
def zk_.f (k : Nat) (a0 : ByteArray) (a1 : Int) : Option (Int × Int × Int) := if a1 < 0 then (some (0, 0, 1)) else (zk_.l0 k a0 a1 0 0)
theorem zk_.mono_l : ∀ k, (∀ y0 y1 y2 y3, LeO (zk_.l0 k y0 y1 y2 y3) (zk_.l0 (k + 1) y0 y1 y2 y3)) ∧ (∀ y0 y1 y2 y3 y4 y5, LeO (zk_.j1 k y0 y1 y2 y3 y4 y5) (zk_.j1 (k + 1) y0 y1 y2 y3 y4 y5)) ∧ (∀ y0 y1 y2 y3 y4 y5, LeO (zk_.j2 k y0 y1 y2 y3 y4 y5) (zk_.j2 (k + 1) y0 y1 y2 y3 y4 y5))
 | 0 => ⟨fun _ _ _ _ r h => by simp [zk_.l0] at h, fun _ _ _ _ _ _ r h => by simp [zk_.j1] at h, fun _ _ _ _ _ _ r h => by simp [zk_.j2] at h⟩
 | k + 1 => by
  obtain ⟨ih0, ih1, ih2⟩ := zk_.mono_l k
  refine ⟨?_, ?_, ?_⟩
  ·
   intro y0 y1 y2 y3
   unfold zk_.l0
   repeat' with_reducible first | exact ih0 _ _ _ _ | exact ih1 _ _ _ _ _ _ | exact ih2 _ _ _ _ _ _ | exact LeO.refl _ | exact LeO.none _ | refine LeO.ite ?_ ?_ | refine LeO.bind ?_ (fun _ => ?_)
  ·
   intro y0 y1 y2 y3 y4 y5
   unfold zk_.j1
   repeat' with_reducible first | exact ih0 _ _ _ _ | exact ih1 _ _ _ _ _ _ | exact ih2 _ _ _ _ _ _ | exact LeO.refl _ | exact LeO.none _ | refine LeO.ite ?_ ?_ | refine LeO.bind ?_ (fun _ => ?_)
  ·
   intro y0 y1 y2 y3 y4 y5
   unfold zk_.j2
   repeat' with_reducible first | exact ih0 _ _ _ _ | exact ih1 _ _ _ _ _ _ | exact ih2 _ _ _ _ _ _ | exact LeO.refl _ | exact LeO.none _ | refine LeO.ite ?_ ?_ | refine LeO.bind ?_ (fun _ => ?_)
theorem zk_.mono : ∀ a0 a1 k, LeO (zk_.f k a0 a1) (zk_.f (k + 1) a0 a1) := by
 intro a0 a1 k
 obtain ⟨ih0, ih1, ih2⟩ := zk_.mono_l k
 unfold zk_.f
 repeat' with_reducible first | exact ih0 _ _ _ _ | exact ih1 _ _ _ _ _ _ | exact ih2 _ _ _ _ _ _ | exact LeO.refl _ | exact LeO.none _ | refine LeO.ite ?_ ?_ | refine LeO.bind ?_ (fun _ => ?_)
theorem zk_.calls (k : Nat) (a0 : ByteArray) (a1 : Int) (r1 : Int) (r2 : Int) (r3 : Int) (w : World) (h : zk_.f k a0 a1 = some (r1, r2, r3)) :
 Calls Tryd.prog 120 #[.string a0, .int .i64 a1] w fun e w' => e = .returned (.agg #[.int .i64 r1, .int .i64 r2, .int .i64 r3]) ∧ Below w.heap.size w w' := by
 have hu102 := Tryd.underlying102
 have HB := AM (Below.refl w.heap.size w)
 have H : (if a1 < 0 then (some (0, 0, 1)) else (zk_.l0 k a0 a1 0 0)) = some (r1, r2, r3) := h
 clear h
 by_cases c3 : a1 < 0
 ·
  rw [if_pos c3] at H
  have c3b0 : decide (a1 < 0) = true := decide_eq_true c3
  clear c3
  simp only [Option.some.injEq, Prod.mk.injEq] at H
  obtain ⟨rfl, rfl, rfl⟩ := H
  go_enter Tryd.func120, Tryd.ntmps120
  go_wp2_with (first | ((with_reducible refine zy_ (N := 4) rfl ?_); refine be_ 4 #[.int .i64 0, .int .i64 0, .int .i64 0] 102 ?_; intro gb262 hg w4 hbox hb; have BK262 := AM hbox; have GW262 := AM ((by rw [hg]; exact (zf_ bel_) : w.heap.size ≤ gb262)); have GE262 := AM ((by rw [hg]; exact (zf_ bel_) : w.heap.size ≤ gb262)); replace HB := AM (zc_ bel_ hb); clear hb hbox hg; have hcz5_0 : w4.cell? ⟨gb262, 0, none⟩ = some (.int .i64 0) := (zb_ BK262.out 0).trans rfl; have hcz5_1 : w4.cell? ⟨gb262, 1, none⟩ = some (.int .i64 0) := (zb_ BK262.out 1).trans rfl; have hcz5_2 : w4.cell? ⟨gb262, 2, none⟩ = some (.int .i64 0) := (zb_ BK262.out 2).trans rfl; have hfz5_0 := za_ BK262.out 0; have hfz5_1 := za_ BK262.out 1; have hfz5_2 := za_ BK262.out 2))
  refine bodyPost_ret (results_cell_row rfl _ _ gb262 102 #[.int .i64 0, .int .i64 0, .int .i64 1] (0, 0) _ rfl bka_ Tryd.underlying102 rfl (by kernel_rfl)) rfl ?_
  exact ⟨ri_, bel_⟩
 ·
  rw [if_neg c3] at H
  have c3b0 : decide (a1 < 0) = false := decide_eq_false c3
  clear c3
  have H' := AM H
  clear H
  go_enter Tryd.func120, Tryd.ntmps120
  go_wp2_with (first | ((with_reducible refine zy_ (N := 4) rfl ?_); refine be_ 4 #[.int .i64 0, .int .i64 0, .int .i64 0] 102 ?_; intro gb262 hg w6 hbox hb; have BK262 := AM hbox; have GW262 := AM ((by rw [hg]; exact (zf_ bel_) : w.heap.size ≤ gb262)); have GE262 := AM ((by rw [hg]; exact (zf_ bel_) : w.heap.size ≤ gb262)); replace HB := AM (zc_ bel_ hb); clear hb hbox hg))
  go_loopg [5, 6] k (fun kq v5 v6 w' => ∃ (x5_1 : Int) (x6_1 : Int) (x263000_1 : Int) (x263001_1 : Int) (x263002_1 : Int), v5 = .int .u64 x5_1 ∧ v6 = .int .i64 x6_1 ∧ zd_ (zk_.l0 kq a0 a1 x5_1 x6_1 = some (r1, r2, r3)) ∧ zd_ (kq ≤ k) ∧ zd_ (w'.heap[gb262]? = some (.cells #[.int .i64 x263000_1, .int .i64 x263001_1, .int .i64 x263002_1] 102 (0, 0))) ∧ zd_ (Below w.heap.size w w'))
  case atStart => exact ⟨(0), (0), (0), (0), (0), re_, re_, H', ⟨Nat.le_refl _⟩, ⟨bk_ BK262.out⟩, ⟨bel_⟩⟩
  case round =>
   clear H'
   (try clear c3b0); (try clear hcz5_0); (try clear hcz5_1); (try clear hcz5_2); (try clear hfz5_0); (try clear hfz5_1); (try clear hfz5_2)
   obtain ⟨x5_1, x6_1, x263000_1, x263001_1, x263002_1, rfl, rfl, HA, HK1, BK262, HB⟩ := hrel
   cases gk with
   | zero => exact absurd HA.out (by simp [zk_.l0])
   | succ k1 =>
    have H := HA.out
    clear HA
    simp only [zk_.l0] at H
    obtain ⟨t263, A7, H⟩ := OB H
    try dsimp only at H
    replace A7 := AM A7
    by_cases c8 : a1 > (wrap64 ((wrap64 (t263 - 1)) - x6_1))
    ·
     rw [if_pos c8] at H
     have c8b0 : decide ((wrap64 ((wrap64 (t263 - 1)) - x6_1)) < a1) = true := decide_eq_true c8
     try have c8b9 : (decide (((((t263 - 1)) - x6_1)) < a1)) = true := (by have hw0 : wrap64 (t263 - 1) = t263 - 1 := (by unfold wrap64; omega); have hw1 : wrap64 (((t263 - 1)) - x6_1) = ((t263 - 1)) - x6_1 := (by unfold wrap64; omega); have z_ := c8b0; simp only [hw0, hw1] at z_; exact z_)
     clear c8
     simp only [Option.some.injEq, Prod.mk.injEq] at H
     obtain ⟨rfl, rfl, rfl⟩ := H
     go_wp2_with (first | ((with_reducible refine zg_ (f := 42) rfl ?_); refine gl_ (some 15) Tryd.func42 #[.string a0] ?_; (with_reducible refine (z6_.calls a0 t263 _ A7.out).mono ?_); rintro e w' ⟨rfl, ⟨nd, rfl⟩⟩; refine ⟨_, rfl, ?_⟩; (try (rw [y5_ wr]; generalize hq_ : World.drewN wr _ = wr; replace BK262 : zd_ (wr.heap[gb262]? = some (.cells #[.int .i64 x263000_1, .int .i64 x263001_1, .int .i64 x263002_1] 102 (0, 0))) := ⟨by rw [← hq_]; exact (bk_ BK262.out)⟩; replace HB : zd_ (Below w.heap.size w wr) := ⟨by rw [← hq_]; exact bel_⟩; clear hq_)); have hcz9_0 : wr.cell? ⟨gb262, 0, none⟩ = some (.int .i64 x263000_1) := (zb_ BK262.out 0).trans rfl; have hcz9_1 : wr.cell? ⟨gb262, 1, none⟩ = some (.int .i64 x263001_1) := (zb_ BK262.out 1).trans rfl; have hcz9_2 : wr.cell? ⟨gb262, 2, none⟩ = some (.int .i64 x263002_1) := (zb_ BK262.out 2).trans rfl; have hfz9_0 := za_ BK262.out 0; have hfz9_1 := za_ BK262.out 1; have hfz9_2 := za_ BK262.out 2))
     refine bodyPost_ret (results_cell_row rfl _ _ gb262 102 #[.int .i64 0, .int .i64 0, .int .i64 4] (0, 0) _ rfl bka_ Tryd.underlying102 rfl (by kernel_rfl)) rfl ?_
     exact ⟨ri_, bel_⟩
    ·
     rw [if_neg c8] at H
     have c8b0 : decide ((wrap64 ((wrap64 (t263 - 1)) - x6_1)) < a1) = false := decide_eq_false c8
     try have c8b9 : (decide (((((t263 - 1)) - x6_1)) < a1)) = false := (by have hw0 : wrap64 (t263 - 1) = t263 - 1 := (by unfold wrap64; omega); have hw1 : wrap64 (((t263 - 1)) - x6_1) = ((t263 - 1)) - x6_1 := (by unfold wrap64; omega); have z_ := c8b0; simp only [hw0, hw1] at z_; exact z_)
     clear c8
     obtain ⟨ji10, hji10⟩ : ∃ j_ : Int, (wrap64 (a1 + x6_1)) = j_ := ⟨_, rfl⟩
     replace H : (if 0 ≤ (ji10) then (if (ji10) < (a0.size : Int) then (if 0 ≤ (wrap64 (7 * x6_1)) then (if x6_1 = 9 then (zk_.j1 k1 a0 a1 (Go.bits .or .u64 x5_1 (shl .u64 (IntKind.u64.wrap (Go.bits .and .u8 (bt a0 (ji10)) 127)) (wrap64 (7 * x6_1)))) x6_1 (bt a0 (ji10)) (decide ((bt a0 (ji10)) > 1))) else (zk_.j1 k1 a0 a1 (Go.bits .or .u64 x5_1 (shl .u64 (IntKind.u64.wrap (Go.bits .and .u8 (bt a0 (ji10)) 127)) (wrap64 (7 * x6_1)))) x6_1 (bt a0 (ji10)) false)) else (none)) else (none)) else (none)) = some (r1, r2, r3) := by first | (rw [hji10] at H; exact H) | (simp only [hji10] at H ⊢; exact H)
     (try rw [hji10] at A7)
     have hji10w : (IntKind.i64.wrap (a1 + x6_1)) = ji10 := (i64_w _).trans hji10
     by_cases c11 : 0 ≤ (ji10)
     ·
      rw [if_pos c11] at H
      have c11b0 : decide (0 ≤ (ji10)) = true := decide_eq_true c11
      clear c11
      by_cases c12 : (ji10) < (a0.size : Int)
      ·
       rw [if_pos c12] at H
       have c12b0 : decide ((ji10) < (a0.size : Int)) = true := decide_eq_true c12
       clear c12
       obtain ⟨ji14, hji14⟩ : ∃ j_ : Int, (wrap64 (7 * x6_1)) = j_ := ⟨_, rfl⟩
       replace H : (if 0 ≤ (ji14) then (if x6_1 = 9 then (zk_.j1 k1 a0 a1 (Go.bits .or .u64 x5_1 (shl .u64 (IntKind.u64.wrap (Go.bits .and .u8 (bt a0 (ji10)) 127)) (ji14))) x6_1 (bt a0 (ji10)) (decide ((bt a0 (ji10)) > 1))) else (zk_.j1 k1 a0 a1 (Go.bits .or .u64 x5_1 (shl .u64 (IntKind.u64.wrap (Go.bits .and .u8 (bt a0 (ji10)) 127)) (ji14))) x6_1 (bt a0 (ji10)) false)) else (none)) = some (r1, r2, r3) := by first | (rw [hji14] at H; exact H) | (simp only [hji14] at H ⊢; exact H)
       (try rw [hji14] at A7)
       have hji14w : (IntKind.i64.wrap (7 * x6_1)) = ji14 := (i64_w _).trans hji14
       by_cases c15 : 0 ≤ (ji14)
       ·
        rw [if_pos c15] at H
        have c15b0 := eq_true c15
        have c15b1 : decide (0 ≤ (ji14)) = true := decide_eq_true c15
        clear c15
        obtain ⟨ji16, hji16⟩ : ∃ j_ : Int, (shl .u64 (IntKind.u64.wrap (Go.bits .and .u8 (bt a0 (ji10)) 127)) (ji14)) = j_ := ⟨_, rfl⟩
        replace H : (if x6_1 = 9 then (zk_.j1 k1 a0 a1 (Go.bits .or .u64 x5_1 (ji16)) x6_1 (bt a0 (ji10)) (decide ((bt a0 (ji10)) > 1))) else (zk_.j1 k1 a0 a1 (Go.bits .or .u64 x5_1 (ji16)) x6_1 (bt a0 (ji10)) false)) = some (r1, r2, r3) := by first | (rw [hji16] at H; exact H) | (simp only [hji16] at H ⊢; exact H)
        (try rw [hji16] at A7)
        have hji16_ : (IntKind.u64.wrap ((IntKind.u64.wrap (Go.bits .and .u8 (bt a0 (ji10)) 127)) * 2 ^ min (ji14).toNat 64)) = ji16 := hji16
        have hji16z : (ji14) ≤ 64 → (IntKind.u64.wrap ((IntKind.u64.wrap (Go.bits .and .u8 (bt a0 (ji10)) 127)) * 2 ^ (ji14).toNat)) = ji16 := shl_small hji16
        have HC17 := AM H
        clear H
        go_upto_region 10 with (first | ((with_reducible refine zg_ (f := 42) rfl ?_); refine gl_ (some 15) Tryd.func42 #[.string a0] ?_; (with_reducible refine (z6_.calls a0 t263 _ A7.out).mono ?_); rintro e w' ⟨rfl, ⟨nd, rfl⟩⟩; refine ⟨_, rfl, ?_⟩; have p13 : 0 ≤ ((ji10) : Int) := of_decide_eq_true asm_; have q13 : (ji10) < (a0.size : Int) := of_decide_eq_true asm_; have hx13 := bt_at a0 (ji10); replace p13 := eq_true p13; replace q13 := eq_true q13))
        (try simp only [Act.put, List.setIfInBounds_toArray, List.set_cons_zero, List.set_cons_succ])
        go_cut [34] (fun v34 wc => ∃ (kq : Nat) (x34_16 : Bool), v34 = .bool x34_16 ∧ zd_ (zk_.j1 kq a0 a1 (Go.bits .or .u64 x5_1 (ji16)) x6_1 (bt a0 (ji10)) x34_16 = some (r1, r2, r3)) ∧ zd_ (kq ≤ k1) ∧ zd_ (wc.heap[gb262]? = some (.cells #[.int .i64 x263000_1, .int .i64 x263001_1, .int .i64 x263002_1] 102 (0, 0))) ∧ zd_ (Below w.heap.size w wc))
        case first =>
         have H := HC17.out
         clear HC17
         by_cases c18 : x6_1 = 9
         ·
          rw [if_pos c18] at H
          have c18b0 : (x6_1 == 9) = true := beq_iff_eq.mpr c18
          have c18b1 : (x6_1 != 9) = false := bne_eq_false_iff_eq.mpr c18
          clear c18
          (first | rw [c18b0] | (simp only [i64_w, i32_w]; rw [c18b0]) | skip)
          have H' := AM H
          clear H
          go_wp2
          go_meet
          case rel => exact ⟨_, (decide ((bt a0 (ji10)) > 1)), (by first | rfl | (simp; done) | (simp only [← hji10] <;> (first | rfl | simp)) | (simp [*]; done)), H', ⟨by have := HK1.out; first | omega | exact Nat.le_refl _⟩, ⟨bk_ BK262.out⟩, ⟨bel_⟩⟩
         ·
          rw [if_neg c18] at H
          have c18b0 : (x6_1 == 9) = false := beq_eq_false_iff_ne.mpr c18
          have c18b1 : (x6_1 != 9) = true := bne_iff_ne.mpr c18
          (first | rw [c18b0] | (simp only [i64_w, i32_w]; rw [c18b0]) | skip)
          have H' := AM H
          clear H
          go_wp2
          go_meet
          case rel => exact ⟨_, (false), re_, H', ⟨by have := HK1.out; first | omega | exact Nat.le_refl _⟩, ⟨bk_ BK262.out⟩, ⟨bel_⟩⟩
        case rest =>
         clear HC17
         (try clear c8b0); (try clear c11b0); (try clear c12b0); (try clear p13); (try clear q13); (try clear hx13); (try clear c15b0); (try clear c15b1); (try clear c18); (try clear c18b0); (try clear c18b1); (try clear hcz9_0); (try clear hcz9_1); (try clear hcz9_2); (try clear hfz9_0); (try clear hfz9_1); (try clear hfz9_2)
         obtain ⟨kq, x34_16, rfl, HA, HJ16, BK262, HB⟩ := hcut
         cases kq with
         | zero => exact absurd HA.out (by simp [zk_.j1])
         | succ kj16 =>
          have H := HA.out
          clear HA
          simp only [zk_.j1] at H
          have HC19 := AM H
          clear H
          go_upto_if 34 with (fail)
          go_cut [34] (fun v34 wc => ∃ (kq : Nat) (x34_18 : Bool), v34 = .bool x34_18 ∧ zd_ (zk_.j2 kq a0 a1 (Go.bits .or .u64 x5_1 (ji16)) x6_1 (bt a0 (ji10)) x34_18 = some (r1, r2, r3)) ∧ zd_ (kq ≤ kj16) ∧ zd_ (wc.heap[gb262]? = some (.cells #[.int .i64 x263000_1, .int .i64 x263001_1, .int .i64 x263002_1] 102 (0, 0))) ∧ zd_ (Below w.heap.size w wc))
          case first =>
           have H := HC19.out
           clear HC19
           by_cases c20 : x34_16 = true
           ·
            subst c20
            rw [if_pos rfl] at H
            have H' := AM H
            clear H
            go_wp2
            go_meet
            case rel => exact ⟨_, (true), re_, H', ⟨by have := HK1.out; have := HJ16.out; first | omega | exact Nat.le_refl _⟩, ⟨bk_ BK262.out⟩, ⟨bel_⟩⟩
           ·
            replace c20 := Bool.eq_false_iff.mpr c20
            subst c20
            rw [if_neg (show ¬ (false = true) by decide)] at H
            by_cases c21 : (bt a0 (ji10)) = 0
            ·
             rw [if_pos c21] at H
             have c21b0 : ((bt a0 (ji10)) == 0) = true := beq_iff_eq.mpr c21
             have c21b1 : ((bt a0 (ji10)) != 0) = false := bne_eq_false_iff_eq.mpr c21
             clear c21
             (first | rw [c21b0] | (simp only [i64_w, i32_w]; rw [c21b0]) | skip)
             have H' := AM H
             clear H
             go_wp2
             go_meet
             case rel => exact ⟨_, (decide (x6_1 > 0)), re_, H', ⟨by have := HK1.out; have := HJ16.out; first | omega | exact Nat.le_refl _⟩, ⟨bk_ BK262.out⟩, ⟨bel_⟩⟩
            ·
             rw [if_neg c21] at H
             have c21b0 : ((bt a0 (ji10)) == 0) = false := beq_eq_false_iff_ne.mpr c21
             have c21b1 : ((bt a0 (ji10)) != 0) = true := bne_iff_ne.mpr c21
             (first | rw [c21b0] | (simp only [i64_w, i32_w]; rw [c21b0]) | skip)
             have H' := AM H
             clear H
             go_wp2
             go_meet
             case rel => exact ⟨_, (false), re_, H', ⟨by have := HK1.out; have := HJ16.out; first | omega | exact Nat.le_refl _⟩, ⟨bk_ BK262.out⟩, ⟨bel_⟩⟩
          case rest =>
           clear HC19
           (try clear c20); (try clear c21); (try clear c21b0); (try clear c21b1)
           obtain ⟨kq, x34_18, rfl, HA, HJ18, BK262, HB⟩ := hcut
           cases kq with
           | zero => exact absurd HA.out (by simp [zk_.j2])
           | succ kj18 =>
            have H := HA.out
            clear HA
            simp only [zk_.j2] at H
            by_cases c22 : x34_18 = true
            ·
             subst c22
             rw [if_pos rfl] at H
             simp only [Option.some.injEq, Prod.mk.injEq] at H
             obtain ⟨rfl, rfl, rfl⟩ := H
             have hcz23_0 : wc.cell? ⟨gb262, 0, none⟩ = some (.int .i64 x263000_1) := (zb_ BK262.out 0).trans rfl
             have hcz23_1 : wc.cell? ⟨gb262, 1, none⟩ = some (.int .i64 x263001_1) := (zb_ BK262.out 1).trans rfl
             have hcz23_2 : wc.cell? ⟨gb262, 2, none⟩ = some (.int .i64 x263002_1) := (zb_ BK262.out 2).trans rfl
             have hfz23_0 := za_ BK262.out 0
             have hfz23_1 := za_ BK262.out 1
             have hfz23_2 := za_ BK262.out 2
             go_wp2
             refine bodyPost_ret (results_cell_row rfl _ _ gb262 102 #[.int .i64 0, .int .i64 0, .int .i64 3] (0, 0) _ rfl bka_ Tryd.underlying102 rfl (by kernel_rfl)) rfl ?_
             exact ⟨by first | rfl | (simp [yd_, yc_] <;> rfl) | (simp only [← hji10, ← hji14, ← hji16]; first | rfl | (simp [yd_, yc_] <;> rfl)) | (simp [*, yd_, yc_] <;> rfl), bel_⟩
            ·
             replace c22 := Bool.eq_false_iff.mpr c22
             subst c22
             rw [if_neg (show ¬ (false = true) by decide)] at H
             by_cases c24 : (bt a0 (ji10)) < 128
             ·
              rw [if_pos c24] at H
              have c24b0 : decide ((bt a0 (ji10)) < 128) = true := decide_eq_true c24
              clear c24
              simp only [Option.some.injEq, Prod.mk.injEq] at H
              obtain ⟨rfl, rfl, rfl⟩ := H
              have hcz25_0 : wc.cell? ⟨gb262, 0, none⟩ = some (.int .i64 x263000_1) := (zb_ BK262.out 0).trans rfl
              have hcz25_1 : wc.cell? ⟨gb262, 1, none⟩ = some (.int .i64 x263001_1) := (zb_ BK262.out 1).trans rfl
              have hcz25_2 : wc.cell? ⟨gb262, 2, none⟩ = some (.int .i64 x263002_1) := (zb_ BK262.out 2).trans rfl
              have hfz25_0 := za_ BK262.out 0
              have hfz25_1 := za_ BK262.out 1
              have hfz25_2 := za_ BK262.out 2
              go_wp2
              (try rw [← hji10])
              refine bodyPost_ret (results_cell_row rfl _ _ gb262 102 #[.int .i64 (Go.bits .xor .i64 (wrap64 ((Go.bits .or .u64 x5_1 (ji16)) / 2)) (wrap64 (-(wrap64 (Go.bits .and .u64 (Go.bits .or .u64 x5_1 (ji16)) 1))))), .int .i64 (wrap64 ((wrap64 (a1 + x6_1)) + 1)), .int .i64 0] (0, 0) _ rfl bka_ Tryd.underlying102 rfl (by kernel_rfl)) rfl ?_
              exact ⟨by first | rfl | (simp [yd_, yc_] <;> rfl) | (simp only [← hji10, ← hji14, ← hji16]; first | rfl | (simp [yd_, yc_] <;> rfl)) | (simp [*, yd_, yc_] <;> rfl), bel_⟩
             ·
              rw [if_neg c24] at H
              have c24b0 : decide ((bt a0 (ji10)) < 128) = false := decide_eq_false c24
              clear c24
              have H' := AM H
              clear H
              go_wp2
              go_roundg kj18
              case measure => have := HK1.out; have := HJ16.out; have := HJ18.out; omega
              case rel => exact ⟨((Go.bits .or .u64 x5_1 (ji16))), (wrap64 (x6_1 + 1)), (x263000_1), (x263001_1), (x263002_1), (by first | rfl | (simp; done) | (simp only [← hji16] <;> (first | rfl | simp)) | (simp [*]; done)), re_, H', ⟨by have := HK1.out; have := HJ16.out; have := HJ18.out; omega⟩, ⟨bk_ BK262.out⟩, ⟨bel_⟩⟩
       ·
        rw [if_neg c15] at H
        exact absurd H (by simp)
      ·
       rw [if_neg c12] at H
       exact absurd H (by simp)
     ·
      rw [if_neg c11] at H
      exact absurd H (by simp)
/-! ### zM_: function 85 -/
def zM_.f (k : Nat) (s0_0 : ByteArray) (s0_1 : Int) (s0_2 : Bool) : Option (Int × ByteArray × Int × Bool) := (zk_.f k s0_0 s0_1).bind fun bt264 => (if s0_2 = true then (some (0, s0_0, s0_1, true)) else (if bt264.2.2 = 0 then (some (bt264.1, s0_0, bt264.2.1, s0_2)) else (some (0, s0_0, s0_1, true))))
theorem zM_.mono : ∀ a0 a1 a2 k, LeO (zM_.f k a0 a1 a2) (zM_.f (k + 1) a0 a1 a2) := by
 intro a0 a1 a2 k
 unfold zM_.f
 repeat' with_reducible first | exact zk_.mono _ _ _ | exact LeO.refl _ | exact LeO.none _ | refine LeO.ite ?_ ?_ | refine LeO.bind ?_ (fun _ => ?_)
def zM_.T1 : Bool × List (List Nat × List Nat) := (true, [([], []), ([0], [0]), ([1], [1]), ([2], [2]), ([], []), ([4], [4]), ([5], [5]), ([6], [6]), ([3, 7], [3, 7]), ([], []), ([9, 8, 8, 0, 1, 2, 3, 4, 5, 6, 7, 8, 9], [8, 9])])
def zM_.B1 : List Nat := [0, 1, 3, 7, 0, 16, 48, 112, 255, 0, 1023]
theorem zM_.tab1 : rtab .any (opsOf Tryd.f85 1) = zM_.T1 := by kernel_rfl
theorem zM_.bits1 : yR_ zM_.T1.2 zM_.B1 = true := by kernel_rfl
theorem zM_.calls (k : Nat) (g : Nat) (s0_0 : ByteArray) (s0_1 : Int) (s0_2 : Bool) (r1 : Int) (r2 : ByteArray) (r3 : Int) (r4 : Bool) (w0 w : World) (hI : zj_ w0 w g s0_0 s0_1 s0_2) (hB : Below w0.heap.size w0 w) (h : zM_.f k s0_0 s0_1 s0_2 = some (r1, r2, r3, r4)) :
 Calls Tryd.prog 85 #[.pointer (some ⟨g, 0, none⟩)] w fun e w' => e = .returned (.int .i64 r1) ∧ zj_ w0 w' g r2 r3 r4 ∧ Below w0.heap.size w0 w' ∧ zw_ w w' g none := by
 have hu102 := Tryd.underlying102
 have HI0 := AM hI
 have HK := AM (zw_.refl w g none)
 have HL := AM hB.size
 clear hI
 have HW0 := AM hB.size
 have HB := AM hB
 clear hB
 have H : ((zk_.f k s0_0 s0_1).bind fun bt264 => (if s0_2 = true then (some (0, s0_0, s0_1, true)) else (if bt264.2.2 = 0 then (some (bt264.1, s0_0, bt264.2.1, s0_2)) else (some (0, s0_0, s0_1, true))))) = some (r1, r2, r3, r4) := h
 clear h
 obtain ⟨⟨t264, t265, t266⟩, A2, H⟩ := OB H
 try dsimp only at H
 replace A2 := AM A2
 by_cases c3 : s0_2 = true
 ·
  subst c3
  rw [if_pos rfl] at H
  simp only [Option.some.injEq, Prod.mk.injEq] at H
  obtain ⟨rfl, rfl, rfl, rfl⟩ := H
  go_enter Tryd.func85, Tryd.ntmps85
  try go_wp2
  replace HI0 := AM (zj_.drew HI0.out)
  replace HK := AM (xd_ HK.out)
  replace HB := AM (zF_ HB.out)
  refine yU_ (n := 11) (S := fun w' => w'.cell? ⟨g, 0, none⟩ = some (.string s0_0) ∧ w'.cell? ⟨g, 1, none⟩ = some (.int .i64 s0_1) ∧ w'.cell? ⟨g, 2, none⟩ = some (.bool true)) (ds := []) (Array.replicate 11 false) (by kernel_rfl) rfl rfl ⟨(zR_ HI0.out.1), (zQ_ HI0.out.1), (zP_ HI0.out.1)⟩ (fun hHeld => ?_); refine yx_ zM_.tab1 zM_.bits1 (fun HT_ HW_ => ?_)
  generalize w.drew = w4 at HI0 HK HB hHeld ⊢
  refine pu_ HT_ 0 (some 4) (bA 11 1) ?_
  refine pu_ HT_ 1 (some 5) (bA 11 3) ?_
  refine pu_ HT_ 2 (some 6) (bA 11 7) ?_
  refine pu_ HT_ 4 (some 8) (bA 11 23) ?_
  refine pu_ HT_ 5 (some 9) (bA 11 55) ?_
  refine pu_ HT_ 6 (some 10) (bA 11 119) ?_
  refine ta_ HT_ HW_ 3 (some 7) (bA 11 127) hHeld ?_
  refine ta_ HT_ HW_ 7 (some 11) (bA 11 255) hHeld ?_
  refine join_ (σ := Nat) 1 #[true, true, true, true, true, true, true, true, true, true, false] (fun s_ => [(12, .agg #[.int .i64 t264, .int .i64 t265, .int .i64 t266]), (3, .pointer (some ⟨s_, 0, none⟩))]) (fun s_ w' => (w'.cell? ⟨g, 0, none⟩ = some (.string s0_0) ∧ w'.cell? ⟨g, 1, none⟩ = some (.int .i64 s0_1) ∧ w'.cell? ⟨g, 2, none⟩ = some (.bool true)) ∧ (w'.heap[s_]? = some (.cells #[.int .i64 0, .int .i64 0, .int .i64 0] 102 (0, 0))) ∧ (w.heap.size ≤ s_) ∧ (w0.heap.size ≤ s_) ∧ (g ≠ s_) ∧ (s_ ≠ g) ∧ (zj_ w0 w' g s0_0 s0_1 true) ∧ (zw_ w w' g none) ∧ (Below w0.heap.size w0 w')) ?_ ?_
  rotate_left
  ·
   intro hCont
   refine tw_ HT_ 8 9 (some 12) (some 3) (bA 11 511) (bA 11 767) (fun K hK => ?_) (fun K hK => ?_)
   ·
    skip
    refine go1_ Tryd.func120 #[.string s0_0, .int .i64 s0_1] ?_
    with_reducible refine (zk_.calls k s0_0 s0_1 t264 t265 t266 _ A2.out).mono ?_
    rintro e w5 ⟨rfl, hb⟩
    refine ⟨_, rfl, ?_⟩
    replace HK := AM (kb_ w g hb)
    replace HB := AM (zc_ (belg_ (zj_.ge HI0.out)) hb)
    replace HI0 := AM (zj_.below z5_ hb)
    (try clear hb)
    refine hK.out _ _ ⟨(zR_ HI0.out.1), (zQ_ HI0.out.1), (zP_ HI0.out.1)⟩ (fun hHeld => ?_)
    clear hK K
    refine nm_ ?_
    refine on_ HT_ 9 (some 3) (bA 11 1023) (fun K hK => ?_)
    refine bs_ 3 #[.int .i64 0, .int .i64 0, .int .i64 0] 102 ?_
    intro gb267 hg w6 hbox hb
    replace HB := AM (zc_ (belg_ (zj_.ge HI0.out)) hb)
    have BK267 := AM hbox
    have GW267 := AM ((by rw [hg]; exact (z3_ (w := w) (g := g) (row := none) kp_) : w.heap.size ≤ gb267))
    have GE267 := AM ((Nat.le_trans HW0.out (by rw [hg]; exact (z3_ (w := w) (g := g) (row := none) kp_) : w.heap.size ≤ gb267) : w0.heap.size ≤ gb267))
    replace HK := AM (kb_ w g hb)
    have NB0_267 := AM ((by rw [hg]; exact Nat.ne_of_lt (zj_.lt (show zj_ w0 _ g s0_0 s0_1 true from z5_)) : g ≠ gb267))
    have NB267_0 := AM ((by rw [hg]; exact Nat.ne_of_gt (zj_.lt (show zj_ w0 _ g s0_0 s0_1 true from z5_)) : gb267 ≠ g))
    replace HI0 := AM (zj_.below z5_ hb)
    clear hb hbox hg
    refine hK.out _ _ ⟨(zR_ HI0.out.1), (zQ_ HI0.out.1), (zP_ HI0.out.1)⟩ (fun hHeld => ?_)
    clear hK K
    refine nm_ ?_
    exact nmE_ (hCont (gb267) _ ⟨hHeld, (bk_ BK267.out), GW267.out, GE267.out, NB0_267.out, NB267_0.out, z5_, kp_, (belg_ (zj_.ge HI0.out))⟩)
   ·
    skip
    refine bs_ 3 #[.int .i64 0, .int .i64 0, .int .i64 0] 102 ?_
    intro gb267 hg w5 hbox hb
    replace HB := AM (zc_ (belg_ (zj_.ge HI0.out)) hb)
    have BK267 := AM hbox
    have GW267 := AM ((by rw [hg]; exact (z3_ (w := w) (g := g) (row := none) kp_) : w.heap.size ≤ gb267))
    have GE267 := AM ((Nat.le_trans HW0.out (by rw [hg]; exact (z3_ (w := w) (g := g) (row := none) kp_) : w.heap.size ≤ gb267) : w0.heap.size ≤ gb267))
    replace HK := AM (kb_ w g hb)
    have NB0_267 := AM ((by rw [hg]; exact Nat.ne_of_lt (zj_.lt (show zj_ w0 _ g s0_0 s0_1 true from z5_)) : g ≠ gb267))
    have NB267_0 := AM ((by rw [hg]; exact Nat.ne_of_gt (zj_.lt (show zj_ w0 _ g s0_0 s0_1 true from z5_)) : gb267 ≠ g))
    replace HI0 := AM (zj_.below z5_ hb)
    clear hb hbox hg
    refine hK.out _ _ ⟨(zR_ HI0.out.1), (zQ_ HI0.out.1), (zP_ HI0.out.1)⟩ (fun hHeld => ?_)
    clear hK K
    refine nm_ ?_
    refine on_ HT_ 8 (some 12) (bA 11 1023) (fun K hK => ?_)
    refine go1_ Tryd.func120 #[.string s0_0, .int .i64 s0_1] ?_
    with_reducible refine (zk_.calls k s0_0 s0_1 t264 t265 t266 _ A2.out).mono ?_
    rintro e w6 ⟨rfl, hb⟩
    refine ⟨_, rfl, ?_⟩
    replace BK267 := AM (zh_ (g := gb267) (o := .cells #[.int .i64 0, .int .i64 0, .int .i64 0] 102 (0, 0)) (bk_ BK267.out) hb)
    replace HK := AM (kb_ w g hb)
    replace HB := AM (zc_ (belg_ (zj_.ge HI0.out)) hb)
    replace HI0 := AM (zj_.below z5_ hb)
    (try clear hb)
    refine hK.out _ _ ⟨(zR_ HI0.out.1), (zQ_ HI0.out.1), (zP_ HI0.out.1)⟩ (fun hHeld => ?_)
    clear hK K
    refine nm_ ?_
    exact nmE_ (hCont (gb267) _ ⟨hHeld, (bk_ BK267.out), GW267.out, GE267.out, NB0_267.out, NB267_0.out, z5_, kp_, (belg_ (zj_.ge HI0.out))⟩)
  rintro gb267 w7 ⟨hS_, h0_, h1_, h2_, h3_, h4_, h5_, h6_, h7_⟩
  have BK267 : zd_ (w7.heap[gb267]? = some (.cells #[.int .i64 0, .int .i64 0, .int .i64 0] 102 (0, 0))) := ⟨h0_⟩
  have GW267 : zd_ (w.heap.size ≤ gb267) := ⟨h1_⟩
  have GE267 : zd_ (w0.heap.size ≤ gb267) := ⟨h2_⟩
  have NB0_267 : zd_ (g ≠ gb267) := ⟨h3_⟩
  have NB267_0 : zd_ (gb267 ≠ g) := ⟨h4_⟩
  replace HI0 : zd_ (zj_ w0 w7 g s0_0 s0_1 true) := ⟨h5_⟩
  replace HK : zd_ (zw_ w w7 g none) := ⟨h6_⟩
  replace HB : zd_ (Below w0.heap.size w0 w7) := ⟨h7_⟩
  clear h0_ h1_ h2_ h3_ h4_ h5_ h6_ h7_
  have hHeld : w7.cell? ⟨g, 0, none⟩ = some (.string s0_0) ∧ w7.cell? ⟨g, 1, none⟩ = some (.int .i64 s0_1) ∧ w7.cell? ⟨g, 2, none⟩ = some (.bool true) := hS_
  refine nmA_ ?_
  refine on_ HT_ 10 none (bA 11 2047) (fun K hK => ?_)
  have hs8 : w7.cell? ⟨gb267, 0, none⟩ = some (.int .i64 0) := (zb_ BK267.out 0).trans rfl
  have hfs8 := za_ BK267.out 0
  have hs9 : w7.cell? ⟨gb267, 1, none⟩ = some (.int .i64 0) := (zb_ BK267.out 1).trans rfl
  have hfs9 := za_ BK267.out 1
  have hs10 : w7.cell? ⟨gb267, 2, none⟩ = some (.int .i64 0) := (zb_ BK267.out 2).trans rfl
  have hfs10 := za_ BK267.out 2
  refine sk_ ?_
  refine hK.out _ _ ⟨(by (rw [cell_far, cell_far, cell_far]) <;> first | exact hHeld.1 | exact NB0_267.out), (by (rw [cell_far, cell_far, cell_far]) <;> first | exact hHeld.2.1 | exact NB0_267.out), (by (rw [cell_far, cell_far, cell_far]) <;> first | exact hHeld.2.2 | exact NB0_267.out)⟩ (fun hHeld => ?_)
  clear hK K
  refine dn_ HT_ ?_
  obtain ⟨HGz11, hgz11⟩ := HI0.out
  have hcz11_0 := zR_ HGz11
  have hcz11_1 := zQ_ HGz11
  have hcz11_2 := zP_ HGz11
  have hfz11_0 := za_ HGz11 0
  have hfz11_1 := za_ HGz11 1
  have hfz11_2 := za_ HGz11 2
  clear HGz11 hgz11
  try go_wp2
  go_ret
  exact ⟨ri_, z5_, belg_ (zj_.ge HI0.out), kp_⟩
 ·
  replace c3 := Bool.eq_false_iff.mpr c3
  subst c3
  rw [if_neg (show ¬ (false = true) by decide)] at H
  by_cases c12 : t266 = 0
  ·
   rw [if_pos c12] at H
   have c12b0 : (t266 == 0) = true := beq_iff_eq.mpr c12
   have c12b1 : (t266 != 0) = false := bne_eq_false_iff_eq.mpr c12
   clear c12
   simp only [Option.some.injEq, Prod.mk.injEq] at H
   obtain ⟨rfl, rfl, rfl, rfl⟩ := H
   go_enter Tryd.func85, Tryd.ntmps85
   try go_wp2
   replace HI0 := AM (zj_.drew HI0.out)
   replace HK := AM (xd_ HK.out)
   replace HB := AM (zF_ HB.out)
   refine yU_ (n := 11) (S := fun w' => w'.cell? ⟨g, 0, none⟩ = some (.string s0_0) ∧ w'.cell? ⟨g, 1, none⟩ = some (.int .i64 s0_1) ∧ w'.cell? ⟨g, 2, none⟩ = some (.bool false)) (ds := []) (Array.replicate 11 false) (by kernel_rfl) rfl rfl ⟨(zR_ HI0.out.1), (zQ_ HI0.out.1), (zP_ HI0.out.1)⟩ (fun hHeld => ?_); refine yx_ zM_.tab1 zM_.bits1 (fun HT_ HW_ => ?_)
   generalize w.drew = w13 at HI0 HK HB hHeld ⊢
   refine pu_ HT_ 0 (some 4) (bA 11 1) ?_
   refine pu_ HT_ 1 (some 5) (bA 11 3) ?_
   refine pu_ HT_ 2 (some 6) (bA 11 7) ?_
   refine pu_ HT_ 4 (some 8) (bA 11 23) ?_
   refine pu_ HT_ 5 (some 9) (bA 11 55) ?_
   refine pu_ HT_ 6 (some 10) (bA 11 119) ?_
   refine ta_ HT_ HW_ 3 (some 7) (bA 11 127) hHeld ?_
   refine ta_ HT_ HW_ 7 (some 11) (bA 11 255) hHeld ?_
   refine join_ (σ := Nat) 1 #[true, true, true, true, true, true, true, true, true, true, false] (fun s_ => [(12, .agg #[.int .i64 t264, .int .i64 t265, .int .i64 t266]), (3, .pointer (some ⟨s_, 0, none⟩))]) (fun s_ w' => (w'.cell? ⟨g, 0, none⟩ = some (.string s0_0) ∧ w'.cell? ⟨g, 1, none⟩ = some (.int .i64 s0_1) ∧ w'.cell? ⟨g, 2, none⟩ = some (.bool false)) ∧ (w'.heap[s_]? = some (.cells #[.int .i64 0, .int .i64 0, .int .i64 0] 102 (0, 0))) ∧ (w.heap.size ≤ s_) ∧ (w0.heap.size ≤ s_) ∧ (g ≠ s_) ∧ (s_ ≠ g) ∧ (zj_ w0 w' g s0_0 s0_1 false) ∧ (zw_ w w' g none) ∧ (Below w0.heap.size w0 w')) ?_ ?_
   rotate_left
   ·
    intro hCont
    refine tw_ HT_ 8 9 (some 12) (some 3) (bA 11 511) (bA 11 767) (fun K hK => ?_) (fun K hK => ?_)
    ·
     skip
     refine go1_ Tryd.func120 #[.string s0_0, .int .i64 s0_1] ?_
     with_reducible refine (zk_.calls k s0_0 s0_1 t264 t265 t266 _ A2.out).mono ?_
     rintro e w14 ⟨rfl, hb⟩
     refine ⟨_, rfl, ?_⟩
     replace HK := AM (kb_ w g hb)
     replace HB := AM (zc_ (belg_ (zj_.ge HI0.out)) hb)
     replace HI0 := AM (zj_.below z5_ hb)
     (try clear hb)
     refine hK.out _ _ ⟨(zR_ HI0.out.1), (zQ_ HI0.out.1), (zP_ HI0.out.1)⟩ (fun hHeld => ?_)
     clear hK K
     refine nm_ ?_
     refine on_ HT_ 9 (some 3) (bA 11 1023) (fun K hK => ?_)
     refine bs_ 3 #[.int .i64 0, .int .i64 0, .int .i64 0] 102 ?_
     intro gb267 hg w15 hbox hb
     replace HB := AM (zc_ (belg_ (zj_.ge HI0.out)) hb)
     have BK267 := AM hbox
     have GW267 := AM ((by rw [hg]; exact (z3_ (w := w) (g := g) (row := none) kp_) : w.heap.size ≤ gb267))
     have GE267 := AM ((Nat.le_trans HW0.out (by rw [hg]; exact (z3_ (w := w) (g := g) (row := none) kp_) : w.heap.size ≤ gb267) : w0.heap.size ≤ gb267))
     replace HK := AM (kb_ w g hb)
     have NB0_267 := AM ((by rw [hg]; exact Nat.ne_of_lt (zj_.lt (show zj_ w0 _ g s0_0 s0_1 false from z5_)) : g ≠ gb267))
     have NB267_0 := AM ((by rw [hg]; exact Nat.ne_of_gt (zj_.lt (show zj_ w0 _ g s0_0 s0_1 false from z5_)) : gb267 ≠ g))
     replace HI0 := AM (zj_.below z5_ hb)
     clear hb hbox hg
     refine hK.out _ _ ⟨(zR_ HI0.out.1), (zQ_ HI0.out.1), (zP_ HI0.out.1)⟩ (fun hHeld => ?_)
     clear hK K
     refine nm_ ?_
     exact nmE_ (hCont (gb267) _ ⟨hHeld, (bk_ BK267.out), GW267.out, GE267.out, NB0_267.out, NB267_0.out, z5_, kp_, (belg_ (zj_.ge HI0.out))⟩)
    ·
     skip
     refine bs_ 3 #[.int .i64 0, .int .i64 0, .int .i64 0] 102 ?_
     intro gb267 hg w14 hbox hb
     replace HB := AM (zc_ (belg_ (zj_.ge HI0.out)) hb)
     have BK267 := AM hbox
     have GW267 := AM ((by rw [hg]; exact (z3_ (w := w) (g := g) (row := none) kp_) : w.heap.size ≤ gb267))
     have GE267 := AM ((Nat.le_trans HW0.out (by rw [hg]; exact (z3_ (w := w) (g := g) (row := none) kp_) : w.heap.size ≤ gb267) : w0.heap.size ≤ gb267))
     replace HK := AM (kb_ w g hb)
     have NB0_267 := AM ((by rw [hg]; exact Nat.ne_of_lt (zj_.lt (show zj_ w0 _ g s0_0 s0_1 false from z5_)) : g ≠ gb267))
     have NB267_0 := AM ((by rw [hg]; exact Nat.ne_of_gt (zj_.lt (show zj_ w0 _ g s0_0 s0_1 false from z5_)) : gb267 ≠ g))
     replace HI0 := AM (zj_.below z5_ hb)
     clear hb hbox hg
     refine hK.out _ _ ⟨(zR_ HI0.out.1), (zQ_ HI0.out.1), (zP_ HI0.out.1)⟩ (fun hHeld => ?_)
     clear hK K
     refine nm_ ?_
     refine on_ HT_ 8 (some 12) (bA 11 1023) (fun K hK => ?_)
     refine go1_ Tryd.func120 #[.string s0_0, .int .i64 s0_1] ?_
     with_reducible refine (zk_.calls k s0_0 s0_1 t264 t265 t266 _ A2.out).mono ?_
     rintro e w15 ⟨rfl, hb⟩
     refine ⟨_, rfl, ?_⟩
     replace BK267 := AM (zh_ (g := gb267) (o := .cells #[.int .i64 0, .int .i64 0, .int .i64 0] 102 (0, 0)) (bk_ BK267.out) hb)
     replace HK := AM (kb_ w g hb)
     replace HB := AM (zc_ (belg_ (zj_.ge HI0.out)) hb)
     replace HI0 := AM (zj_.below z5_ hb)
     (try clear hb)
     refine hK.out _ _ ⟨(zR_ HI0.out.1), (zQ_ HI0.out.1), (zP_ HI0.out.1)⟩ (fun hHeld => ?_)
     clear hK K
     refine nm_ ?_
     exact nmE_ (hCont (gb267) _ ⟨hHeld, (bk_ BK267.out), GW267.out, GE267.out, NB0_267.out, NB267_0.out, z5_, kp_, (belg_ (zj_.ge HI0.out))⟩)
   rintro gb267 w16 ⟨hS_, h0_, h1_, h2_, h3_, h4_, h5_, h6_, h7_⟩
   have BK267 : zd_ (w16.heap[gb267]? = some (.cells #[.int .i64 0, .int .i64 0, .int .i64 0] 102 (0, 0))) := ⟨h0_⟩
   have GW267 : zd_ (w.heap.size ≤ gb267) := ⟨h1_⟩
   have GE267 : zd_ (w0.heap.size ≤ gb267) := ⟨h2_⟩
   have NB0_267 : zd_ (g ≠ gb267) := ⟨h3_⟩
   have NB267_0 : zd_ (gb267 ≠ g) := ⟨h4_⟩
   replace HI0 : zd_ (zj_ w0 w16 g s0_0 s0_1 false) := ⟨h5_⟩
   replace HK : zd_ (zw_ w w16 g none) := ⟨h6_⟩
   replace HB : zd_ (Below w0.heap.size w0 w16) := ⟨h7_⟩
   clear h0_ h1_ h2_ h3_ h4_ h5_ h6_ h7_
   have hHeld : w16.cell? ⟨g, 0, none⟩ = some (.string s0_0) ∧ w16.cell? ⟨g, 1, none⟩ = some (.int .i64 s0_1) ∧ w16.cell? ⟨g, 2, none⟩ = some (.bool false) := hS_
   refine nmA_ ?_
   refine on_ HT_ 10 none (bA 11 2047) (fun K hK => ?_)
   have hs17 : w16.cell? ⟨gb267, 0, none⟩ = some (.int .i64 0) := (zb_ BK267.out 0).trans rfl
   have hfs17 := za_ BK267.out 0
   have hs18 : w16.cell? ⟨gb267, 1, none⟩ = some (.int .i64 0) := (zb_ BK267.out 1).trans rfl
   have hfs18 := za_ BK267.out 1
   have hs19 : w16.cell? ⟨gb267, 2, none⟩ = some (.int .i64 0) := (zb_ BK267.out 2).trans rfl
   have hfs19 := za_ BK267.out 2
   refine sk_ ?_
   refine hK.out _ _ ⟨(by (rw [cell_far, cell_far, cell_far]) <;> first | exact hHeld.1 | exact NB0_267.out), (by (rw [cell_far, cell_far, cell_far]) <;> first | exact hHeld.2.1 | exact NB0_267.out), (by (rw [cell_far, cell_far, cell_far]) <;> first | exact hHeld.2.2 | exact NB0_267.out)⟩ (fun hHeld => ?_)
   clear hK K
   refine dn_ HT_ ?_
   obtain ⟨HGz20, hgz20⟩ := HI0.out
   have hcz20_0 := zR_ HGz20
   have hcz20_1 := zQ_ HGz20
   have hcz20_2 := zP_ HGz20
   have hfz20_0 := za_ HGz20 0
   have hfz20_1 := za_ HGz20 1
   have hfz20_2 := za_ HGz20 2
   clear HGz20 hgz20
   have hnb21 := NB267_0.out
   have hnc21 := NB0_267.out
   have hcz22_0 : w16.cell? ⟨gb267, 0, none⟩ = some (.int .i64 0) := (zb_ BK267.out 0).trans rfl
   have hcz22_1 : w16.cell? ⟨gb267, 1, none⟩ = some (.int .i64 0) := (zb_ BK267.out 1).trans rfl
   have hcz22_2 : w16.cell? ⟨gb267, 2, none⟩ = some (.int .i64 0) := (zb_ BK267.out 2).trans rfl
   have hfz22_0 := za_ BK267.out 0
   have hfz22_1 := za_ BK267.out 1
   have hfz22_2 := za_ BK267.out 2
   try go_wp2
   go_ret
   exact ⟨ri_, z5_, belg_ (zj_.ge HI0.out), kp_⟩
  ·
   rw [if_neg c12] at H
   have c12b0 : (t266 == 0) = false := beq_eq_false_iff_ne.mpr c12
   have c12b1 : (t266 != 0) = true := bne_iff_ne.mpr c12
   simp only [Option.some.injEq, Prod.mk.injEq] at H
   obtain ⟨rfl, rfl, rfl, rfl⟩ := H
   go_enter Tryd.func85, Tryd.ntmps85
   try go_wp2
   replace HI0 := AM (zj_.drew HI0.out)
   replace HK := AM (xd_ HK.out)
   replace HB := AM (zF_ HB.out)
   refine yU_ (n := 11) (S := fun w' => w'.cell? ⟨g, 0, none⟩ = some (.string s0_0) ∧ w'.cell? ⟨g, 1, none⟩ = some (.int .i64 s0_1) ∧ w'.cell? ⟨g, 2, none⟩ = some (.bool false)) (ds := []) (Array.replicate 11 false) (by kernel_rfl) rfl rfl ⟨(zR_ HI0.out.1), (zQ_ HI0.out.1), (zP_ HI0.out.1)⟩ (fun hHeld => ?_); refine yx_ zM_.tab1 zM_.bits1 (fun HT_ HW_ => ?_)
   generalize w.drew = w23 at HI0 HK HB hHeld ⊢
   refine pu_ HT_ 0 (some 4) (bA 11 1) ?_
   refine pu_ HT_ 1 (some 5) (bA 11 3) ?_
   refine pu_ HT_ 2 (some 6) (bA 11 7) ?_
   refine pu_ HT_ 4 (some 8) (bA 11 23) ?_
   refine pu_ HT_ 5 (some 9) (bA 11 55) ?_
   refine pu_ HT_ 6 (some 10) (bA 11 119) ?_
   refine ta_ HT_ HW_ 3 (some 7) (bA 11 127) hHeld ?_
   refine ta_ HT_ HW_ 7 (some 11) (bA 11 255) hHeld ?_
   refine join_ (σ := Nat) 1 #[true, true, true, true, true, true, true, true, true, true, false] (fun s_ => [(12, .agg #[.int .i64 t264, .int .i64 t265, .int .i64 t266]), (3, .pointer (some ⟨s_, 0, none⟩))]) (fun s_ w' => (w'.cell? ⟨g, 0, none⟩ = some (.string s0_0) ∧ w'.cell? ⟨g, 1, none⟩ = some (.int .i64 s0_1) ∧ w'.cell? ⟨g, 2, none⟩ = some (.bool false)) ∧ (w'.heap[s_]? = some (.cells #[.int .i64 0, .int .i64 0, .int .i64 0] 102 (0, 0))) ∧ (w.heap.size ≤ s_) ∧ (w0.heap.size ≤ s_) ∧ (g ≠ s_) ∧ (s_ ≠ g) ∧ (zj_ w0 w' g s0_0 s0_1 false) ∧ (zw_ w w' g none) ∧ (Below w0.heap.size w0 w')) ?_ ?_
   rotate_left
   ·
    intro hCont
    refine tw_ HT_ 8 9 (some 12) (some 3) (bA 11 511) (bA 11 767) (fun K hK => ?_) (fun K hK => ?_)
    ·
     skip
     refine go1_ Tryd.func120 #[.string s0_0, .int .i64 s0_1] ?_
     with_reducible refine (zk_.calls k s0_0 s0_1 t264 t265 t266 _ A2.out).mono ?_
     rintro e w24 ⟨rfl, hb⟩
     refine ⟨_, rfl, ?_⟩
     replace HK := AM (kb_ w g hb)
     replace HB := AM (zc_ (belg_ (zj_.ge HI0.out)) hb)
     replace HI0 := AM (zj_.below z5_ hb)
     (try clear hb)
     refine hK.out _ _ ⟨(zR_ HI0.out.1), (zQ_ HI0.out.1), (zP_ HI0.out.1)⟩ (fun hHeld => ?_)
     clear hK K
     refine nm_ ?_
     refine on_ HT_ 9 (some 3) (bA 11 1023) (fun K hK => ?_)
     refine bs_ 3 #[.int .i64 0, .int .i64 0, .int .i64 0] 102 ?_
     intro gb267 hg w25 hbox hb
     replace HB := AM (zc_ (belg_ (zj_.ge HI0.out)) hb)
     have BK267 := AM hbox
     have GW267 := AM ((by rw [hg]; exact (z3_ (w := w) (g := g) (row := none) kp_) : w.heap.size ≤ gb267))
     have GE267 := AM ((Nat.le_trans HW0.out (by rw [hg]; exact (z3_ (w := w) (g := g) (row := none) kp_) : w.heap.size ≤ gb267) : w0.heap.size ≤ gb267))
     replace HK := AM (kb_ w g hb)
     have NB0_267 := AM ((by rw [hg]; exact Nat.ne_of_lt (zj_.lt (show zj_ w0 _ g s0_0 s0_1 false from z5_)) : g ≠ gb267))
     have NB267_0 := AM ((by rw [hg]; exact Nat.ne_of_gt (zj_.lt (show zj_ w0 _ g s0_0 s0_1 false from z5_)) : gb267 ≠ g))
     replace HI0 := AM (zj_.below z5_ hb)
     clear hb hbox hg
     refine hK.out _ _ ⟨(zR_ HI0.out.1), (zQ_ HI0.out.1), (zP_ HI0.out.1)⟩ (fun hHeld => ?_)
     clear hK K
     refine nm_ ?_
     exact nmE_ (hCont (gb267) _ ⟨hHeld, (bk_ BK267.out), GW267.out, GE267.out, NB0_267.out, NB267_0.out, z5_, kp_, (belg_ (zj_.ge HI0.out))⟩)
    ·
     skip
     refine bs_ 3 #[.int .i64 0, .int .i64 0, .int .i64 0] 102 ?_
     intro gb267 hg w24 hbox hb
     replace HB := AM (zc_ (belg_ (zj_.ge HI0.out)) hb)
     have BK267 := AM hbox
     have GW267 := AM ((by rw [hg]; exact (z3_ (w := w) (g := g) (row := none) kp_) : w.heap.size ≤ gb267))
     have GE267 := AM ((Nat.le_trans HW0.out (by rw [hg]; exact (z3_ (w := w) (g := g) (row := none) kp_) : w.heap.size ≤ gb267) : w0.heap.size ≤ gb267))
     replace HK := AM (kb_ w g hb)
     have NB0_267 := AM ((by rw [hg]; exact Nat.ne_of_lt (zj_.lt (show zj_ w0 _ g s0_0 s0_1 false from z5_)) : g ≠ gb267))
     have NB267_0 := AM ((by rw [hg]; exact Nat.ne_of_gt (zj_.lt (show zj_ w0 _ g s0_0 s0_1 false from z5_)) : gb267 ≠ g))
     replace HI0 := AM (zj_.below z5_ hb)
     clear hb hbox hg
     refine hK.out _ _ ⟨(zR_ HI0.out.1), (zQ_ HI0.out.1), (zP_ HI0.out.1)⟩ (fun hHeld => ?_)
     clear hK K
     refine nm_ ?_
     refine on_ HT_ 8 (some 12) (bA 11 1023) (fun K hK => ?_)
     refine go1_ Tryd.func120 #[.string s0_0, .int .i64 s0_1] ?_
     with_reducible refine (zk_.calls k s0_0 s0_1 t264 t265 t266 _ A2.out).mono ?_
     rintro e w25 ⟨rfl, hb⟩
     refine ⟨_, rfl, ?_⟩
     replace BK267 := AM (zh_ (g := gb267) (o := .cells #[.int .i64 0, .int .i64 0, .int .i64 0] 102 (0, 0)) (bk_ BK267.out) hb)
     replace HK := AM (kb_ w g hb)
     replace HB := AM (zc_ (belg_ (zj_.ge HI0.out)) hb)
     replace HI0 := AM (zj_.below z5_ hb)
     (try clear hb)
     refine hK.out _ _ ⟨(zR_ HI0.out.1), (zQ_ HI0.out.1), (zP_ HI0.out.1)⟩ (fun hHeld => ?_)
     clear hK K
     refine nm_ ?_
     exact nmE_ (hCont (gb267) _ ⟨hHeld, (bk_ BK267.out), GW267.out, GE267.out, NB0_267.out, NB267_0.out, z5_, kp_, (belg_ (zj_.ge HI0.out))⟩)
   rintro gb267 w26 ⟨hS_, h0_, h1_, h2_, h3_, h4_, h5_, h6_, h7_⟩
   have BK267 : zd_ (w26.heap[gb267]? = some (.cells #[.int .i64 0, .int .i64 0, .int .i64 0] 102 (0, 0))) := ⟨h0_⟩
   have GW267 : zd_ (w.heap.size ≤ gb267) := ⟨h1_⟩
   have GE267 : zd_ (w0.heap.size ≤ gb267) := ⟨h2_⟩
   have NB0_267 : zd_ (g ≠ gb267) := ⟨h3_⟩
   have NB267_0 : zd_ (gb267 ≠ g) := ⟨h4_⟩
   replace HI0 : zd_ (zj_ w0 w26 g s0_0 s0_1 false) := ⟨h5_⟩
   replace HK : zd_ (zw_ w w26 g none) := ⟨h6_⟩
   replace HB : zd_ (Below w0.heap.size w0 w26) := ⟨h7_⟩
   clear h0_ h1_ h2_ h3_ h4_ h5_ h6_ h7_
   have hHeld : w26.cell? ⟨g, 0, none⟩ = some (.string s0_0) ∧ w26.cell? ⟨g, 1, none⟩ = some (.int .i64 s0_1) ∧ w26.cell? ⟨g, 2, none⟩ = some (.bool false) := hS_
   refine nmA_ ?_
   refine on_ HT_ 10 none (bA 11 2047) (fun K hK => ?_)
   have hs27 : w26.cell? ⟨gb267, 0, none⟩ = some (.int .i64 0) := (zb_ BK267.out 0).trans rfl
   have hfs27 := za_ BK267.out 0
   have hs28 : w26.cell? ⟨gb267, 1, none⟩ = some (.int .i64 0) := (zb_ BK267.out 1).trans rfl
   have hfs28 := za_ BK267.out 1
   have hs29 : w26.cell? ⟨gb267, 2, none⟩ = some (.int .i64 0) := (zb_ BK267.out 2).trans rfl
   have hfs29 := za_ BK267.out 2
   refine sk_ ?_
   refine hK.out _ _ ⟨(by (rw [cell_far, cell_far, cell_far]) <;> first | exact hHeld.1 | exact NB0_267.out), (by (rw [cell_far, cell_far, cell_far]) <;> first | exact hHeld.2.1 | exact NB0_267.out), (by (rw [cell_far, cell_far, cell_far]) <;> first | exact hHeld.2.2 | exact NB0_267.out)⟩ (fun hHeld => ?_)
   clear hK K
   refine dn_ HT_ ?_
   obtain ⟨HGz30, hgz30⟩ := HI0.out
   have hcz30_0 := zR_ HGz30
   have hcz30_1 := zQ_ HGz30
   have hcz30_2 := zP_ HGz30
   have hfz30_0 := za_ HGz30 0
   have hfz30_1 := za_ HGz30 1
   have hfz30_2 := za_ HGz30 2
   clear HGz30 hgz30
   have hnb31 := NB267_0.out
   have hnc31 := NB0_267.out
   have hcz32_0 : w26.cell? ⟨gb267, 0, none⟩ = some (.int .i64 0) := (zb_ BK267.out 0).trans rfl
   have hcz32_1 : w26.cell? ⟨gb267, 1, none⟩ = some (.int .i64 0) := (zb_ BK267.out 1).trans rfl
   have hcz32_2 : w26.cell? ⟨gb267, 2, none⟩ = some (.int .i64 0) := (zb_ BK267.out 2).trans rfl
   have hfz32_0 := za_ BK267.out 0
   have hfz32_1 := za_ BK267.out 1
   have hfz32_2 := za_ BK267.out 2
   try go_wp2
   go_ret
   exact ⟨ri_, z5_, belg_ (zj_.ge HI0.out), kp_⟩
/-! ### zK_: function 121 -/
def zK_.f (k : Nat) (a0 : ByteArray) (a1 : Int) : Option (ByteArray × Int × Int) := (zk_.f k a0 a1).bind fun bt269 => (if bt269.2.2 = 0 then ((yw_.f bt269.1 0 20000).bind fun t273 => (if t273 = true then ((z6_.f a0).bind fun t274 => (if (wrap64 (bt269.2.1 + bt269.1)) > t274 then (some ((⟨#[]⟩ : ByteArray), 0, 4)) else (if 0 ≤ bt269.2.1 then (if bt269.2.1 ≤ (wrap64 (bt269.2.1 + bt269.1)) then (if (wrap64 (bt269.2.1 + bt269.1)) ≤ (a0.size : Int) then (some (a0.extract (bt269.2.1 : Int).toNat ((wrap64 (bt269.2.1 + bt269.1)) : Int).toNat, wrap64 (bt269.2.1 + bt269.1), 0)) else (none)) else (none)) else (none)))) else (some ((⟨#[]⟩ : ByteArray), 0, 3)))) else (some ((⟨#[]⟩ : ByteArray), 0, bt269.2.2)))
theorem zK_.mono : ∀ a0 a1 k, LeO (zK_.f k a0 a1) (zK_.f (k + 1) a0 a1) := by
 intro a0 a1 k
 unfold zK_.f
 repeat' with_reducible first | exact zk_.mono _ _ _ | exact LeO.refl _ | exact LeO.none _ | refine LeO.ite ?_ ?_ | refine LeO.bind ?_ (fun _ => ?_)
def zK_.T6 : Bool × List (List Nat × List Nat) := (true, [([], []), ([0], [0]), ([], []), ([2], [2]), ([1, 3], [1, 3]), ([], []), ([5], [5]), ([4, 6], [4, 6]), ([7, 6], [7])])
def zK_.B6 : List Nat := [0, 1, 0, 4, 15, 0, 32, 127, 255]
theorem zK_.tab6 : rtab .any (opsOf Tryd.f121 6) = zK_.T6 := by kernel_rfl
theorem zK_.bits6 : yR_ zK_.T6.2 zK_.B6 = true := by kernel_rfl
def zK_.T8 : Bool × List (List Nat × List Nat) := (true, [([], []), ([], []), ([1], [1]), ([], []), ([3], [3]), ([], []), ([5], [5]), ([4, 6], [4, 6]), ([0, 2, 7], [0, 2, 7]), ([], []), ([9], [9]), ([], []), ([11], [11]), ([10, 12], [10, 12]), ([8, 13], [8, 13]), ([14, 0, 1, 2, 3, 4, 5, 6, 7, 8, 9, 10, 11, 12, 13, 14], [14])])
def zK_.B8 : List Nat := [0, 0, 2, 0, 8, 0, 32, 120, 255, 0, 512, 0, 2048, 7680, 16383, 32767]
theorem zK_.tab8 : rtab .any (opsOf Tryd.f121 8) = zK_.T8 := by kernel_rfl
theorem zK_.bits8 : yR_ zK_.T8.2 zK_.B8 = true := by kernel_rfl
theorem zK_.calls (k : Nat) (a0 : ByteArray) (a1 : Int) (r1 : ByteArray) (r2 : Int) (r3 : Int) (w : World) (h : zK_.f k a0 a1 = some (r1, r2, r3)) :
 Calls Tryd.prog 121 #[.string a0, .int .i64 a1] w fun e w' => e = .returned (.agg #[.string r1, .int .i64 r2, .int .i64 r3]) ∧ Below w.heap.size w w' := by
 have hu138 := Tryd.underlying138
 have hu102 := Tryd.underlying102
 have HB := AM (Below.refl w.heap.size w)
 have H : ((zk_.f k a0 a1).bind fun bt269 => (if bt269.2.2 = 0 then ((yw_.f bt269.1 0 20000).bind fun t273 => (if t273 = true then ((z6_.f a0).bind fun t274 => (if (wrap64 (bt269.2.1 + bt269.1)) > t274 then (some ((⟨#[]⟩ : ByteArray), 0, 4)) else (if 0 ≤ bt269.2.1 then (if bt269.2.1 ≤ (wrap64 (bt269.2.1 + bt269.1)) then (if (wrap64 (bt269.2.1 + bt269.1)) ≤ (a0.size : Int) then (some (a0.extract (bt269.2.1 : Int).toNat ((wrap64 (bt269.2.1 + bt269.1)) : Int).toNat, wrap64 (bt269.2.1 + bt269.1), 0)) else (none)) else (none)) else (none)))) else (some ((⟨#[]⟩ : ByteArray), 0, 3)))) else (some ((⟨#[]⟩ : ByteArray), 0, bt269.2.2)))) = some (r1, r2, r3) := h
 clear h
 obtain ⟨⟨t269, t270, t271⟩, A3, H⟩ := OB H
 try dsimp only at H
 replace A3 := AM A3
 by_cases c4 : t271 = 0
 ·
  rw [if_pos c4] at H
  have c4b0 : (t271 == 0) = true := beq_iff_eq.mpr c4
  have c4b1 : (t271 != 0) = false := bne_eq_false_iff_eq.mpr c4
  clear c4
  obtain ⟨t273, A5, H⟩ := OB H
  try dsimp only at H
  replace A5 := AM A5
  by_cases c6 : t273 = true
  ·
   subst c6
   rw [if_pos rfl] at H
   obtain ⟨t274, A7, H⟩ := OB H
   try dsimp only at H
   replace A7 := AM A7
   by_cases c8 : (wrap64 (t270 + t269)) > t274
   ·
    rw [if_pos c8] at H
    have c8b0 : decide (t274 < (wrap64 (t270 + t269))) = true := decide_eq_true c8
    try have c8b9 : (decide (t274 < ((t270 + t269)))) = true := (by have hw0 : wrap64 (t270 + t269) = t270 + t269 := (by unfold wrap64; omega); have z_ := c8b0; simp only [hw0] at z_; exact z_)
    clear c8
    simp only [Option.some.injEq, Prod.mk.injEq] at H
    obtain ⟨rfl, rfl, rfl⟩ := H
    go_enter Tryd.func121, Tryd.ntmps121
    try go_wp2_with (first | ((with_reducible refine zy_ (N := 4) rfl ?_); refine be_ 4 #[.string (⟨#[]⟩ : ByteArray), .int .i64 0, .int .i64 0] 138 ?_; intro gb268 hg w9 hbox hb; have BK268 := AM hbox; have GW268 := AM ((by rw [hg]; exact (zf_ bel_) : w.heap.size ≤ gb268)); have GE268 := AM ((by rw [hg]; exact (zf_ bel_) : w.heap.size ≤ gb268)); replace HB := AM (zc_ bel_ hb); clear hb hbox hg) | ((with_reducible refine zg_ (f := 120) rfl ?_); refine gl_ (some 8) Tryd.func120 #[.string a0, .int .i64 a1] ?_; (with_reducible refine (zk_.calls k a0 a1 t269 t270 t271 _ A3.out).mono ?_); rintro e w10 ⟨rfl, hb⟩; refine ⟨_, rfl, ?_⟩; replace BK268 := AM (zh_ (g := gb268) (o := .cells #[.string (⟨#[]⟩ : ByteArray), .int .i64 0, .int .i64 0] 138 (0, 0)) (bk_ BK268.out) hb); replace HB := AM (zc_ bel_ hb); (try clear hb)) | ((with_reducible refine zy_ (N := 5) rfl ?_); refine be_ 5 #[.int .i64 0, .int .i64 0, .int .i64 0] 102 ?_; intro gb272 hg w11 hbox hb; have BK272 := AM hbox; have GW272 := AM ((by rw [hg]; exact (zf_ bel_) : w.heap.size ≤ gb272)); have GE272 := AM ((by rw [hg]; exact (zf_ bel_) : w.heap.size ≤ gb272)); replace HB := AM (zc_ bel_ hb); have NB268_272 := AM ((by rw [hg]; exact Nat.ne_of_lt (zA_ (g := gb268) (o := .cells #[.string (⟨#[]⟩ : ByteArray), .int .i64 0, .int .i64 0] 138 (0, 0)) (bk_ BK268.out)) : gb268 ≠ gb272)); have NB272_268 := AM ((by rw [hg]; exact Nat.ne_of_gt (zA_ (g := gb268) (o := .cells #[.string (⟨#[]⟩ : ByteArray), .int .i64 0, .int .i64 0] 138 (0, 0)) (bk_ BK268.out)) : gb272 ≠ gb268)); replace BK268 := AM (zh_ (g := gb268) (o := .cells #[.string (⟨#[]⟩ : ByteArray), .int .i64 0, .int .i64 0] 138 (0, 0)) (bk_ BK268.out) hb); clear hb hbox hg; have hnb12 := NB272_268.out; have hnc12 := NB268_272.out; have hcz13_0 : w11.cell? ⟨gb272, 0, none⟩ = some (.int .i64 0) := (zb_ BK272.out 0).trans rfl; have hcz13_1 : w11.cell? ⟨gb272, 1, none⟩ = some (.int .i64 0) := (zb_ BK272.out 1).trans rfl; have hcz13_2 : w11.cell? ⟨gb272, 2, none⟩ = some (.int .i64 0) := (zb_ BK272.out 2).trans rfl; have hfz13_0 := za_ BK272.out 0; have hfz13_1 := za_ BK272.out 1; have hfz13_2 := za_ BK272.out 2) | ((with_reducible refine zg_ (f := 65) rfl ?_); refine gl_ (some 19) Tryd.func65 #[.int .i64 t269, .int .i64 0, .int .i64 20000] ?_; (with_reducible refine (yw_.calls t269 0 20000 true _ A5.out).mono ?_); rintro e w' ⟨rfl, ⟨nd, rfl⟩⟩; refine ⟨_, rfl, ?_⟩))
    have n0_ : zd_ ((((w11.setCell ⟨gb272, 0, none⟩ (.int .i64 t269)).setCell ⟨gb272, 1, none⟩ (.int .i64 t270)).setCell ⟨gb272, 2, none⟩ (.int .i64 t271)).heap[gb268]? = some (.cells #[.string (⟨#[]⟩ : ByteArray), .int .i64 0, .int .i64 0] 138 (0, 0))) := ⟨bka_⟩
    have n1_ : zd_ ((((w11.setCell ⟨gb272, 0, none⟩ (.int .i64 t269)).setCell ⟨gb272, 1, none⟩ (.int .i64 t270)).setCell ⟨gb272, 2, none⟩ (.int .i64 t271)).heap[gb272]? = some (.cells #[.int .i64 t269, .int .i64 t270, .int .i64 t271] 102 (0, 0))) := ⟨bka_⟩
    have n2_ : zd_ (Below w.heap.size w (((w11.setCell ⟨gb272, 0, none⟩ (.int .i64 t269)).setCell ⟨gb272, 1, none⟩ (.int .i64 t270)).setCell ⟨gb272, 2, none⟩ (.int .i64 t271))) := ⟨bel_⟩
    (try clear BK268); (try clear BK272); (try clear HB)
    generalize (((w11.setCell ⟨gb272, 0, none⟩ (.int .i64 t269)).setCell ⟨gb272, 1, none⟩ (.int .i64 t270)).setCell ⟨gb272, 2, none⟩ (.int .i64 t271)) = w14 at n0_ n1_ n2_ ⊢
    have BK268 := n0_
    have BK272 := n1_
    have HB := n2_
    clear n0_ n1_ n2_
    (try (rw [y5_ w14]; generalize hq_ : World.drewN w14 _ = w14; replace BK268 : zd_ (w14.heap[gb268]? = some (.cells #[.string (⟨#[]⟩ : ByteArray), .int .i64 0, .int .i64 0] 138 (0, 0))) := ⟨by rw [← hq_]; exact (bk_ BK268.out)⟩; replace BK272 : zd_ (w14.heap[gb272]? = some (.cells #[.int .i64 t269, .int .i64 t270, .int .i64 t271] 102 (0, 0))) := ⟨by rw [← hq_]; exact (bk_ BK272.out)⟩; replace HB : zd_ (Below w.heap.size w w14) := ⟨by rw [← hq_]; exact bel_⟩; clear hq_))
    replace BK268 := AM (zN_ BK268.out)
    replace BK272 := AM (zN_ BK272.out)
    replace HB := AM (zF_ HB.out)
    refine yU_ (n := 9) (S := fun w' => w'.cell? ⟨gb272, 0, none⟩ = some (.int .i64 t269) ∧ w'.cell? ⟨gb272, 1, none⟩ = some (.int .i64 t270) ∧ w'.cell? ⟨gb272, 2, none⟩ = some (.int .i64 t271)) (ds := []) (Array.replicate 9 false) (by kernel_rfl) rfl rfl ⟨(zb_ BK272.out 0).trans rfl, (zb_ BK272.out 1).trans rfl, (zb_ BK272.out 2).trans rfl⟩ (fun hHeld => ?_); refine yx_ zK_.tab6 zK_.bits6 (fun HT_ HW_ => ?_)
    generalize w14.drew = w15 at BK268 BK272 HB hHeld ⊢
    refine pu_ HT_ 0 (some 23) (bA 9 1) ?_
    refine pu_ HT_ 2 (some 25) (bA 9 5) ?_
    refine pu_ HT_ 5 (some 28) (bA 9 37) ?_
    refine ta_ HT_ HW_ 1 (some 24) (bA 9 39) hHeld ?_
    refine ta_ HT_ HW_ 3 (some 26) (bA 9 47) hHeld ?_
    refine pu_ HT_ 4 (some 27) (bA 9 63) ?_
    refine on_ HT_ 6 (some 29) (bA 9 127) (fun K hK => ?_)
    refine go1_ Tryd.func42 #[.string a0] ?_
    with_reducible refine (z6_.calls a0 t274 _ A7.out).mono ?_
    rintro e w' ⟨rfl, ⟨nd, rfl⟩⟩
    refine ⟨_, rfl, ?_⟩
    refine hK.out _ _ ⟨(zb_ BK272.out 0).trans rfl, (zb_ BK272.out 1).trans rfl, (zb_ BK272.out 2).trans rfl⟩ (fun hHeld => ?_)
    clear hK K
    refine nm_ ?_
    refine pu_ HT_ 7 (some 30) (bA 9 255) ?_
    refine pu_ HT_ 8 (some 22) (bA 9 511) ?_
    refine dn_ HT_ ?_
    have hcz16_0 : w15.cell? ⟨gb268, 0, none⟩ = some (.string (⟨#[]⟩ : ByteArray)) := (zb_ BK268.out 0).trans rfl
    have hcz16_1 : w15.cell? ⟨gb268, 1, none⟩ = some (.int .i64 0) := (zb_ BK268.out 1).trans rfl
    have hcz16_2 : w15.cell? ⟨gb268, 2, none⟩ = some (.int .i64 0) := (zb_ BK268.out 2).trans rfl
    have hfz16_0 := za_ BK268.out 0
    have hfz16_1 := za_ BK268.out 1
    have hfz16_2 := za_ BK268.out 2
    try go_wp2
    refine bodyPost_ret (results_cell_row rfl _ _ gb268 138 #[.string (⟨#[]⟩ : ByteArray), .int .i64 0, .int .i64 4] (0, 0) _ rfl bka_ Tryd.underlying138 rfl (by kernel_rfl)) rfl ?_
    exact ⟨ri_, bel_⟩
   ·
    rw [if_neg c8] at H
    have c8b0 : decide (t274 < (wrap64 (t270 + t269))) = false := decide_eq_false c8
    try have c8b9 : (decide (t274 < ((t270 + t269)))) = false := (by have hw0 : wrap64 (t270 + t269) = t270 + t269 := (by unfold wrap64; omega); have z_ := c8b0; simp only [hw0] at z_; exact z_)
    clear c8
    by_cases c17 : 0 ≤ t270
    ·
     rw [if_pos c17] at H
     have c17b0 := eq_true c17
     have c17b1 : decide (0 ≤ t270) = true := decide_eq_true c17
     clear c17
     by_cases c18 : t270 ≤ (wrap64 (t270 + t269))
     ·
      rw [if_pos c18] at H
      have c18b0 := eq_true c18
      have c18b1 : decide (t270 ≤ (wrap64 (t270 + t269))) = true := decide_eq_true c18
      by_cases c19 : (wrap64 (t270 + t269)) ≤ (a0.size : Int)
      ·
       rw [if_pos c19] at H
       have c19b0 := eq_true c19
       have c19b1 : decide ((wrap64 (t270 + t269)) ≤ (a0.size : Int)) = true := decide_eq_true c19
       simp only [Option.some.injEq, Prod.mk.injEq] at H
       obtain ⟨rfl, rfl, rfl⟩ := H
       go_enter Tryd.func121, Tryd.ntmps121
       try go_wp2_with (first | ((with_reducible refine zy_ (N := 4) rfl ?_); refine be_ 4 #[.string (⟨#[]⟩ : ByteArray), .int .i64 0, .int .i64 0] 138 ?_; intro gb268 hg w20 hbox hb; have BK268 := AM hbox; have GW268 := AM ((by rw [hg]; exact (zf_ bel_) : w.heap.size ≤ gb268)); have GE268 := AM ((by rw [hg]; exact (zf_ bel_) : w.heap.size ≤ gb268)); replace HB := AM (zc_ bel_ hb); clear hb hbox hg) | ((with_reducible refine zg_ (f := 120) rfl ?_); refine gl_ (some 8) Tryd.func120 #[.string a0, .int .i64 a1] ?_; (with_reducible refine (zk_.calls k a0 a1 t269 t270 t271 _ A3.out).mono ?_); rintro e w21 ⟨rfl, hb⟩; refine ⟨_, rfl, ?_⟩; replace BK268 := AM (zh_ (g := gb268) (o := .cells #[.string (⟨#[]⟩ : ByteArray), .int .i64 0, .int .i64 0] 138 (0, 0)) (bk_ BK268.out) hb); replace HB := AM (zc_ bel_ hb); (try clear hb)) | ((with_reducible refine zy_ (N := 5) rfl ?_); refine be_ 5 #[.int .i64 0, .int .i64 0, .int .i64 0] 102 ?_; intro gb272 hg w22 hbox hb; have BK272 := AM hbox; have GW272 := AM ((by rw [hg]; exact (zf_ bel_) : w.heap.size ≤ gb272)); have GE272 := AM ((by rw [hg]; exact (zf_ bel_) : w.heap.size ≤ gb272)); replace HB := AM (zc_ bel_ hb); have NB268_272 := AM ((by rw [hg]; exact Nat.ne_of_lt (zA_ (g := gb268) (o := .cells #[.string (⟨#[]⟩ : ByteArray), .int .i64 0, .int .i64 0] 138 (0, 0)) (bk_ BK268.out)) : gb268 ≠ gb272)); have NB272_268 := AM ((by rw [hg]; exact Nat.ne_of_gt (zA_ (g := gb268) (o := .cells #[.string (⟨#[]⟩ : ByteArray), .int .i64 0, .int .i64 0] 138 (0, 0)) (bk_ BK268.out)) : gb272 ≠ gb268)); replace BK268 := AM (zh_ (g := gb268) (o := .cells #[.string (⟨#[]⟩ : ByteArray), .int .i64 0, .int .i64 0] 138 (0, 0)) (bk_ BK268.out) hb); clear hb hbox hg; have hnb23 := NB272_268.out; have hnc23 := NB268_272.out; have hcz24_0 : w22.cell? ⟨gb272, 0, none⟩ = some (.int .i64 0) := (zb_ BK272.out 0).trans rfl; have hcz24_1 : w22.cell? ⟨gb272, 1, none⟩ = some (.int .i64 0) := (zb_ BK272.out 1).trans rfl; have hcz24_2 : w22.cell? ⟨gb272, 2, none⟩ = some (.int .i64 0) := (zb_ BK272.out 2).trans rfl; have hfz24_0 := za_ BK272.out 0; have hfz24_1 := za_ BK272.out 1; have hfz24_2 := za_ BK272.out 2) | ((with_reducible refine zg_ (f := 65) rfl ?_); refine gl_ (some 19) Tryd.func65 #[.int .i64 t269, .int .i64 0, .int .i64 20000] ?_; (with_reducible refine (yw_.calls t269 0 20000 true _ A5.out).mono ?_); rintro e w' ⟨rfl, ⟨nd, rfl⟩⟩; refine ⟨_, rfl, ?_⟩))
       have n0_ : zd_ ((((w22.setCell ⟨gb272, 0, none⟩ (.int .i64 t269)).setCell ⟨gb272, 1, none⟩ (.int .i64 t270)).setCell ⟨gb272, 2, none⟩ (.int .i64 t271)).heap[gb268]? = some (.cells #[.string (⟨#[]⟩ : ByteArray), .int .i64 0, .int .i64 0] 138 (0, 0))) := ⟨bka_⟩
       have n1_ : zd_ ((((w22.setCell ⟨gb272, 0, none⟩ (.int .i64 t269)).setCell ⟨gb272, 1, none⟩ (.int .i64 t270)).setCell ⟨gb272, 2, none⟩ (.int .i64 t271)).heap[gb272]? = some (.cells #[.int .i64 t269, .int .i64 t270, .int .i64 t271] 102 (0, 0))) := ⟨bka_⟩
       have n2_ : zd_ (Below w.heap.size w (((w22.setCell ⟨gb272, 0, none⟩ (.int .i64 t269)).setCell ⟨gb272, 1, none⟩ (.int .i64 t270)).setCell ⟨gb272, 2, none⟩ (.int .i64 t271))) := ⟨bel_⟩
       (try clear BK268); (try clear BK272); (try clear HB)
       generalize (((w22.setCell ⟨gb272, 0, none⟩ (.int .i64 t269)).setCell ⟨gb272, 1, none⟩ (.int .i64 t270)).setCell ⟨gb272, 2, none⟩ (.int .i64 t271)) = w25 at n0_ n1_ n2_ ⊢
       have BK268 := n0_
       have BK272 := n1_
       have HB := n2_
       clear n0_ n1_ n2_
       (try (rw [y5_ w25]; generalize hq_ : World.drewN w25 _ = w25; replace BK268 : zd_ (w25.heap[gb268]? = some (.cells #[.string (⟨#[]⟩ : ByteArray), .int .i64 0, .int .i64 0] 138 (0, 0))) := ⟨by rw [← hq_]; exact (bk_ BK268.out)⟩; replace BK272 : zd_ (w25.heap[gb272]? = some (.cells #[.int .i64 t269, .int .i64 t270, .int .i64 t271] 102 (0, 0))) := ⟨by rw [← hq_]; exact (bk_ BK272.out)⟩; replace HB : zd_ (Below w.heap.size w w25) := ⟨by rw [← hq_]; exact bel_⟩; clear hq_))
       replace BK268 := AM (zN_ BK268.out)
       replace BK272 := AM (zN_ BK272.out)
       replace HB := AM (zF_ HB.out)
       refine yU_ (n := 9) (S := fun w' => w'.cell? ⟨gb272, 0, none⟩ = some (.int .i64 t269) ∧ w'.cell? ⟨gb272, 1, none⟩ = some (.int .i64 t270) ∧ w'.cell? ⟨gb272, 2, none⟩ = some (.int .i64 t271)) (ds := []) (Array.replicate 9 false) (by kernel_rfl) rfl rfl ⟨(zb_ BK272.out 0).trans rfl, (zb_ BK272.out 1).trans rfl, (zb_ BK272.out 2).trans rfl⟩ (fun hHeld => ?_); refine yx_ zK_.tab6 zK_.bits6 (fun HT_ HW_ => ?_)
       generalize w25.drew = w26 at BK268 BK272 HB hHeld ⊢
       refine pu_ HT_ 0 (some 23) (bA 9 1) ?_
       refine pu_ HT_ 2 (some 25) (bA 9 5) ?_
       refine pu_ HT_ 5 (some 28) (bA 9 37) ?_
       refine ta_ HT_ HW_ 1 (some 24) (bA 9 39) hHeld ?_
       refine ta_ HT_ HW_ 3 (some 26) (bA 9 47) hHeld ?_
       refine pu_ HT_ 4 (some 27) (bA 9 63) ?_
       refine on_ HT_ 6 (some 29) (bA 9 127) (fun K hK => ?_)
       refine go1_ Tryd.func42 #[.string a0] ?_
       with_reducible refine (z6_.calls a0 t274 _ A7.out).mono ?_
       rintro e w' ⟨rfl, ⟨nd, rfl⟩⟩
       refine ⟨_, rfl, ?_⟩
       refine hK.out _ _ ⟨(zb_ BK272.out 0).trans rfl, (zb_ BK272.out 1).trans rfl, (zb_ BK272.out 2).trans rfl⟩ (fun hHeld => ?_)
       clear hK K
       refine nm_ ?_
       refine pu_ HT_ 7 (some 30) (bA 9 255) ?_
       refine pu_ HT_ 8 (some 22) (bA 9 511) ?_
       refine dn_ HT_ ?_
       try go_wp2
       (try (rw [y5_ w26]; generalize hq_ : World.drewN w26 _ = w26; replace BK268 : zd_ (w26.heap[gb268]? = some (.cells #[.string (⟨#[]⟩ : ByteArray), .int .i64 0, .int .i64 0] 138 (0, 0))) := ⟨by rw [← hq_]; exact (bk_ BK268.out)⟩; replace BK272 : zd_ (w26.heap[gb272]? = some (.cells #[.int .i64 t269, .int .i64 t270, .int .i64 t271] 102 (0, 0))) := ⟨by rw [← hq_]; exact (bk_ BK272.out)⟩; replace HB : zd_ (Below w.heap.size w w26) := ⟨by rw [← hq_]; exact bel_⟩; clear hq_))
       replace BK268 := AM (zN_ BK268.out)
       replace BK272 := AM (zN_ BK272.out)
       replace HB := AM (zF_ HB.out)
       refine yU_ (n := 16) (S := fun w' => w'.cell? ⟨gb272, 0, none⟩ = some (.int .i64 t269) ∧ w'.cell? ⟨gb272, 1, none⟩ = some (.int .i64 t270) ∧ w'.cell? ⟨gb272, 2, none⟩ = some (.int .i64 t271)) (ds := []) (Array.replicate 16 false) (by kernel_rfl) rfl rfl ⟨(zb_ BK272.out 0).trans rfl, (zb_ BK272.out 1).trans rfl, (zb_ BK272.out 2).trans rfl⟩ (fun hHeld => ?_); refine yx_ zK_.tab8 zK_.bits8 (fun HT_ HW_ => ?_)
       generalize w26.drew = w27 at BK268 BK272 HB hHeld ⊢
       refine pu_ HT_ 0 (some 32) (bA 16 1) ?_
       refine pu_ HT_ 1 (some 33) (bA 16 3) ?_
       refine pu_ HT_ 3 (some 35) (bA 16 11) ?_
       refine pu_ HT_ 5 (some 37) (bA 16 43) ?_
       refine pu_ HT_ 9 (some 41) (bA 16 555) ?_
       refine pu_ HT_ 11 (some 43) (bA 16 2603) ?_
       refine ta_ HT_ HW_ 2 (some 34) (bA 16 2607) hHeld ?_
       refine ta_ HT_ HW_ 4 (some 36) (bA 16 2623) hHeld ?_
       refine ta_ HT_ HW_ 6 (some 38) (bA 16 2687) hHeld ?_
       refine pu_ HT_ 7 (some 39) (bA 16 2815) ?_
       refine pu_ HT_ 8 (some 40) (bA 16 3071) ?_
       refine ta_ HT_ HW_ 10 (some 42) (bA 16 4095) hHeld ?_
       refine ta_ HT_ HW_ 12 (some 44) (bA 16 8191) hHeld ?_
       refine pu_ HT_ 13 (some 45) (bA 16 16383) ?_
       refine pu_ HT_ 14 (some 46) (bA 16 32767) ?_
       refine on_ HT_ 15 none (bA 16 65535) (fun K hK => ?_)
       have hs28 : w27.cell? ⟨gb268, 0, none⟩ = some (.string (⟨#[]⟩ : ByteArray)) := (zb_ BK268.out 0).trans rfl
       have hfs28 := za_ BK268.out 0
       have hns28_1 := NB272_268.out
       have hms28_1 := NB268_272.out
       have hs29 : w27.cell? ⟨gb268, 1, none⟩ = some (.int .i64 0) := (zb_ BK268.out 1).trans rfl
       have hfs29 := za_ BK268.out 1
       have hns29_1 := NB272_268.out
       have hms29_1 := NB268_272.out
       have hs30 : w27.cell? ⟨gb268, 2, none⟩ = some (.int .i64 0) := (zb_ BK268.out 2).trans rfl
       have hfs30 := za_ BK268.out 2
       have hns30_1 := NB272_268.out
       have hms30_1 := NB268_272.out
       refine sk_ ?_
       refine hK.out _ _ ⟨(by (rw [cell_far, cell_far, cell_far]) <;> first | exact hHeld.1 | exact NB272_268.out), (by (rw [cell_far, cell_far, cell_far]) <;> first | exact hHeld.2.1 | exact NB272_268.out), (by (rw [cell_far, cell_far, cell_far]) <;> first | exact hHeld.2.2 | exact NB272_268.out)⟩ (fun hHeld => ?_)
       clear hK K
       refine dn_ HT_ ?_
       try go_wp2
       refine bodyPost_ret (results_cell_row rfl _ _ gb268 138 #[.string (a0.extract (t270 : Int).toNat ((wrap64 (t270 + t269)) : Int).toNat), .int .i64 (wrap64 (t270 + t269)), .int .i64 0] (0, 0) _ rfl bka_ Tryd.underlying138 rfl (by kernel_rfl)) rfl ?_
       exact ⟨ri_, bel_⟩
      ·
       rw [if_neg c19] at H
       exact absurd H (by simp)
     ·
      rw [if_neg c18] at H
      exact absurd H (by simp)
    ·
     rw [if_neg c17] at H
     exact absurd H (by simp)
  ·
   replace c6 := Bool.eq_false_iff.mpr c6
   subst c6
   rw [if_neg (show ¬ (false = true) by decide)] at H
   simp only [Option.some.injEq, Prod.mk.injEq] at H
   obtain ⟨rfl, rfl, rfl⟩ := H
   go_enter Tryd.func121, Tryd.ntmps121
   go_wp2_with (first | ((with_reducible refine zy_ (N := 4) rfl ?_); refine be_ 4 #[.string (⟨#[]⟩ : ByteArray), .int .i64 0, .int .i64 0] 138 ?_; intro gb268 hg w31 hbox hb; have BK268 := AM hbox; have GW268 := AM ((by rw [hg]; exact (zf_ bel_) : w.heap.size ≤ gb268)); have GE268 := AM ((by rw [hg]; exact (zf_ bel_) : w.heap.size ≤ gb268)); replace HB := AM (zc_ bel_ hb); clear hb hbox hg) | ((with_reducible refine zg_ (f := 120) rfl ?_); refine gl_ (some 8) Tryd.func120 #[.string a0, .int .i64 a1] ?_; (with_reducible refine (zk_.calls k a0 a1 t269 t270 t271 _ A3.out).mono ?_); rintro e w32 ⟨rfl, hb⟩; refine ⟨_, rfl, ?_⟩; replace BK268 := AM (zh_ (g := gb268) (o := .cells #[.string (⟨#[]⟩ : ByteArray), .int .i64 0, .int .i64 0] 138 (0, 0)) (bk_ BK268.out) hb); replace HB := AM (zc_ bel_ hb); (try clear hb)) | ((with_reducible refine zy_ (N := 5) rfl ?_); refine be_ 5 #[.int .i64 0, .int .i64 0, .int .i64 0] 102 ?_; intro gb272 hg w33 hbox hb; have BK272 := AM hbox; have GW272 := AM ((by rw [hg]; exact (zf_ bel_) : w.heap.size ≤ gb272)); have GE272 := AM ((by rw [hg]; exact (zf_ bel_) : w.heap.size ≤ gb272)); replace HB := AM (zc_ bel_ hb); have NB268_272 := AM ((by rw [hg]; exact Nat.ne_of_lt (zA_ (g := gb268) (o := .cells #[.string (⟨#[]⟩ : ByteArray), .int .i64 0, .int .i64 0] 138 (0, 0)) (bk_ BK268.out)) : gb268 ≠ gb272)); have NB272_268 := AM ((by rw [hg]; exact Nat.ne_of_gt (zA_ (g := gb268) (o := .cells #[.string (⟨#[]⟩ : ByteArray), .int .i64 0, .int .i64 0] 138 (0, 0)) (bk_ BK268.out)) : gb272 ≠ gb268)); replace BK268 := AM (zh_ (g := gb268) (o := .cells #[.string (⟨#[]⟩ : ByteArray), .int .i64 0, .int .i64 0] 138 (0, 0)) (bk_ BK268.out) hb); clear hb hbox hg; have hnb34 := NB272_268.out; have hnc34 := NB268_272.out; have hcz35_0 : w33.cell? ⟨gb272, 0, none⟩ = some (.int .i64 0) := (zb_ BK272.out 0).trans rfl; have hcz35_1 : w33.cell? ⟨gb272, 1, none⟩ = some (.int .i64 0) := (zb_ BK272.out 1).trans rfl; have hcz35_2 : w33.cell? ⟨gb272, 2, none⟩ = some (.int .i64 0) := (zb_ BK272.out 2).trans rfl; have hfz35_0 := za_ BK272.out 0; have hfz35_1 := za_ BK272.out 1; have hfz35_2 := za_ BK272.out 2) | ((with_reducible refine zg_ (f := 65) rfl ?_); refine gl_ (some 19) Tryd.func65 #[.int .i64 t269, .int .i64 0, .int .i64 20000] ?_; (with_reducible refine (yw_.calls t269 0 20000 false _ A5.out).mono ?_); rintro e w' ⟨rfl, ⟨nd, rfl⟩⟩; refine ⟨_, rfl, ?_⟩; have hcz36_0 : w33.cell? ⟨gb268, 0, none⟩ = some (.string (⟨#[]⟩ : ByteArray)) := (zb_ BK268.out 0).trans rfl; have hcz36_1 : w33.cell? ⟨gb268, 1, none⟩ = some (.int .i64 0) := (zb_ BK268.out 1).trans rfl; have hcz36_2 : w33.cell? ⟨gb268, 2, none⟩ = some (.int .i64 0) := (zb_ BK268.out 2).trans rfl; have hfz36_0 := za_ BK268.out 0; have hfz36_1 := za_ BK268.out 1; have hfz36_2 := za_ BK268.out 2))
   refine bodyPost_ret (results_cell_row rfl _ _ gb268 138 #[.string (⟨#[]⟩ : ByteArray), .int .i64 0, .int .i64 3] (0, 0) _ rfl bka_ Tryd.underlying138 rfl (by kernel_rfl)) rfl ?_
   exact ⟨ri_, bel_⟩
 ·
  rw [if_neg c4] at H
  have c4b0 : (t271 == 0) = false := beq_eq_false_iff_ne.mpr c4
  have c4b1 : (t271 != 0) = true := bne_iff_ne.mpr c4
  simp only [Option.some.injEq, Prod.mk.injEq] at H
  obtain ⟨rfl, rfl, rfl⟩ := H
  go_enter Tryd.func121, Tryd.ntmps121
  go_wp2_with (first | ((with_reducible refine zy_ (N := 4) rfl ?_); refine be_ 4 #[.string (⟨#[]⟩ : ByteArray), .int .i64 0, .int .i64 0] 138 ?_; intro gb268 hg w37 hbox hb; have BK268 := AM hbox; have GW268 := AM ((by rw [hg]; exact (zf_ bel_) : w.heap.size ≤ gb268)); have GE268 := AM ((by rw [hg]; exact (zf_ bel_) : w.heap.size ≤ gb268)); replace HB := AM (zc_ bel_ hb); clear hb hbox hg) | ((with_reducible refine zg_ (f := 120) rfl ?_); refine gl_ (some 8) Tryd.func120 #[.string a0, .int .i64 a1] ?_; (with_reducible refine (zk_.calls k a0 a1 t269 t270 t271 _ A3.out).mono ?_); rintro e w38 ⟨rfl, hb⟩; refine ⟨_, rfl, ?_⟩; replace BK268 := AM (zh_ (g := gb268) (o := .cells #[.string (⟨#[]⟩ : ByteArray), .int .i64 0, .int .i64 0] 138 (0, 0)) (bk_ BK268.out) hb); replace HB := AM (zc_ bel_ hb); (try clear hb)) | ((with_reducible refine zy_ (N := 5) rfl ?_); refine be_ 5 #[.int .i64 0, .int .i64 0, .int .i64 0] 102 ?_; intro gb272 hg w39 hbox hb; have BK272 := AM hbox; have GW272 := AM ((by rw [hg]; exact (zf_ bel_) : w.heap.size ≤ gb272)); have GE272 := AM ((by rw [hg]; exact (zf_ bel_) : w.heap.size ≤ gb272)); replace HB := AM (zc_ bel_ hb); have NB268_272 := AM ((by rw [hg]; exact Nat.ne_of_lt (zA_ (g := gb268) (o := .cells #[.string (⟨#[]⟩ : ByteArray), .int .i64 0, .int .i64 0] 138 (0, 0)) (bk_ BK268.out)) : gb268 ≠ gb272)); have NB272_268 := AM ((by rw [hg]; exact Nat.ne_of_gt (zA_ (g := gb268) (o := .cells #[.string (⟨#[]⟩ : ByteArray), .int .i64 0, .int .i64 0] 138 (0, 0)) (bk_ BK268.out)) : gb272 ≠ gb268)); replace BK268 := AM (zh_ (g := gb268) (o := .cells #[.string (⟨#[]⟩ : ByteArray), .int .i64 0, .int .i64 0] 138 (0, 0)) (bk_ BK268.out) hb); clear hb hbox hg; have hnb40 := NB272_268.out; have hnc40 := NB268_272.out; have hcz41_0 : w39.cell? ⟨gb272, 0, none⟩ = some (.int .i64 0) := (zb_ BK272.out 0).trans rfl; have hcz41_1 : w39.cell? ⟨gb272, 1, none⟩ = some (.int .i64 0) := (zb_ BK272.out 1).trans rfl; have hcz41_2 : w39.cell? ⟨gb272, 2, none⟩ = some (.int .i64 0) := (zb_ BK272.out 2).trans rfl; have hfz41_0 := za_ BK272.out 0; have hfz41_1 := za_ BK272.out 1; have hfz41_2 := za_ BK272.out 2; have hcz42_0 : w39.cell? ⟨gb268, 0, none⟩ = some (.string (⟨#[]⟩ : ByteArray)) := (zb_ BK268.out 0).trans rfl; have hcz42_1 : w39.cell? ⟨gb268, 1, none⟩ = some (.int .i64 0) := (zb_ BK268.out 1).trans rfl; have hcz42_2 : w39.cell? ⟨gb268, 2, none⟩ = some (.int .i64 0) := (zb_ BK268.out 2).trans rfl; have hfz42_0 := za_ BK268.out 0; have hfz42_1 := za_ BK268.out 1; have hfz42_2 := za_ BK268.out 2))
  refine bodyPost_ret (results_cell_row rfl _ _ gb268 138 #[.string (⟨#[]⟩ : ByteArray), .int .i64 0, .int .i64 t271] (0, 0) _ rfl bka_ Tryd.underlying138 rfl (by kernel_rfl)) rfl ?_
  exact ⟨ri_, bel_⟩
end Go.Proofs.YtfffdndeccipnaaDoor.PFnPack
