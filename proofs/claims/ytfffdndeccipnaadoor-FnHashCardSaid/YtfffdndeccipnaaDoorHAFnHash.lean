/- The digest's functions of the program, walked by hand. No statement is proved here. -/
import Derived.Test.YtfffdndeccipnaaDoorH0FnHash
namespace Go.Proofs.YtfffdndeccipnaaDoor.Hand
open Go.RowKit Go.Proofs.YtfffdndeccipnaaDoorW.PrintWords Go.Proofs.YtfffdndeccipnaaDoorW.PrintLast Go.Proofs.YtfffdndeccipnaaDoorW.PrintMore Go.Proofs.YtfffdndeccipnaaDoor.Reg Go.Proofs.YtfffdndeccipnaaDoor.Aut
set_option linter.unusedVariables false
set_option linter.unusedSimpArgs false
def rr (x n : Int) : Int := Go.bits .or .u32 (shl .u32 x (Go.bits .and .u64 (IntKind.u64.wrap (wrap64 (-n))) 31)) (shr .u32 x (IntKind.u64.wrap (32 - (Go.bits .and .u64 (IntKind.u64.wrap (wrap64 (-n))) 31))))
theorem right_ok (x : Int) (n : Int) (h : n = 7 ∨ n = 18 ∨ n = 17 ∨ n = 19 ∨ n = 6 ∨ n = 11 ∨ n = 25 ∨ n = 2 ∨ n = 13 ∨ n = 22) : impl_right.f x n = some (rr x n) := by
  unfold impl_right.f bits_RotateLeft32.f rr
  rw [if_pos, if_pos]
  · rfl
  all_goals (rcases h with rfl | rfl | rfl | rfl | rfl | rfl | rfl | rfl | rfl | rfl <;> decide +kernel)
def rootsL : List Int := [1116352408, 1899447441, 3049323471, 3921009573, 961987163, 1508970993, 2453635748, 2870763221, 3624381080, 310598401, 607225278, 1426881987, 1925078388, 2162078206, 2614888103, 3248222580, 3835390401, 4022224774, 264347078, 604807628, 770255983, 1249150122, 1555081692, 1996064986, 2554220882, 2821834349, 2952996808, 3210313671, 3336571891, 3584528711, 113926993, 338241895, 666307205, 773529912, 1294757372, 1396182291, 1695183700, 1986661051, 2177026350, 2456956037, 2730485921, 2820302411, 3259730800, 3345764771, 3516065817, 3600352804, 4094571909, 275423344, 430227734, 506948616, 659060556, 883997877, 958139571, 1322822218, 1537002063, 1747873779, 1955562222, 2024104815, 2227730452, 2361852424, 2428436474, 2756734187, 3204031479, 3329325298]
def firstL : List Int := [1779033703, 3144134277, 1013904242, 2773480762, 1359893119, 2600822924, 528734635, 1541459225]
/-- The two tables lie where the program's text lays them. -/
def LaidG (w : World) : Prop := (∀ i, i < 8 → w.cell? ⟨0, i, none⟩ = some (.int .u32 (firstL.getD i 0))) ∧ ∀ i, i < 64 → w.cell? ⟨1, i, none⟩ = some (.int .u32 (rootsL.getD i 0))
theorem LaidG.below {w W : World} (h : LaidG w) (hb : Below w.heap.size w W) : LaidG W :=
  ⟨fun i hi => (hb.cell (World.block_lt_of_cell? w _ (h.1 i hi))).trans (h.1 i hi), fun i hi => (hb.cell (World.block_lt_of_cell? w _ (h.2 i hi))).trans (h.2 i hi)⟩
abbrev arrU (xs : List Int) : Array Value := (nums .u32 xs).toArray
/-- a block of numbers. -/
def Blk (w : World) (g t : Nat) (xs : List Int) : Prop := w.heap[g]? = some (.cells (arrU xs) t (0, 0))
theorem Blk.cell {w : World} {g t : Nat} {xs : List Int} (h : Blk w g t xs) (i : Nat) (hi : i < xs.length) : w.cell? ⟨g, i, none⟩ = some (.int .u32 (xs.getD i 0)) := by
  rw [blk_cell h i]
  simp [arrU, nums, List.getD_eq_getElem?_getD, hi]
theorem Blk.frozen {w : World} {g t : Nat} {xs : List Int} (h : Blk w g t xs) (i : Nat) : w.frozen? ⟨g, i, none⟩ = false := blk_frozen h i
theorem Blk.put {w : World} {g t : Nat} {xs : List Int} (h : Blk w g t xs) (i : Nat) (v : Int) : Blk (w.setCell ⟨g, i, none⟩ (.int .u32 v)) g t (xs.set i v) :=
  blk_put h i _ (by simp [arrU, nums, List.map_set])
theorem Blk.far {w : World} {g t : Nat} {xs : List Int} (h : Blk w g t xs) {p : Addr} (hp : g ≠ p.block) (v : Value) : Blk (w.setCell p v) g t xs := blk_far h hp v
theorem Blk.drew {w : World} {g t : Nat} {xs : List Int} (h : Blk w g t xs) : Blk w.drew g t xs := blk_drew h
theorem Blk.drewN {w : World} {g t : Nat} {xs : List Int} (h : Blk w g t xs) (n : Nat) : Blk (w.drewN n) g t xs := blk_drewN h n
theorem Blk.below {w W : World} {g t : Nat} {xs : List Int} (h : Blk w g t xs) (hb : Below w.heap.size w W) : Blk W g t xs := blk_below h hb
theorem Blk.lt {w : World} {g t : Nat} {xs : List Int} (h : Blk w g t xs) : g < w.heap.size := blk_lt h
/-! the message's words -/
def w4 (b : ByteArray) (i : Nat) : Nat → Int
  | 0 => 0
  | k + 1 => Go.bits .or .u32 ((w4 b i k * 256) % 4294967296) (bt b ((4 * i + k : Nat) : Int) % 4294967296)
def wNext (ws : List Int) (i : Nat) : Int :=
  let a := ws.getD (i - 15) 0
  let c := ws.getD (i - 2) 0
  (ws.getD (i - 16) 0 + Go.bits .xor .u32 (Go.bits .xor .u32 (rr a 7) (rr a 18)) (a / 8) + ws.getD (i - 7) 0 + Go.bits .xor .u32 (Go.bits .xor .u32 (rr c 17) (rr c 19)) (c / 1024)) % 4294967296
def wAll (b : ByteArray) : Nat → List Int
  | 0 => List.replicate 64 0
  | i + 1 => (wAll b i).set i (if i < 16 then w4 b i 4 else wNext (wAll b i) i)
theorem wAll_length (b : ByteArray) : ∀ i, (wAll b i).length = 64
  | 0 => by simp [wAll]
  | i + 1 => by simp [wAll, wAll_length b i]
theorem blk_newA {w : World} {o : Obj} {n : Nat} (h : n = w.heap.size) : (w.alloc o).heap[n]? = some o := by subst h; exact blk_new w o
theorem nat64 (n : Nat) (h : n < 9223372036854775808) : IntKind.i64.wrap (n : Int) = (n : Int) := IntWalk.i64_in _ (by omega)
theorem wAll_zero (b : ByteArray) : ∀ i j, i ≤ j → (wAll b i).getD j 0 = 0
  | 0, j, _ => by
    simp only [wAll, List.getD_eq_getElem?_getD, List.getElem?_replicate]
    split <;> rfl
  | i + 1, j, h => by
    have ih := wAll_zero b i j (by omega)
    simp only [wAll, List.getD_eq_getElem?_getD] at ih ⊢
    rw [List.getElem?_set_ne (by omega)]
    exact ih
theorem set_zero (b : ByteArray) (i : Nat) : (wAll b i).set i 0 = wAll b i := by
  refine List.ext_getElem? fun j => ?_
  rw [List.getElem?_set]
  split
  · rename_i e
    subst e
    split
    · rename_i h
      have := wAll_zero b i i (Nat.le_refl _)
      rw [List.getD_eq_getElem?_getD, List.getElem?_eq_getElem h] at this
      rw [List.getElem?_eq_getElem h]
      simpa using this.symm
    · rename_i h
      rw [List.getElem?_eq_none (by omega)]
  · rfl
theorem nxt (y : Int) (k : Nat) (h : y = (k : Int)) (hk : k < 1000) : IntKind.i64.wrap (y + 1) = ((k + 1 : Nat) : Int) := by
  subst h; rw [IntWalk.i64_in _ (by omega)]; omega
theorem nxtw (y : Int) (k : Nat) (h : y = (k : Int)) (hk : k < 1000) : wrap64 (y + 1) = ((k + 1 : Nat) : Int) := by
  subst h; unfold wrap64; omega
set_option maxHeartbeats 8000000 in
set_option maxRecDepth 100000 in
theorem rot_s (a0 : Int) (a1 : Int) (r : Int) (w : World) (h : bits_RotateLeft32.f a0 a1 = some r) :
    Calls Tryd.prog 128 #[.int .u32 a0, .int .i64 a1] w fun e w' => e = .returned (.int .u32 r) ∧ w' = w := by
  have H : (if 0 ≤ (Go.bits .and .u64 (IntKind.u64.wrap (a1)) 31) then (if 0 ≤ (IntKind.u64.wrap (32 - (Go.bits .and .u64 (IntKind.u64.wrap (a1)) 31))) then (some (Go.bits .or .u32 (shl .u32 a0 (Go.bits .and .u64 (IntKind.u64.wrap (a1)) 31)) (shr .u32 a0 (IntKind.u64.wrap (32 - (Go.bits .and .u64 (IntKind.u64.wrap (a1)) 31)))))) else (none)) else (none)) = some r := h
  clear h
  obtain ⟨ji3, hji3⟩ : ∃ j_ : Int, (Go.bits .and .u64 (IntKind.u64.wrap (a1)) 31) = j_ := ⟨_, rfl⟩
  replace H : (if 0 ≤ (ji3) then (if 0 ≤ (IntKind.u64.wrap (32 - (ji3))) then (some (Go.bits .or .u32 (shl .u32 a0 (ji3)) (shr .u32 a0 (IntKind.u64.wrap (32 - (ji3)))))) else (none)) else (none)) = some r := by first | (rw [hji3] at H; exact H) | (simp only [hji3] at H ⊢; exact H)
  by_cases c4 : 0 ≤ (ji3)
  · rw [if_pos c4] at H
    have c4b0 := eq_true c4
    have c4b1 : decide (0 ≤ (ji3)) = true := decide_eq_true c4
    clear c4
    obtain ⟨ji5, hji5⟩ : ∃ j_ : Int, (shl .u32 a0 (ji3)) = j_ := ⟨_, rfl⟩
    replace H : (if 0 ≤ (IntKind.u64.wrap (32 - (ji3))) then (some (Go.bits .or .u32 (ji5) (shr .u32 a0 (IntKind.u64.wrap (32 - (ji3)))))) else (none)) = some r := by first | (rw [hji5] at H; exact H) | (simp only [hji5] at H ⊢; exact H)
    have hji5_ : (IntKind.u32.wrap (a0 * 2 ^ min (ji3).toNat 32)) = ji5 := hji5
    have hji5z : (ji3) ≤ 32 → (IntKind.u32.wrap (a0 * 2 ^ (ji3).toNat)) = ji5 := shl_small hji5
    obtain ⟨ji6, hji6⟩ : ∃ j_ : Int, (IntKind.u64.wrap (32 - (ji3))) = j_ := ⟨_, rfl⟩
    replace H : (if 0 ≤ (ji6) then (some (Go.bits .or .u32 (ji5) (shr .u32 a0 (ji6)))) else (none)) = some r := by first | (rw [hji6] at H; exact H) | (simp only [hji6] at H ⊢; exact H)
    by_cases c7 : 0 ≤ (ji6)
    · rw [if_pos c7] at H
      have c7b0 := eq_true c7
      have c7b1 : decide (0 ≤ (ji6)) = true := decide_eq_true c7
      clear c7
      obtain ⟨ji8, hji8⟩ : ∃ j_ : Int, (shr .u32 a0 (ji6)) = j_ := ⟨_, rfl⟩
      replace H : (some (Go.bits .or .u32 (ji5) (ji8))) = some r := by first | (rw [hji8] at H; exact H) | (simp only [hji8] at H ⊢; exact H)
      have hji8_ : (a0 / 2 ^ min (ji6).toNat 32) = ji8 := hji8
      have hji8z : (ji6) ≤ 32 → (a0 / 2 ^ (ji6).toNat) = ji8 := shr_small hji8
      obtain rfl := Option.some.inj H
      go_enter Tryd.func128, Tryd.ntmps128
      go_wp2
      go_ret
      exact ⟨by first | rfl | (simp; done) | (simp only [← hji3, ← hji5, ← hji6, ← hji8] <;> (first | rfl | simp)) | (simp [*]; done), rfl⟩
    · rw [if_neg c7] at H
      exact absurd H (by simp)
  · rw [if_neg c4] at H
    exact absurd H (by simp)

set_option maxHeartbeats 8000000 in
set_option maxRecDepth 100000 in
theorem right_s (a0 : Int) (a1 : Int) (r : Int) (w : World) (h : impl_right.f a0 a1 = some r) :
    Calls Tryd.prog 101 #[.int .u32 a0, .int .i64 a1] w fun e w' => e = .returned (.int .u32 r) ∧ w' = w := by
  have H : ((bits_RotateLeft32.f a0 (wrap64 (-a1))).bind fun t214 => (some t214)) = some r := h
  clear h
  replace H := Option.bind_eq_some_iff.mp H
  obtain ⟨t214, A30, H⟩ := H
  replace H : (some t214) = some r := H
  have A3 := Aside0.mk A30
  clear A30
  obtain rfl := Option.some.inj H
  go_enter Tryd.func101, Tryd.ntmps101
  go_wp2_with (first | ((with_reducible refine gate_callee (f := 128) rfl ?_); refine goesL_ (some 8) rfl rfl Tryd.func128 (by kernel_rfl) rfl #[.int .u32 a0, .int .i64 (wrap64 (-a1))] rfl (by (try simp only [List.map_toArray, List.map_cons, List.map_nil]); first | done | rfl | (simp only [List.length_drop, List.length_take]; rfl)) ?_; (with_reducible refine (rot_s a0 (wrap64 (-a1)) t214 _ A3.out).mono ?_); rintro e w' ⟨rfl, rfl⟩; refine ⟨_, rfl, ?_⟩))
  go_ret
  exact ⟨by first | rfl | (simp; done) | (simp [*]; done), rfl⟩

theorem right_w (x : Int) (n : Int) (h : n = 7 ∨ n = 18 ∨ n = 17 ∨ n = 19 ∨ n = 6 ∨ n = 11 ∨ n = 25 ∨ n = 2 ∨ n = 13 ∨ n = 22) (w : World) : Calls Tryd.prog 101 #[.int .u32 x, .int .i64 n] w fun e w' => e = .returned (.int .u32 (rr x n)) ∧ w' = w := right_s x n _ w (right_ok x n h)
/-! the rounds -/
def rnd (k w : Int) : List Int → List Int
  | [a, b, c, d, e, f, g, h] =>
    let t1 := ((h + Go.bits .xor .u32 (Go.bits .xor .u32 (rr e 6) (rr e 11)) (rr e 25) + Go.bits .xor .u32 (Go.bits .and .u32 e f) (Go.bits .and .u32 (Go.bits .xor .u32 4294967295 e) g) + k) % 4294967296 + w) % 4294967296
    let t2 := (Go.bits .xor .u32 (Go.bits .xor .u32 (rr a 2) (rr a 13)) (rr a 22) + Go.bits .xor .u32 (Go.bits .xor .u32 (Go.bits .and .u32 a b) (Go.bits .and .u32 a c)) (Go.bits .and .u32 b c))
    [(t1 + t2) % 4294967296, a, b, c, (d + t1) % 4294967296, e, f, g]
  | l => l
def sAll (ws s : List Int) : Nat → List Int
  | 0 => s
  | i + 1 => rnd (rootsL.getD i 0) (ws.getD i 0) (sAll ws s i)
theorem rnd_length (k w : Int) (l : List Int) (h : l.length = 8) : ∃ a b c d e f g h, rnd k w l = [a, b, c, d, e, f, g, h] := by
  match l, h with
  | [a, b, c, d, e, f, g, h], _ => exact ⟨_, _, _, _, _, _, _, _, rfl⟩
theorem sAll_eight (ws s : List Int) (hs : s.length = 8) : ∀ i, ∃ a b c d e f g h, sAll ws s i = [a, b, c, d, e, f, g, h]
  | 0 => by
    match s, hs with
    | [a, b, c, d, e, f, g, h], _ => exact ⟨a, b, c, d, e, f, g, h, rfl⟩
  | i + 1 => by
    obtain ⟨a, b, c, d, e, f, g, h, e1⟩ := sAll_eight ws s hs i
    exact rnd_length _ _ _ (by rw [e1]; rfl)
theorem eight (l : List Int) (h : l.length = 8) : ∃ a b c d e f g k, l = [a, b, c, d, e, f, g, k] := by
  match l, h with
  | [a, b, c, d, e, f, g, k], _ => exact ⟨a, b, c, d, e, f, g, k, rfl⟩
def addAll (s t : List Int) : Nat → List Int
  | 0 => s
  | i + 1 => (addAll s t i).set i (((addAll s t i).getD i 0 + t.getD i 0) % 4294967296)
theorem addAll_length (s t : List Int) : ∀ i, (addAll s t i).length = s.length
  | 0 => rfl
  | i + 1 => by simp [addAll, addAll_length s t i]
/-- the state behind a block. -/
def takenL (s : List Int) (b : ByteArray) : List Int := addAll s (sAll (wAll b 64) s 64) 8
set_option maxHeartbeats 4000000 in
set_option maxRecDepth 100000 in
theorem taken_calls (s0 s1 s2 s3 s4 s5 s6 s7 : Int) (b : ByteArray) (hb : b.size = 64) (w : World) (hL : LaidG w) :
    Calls Tryd.prog 61 #[.agg #[.int .u32 s0, .int .u32 s1, .int .u32 s2, .int .u32 s3, .int .u32 s4, .int .u32 s5, .int .u32 s6, .int .u32 s7], .string b] w fun e w' => e = .returned (.agg (arrU (takenL [s0, s1, s2, s3, s4, s5, s6, s7] b))) ∧ Below w.heap.size w w' := by
  have HL := AM hL
  have HBS := AM hb
  clear hL hb
  go_enter Tryd.func61, Tryd.ntmps61
  go_wp2
  generalize hw1 : (((w.alloc _).alloc _).alloc _) = w1
  have H0 : Aside0 (Blk w1 w.heap.size 77 [s0, s1, s2, s3, s4, s5, s6, s7]) := ⟨by rw [← hw1]; exact blk_alloc (blk_alloc (blk_new w _) _) _⟩
  have H1 : Aside0 (Blk w1 (w.heap.size + 1) 77 (List.replicate 8 0)) := ⟨by rw [← hw1]; exact blk_alloc (blk_newA (by simp)) _⟩
  have H2 : Aside0 (Blk w1 (w.heap.size + 1 + 1) 121 (wAll b 0)) := ⟨by rw [← hw1]; exact blk_newA (by simp)⟩
  have HB : Aside0 (Below w.heap.size w w1) := ⟨by rw [← hw1]; exact below_alloc (below_alloc (below_alloc (Below.refl _ _) _) _) _⟩
  clear hw1
  obtain ⟨g2, e2⟩ : ∃ g, w.heap.size + 1 + 1 = g := ⟨_, rfl⟩
  obtain ⟨g1, e1⟩ : ∃ g, w.heap.size + 1 = g := ⟨_, rfl⟩
  rw [e2] at H2 ⊢
  rw [e1] at H1 ⊢
  have NE : Aside0 (g1 ≠ g2 ∧ w.heap.size ≠ g2 ∧ w.heap.size ≠ g1 ∧ w.heap.size ≤ g1 ∧ w.heap.size ≤ g2) := ⟨by omega⟩
  clear e1 e2
  obtain ⟨g0, e0⟩ : ∃ g, w.heap.size = g := ⟨_, rfl⟩
  rw [e0] at H0 ⊢
  have NE' : Aside0 (g1 ≠ g2 ∧ g0 ≠ g2 ∧ g0 ≠ g1 ∧ w.heap.size ≤ g0 ∧ w.heap.size ≤ g1 ∧ w.heap.size ≤ g2) := ⟨by have := NE.out; omega⟩
  clear e0 NE
  go_loopg [21] (64 : Nat) (fun (q : Nat) v21 w' => ∃ (x : Int) (i : Nat), i + q = 64 ∧ v21 = .int .i64 x ∧ Aside0 (x = (i : Int)) ∧ Aside0 (Blk w' g0 77 [s0, s1, s2, s3, s4, s5, s6, s7]) ∧ Aside0 (Blk w' g1 77 (List.replicate 8 0)) ∧ Aside0 (Blk w' g2 121 (wAll b i)) ∧ Aside0 (Below w.heap.size w w'))
  case atStart => exact ⟨0, 0, by omega, rfl, ⟨rfl⟩, H0, H1, H2, HB⟩
  case round =>
    clear H0 H1 H2 HB
    obtain ⟨x, i, hi, rfl, HX, H0, H1, H2, HB⟩ := hrel
    have HI := AM hi
    clear hi
    by_cases c1 : i < 16
    · have x1 : decide (x < 64) = true := decide_eq_true (by have := HX.out; omega)
      have x2 : decide (x < 16) = true := decide_eq_true (by have := HX.out; omega)
      have C1 := AM c1
      clear c1
      go_wp2
      go_loopg [26] (4 : Nat) (fun (q : Nat) v26 w' => ∃ (y : Int) (k : Nat), k + q = 4 ∧ v26 = .int .i64 y ∧ Aside0 (y = (k : Int)) ∧ Aside0 (Blk w' g0 77 [s0, s1, s2, s3, s4, s5, s6, s7]) ∧ Aside0 (Blk w' g1 77 (List.replicate 8 0)) ∧ Aside0 (Blk w' g2 121 ((wAll b i).set i (w4 b i k))) ∧ Aside0 (Below w.heap.size w w'))
      case atStart => exact ⟨0, 0, by omega, rfl, ⟨rfl⟩, H0, H1, ⟨by rw [show w4 b i 0 = 0 from rfl, set_zero]; exact H2.out⟩, HB⟩
      case round =>
        clear H0 H1 H2 HB
        obtain ⟨y, k, hk, rfl, HY, H0, H1, H2, HB⟩ := hrel
        by_cases c2 : k < 4
        · have y1 : decide (y < 4) = true := decide_eq_true (by have := HY.out; omega)
          have HK := AM hk
          have C2 := AM c2
          obtain ⟨j4, hj4⟩ : ∃ j, IntKind.i64.wrap (4 * x) = j := ⟨_, rfl⟩
          obtain ⟨j, hj⟩ : ∃ j, IntKind.i64.wrap (j4 + y) = j := ⟨_, rfl⟩
          have HJ : Aside0 (j = ((4 * i + k : Nat) : Int)) := ⟨by have h1 := C1.out; have h2 := C2.out; rw [← hj, ← hj4, HX.out, HY.out, IntWalk.i64_in (4 * (i : Int)) (by omega), IntWalk.i64_in _ (by omega)]; omega⟩
          have p1 : (0 ≤ j) = True := eq_true (by rw [HJ.out]; omega)
          have q1 : (j < (b.size : Int)) = True := eq_true (by rw [HJ.out, HBS.out]; have := C1.out; omega)
          have b1 := bt_at b j
          have p2 : (0 ≤ x) = True := eq_true (by rw [HX.out]; omega)
          have q2 : (x < 64) = True := eq_true (by rw [HX.out]; have := C1.out; omega)
          have hx : wr.cell? ⟨g2, x.toNat, none⟩ = some (.int .u32 (w4 b i k)) := by
            rw [HX.out, Int.toNat_natCast, H2.out.cell i (by simp [wAll_length]; have := C1.out; omega)]
            simp [wAll_length, show i < 64 by have := C1.out; omega]
          have hf : wr.frozen? ⟨g2, x.toNat, none⟩ = false := H2.out.frozen _
          clear hk c2
          go_wp2
          go_region
          generalize hq : World.drew _ = w2
          have hxi : x.toNat = i := by rw [HX.out]; rfl
          have H0' : Aside0 (Blk w2 g0 77 [s0, s1, s2, s3, s4, s5, s6, s7]) := ⟨by rw [← hq]; exact (H0.out.far NE'.out.2.1 _).drew⟩
          have H1' : Aside0 (Blk w2 g1 77 (List.replicate 8 0)) := ⟨by rw [← hq]; exact (H1.out.far NE'.out.1 _).drew⟩
          have H2' : Aside0 (Blk w2 g2 121 ((wAll b i).set i (w4 b i (k + 1)))) := ⟨by
            rw [← hq, hxi]
            have h := (H2.out.put i (Go.bits .or .u32 (w4 b i k * 256 % 4294967296) (bt b j % 4294967296))).drew
            rw [List.set_set] at h
            rw [show w4 b i (k + 1) = Go.bits .or .u32 (w4 b i k * 256 % 4294967296) (bt b j % 4294967296) by rw [HJ.out]; rfl]
            exact h⟩
          have HB' : Aside0 (Below w.heap.size w w2) := ⟨by rw [← hq]; exact below_drew1 (below_set HB.out NE'.out.2.2.2.2.2)⟩
          clear hq hx hf H0 H1 H2 HB hxi p1 q1 b1 p2 q2 hj hj4 y1
          go_wp2
          go_roundg (3 - k)
          case measure => have := HK.out; have := C2.out; omega
          case rel => exact ⟨_, k + 1, (by have := HK.out; have := C2.out; omega), rfl, ⟨by first | exact nxtw y k HY.out (by have := C2.out; omega) | exact nxt y k HY.out (by have := C2.out; omega)⟩, H0', H1', H2', HB'⟩
        · have y1 : decide (y < 4) = false := decide_eq_false (by rw [HY.out]; omega)
          obtain rfl : k = 4 := by omega
          have H2' : Aside0 (Blk wr g2 121 (wAll b (i + 1))) := ⟨by rw [wAll, if_pos C1.out]; exact H2.out⟩
          clear hk c2 H2
          go_wp2
          go_roundg (63 - i)
          case measure => have := HI.out; have := C1.out; omega
          case rel => exact ⟨_, i + 1, (by have := HI.out; have := C1.out; omega), rfl, ⟨by first | exact nxtw x i HX.out (by have := C1.out; omega) | exact nxt x i HX.out (by have := C1.out; omega)⟩, H0, H1, H2', HB⟩
    · by_cases c3 : i < 64
      · have x1 : decide (x < 64) = true := decide_eq_true (by have := HX.out; omega)
        have x2 : decide (x < 16) = false := decide_eq_false (by have := HX.out; omega)
        have C1 : Aside0 (16 ≤ i ∧ i < 64) := ⟨by omega⟩
        clear c1 c3
        have cell : ∀ (n : Int) (m : Nat), (n = 15 ∧ m = 15) ∨ (n = 2 ∧ m = 2) ∨ (n = 16 ∧ m = 16) ∨ (n = 7 ∧ m = 7) → ∃ j : Int, IntKind.i64.wrap (x - n) = j ∧ (0 ≤ j) = True ∧ (j < 64) = True ∧ wr.cell? ⟨g2, j.toNat, none⟩ = some (.int .u32 ((wAll b i).getD (i - m) 0)) := by
          intro n m hnm
          have h1 := C1.out
          refine ⟨((i - m : Nat) : Int), ?_, eq_true (by omega), eq_true (by omega), ?_⟩
          · rw [HX.out, IntWalk.i64_in _ (by omega)]; omega
          · rw [Int.toNat_natCast]; exact H2.out.cell _ (by rw [wAll_length]; omega)
        obtain ⟨ja, hja, pa, qa, ca⟩ := cell 15 15 (by simp)
        obtain ⟨jb, hjb, pb, qb, cb⟩ := cell 2 2 (by simp)
        obtain ⟨jc, hjc, pc, qc, cc⟩ := cell 16 16 (by simp)
        obtain ⟨jd, hjd, pd, qd, cd⟩ := cell 7 7 (by simp)
        have CC := AM (And.intro hjc (And.intro pc (And.intro qc (And.intro cc (And.intro hjd (And.intro pd (And.intro qd cd)))))))
        clear cell hjc pc qc cc hjd pd qd cd
        generalize hA : (wAll b i).getD (i - 15) 0 = A at ca
        generalize hC : (wAll b i).getD (i - 2) 0 = C at cb
        have HA := AM hA
        have HC := AM hC
        clear hA hC
        go_wp2
        go_region
        generalize hq : World.drew _ = w2
        have H0' : Aside0 (Blk w2 g0 77 [s0, s1, s2, s3, s4, s5, s6, s7]) := ⟨by rw [← hq]; exact H0.out.drew⟩
        have H1' : Aside0 (Blk w2 g1 77 (List.replicate 8 0)) := ⟨by rw [← hq]; exact H1.out.drew⟩
        have H2' : Aside0 (Blk w2 g2 121 (wAll b i)) := ⟨by rw [← hq]; exact H2.out.drew⟩
        have HB' : Aside0 (Below w.heap.size w w2) := ⟨by rw [← hq]; exact below_drew1 HB.out⟩
        have CD : Aside0 (∀ p, w2.cell? p = wr.cell? p) := ⟨fun p => by rw [← hq]; rfl⟩
        obtain ⟨hjc, pc, qc, cc, hjd, pd, qd, cd⟩ := CC.out
        rw [← CD.out] at cc cd
        have p2 : (0 ≤ x) = True := eq_true (by rw [HX.out]; omega)
        have q2 : (x < 64) = True := eq_true (by rw [HX.out]; have := C1.out; omega)
        have hf : w2.frozen? ⟨g2, x.toNat, none⟩ = false := H2'.out.frozen _
        have hx : w2.cell? ⟨g2, x.toNat, none⟩ = some (.int .u32 0) := by
          rw [HX.out, Int.toNat_natCast, H2'.out.cell i (by rw [wAll_length]; have := C1.out; omega), wAll_zero b i i (Nat.le_refl _)]
        clear hq H0 H1 H2 HB CD CC ca cb hja hjb pa pb qa qb
        generalize hG : (wAll b i).getD (i - 16) 0 = G at cc
        generalize hD : (wAll b i).getD (i - 7) 0 = D at cd
        have HG := AM hG
        have HD := AM hD
        clear hG hD
        go_wp2
        refine wp_region_still_tail 29 (by kernel_rfl) (by kernel_rfl) ?_
        simp only [List.take_succ_cons, List.take_zero, List.drop_succ_cons, List.drop_zero]
        repeat (first | still_step | still_call (right_w _ _ (by simp) _))
        try refine wpStill_nil ?_
        change wpList _ _ _ _ _ w2.drew
        generalize hq : w2.drew = w3
        have H0 : Aside0 (Blk w3 g0 77 [s0, s1, s2, s3, s4, s5, s6, s7]) := ⟨by rw [← hq]; exact H0'.out.drew⟩
        have H1 : Aside0 (Blk w3 g1 77 (List.replicate 8 0)) := ⟨by rw [← hq]; exact H1'.out.drew⟩
        have H2 : Aside0 (Blk w3 g2 121 (wAll b i)) := ⟨by rw [← hq]; exact H2'.out.drew⟩
        have HB : Aside0 (Below w.heap.size w w3) := ⟨by rw [← hq]; exact below_drew1 HB'.out⟩
        have hf3 : w3.frozen? ⟨g2, x.toNat, none⟩ = false := H2.out.frozen _
        have hx3 : w3.cell? ⟨g2, x.toNat, none⟩ = some (.int .u32 0) := by rw [← hq]; exact hx
        clear hq hf hx H0' H1' H2' HB' cc cd hjc hjd pc qc pd qd p2 q2
        go_wp2
        go_roundg (63 - i)
        case measure => have := HI.out; have := C1.out; omega
        case rel =>
          refine ⟨_, i + 1, (by have := HI.out; have := C1.out; omega), rfl, ⟨by first | exact nxtw x i HX.out (by have := C1.out; omega) | exact nxt x i HX.out (by have := C1.out; omega)⟩, ?_, ?_, ?_, ?_⟩
          · exact ⟨H0.out.far NE'.out.2.1 _⟩
          · exact ⟨H1.out.far NE'.out.1 _⟩
          · constructor
            have hxi : x.toNat = i := by rw [HX.out]; rfl
            rw [hxi, wAll, if_neg (by have := C1.out; omega)]
            unfold wNext
            simp only [HA.out, HC.out, HG.out, HD.out]
            exact H2.out.put i _
          · exact ⟨below_set HB.out NE'.out.2.2.2.2.2⟩
      · have x1 : decide (x < 64) = false := decide_eq_false (by have := HX.out; omega)
        obtain rfl : i = 64 := by have := HI.out; omega
        have NE2 := AM (show w.heap.size ≤ g2 from NE'.out.2.2.2.2.2)
        clear c1 c3
        have d0 : wr.cell? ⟨g0, 0, none⟩ = some (.int .u32 s0) := H0.out.cell 0 (by simp)
        have d1 : wr.cell? ⟨g0, 1, none⟩ = some (.int .u32 s1) := H0.out.cell 1 (by simp)
        have d2 : wr.cell? ⟨g0, 2, none⟩ = some (.int .u32 s2) := H0.out.cell 2 (by simp)
        have d3 : wr.cell? ⟨g0, 3, none⟩ = some (.int .u32 s3) := H0.out.cell 3 (by simp)
        have d4 : wr.cell? ⟨g0, 4, none⟩ = some (.int .u32 s4) := H0.out.cell 4 (by simp)
        have d5 : wr.cell? ⟨g0, 5, none⟩ = some (.int .u32 s5) := H0.out.cell 5 (by simp)
        have d6 : wr.cell? ⟨g0, 6, none⟩ = some (.int .u32 s6) := H0.out.cell 6 (by simp)
        have d7 : wr.cell? ⟨g0, 7, none⟩ = some (.int .u32 s7) := H0.out.cell 7 (by simp)
        go_wp2
        clear d0 d1 d2 d3 d4 d5 d6 d7
        generalize hq : World.alloc _ _ = w4
        obtain ⟨g3, e3⟩ : ∃ g, wr.heap.size = g := ⟨_, rfl⟩
        rw [e3]
        have HN : Aside0 (g0 ≠ g3 ∧ g1 ≠ g3 ∧ g2 ≠ g3 ∧ w.heap.size ≤ g3) := ⟨by have h0 := H0.out.lt; have h1 := H1.out.lt; have h2 := H2.out.lt; have h3 := HB.out.size; omega⟩
        have K0 : Aside0 (Blk w4 g0 77 [s0, s1, s2, s3, s4, s5, s6, s7]) := ⟨by rw [← hq]; exact blk_alloc H0.out _⟩
        have K1 : Aside0 (Blk w4 g1 77 (List.replicate 8 0)) := ⟨by rw [← hq]; exact blk_alloc H1.out _⟩
        have K2 : Aside0 (Blk w4 g2 121 (wAll b 64)) := ⟨by rw [← hq]; exact blk_alloc H2.out _⟩
        have K3 : Aside0 (Blk w4 g3 77 [s0, s1, s2, s3, s4, s5, s6, s7]) := ⟨by rw [← hq]; exact blk_newA e3.symm⟩
        have KB : Aside0 (Below w.heap.size w w4) := ⟨by rw [← hq]; exact below_alloc HB.out _⟩
        clear hq e3 H0 H1 H2 HB
        go_loopg [83] (64 : Nat) (fun (q : Nat) v83 w' => ∃ (x : Int) (i : Nat), i + q = 64 ∧ v83 = .int .i64 x ∧ Aside0 (x = (i : Int)) ∧ Aside0 (Blk w' g0 77 [s0, s1, s2, s3, s4, s5, s6, s7]) ∧ Aside0 (Blk w' g1 77 (List.replicate 8 0)) ∧ Aside0 (Blk w' g2 121 (wAll b 64)) ∧ Aside0 (Blk w' g3 77 (sAll (wAll b 64) [s0, s1, s2, s3, s4, s5, s6, s7] i)) ∧ Aside0 (Below w.heap.size w w'))
        case atStart => exact ⟨0, 0, by omega, rfl, ⟨rfl⟩, K0, K1, K2, K3, KB⟩
        case round =>
          clear K0 K1 K2 K3 KB HI HX x1
          obtain ⟨x, i, hi, rfl, HX, K0, K1, K2, K3, KB⟩ := hrel
          have HI := AM hi
          clear hi
          by_cases c1 : i < 64
          · have x1 : decide (x < 64) = true := decide_eq_true (by have := HX.out; omega)
            have C1 := AM c1
            clear c1
            obtain ⟨a, b1, c, d, e, f, g, h, eS⟩ := sAll_eight (wAll b 64) [s0, s1, s2, s3, s4, s5, s6, s7] rfl i
            have ES := AM eS
            clear eS
            have L0 := K3.out
            rw [ES.out] at L0
            have L1 := AM L0
            clear L0
            have d0 : wr.cell? ⟨g3, 0, none⟩ = some (.int .u32 a) := L1.out.cell 0 (by simp)
            have d1 : wr.cell? ⟨g3, 1, none⟩ = some (.int .u32 b1) := L1.out.cell 1 (by simp)
            have d2 : wr.cell? ⟨g3, 2, none⟩ = some (.int .u32 c) := L1.out.cell 2 (by simp)
            have d3 : wr.cell? ⟨g3, 3, none⟩ = some (.int .u32 d) := L1.out.cell 3 (by simp)
            have d4 : wr.cell? ⟨g3, 4, none⟩ = some (.int .u32 e) := L1.out.cell 4 (by simp)
            have d5 : wr.cell? ⟨g3, 5, none⟩ = some (.int .u32 f) := L1.out.cell 5 (by simp)
            have d6 : wr.cell? ⟨g3, 6, none⟩ = some (.int .u32 g) := L1.out.cell 6 (by simp)
            have d7 : wr.cell? ⟨g3, 7, none⟩ = some (.int .u32 h) := L1.out.cell 7 (by simp)
            go_wp2
            go_quiet (fail)
            generalize hq : World.drewN _ _ = w5
            have CD : Aside0 (∀ p, w5.cell? p = wr.cell? p) := ⟨fun p => by rw [← hq]; rfl⟩
            have K0' : Aside0 (Blk w5 g0 77 [s0, s1, s2, s3, s4, s5, s6, s7]) := ⟨by rw [← hq]; exact K0.out.drewN _⟩
            have K1' : Aside0 (Blk w5 g1 77 (List.replicate 8 0)) := ⟨by rw [← hq]; exact K1.out.drewN _⟩
            have K2' : Aside0 (Blk w5 g2 121 (wAll b 64)) := ⟨by rw [← hq]; exact K2.out.drewN _⟩
            have L1' : Aside0 (Blk w5 g3 77 [a, b1, c, d, e, f, g, h]) := ⟨by rw [← hq]; exact L1.out.drewN _⟩
            have KB' : Aside0 (Below w.heap.size w w5) := ⟨by rw [← hq]; exact pw_below_drewN KB.out _⟩
            rw [← CD.out] at d7 d3
            clear hq d0 d1 d2 d4 d5 d6 K0 K1 K2 K3 L1 KB CD
            have p2 : (0 ≤ x) = True := eq_true (by rw [HX.out]; omega)
            have q2 : (x < 64) = True := eq_true (by rw [HX.out]; have := C1.out; omega)
            have cw : w5.cell? ⟨g2, x.toNat, none⟩ = some (.int .u32 ((wAll b 64).getD i 0)) := by
              rw [HX.out, Int.toNat_natCast]; exact K2'.out.cell i (by rw [wAll_length]; exact C1.out)
            have cr : w5.cell? ⟨1, x.toNat, none⟩ = some (.int .u32 (rootsL.getD i 0)) := by
              rw [HX.out, Int.toNat_natCast]; exact (HL.out.below KB'.out).2 i C1.out
            generalize hG : (wAll b 64).getD i 0 = G at cw
            generalize hD : rootsL.getD i 0 = D at cr
            have HG := AM hG
            have HD := AM hD
            clear hG hD
            have D3 := AM d3
            clear d3
            have hsg : IntKind.signed .u32 = false := rfl
            have hmx : IntKind.max .u32 = 4294967295 := rfl
            go_wp2
            go_quiet ((first | (go_at_call 101; exact Calls.quiet_of_same (right_w _ _ (by simp) _)) | (exact Calls.quiet_of_same (right_w _ _ (by simp) _))))
            generalize hq : World.drewN _ _ = w6
            have CD : Aside0 (∀ p, w6.cell? p = w5.cell? p) := ⟨fun p => by rw [← hq]; rfl⟩
            have K0 : Aside0 (Blk w6 g0 77 [s0, s1, s2, s3, s4, s5, s6, s7]) := ⟨by rw [← hq]; exact K0'.out.drewN _⟩
            have K1 : Aside0 (Blk w6 g1 77 (List.replicate 8 0)) := ⟨by rw [← hq]; exact K1'.out.drewN _⟩
            have K2 : Aside0 (Blk w6 g2 121 (wAll b 64)) := ⟨by rw [← hq]; exact K2'.out.drewN _⟩
            have L1 : Aside0 (Blk w6 g3 77 [a, b1, c, d, e, f, g, h]) := ⟨by rw [← hq]; exact L1'.out.drewN _⟩
            have KB : Aside0 (Below w.heap.size w w6) := ⟨by rw [← hq]; exact pw_below_drewN KB'.out _⟩
            have d3 := D3.out
            rw [← CD.out] at d3
            clear hq cw cr d7 K0' K1' K2' L1' KB' CD p2 q2 D3
            generalize hT : (((h + Go.bits .xor .u32 (Go.bits .xor .u32 (rr e 6) (rr e 11)) (rr e 25) + Go.bits .xor .u32 (Go.bits .and .u32 e f) (Go.bits .and .u32 (Go.bits .xor .u32 4294967295 e) g) + D) % 4294967296 + G) % 4294967296) = T1
            have HT := AM hT
            clear hT
            have f0 : ∀ j, w6.frozen? ⟨g3, j, none⟩ = false := L1.out.frozen
            have e0 : w6.cell? ⟨g3, 0, none⟩ = some (.int .u32 a) := L1.out.cell 0 (by simp)
            have e1 : w6.cell? ⟨g3, 1, none⟩ = some (.int .u32 b1) := L1.out.cell 1 (by simp)
            have e2 : w6.cell? ⟨g3, 2, none⟩ = some (.int .u32 c) := L1.out.cell 2 (by simp)
            have e4 : w6.cell? ⟨g3, 4, none⟩ = some (.int .u32 e) := L1.out.cell 4 (by simp)
            have e5 : w6.cell? ⟨g3, 5, none⟩ = some (.int .u32 f) := L1.out.cell 5 (by simp)
            have e6 : w6.cell? ⟨g3, 6, none⟩ = some (.int .u32 g) := L1.out.cell 6 (by simp)
            have e7 : w6.cell? ⟨g3, 7, none⟩ = some (.int .u32 h) := L1.out.cell 7 (by simp)
            go_wp2_with (go_at_call 101; refine (right_w _ _ (by simp) _).mono ?_; rintro e w' ⟨rfl, rfl⟩)
            go_roundg (63 - i)
            case measure => have := HI.out; have := C1.out; omega
            case rel =>
              refine ⟨_, i + 1, (by have := HI.out; have := C1.out; omega), rfl, ⟨by first | exact nxtw x i HX.out (by have := C1.out; omega) | exact nxt x i HX.out (by have := C1.out; omega)⟩, ?_, ?_, ?_, ?_, ?_⟩
              · constructor
                repeat (refine Blk.far ?_ HN.out.1 _)
                exact K0.out
              · constructor
                repeat (refine Blk.far ?_ HN.out.2.1 _)
                exact K1.out
              · constructor
                repeat (refine Blk.far ?_ HN.out.2.2.1 _)
                exact K2.out
              · constructor
                rw [sAll, ES.out, HD.out, HG.out]
                unfold rnd
                simp only [HT.out]
                exact (((((((L1.out.put 0 _).put 1 _).put 2 _).put 3 _).put 4 _).put 5 _).put 6 _).put 7 _
              · constructor
                repeat (refine below_set ?_ HN.out.2.2.2)
                exact KB.out
          · have x1 : decide (x < 64) = false := decide_eq_false (by have := HX.out; omega)
            obtain rfl : i = 64 := by have := HI.out; omega
            clear c1 K2
            have hT8 : (sAll (wAll b 64) [s0, s1, s2, s3, s4, s5, s6, s7] 64).length = 8 := by
              obtain ⟨a, b1, c, d, e, f, g, h, eS⟩ := sAll_eight (wAll b 64) [s0, s1, s2, s3, s4, s5, s6, s7] rfl 64
              rw [eS]; rfl
            have HR : Aside0 (takenL [s0, s1, s2, s3, s4, s5, s6, s7] b = addAll [s0, s1, s2, s3, s4, s5, s6, s7] (sAll (wAll b 64) [s0, s1, s2, s3, s4, s5, s6, s7] 64) 8) := ⟨rfl⟩
            generalize sAll (wAll b 64) [s0, s1, s2, s3, s4, s5, s6, s7] 64 = T at K3 hT8 HR
            generalize hS : [s0, s1, s2, s3, s4, s5, s6, s7] = S at K0 HR
            have hS8 : S.length = 8 := by rw [← hS]; rfl
            have E8 := AM (And.intro hS8 (And.intro hT8 hS))
            clear hS8 hT8 hS
            go_wp2
            go_loopg [161] (8 : Nat) (fun (q : Nat) v161 w' => ∃ (x : Int) (i : Nat), i + q = 8 ∧ v161 = .int .i64 x ∧ Aside0 (x = (i : Int)) ∧ Aside0 (Blk w' g0 77 (addAll S T i)) ∧ Aside0 (Blk w' g1 77 (List.replicate 8 0)) ∧ Aside0 (Blk w' g3 77 T) ∧ Aside0 (Below w.heap.size w w'))
            case atStart => exact ⟨0, 0, by omega, rfl, ⟨rfl⟩, K0, K1, K3, KB⟩
            case round =>
              clear K0 K1 K3 KB HI HX x1
              obtain ⟨x, i, hi, rfl, HX, K0, K1, K3, KB⟩ := hrel
              have HI := AM hi
              clear hi
              by_cases c1 : i < 8
              · have x1 : decide (x < 8) = true := decide_eq_true (by have := HX.out; omega)
                have C1 := AM c1
                clear c1
                have p2 : (0 ≤ x) = True := eq_true (by rw [HX.out]; omega)
                have q2 : (x < 8) = True := eq_true (by rw [HX.out]; have := C1.out; omega)
                have ca : wr.cell? ⟨g0, x.toNat, none⟩ = some (.int .u32 ((addAll S T i).getD i 0)) := by
                  rw [HX.out, Int.toNat_natCast]; exact K0.out.cell i (by rw [addAll_length, E8.out.1]; exact C1.out)
                have cb : wr.cell? ⟨g3, x.toNat, none⟩ = some (.int .u32 (T.getD i 0)) := by
                  rw [HX.out, Int.toNat_natCast]; exact K3.out.cell i (by rw [E8.out.2.1]; exact C1.out)
                have hf : wr.frozen? ⟨g0, x.toNat, none⟩ = false := K0.out.frozen _
                generalize hA : (addAll S T i).getD i 0 = A at ca
                generalize hC : T.getD i 0 = C at cb
                have HA := AM hA
                have HC := AM hC
                clear hA hC
                go_wp2
                go_region
                generalize hq : World.drew _ = w5
                have hxi : x.toNat = i := by rw [HX.out]; rfl
                have K0' : Aside0 (Blk w5 g0 77 (addAll S T (i + 1))) := ⟨by rw [← hq, hxi, addAll, HA.out, HC.out]; exact (K0.out.put i _).drew⟩
                have K1' : Aside0 (Blk w5 g1 77 (List.replicate 8 0)) := ⟨by rw [← hq]; exact (K1.out.far (fun h => NE'.out.2.2.1 h.symm) _).drew⟩
                have K3' : Aside0 (Blk w5 g3 77 T) := ⟨by rw [← hq]; exact (K3.out.far (fun h => HN.out.1 h.symm) _).drew⟩
                have KB' : Aside0 (Below w.heap.size w w5) := ⟨by rw [← hq]; exact below_drew1 (below_set KB.out NE'.out.2.2.2.1)⟩
                clear hq ca cb hf p2 q2 hxi K0 K1 K3 KB
                go_wp2
                go_roundg (7 - i)
                case measure => have := HI.out; have := C1.out; omega
                case rel => exact ⟨_, i + 1, (by have := HI.out; have := C1.out; omega), rfl, ⟨by first | exact nxtw x i HX.out (by have := C1.out; omega) | exact nxt x i HX.out (by have := C1.out; omega)⟩, K0', K1', K3', KB'⟩
              · have x1 : decide (x < 8) = false := decide_eq_false (by have := HX.out; omega)
                obtain rfl : i = 8 := by have := HI.out; omega
                obtain ⟨a, b1, c, d, e, f, g, h, eS⟩ := eight (addAll S T 8) (by rw [addAll_length, E8.out.1])
                rw [eS] at K0
                have ES := AM eS
                clear eS c1
                have d0 : wr.cell? ⟨g0, 0, none⟩ = some (.int .u32 a) := K0.out.cell 0 (by simp)
                have d1 : wr.cell? ⟨g0, 1, none⟩ = some (.int .u32 b1) := K0.out.cell 1 (by simp)
                have d2 : wr.cell? ⟨g0, 2, none⟩ = some (.int .u32 c) := K0.out.cell 2 (by simp)
                have d3 : wr.cell? ⟨g0, 3, none⟩ = some (.int .u32 d) := K0.out.cell 3 (by simp)
                have d4 : wr.cell? ⟨g0, 4, none⟩ = some (.int .u32 e) := K0.out.cell 4 (by simp)
                have d5 : wr.cell? ⟨g0, 5, none⟩ = some (.int .u32 f) := K0.out.cell 5 (by simp)
                have d6 : wr.cell? ⟨g0, 6, none⟩ = some (.int .u32 g) := K0.out.cell 6 (by simp)
                have d7 : wr.cell? ⟨g0, 7, none⟩ = some (.int .u32 h) := K0.out.cell 7 (by simp)
                have f0 : ∀ j, wr.frozen? ⟨g1, j, none⟩ = false := K1.out.frozen
                have z00 : wr.cell? ⟨g1, 0, none⟩ = some (.int .u32 0) := K1.out.cell 0 (by simp)
                have z01 : wr.cell? ⟨g1, 1, none⟩ = some (.int .u32 0) := K1.out.cell 1 (by simp)
                have z02 : wr.cell? ⟨g1, 2, none⟩ = some (.int .u32 0) := K1.out.cell 2 (by simp)
                have z03 : wr.cell? ⟨g1, 3, none⟩ = some (.int .u32 0) := K1.out.cell 3 (by simp)
                have z04 : wr.cell? ⟨g1, 4, none⟩ = some (.int .u32 0) := K1.out.cell 4 (by simp)
                have z05 : wr.cell? ⟨g1, 5, none⟩ = some (.int .u32 0) := K1.out.cell 5 (by simp)
                have z06 : wr.cell? ⟨g1, 6, none⟩ = some (.int .u32 0) := K1.out.cell 6 (by simp)
                have z07 : wr.cell? ⟨g1, 7, none⟩ = some (.int .u32 0) := K1.out.cell 7 (by simp)
                go_wp2
                generalize hq : World.setCell _ _ _ = w6
                have F : Blk w6 g1 77 [a, b1, c, d, e, f, g, h] := by
                  rw [← hq]
                  exact (((((((K1.out.put 0 _).put 1 _).put 2 _).put 3 _).put 4 _).put 5 _).put 6 _).put 7 _
                have KF : Below w.heap.size w w6 := by
                  rw [← hq]
                  repeat (refine below_set ?_ NE'.out.2.2.2.2.1)
                  exact KB.out
                have HF := AM KF
                clear hq KF d0 d1 d2 d3 d4 d5 d6 d7 f0 z00 z01 z02 z03 z04 z05 z06 z07 K0 K1 K3 KB
                have d0 : w6.cell? ⟨g1, 0, none⟩ = some (.int .u32 a) := F.cell 0 (by simp)
                have d1 : w6.cell? ⟨g1, 1, none⟩ = some (.int .u32 b1) := F.cell 1 (by simp)
                have d2 : w6.cell? ⟨g1, 2, none⟩ = some (.int .u32 c) := F.cell 2 (by simp)
                have d3 : w6.cell? ⟨g1, 3, none⟩ = some (.int .u32 d) := F.cell 3 (by simp)
                have d4 : w6.cell? ⟨g1, 4, none⟩ = some (.int .u32 e) := F.cell 4 (by simp)
                have d5 : w6.cell? ⟨g1, 5, none⟩ = some (.int .u32 f) := F.cell 5 (by simp)
                have d6 : w6.cell? ⟨g1, 6, none⟩ = some (.int .u32 g) := F.cell 6 (by simp)
                have d7 : w6.cell? ⟨g1, 7, none⟩ = some (.int .u32 h) := F.cell 7 (by simp)
                refine bodyPost_ret (v := .agg #[.int .u32 a, .int .u32 b1, .int .u32 c, .int .u32 d, .int .u32 e, .int .u32 f, .int .u32 g, .int .u32 h]) (by simp [results, Tryd.results61, go_sem, d0, d1, d2, d3, d4, d5, d6, d7]) rfl ⟨?_, HF.out⟩
                rw [E8.out.2.2, HR.out, ES.out]
                rfl

end Go.Proofs.YtfffdndeccipnaaDoor.Hand
