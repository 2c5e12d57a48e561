/- The digest's functions of the reference, walked by hand. No statement is proved here. -/
import Derived.Test.YtfffdndeccipnaaH0FnNodes
import Derived.Lib.Repeat
namespace Go.Proofs.Ytfffdndeccipnaa.Hand
open Go.RowKit Go.Proofs.YtfffdndeccipnaaW.PrintWords Go.Proofs.YtfffdndeccipnaaW.PrintLast Go.Proofs.YtfffdndeccipnaaW.PrintMore Go.Proofs.Ytfffdndeccipnaa.Reg Go.Proofs.Ytfffdndeccipnaa.Aut
set_option linter.unusedVariables false
set_option linter.unusedSimpArgs false
def rr (x n : Int) : Int := Go.bits .or .u32 (shl .u32 x (Go.bits .and .u64 (IntKind.u64.wrap (wrap64 (-n))) 31)) (shr .u32 x (IntKind.u64.wrap (32 - (Go.bits .and .u64 (IntKind.u64.wrap (wrap64 (-n))) 31))))
def rootsL : List Int := [1116352408, 1899447441, 3049323471, 3921009573, 961987163, 1508970993, 2453635748, 2870763221, 3624381080, 310598401, 607225278, 1426881987, 1925078388, 2162078206, 2614888103, 3248222580, 3835390401, 4022224774, 264347078, 604807628, 770255983, 1249150122, 1555081692, 1996064986, 2554220882, 2821834349, 2952996808, 3210313671, 3336571891, 3584528711, 113926993, 338241895, 666307205, 773529912, 1294757372, 1396182291, 1695183700, 1986661051, 2177026350, 2456956037, 2730485921, 2820302411, 3259730800, 3345764771, 3516065817, 3600352804, 4094571909, 275423344, 430227734, 506948616, 659060556, 883997877, 958139571, 1322822218, 1537002063, 1747873779, 1955562222, 2024104815, 2227730452, 2361852424, 2428436474, 2756734187, 3204031479, 3329325298]
def firstL : List Int := [1779033703, 3144134277, 1013904242, 2773480762, 1359893119, 2600822924, 528734635, 1541459225]
/-- The two tables lie where the program's text lays them. -/
def LaidG (w : World) : Prop := (∀ i, i < 8 → w.cell? ⟨0, i, none⟩ = some (.int .u32 (firstL.getD i 0))) ∧ ∀ i, i < 64 → w.cell? ⟨1, i, none⟩ = some (.int .u32 (rootsL.getD i 0))
theorem LaidG.below {w W : World} (h : LaidG w) (hb : Below w.heap.size w W) : LaidG W :=
 ⟨fun i hi => (hb.cell (World.block_lt_of_cell? w _ (h.1 i hi))).trans (h.1 i hi), fun i hi => (hb.cell (World.block_lt_of_cell? w _ (h.2 i hi))).trans (h.2 i hi)⟩
abbrev arrU (xs : List Int) : Array Value := (nums .u32 xs).toArray
/-- a block of numbers. -/
def Blk (w : World) (g t : Nat) (xs : List Int) : Prop := w.heap[g]? = some (.cells (arrU xs) t (0, 0))
theorem Blk.cell {w : World} {g t : Nat} {xs : List Int} (h : Blk w g t xs) (i : Nat) (hi : i < xs.length) : w.cell? ⟨g, i, none⟩ = some (.int .u32 (xs.getD i 0)) := by
 rw [zb_ h i]
 simp [arrU, nums, List.getD_eq_getElem?_getD, hi]
theorem Blk.frozen {w : World} {g t : Nat} {xs : List Int} (h : Blk w g t xs) (i : Nat) : w.frozen? ⟨g, i, none⟩ = false := za_ h i
theorem Blk.put {w : World} {g t : Nat} {xs : List Int} (h : Blk w g t xs) (i : Nat) (v : Int) : Blk (w.setCell ⟨g, i, none⟩ (.int .u32 v)) g t (xs.set i v) :=
 blk_put h i _ (by simp [arrU, nums, List.map_set])
theorem Blk.drew {w : World} {g t : Nat} {xs : List Int} (h : Blk w g t xs) : Blk w.drew g t xs := yU_ h
theorem Blk.drewN {w : World} {g t : Nat} {xs : List Int} (h : Blk w g t xs) (n : Nat) : Blk (w.drewN n) g t xs := blk_drewN h n
theorem Blk.below {w W : World} {g t : Nat} {xs : List Int} (h : Blk w g t xs) (hb : Below w.heap.size w W) : Blk W g t xs := zP_ h hb
def w4 (b : ByteArray) (i : Nat) : Nat → Int
 | 0 => 0
 | k + 1 => Go.bits .or .u32 ((w4 b i k * 256) % 4294967296) (bt b ((4 * i + k : Nat) : Int) % 4294967296)
def wNext (ws : List Int) (i : Nat) : Int :=
 let a := ws.getD (i - 15) 0
 let c := ws.getD (i - 2) 0
 (ws.getD (i - 16) 0 + Go.bits .xor .u32 (Go.bits .xor .u32 (rr a 7) (rr a 18)) (a / 8) + ws.getD (i - 7) 0 + Go.bits .xor .u32 (Go.bits .xor .u32 (rr c 17) (rr c 19)) (c / 1024)) % 4294967296
def wAll (b : ByteArray) : Nat → List Int
 | 0 => List.replicate 64 0
 | i + 1 => (wAll b i).set i (if i < 16 then w4 b i 4 else wNext (wAll b i) i)
theorem wAll_zero (b : ByteArray) : ∀ i j, i ≤ j → (wAll b i).getD j 0 = 0
 | 0, j, _ => by
  simp only [wAll, List.getD_eq_getElem?_getD, List.getElem?_replicate]
  split <;> rfl
 | i + 1, j, h => by
  have ih := wAll_zero b i j (by omega)
  simp only [wAll, List.getD_eq_getElem?_getD] at ih ⊢
  rw [List.getElem?_set_ne (by omega)]
  exact ih
theorem nxt (y : Int) (k : Nat) (h : y = (k : Int)) (hk : k < 1000) : IntKind.i64.wrap (y + 1) = ((k + 1 : Nat) : Int) := by
 subst h; rw [IntWalk.i64_in _ (by omega)]; omega
theorem nxtw (y : Int) (k : Nat) (h : y = (k : Int)) (hk : k < 1000) : wrap64 (y + 1) = ((k + 1 : Nat) : Int) := by
 subst h; unfold wrap64; omega
def rnd (k w : Int) : List Int → List Int
 | [a, b, c, d, e, f, g, h] =>
  let t1 := ((h + Go.bits .xor .u32 (Go.bits .xor .u32 (rr e 6) (rr e 11)) (rr e 25) + Go.bits .xor .u32 (Go.bits .and .u32 e f) (Go.bits .and .u32 (Go.bits .xor .u32 4294967295 e) g) + k) % 4294967296 + w) % 4294967296
  let t2 := (Go.bits .xor .u32 (Go.bits .xor .u32 (rr a 2) (rr a 13)) (rr a 22) + Go.bits .xor .u32 (Go.bits .xor .u32 (Go.bits .and .u32 a b) (Go.bits .and .u32 a c)) (Go.bits .and .u32 b c))
  [(t1 + t2) % 4294967296, a, b, c, (d + t1) % 4294967296, e, f, g]
 | l => l
def sAll (ws s : List Int) : Nat → List Int
 | 0 => s
 | i + 1 => rnd (rootsL.getD i 0) (ws.getD i 0) (sAll ws s i)
theorem rnd_length (k w : Int) (l : List Int) (h : l.length = 8) : ∃ a b c d e f g h, rnd k w l = [a, b, c, d, e, f, g, h] := by
 match l, h with
 | [a, b, c, d, e, f, g, h], _ => exact ⟨_, _, _, _, _, _, _, _, rfl⟩
theorem sAll_eight (ws s : List Int) (hs : s.length = 8) : ∀ i, ∃ a b c d e f g h, sAll ws s i = [a, b, c, d, e, f, g, h]
 | 0 => by
  match s, hs with
  | [a, b, c, d, e, f, g, h], _ => exact ⟨a, b, c, d, e, f, g, h, rfl⟩
 | i + 1 => by
  obtain ⟨a, b, c, d, e, f, g, h, e1⟩ := sAll_eight ws s hs i
  exact rnd_length _ _ _ (by rw [e1]; rfl)
theorem eight (l : List Int) (h : l.length = 8) : ∃ a b c d e f g k, l = [a, b, c, d, e, f, g, k] := by
 match l, h with
 | [a, b, c, d, e, f, g, k], _ => exact ⟨a, b, c, d, e, f, g, k, rfl⟩
def addAll (s t : List Int) : Nat → List Int
 | 0 => s
 | i + 1 => (addAll s t i).set i (((addAll s t i).getD i 0 + t.getD i 0) % 4294967296)
theorem addAll_length (s t : List Int) : ∀ i, (addAll s t i).length = s.length
 | 0 => rfl
 | i + 1 => by simp [addAll, addAll_length s t i]
/-- the state behind a block. -/
def takenL (s : List Int) (b : ByteArray) : List Int := addAll s (sAll (wAll b 64) s 64) 8
theorem takenL_length (s : List Int) (b : ByteArray) : (takenL s b).length = s.length := addAll_length _ _ _
/-- the state behind some blocks. -/
def eat (s : List Int) (r : ByteArray) : Nat → List Int
 | 0 => s
 | n + 1 => takenL (eat s r n) (r.extract (64 * n) (64 * n + 64))
theorem eat_length (s : List Int) (r : ByteArray) : ∀ n, (eat s r n).length = s.length
 | 0 => rfl
 | n + 1 => by rw [eat, takenL_length, eat_length s r n]
/-- eight bytes of a length in bits. -/
def lenB (n : Int) : Nat → ByteArray
 | 0 => ⟨#[]⟩
 | j + 1 => lenB n j ++ strOfNums [(wrap64 (n * 8) / 2 ^ (8 * (7 - j))) % 256]
def zeros (m : Nat) : ByteArray := ⟨(Lib.repeatL [0] m).toArray⟩
def pad1 (rest : ByteArray) : ByteArray := rest ++ ⟨#[128]⟩
def pad2 (rest : ByteArray) : ByteArray := pad1 rest ++ zeros ((120 - (rest.size + 1)) % 64)
def pad (rest : ByteArray) (n : Int) : ByteArray := pad2 rest ++ lenB n 8
/-- the digest's bytes. -/
def outL (A : List Int) : Nat → List Int
 | 0 => []
 | i + 1 => outL A i ++ [(A.getD i 0 / 16777216) % 256, (A.getD i 0 / 65536) % 256, (A.getD i 0 / 256) % 256, A.getD i 0 % 256]
def summedL (s : List Int) (rest : ByteArray) (n : Int) : ByteArray := strOfNums (outL (eat s (pad rest n) ((pad rest n).size / 64)) 8)
end Go.Proofs.Ytfffdndeccipnaa.Hand
