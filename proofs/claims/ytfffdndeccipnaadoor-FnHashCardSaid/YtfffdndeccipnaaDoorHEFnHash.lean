/- The digest's functions of the program, walked by hand. No statement is proved here. -/
import Derived.Test.YtfffdndeccipnaaDoorHCFnHash
import Derived.Test.YtfffdndeccipnaaDoorHDFnHash
namespace Go.Proofs.YtfffdndeccipnaaDoor.Hand
open Go.RowKit Go.Proofs.YtfffdndeccipnaaDoorW.PrintWords Go.Proofs.YtfffdndeccipnaaDoorW.PrintLast Go.Proofs.YtfffdndeccipnaaDoorW.PrintMore Go.Proofs.YtfffdndeccipnaaDoor.Reg Go.Proofs.YtfffdndeccipnaaDoor.Aut
set_option linter.unusedVariables false
set_option linter.unusedSimpArgs false
/-- the digest of a text, as the program reckons it. -/
def digestL (b : ByteArray) : ByteArray := summedL (eat firstL b (b.size / 64)) (b.extract (64 * (b.size / 64)) b.size) (b.size : Int)
theorem digest_whole (b : ByteArray) (hb : b.size ≤ 1099511627776) (w : World) (hL : LaidG w) :
    Calls Tryd.prog 54 #[.string b] w fun e w' => e = .returned (.string (digestL b)) ∧ Below w.heap.size w w' := by
  refine digest_calls b w hL _ fun s0 s1 s2 s3 s4 s5 s6 s7 r W hW hE hr => ?_
  have hs : r.size < 64 := by rw [hr]; simp; omega
  have h := summed_calls s0 s1 s2 s3 s4 s5 s6 s7 r (b.size : Int) hs ⟨by omega, by omega⟩ W hW
  unfold digestL
  rw [hE, ← hr]
  exact h
theorem block_x (A0 : Option Addr) (c0 : Nat) (l0 : List Int) (b : ByteArray) (w : World) (hr0 : Kd.C (Kd.int .i64) w A0 l0.length l0) (h8 : l0.length = 8) (hb : b.size = 64) :
    Calls Tryd.prog 99 #[.slice A0 l0.length c0, .string b] w fun e w' => ∃ v0_ : Value, e = .returned v0_ ∧ Kd.R (Kd.int .i64) 2 w' w.heap.size (fun _ => True) v0_ (takenL (l0.map (· % 4294967296)) b) ∧ Below w.heap.size w w' := by
  obtain ⟨s0, s1, s2, s3, s4, s5, s6, s7, rfl⟩ := eight l0 h8
  exact block_calls A0 c0 s0 s1 s2 s3 s4 s5 s6 s7 b w hr0 hb

end Go.Proofs.YtfffdndeccipnaaDoor.Hand
