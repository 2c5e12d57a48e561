-- A program of this session wrote this text: a changed copy of the kit print, with given functions.
import Derived.Test.YteljfdhjbnlgoaaPFnPiecesx0
import Derived.Test.YteljfdhjbnlgoaaPFnPiecesx1
import Derived.Test.YteljfdhjbnlgoaaPFnPiecesx2
import Derived.Test.YteljfdhjbnlgoaaPFnPiecesx3
namespace Go.Proofs.Yteljfdhjbnlgoaa.PFnPieces
open Go.RowKit Go.Proofs.YteljfdhjbnlgoaaW.PrintWords Go.Proofs.YteljfdhjbnlgoaaW.PrintLast Go.Proofs.YteljfdhjbnlgoaaW.PrintMore
attribute [local go_sem] max2_int min2_int max_two min_two max_three min_three max_four min_four   -- for this text's walks alone
set_option linter.unusedVariables false
set_option linter.unusedSimpArgs false

/-! ### spec_l01Src_l06Cutting: function 147 -/
def spec_l01Src_l06Cutting.f (s0_0 : List Int) (s0_1 : Int) (s0_2 : Int) (s0_3 : Int) : Option (Int × Int × Int × Int × Int × Int) := (spec_l01Src_n.f s0_0 s0_1 s0_2 s0_3 8).bind fun bt109 => ((spec_l01Src_n.f s0_0 bt109.2.1 bt109.2.2.1 bt109.2.2.2 3).bind fun bt113 => ((spec_l01Src_n.f s0_0 bt113.2.1 bt113.2.2.1 bt113.2.2.2 40).bind fun bt118 => ((spec_l01Src_one.f s0_0 bt118.2.1 bt118.2.2.1 bt118.2.2.2 15).bind fun bt122 => (if bt122.1 = true then ((spec_l01Src_n.f s0_0 bt122.2.1 bt122.2.2.1 bt122.2.2.2 3).bind fun bt126 => (if bt126.1 = 0 then ((some (([15, 16, 1000, 1001] : List Int) : List Int)).bind fun y130 => ((spec_l01Src_n.f s0_0 bt126.2.1 bt126.2.2.1 bt126.2.2.2 4).bind fun bt133 => (if 0 ≤ bt133.1 then (if bt133.1 < (y130.length : Int) then (some (rd y130 bt133.1, wrap64 (2 + bt113.1), wrap64 ((wrap64 (16 + bt109.1)) + bt118.1), bt133.2.1, bt133.2.2.1, bt133.2.2.2)) else (none)) else (none)))) else (if bt126.1 = 1 then ((some (([(-1), 0, 12, 13] : List Int) : List Int)).bind fun y138 => ((spec_l01Src_n.f s0_0 bt126.2.1 bt126.2.2.1 bt126.2.2.2 4).bind fun bt141 => (if 0 ≤ bt141.1 then (if bt141.1 < (y138.length : Int) then (some (wrap64 (16 + bt109.1), rd y138 bt141.1, wrap64 ((wrap64 (16 + bt109.1)) + bt118.1), bt141.2.1, bt141.2.2.1, bt141.2.2.2)) else (none)) else (none)))) else ((some (([wrap64 ((wrap64 (16 + bt109.1)) - 1), wrap64 (16 + bt109.1), 2000, 2001] : List Int) : List Int)).bind fun y146 => ((spec_l01Src_n.f s0_0 bt126.2.1 bt126.2.2.1 bt126.2.2.2 4).bind fun bt149 => (if 0 ≤ bt149.1 then (if bt149.1 < (y146.length : Int) then (some (wrap64 (16 + bt109.1), wrap64 (2 + bt113.1), rd y146 bt149.1, bt149.2.1, bt149.2.2.1, bt149.2.2.2)) else (none)) else (none))))))) else (some (wrap64 (16 + bt109.1), wrap64 (2 + bt113.1), wrap64 ((wrap64 (16 + bt109.1)) + bt118.1), bt122.2.1, bt122.2.2.1, bt122.2.2.2))))))
def spec_l01Src_l06Cutting.T5 : Bool × List (List Nat × List Nat) := (true, [([], []), ([0], [0]), ([1], [1]), ([], []), ([3], [3]), ([2, 4], [2, 4]), ([], []), ([6], [6]), ([5, 7], [5, 7]), ([8], [8]), ([0, 1, 2, 3, 4, 5, 6, 7, 8, 9], []), ([10, 9, 7, 0, 1, 2, 3, 4, 5, 6, 7, 8, 9], [9, 10])])
def spec_l01Src_l06Cutting.B5 : List Nat := [0, 1, 3, 0, 8, 31, 0, 64, 255, 511, 1023, 2047]
theorem spec_l01Src_l06Cutting.tab5 : rtab .any (opsOf Try.f147 5) = spec_l01Src_l06Cutting.T5 := by kernel_rfl
theorem spec_l01Src_l06Cutting.bits5 : waitsOk spec_l01Src_l06Cutting.T5.2 spec_l01Src_l06Cutting.B5 = true := by kernel_rfl
set_option maxHeartbeats 8000000 in
set_option maxRecDepth 100000 in
theorem spec_l01Src_l06Cutting.calls (g : Nat) (s0_0 : List Int) (s0_1 : Int) (s0_2 : Int) (s0_3 : Int) (r1 : Int) (r2 : Int) (r3 : Int) (r4 : Int) (r5 : Int) (r6 : Int) (w0 w : World) (hI : IsS157 w0 w g s0_0 s0_1 s0_2 s0_3) (hB : Below w0.heap.size w0 w) (h : spec_l01Src_l06Cutting.f s0_0 s0_1 s0_2 s0_3 = some (r1, r2, r3, r4, r5, r6)) :
    Calls Try.prog 147 #[.pointer (some ⟨g, 0, none⟩)] w fun e w' => e = .returned (.agg #[.int .i64 r1, .int .i64 r2, .int .i64 r3]) ∧ IsS157 w0 w' g s0_0 r4 r5 r6 ∧ Below w0.heap.size w0 w' ∧ KeepBut w w' g none := by
  have hu40 := Try.underlying40
  have HI0 := Aside0.mk hI
  have HK := Aside0.mk (KeepBut.refl w g none)
  have HL := Aside0.mk hB.size
  clear hI
  have HW0 := Aside0.mk hB.size
  have HB := Aside0.mk hB
  clear hB
  have H : ((spec_l01Src_n.f s0_0 s0_1 s0_2 s0_3 8).bind fun bt109 => ((spec_l01Src_n.f s0_0 bt109.2.1 bt109.2.2.1 bt109.2.2.2 3).bind fun bt113 => ((spec_l01Src_n.f s0_0 bt113.2.1 bt113.2.2.1 bt113.2.2.2 40).bind fun bt118 => ((spec_l01Src_one.f s0_0 bt118.2.1 bt118.2.2.1 bt118.2.2.2 15).bind fun bt122 => (if bt122.1 = true then ((spec_l01Src_n.f s0_0 bt122.2.1 bt122.2.2.1 bt122.2.2.2 3).bind fun bt126 => (if bt126.1 = 0 then ((some (([15, 16, 1000, 1001] : List Int) : List Int)).bind fun y130 => ((spec_l01Src_n.f s0_0 bt126.2.1 bt126.2.2.1 bt126.2.2.2 4).bind fun bt133 => (if 0 ≤ bt133.1 then (if bt133.1 < (y130.length : Int) then (some (rd y130 bt133.1, wrap64 (2 + bt113.1), wrap64 ((wrap64 (16 + bt109.1)) + bt118.1), bt133.2.1, bt133.2.2.1, bt133.2.2.2)) else (none)) else (none)))) else (if bt126.1 = 1 then ((some (([(-1), 0, 12, 13] : List Int) : List Int)).bind fun y138 => ((spec_l01Src_n.f s0_0 bt126.2.1 bt126.2.2.1 bt126.2.2.2 4).bind fun bt141 => (if 0 ≤ bt141.1 then (if bt141.1 < (y138.length : Int) then (some (wrap64 (16 + bt109.1), rd y138 bt141.1, wrap64 ((wrap64 (16 + bt109.1)) + bt118.1), bt141.2.1, bt141.2.2.1, bt141.2.2.2)) else (none)) else (none)))) else ((some (([wrap64 ((wrap64 (16 + bt109.1)) - 1), wrap64 (16 + bt109.1), 2000, 2001] : List Int) : List Int)).bind fun y146 => ((spec_l01Src_n.f s0_0 bt126.2.1 bt126.2.2.1 bt126.2.2.2 4).bind fun bt149 => (if 0 ≤ bt149.1 then (if bt149.1 < (y146.length : Int) then (some (wrap64 (16 + bt109.1), wrap64 (2 + bt113.1), rd y146 bt149.1, bt149.2.1, bt149.2.2.1, bt149.2.2.2)) else (none)) else (none))))))) else (some (wrap64 (16 + bt109.1), wrap64 (2 + bt113.1), wrap64 ((wrap64 (16 + bt109.1)) + bt118.1), bt122.2.1, bt122.2.2.1, bt122.2.2.2))))))) = some (r1, r2, r3, r4, r5, r6) := h
  clear h
  replace H := Option.bind_eq_some_iff.mp H
  obtain ⟨⟨t109, t110, t111, t112⟩, A20, H⟩ := H
  replace H : ((spec_l01Src_n.f s0_0 t110 t111 t112 3).bind fun bt113 => ((spec_l01Src_n.f s0_0 bt113.2.1 bt113.2.2.1 bt113.2.2.2 40).bind fun bt118 => ((spec_l01Src_one.f s0_0 bt118.2.1 bt118.2.2.1 bt118.2.2.2 15).bind fun bt122 => (if bt122.1 = true then ((spec_l01Src_n.f s0_0 bt122.2.1 bt122.2.2.1 bt122.2.2.2 3).bind fun bt126 => (if bt126.1 = 0 then ((some (([15, 16, 1000, 1001] : List Int) : List Int)).bind fun y130 => ((spec_l01Src_n.f s0_0 bt126.2.1 bt126.2.2.1 bt126.2.2.2 4).bind fun bt133 => (if 0 ≤ bt133.1 then (if bt133.1 < (y130.length : Int) then (some (rd y130 bt133.1, wrap64 (2 + bt113.1), wrap64 ((wrap64 (16 + t109)) + bt118.1), bt133.2.1, bt133.2.2.1, bt133.2.2.2)) else (none)) else (none)))) else (if bt126.1 = 1 then ((some (([(-1), 0, 12, 13] : List Int) : List Int)).bind fun y138 => ((spec_l01Src_n.f s0_0 bt126.2.1 bt126.2.2.1 bt126.2.2.2 4).bind fun bt141 => (if 0 ≤ bt141.1 then (if bt141.1 < (y138.length : Int) then (some (wrap64 (16 + t109), rd y138 bt141.1, wrap64 ((wrap64 (16 + t109)) + bt118.1), bt141.2.1, bt141.2.2.1, bt141.2.2.2)) else (none)) else (none)))) else ((some (([wrap64 ((wrap64 (16 + t109)) - 1), wrap64 (16 + t109), 2000, 2001] : List Int) : List Int)).bind fun y146 => ((spec_l01Src_n.f s0_0 bt126.2.1 bt126.2.2.1 bt126.2.2.2 4).bind fun bt149 => (if 0 ≤ bt149.1 then (if bt149.1 < (y146.length : Int) then (some (wrap64 (16 + t109), wrap64 (2 + bt113.1), rd y146 bt149.1, bt149.2.1, bt149.2.2.1, bt149.2.2.2)) else (none)) else (none))))))) else (some (wrap64 (16 + t109), wrap64 (2 + bt113.1), wrap64 ((wrap64 (16 + t109)) + bt118.1), bt122.2.1, bt122.2.2.1, bt122.2.2.2)))))) = some (r1, r2, r3, r4, r5, r6) := H
  have A2 := Aside0.mk A20
  clear A20
  replace H := Option.bind_eq_some_iff.mp H
  obtain ⟨⟨t113, t114, t115, t116⟩, A30, H⟩ := H
  replace H : ((spec_l01Src_n.f s0_0 t114 t115 t116 40).bind fun bt118 => ((spec_l01Src_one.f s0_0 bt118.2.1 bt118.2.2.1 bt118.2.2.2 15).bind fun bt122 => (if bt122.1 = true then ((spec_l01Src_n.f s0_0 bt122.2.1 bt122.2.2.1 bt122.2.2.2 3).bind fun bt126 => (if bt126.1 = 0 then ((some (([15, 16, 1000, 1001] : List Int) : List Int)).bind fun y130 => ((spec_l01Src_n.f s0_0 bt126.2.1 bt126.2.2.1 bt126.2.2.2 4).bind fun bt133 => (if 0 ≤ bt133.1 then (if bt133.1 < (y130.length : Int) then (some (rd y130 bt133.1, wrap64 (2 + t113), wrap64 ((wrap64 (16 + t109)) + bt118.1), bt133.2.1, bt133.2.2.1, bt133.2.2.2)) else (none)) else (none)))) else (if bt126.1 = 1 then ((some (([(-1), 0, 12, 13] : List Int) : List Int)).bind fun y138 => ((spec_l01Src_n.f s0_0 bt126.2.1 bt126.2.2.1 bt126.2.2.2 4).bind fun bt141 => (if 0 ≤ bt141.1 then (if bt141.1 < (y138.length : Int) then (some (wrap64 (16 + t109), rd y138 bt141.1, wrap64 ((wrap64 (16 + t109)) + bt118.1), bt141.2.1, bt141.2.2.1, bt141.2.2.2)) else (none)) else (none)))) else ((some (([wrap64 ((wrap64 (16 + t109)) - 1), wrap64 (16 + t109), 2000, 2001] : List Int) : List Int)).bind fun y146 => ((spec_l01Src_n.f s0_0 bt126.2.1 bt126.2.2.1 bt126.2.2.2 4).bind fun bt149 => (if 0 ≤ bt149.1 then (if bt149.1 < (y146.length : Int) then (some (wrap64 (16 + t109), wrap64 (2 + t113), rd y146 bt149.1, bt149.2.1, bt149.2.2.1, bt149.2.2.2)) else (none)) else (none))))))) else (some (wrap64 (16 + t109), wrap64 (2 + t113), wrap64 ((wrap64 (16 + t109)) + bt118.1), bt122.2.1, bt122.2.2.1, bt122.2.2.2))))) = some (r1, r2, r3, r4, r5, r6) := H
  have A3 := Aside0.mk A30
  clear A30
  replace H := Option.bind_eq_some_iff.mp H
  obtain ⟨⟨t118, t119, t120, t121⟩, A40, H⟩ := H
  replace H : ((spec_l01Src_one.f s0_0 t119 t120 t121 15).bind fun bt122 => (if bt122.1 = true then ((spec_l01Src_n.f s0_0 bt122.2.1 bt122.2.2.1 bt122.2.2.2 3).bind fun bt126 => (if bt126.1 = 0 then ((some (([15, 16, 1000, 1001] : List Int) : List Int)).bind fun y130 => ((spec_l01Src_n.f s0_0 bt126.2.1 bt126.2.2.1 bt126.2.2.2 4).bind fun bt133 => (if 0 ≤ bt133.1 then (if bt133.1 < (y130.length : Int) then (some (rd y130 bt133.1, wrap64 (2 + t113), wrap64 ((wrap64 (16 + t109)) + t118), bt133.2.1, bt133.2.2.1, bt133.2.2.2)) else (none)) else (none)))) else (if bt126.1 = 1 then ((some (([(-1), 0, 12, 13] : List Int) : List Int)).bind fun y138 => ((spec_l01Src_n.f s0_0 bt126.2.1 bt126.2.2.1 bt126.2.2.2 4).bind fun bt141 => (if 0 ≤ bt141.1 then (if bt141.1 < (y138.length : Int) then (some (wrap64 (16 + t109), rd y138 bt141.1, wrap64 ((wrap64 (16 + t109)) + t118), bt141.2.1, bt141.2.2.1, bt141.2.2.2)) else (none)) else (none)))) else ((some (([wrap64 ((wrap64 (16 + t109)) - 1), wrap64 (16 + t109), 2000, 2001] : List Int) : List Int)).bind fun y146 => ((spec_l01Src_n.f s0_0 bt126.2.1 bt126.2.2.1 bt126.2.2.2 4).bind fun bt149 => (if 0 ≤ bt149.1 then (if bt149.1 < (y146.length : Int) then (some (wrap64 (16 + t109), wrap64 (2 + t113), rd y146 bt149.1, bt149.2.1, bt149.2.2.1, bt149.2.2.2)) else (none)) else (none))))))) else (some (wrap64 (16 + t109), wrap64 (2 + t113), wrap64 ((wrap64 (16 + t109)) + t118), bt122.2.1, bt122.2.2.1, bt122.2.2.2)))) = some (r1, r2, r3, r4, r5, r6) := H
  have A4 := Aside0.mk A40
  clear A40
  replace H := Option.bind_eq_some_iff.mp H
  obtain ⟨⟨t122, t123, t124, t125⟩, A50, H⟩ := H
  replace H : (if t122 = true then ((spec_l01Src_n.f s0_0 t123 t124 t125 3).bind fun bt126 => (if bt126.1 = 0 then ((some (([15, 16, 1000, 1001] : List Int) : List Int)).bind fun y130 => ((spec_l01Src_n.f s0_0 bt126.2.1 bt126.2.2.1 bt126.2.2.2 4).bind fun bt133 => (if 0 ≤ bt133.1 then (if bt133.1 < (y130.length : Int) then (some (rd y130 bt133.1, wrap64 (2 + t113), wrap64 ((wrap64 (16 + t109)) + t118), bt133.2.1, bt133.2.2.1, bt133.2.2.2)) else (none)) else (none)))) else (if bt126.1 = 1 then ((some (([(-1), 0, 12, 13] : List Int) : List Int)).bind fun y138 => ((spec_l01Src_n.f s0_0 bt126.2.1 bt126.2.2.1 bt126.2.2.2 4).bind fun bt141 => (if 0 ≤ bt141.1 then (if bt141.1 < (y138.length : Int) then (some (wrap64 (16 + t109), rd y138 bt141.1, wrap64 ((wrap64 (16 + t109)) + t118), bt141.2.1, bt141.2.2.1, bt141.2.2.2)) else (none)) else (none)))) else ((some (([wrap64 ((wrap64 (16 + t109)) - 1), wrap64 (16 + t109), 2000, 2001] : List Int) : List Int)).bind fun y146 => ((spec_l01Src_n.f s0_0 bt126.2.1 bt126.2.2.1 bt126.2.2.2 4).bind fun bt149 => (if 0 ≤ bt149.1 then (if bt149.1 < (y146.length : Int) then (some (wrap64 (16 + t109), wrap64 (2 + t113), rd y146 bt149.1, bt149.2.1, bt149.2.2.1, bt149.2.2.2)) else (none)) else (none))))))) else (some (wrap64 (16 + t109), wrap64 (2 + t113), wrap64 ((wrap64 (16 + t109)) + t118), t123, t124, t125))) = some (r1, r2, r3, r4, r5, r6) := H
  have A5 := Aside0.mk A50
  clear A50
  by_cases c6 : t122 = true
  · subst c6
    have H1 : ((spec_l01Src_n.f s0_0 t123 t124 t125 3).bind fun bt126 => (if bt126.1 = 0 then ((some (([15, 16, 1000, 1001] : List Int) : List Int)).bind fun y130 => ((spec_l01Src_n.f s0_0 bt126.2.1 bt126.2.2.1 bt126.2.2.2 4).bind fun bt133 => (if 0 ≤ bt133.1 then (if bt133.1 < (y130.length : Int) then (some (rd y130 bt133.1, wrap64 (2 + t113), wrap64 ((wrap64 (16 + t109)) + t118), bt133.2.1, bt133.2.2.1, bt133.2.2.2)) else (none)) else (none)))) else (if bt126.1 = 1 then ((some (([(-1), 0, 12, 13] : List Int) : List Int)).bind fun y138 => ((spec_l01Src_n.f s0_0 bt126.2.1 bt126.2.2.1 bt126.2.2.2 4).bind fun bt141 => (if 0 ≤ bt141.1 then (if bt141.1 < (y138.length : Int) then (some (wrap64 (16 + t109), rd y138 bt141.1, wrap64 ((wrap64 (16 + t109)) + t118), bt141.2.1, bt141.2.2.1, bt141.2.2.2)) else (none)) else (none)))) else ((some (([wrap64 ((wrap64 (16 + t109)) - 1), wrap64 (16 + t109), 2000, 2001] : List Int) : List Int)).bind fun y146 => ((spec_l01Src_n.f s0_0 bt126.2.1 bt126.2.2.1 bt126.2.2.2 4).bind fun bt149 => (if 0 ≤ bt149.1 then (if bt149.1 < (y146.length : Int) then (some (wrap64 (16 + t109), wrap64 (2 + t113), rd y146 bt149.1, bt149.2.1, bt149.2.2.1, bt149.2.2.2)) else (none)) else (none))))))) = some (r1, r2, r3, r4, r5, r6) := by rw [if_pos rfl] at H; exact H
    clear H
    have H := H1
    clear H1
    replace H := Option.bind_eq_some_iff.mp H
    obtain ⟨⟨t126, t127, t128, t129⟩, A70, H⟩ := H
    replace H : (if t126 = 0 then ((some (([15, 16, 1000, 1001] : List Int) : List Int)).bind fun y130 => ((spec_l01Src_n.f s0_0 t127 t128 t129 4).bind fun bt133 => (if 0 ≤ bt133.1 then (if bt133.1 < (y130.length : Int) then (some (rd y130 bt133.1, wrap64 (2 + t113), wrap64 ((wrap64 (16 + t109)) + t118), bt133.2.1, bt133.2.2.1, bt133.2.2.2)) else (none)) else (none)))) else (if t126 = 1 then ((some (([(-1), 0, 12, 13] : List Int) : List Int)).bind fun y138 => ((spec_l01Src_n.f s0_0 t127 t128 t129 4).bind fun bt141 => (if 0 ≤ bt141.1 then (if bt141.1 < (y138.length : Int) then (some (wrap64 (16 + t109), rd y138 bt141.1, wrap64 ((wrap64 (16 + t109)) + t118), bt141.2.1, bt141.2.2.1, bt141.2.2.2)) else (none)) else (none)))) else ((some (([wrap64 ((wrap64 (16 + t109)) - 1), wrap64 (16 + t109), 2000, 2001] : List Int) : List Int)).bind fun y146 => ((spec_l01Src_n.f s0_0 t127 t128 t129 4).bind fun bt149 => (if 0 ≤ bt149.1 then (if bt149.1 < (y146.length : Int) then (some (wrap64 (16 + t109), wrap64 (2 + t113), rd y146 bt149.1, bt149.2.1, bt149.2.2.1, bt149.2.2.2)) else (none)) else (none)))))) = some (r1, r2, r3, r4, r5, r6) := H
    have A7 := Aside0.mk A70
    clear A70
    by_cases c8 : t126 = 0
    · rw [if_pos c8] at H
      have c8b0 : (t126 == 0) = true := beq_iff_eq.mpr c8
      have c8b1 : (t126 != 0) = false := bne_eq_false_iff_eq.mpr c8
      clear c8
      obtain ⟨y130, hy130⟩ : ∃ y_ : List Int, y_ = (([15, 16, 1000, 1001] : List Int)) := ⟨_, rfl⟩
      replace H : ((spec_l01Src_n.f s0_0 t127 t128 t129 4).bind fun bt133 => (if 0 ≤ bt133.1 then (if bt133.1 < (y130.length : Int) then (some (rd y130 bt133.1, wrap64 (2 + t113), wrap64 ((wrap64 (16 + t109)) + t118), bt133.2.1, bt133.2.2.1, bt133.2.2.2)) else (none)) else (none))) = some (r1, r2, r3, r4, r5, r6) := by first | (rw [hy130]; with_reducible exact H) | (have H2_ := (Option.bind_some _ _).symm.trans H; rw [hy130]; with_reducible exact H2_) | (have H2_ := (Option.bind_some _ _).symm.trans H; with_reducible exact H2_) | with_reducible exact H | (rw [hy130]; exact H) | exact H
      have Ny130 := Aside0.mk hy130
      clear hy130
      replace H := Option.bind_eq_some_iff.mp H
      obtain ⟨⟨t133, t134, t135, t136⟩, A90, H⟩ := H
      replace H : (if 0 ≤ t133 then (if t133 < (y130.length : Int) then (some (rd y130 t133, wrap64 (2 + t113), wrap64 ((wrap64 (16 + t109)) + t118), t134, t135, t136)) else (none)) else (none)) = some (r1, r2, r3, r4, r5, r6) := H
      have A9 := Aside0.mk A90
      clear A90
      by_cases c10 : 0 ≤ t133
      · rw [if_pos c10] at H
        have c10b0 : decide (0 ≤ t133) = true := decide_eq_true c10
        clear c10
        by_cases c11 : t133 < (y130.length : Int)
        · rw [if_pos c11] at H
          have c11b0 : decide (t133 < (y130.length : Int)) = true := decide_eq_true c11
          clear c11
          simp only [Option.some.injEq, Prod.mk.injEq] at H
          obtain ⟨rfl, rfl, rfl, rfl, rfl, rfl⟩ := H
          go_enter Try.func147, Try.ntmps147
          try go_wp2_with (first | ((with_reducible refine gate_dst (N := 2) rfl ?_); refine box_event ?hg (N := 2) ?hd (cs := #[.int .i64 0, .int .i64 0, .int .i64 0]) (t := 40) ?hr ?_; (case hd => rfl); (case hg => rfl); (case hr => first | (go_simp; done) | (go_simp; rfl)); intro gb108 hg w12 hbox hb; have n0_ := Aside0.mk (IsS157.below (by repeat (first | (with_reducible first | exact HI0.out | apply IsS157.alloc | apply IsS157.drewN | apply IsS157.drew | apply IsS157.set_1 | apply IsS157.set_2 | apply IsS157.set_3) | exact HI0.out)) hb); have n1_ := Aside0.mk (KeepBut.trans (by repeat (first | (with_reducible first | exact HK.out | apply KeepBut.set_ | apply keep_drewN | apply keep_drew | apply keep_alloc) | exact HK.out)) (KeepBut.of_below hb g none) (.inl rfl)); have n2_ := Aside0.mk (below_step (by repeat (first | (with_reducible first | exact HB.out | apply below_alloc | apply pw_below_drewN | apply below_drew1 | refine below_set ?_ (IsS157.ge HI0.out)) | exact HB.out)) hb); have n3_ := Aside0.mk (hbox); have n4_ := Aside0.mk ((by rw [hg]; exact (keep_size (w := w) (g := g) (row := none) (by repeat (first | (with_reducible first | exact HK.out | apply KeepBut.set_ | apply keep_drewN | apply keep_drew | apply keep_alloc) | exact HK.out))) : w.heap.size ≤ gb108)); have n5_ := Aside0.mk ((Nat.le_trans HW0.out (by rw [hg]; exact (keep_size (w := w) (g := g) (row := none) (by repeat (first | (with_reducible first | exact HK.out | apply KeepBut.set_ | apply keep_drewN | apply keep_drew | apply keep_alloc) | exact HK.out))) : w.heap.size ≤ gb108) : w0.heap.size ≤ gb108)); have n6_ := Aside0.mk ((by rw [hg]; exact Nat.ne_of_lt (IsS157.lt (show IsS157 w0 _ g s0_0 s0_1 s0_2 s0_3 from by repeat (first | (with_reducible first | exact HI0.out | apply IsS157.alloc | apply IsS157.drewN | apply IsS157.drew | apply IsS157.set_1 | apply IsS157.set_2 | apply IsS157.set_3) | exact HI0.out))) : g ≠ gb108)); have n7_ := Aside0.mk ((by rw [hg]; exact Nat.ne_of_gt (IsS157.lt (show IsS157 w0 _ g s0_0 s0_1 s0_2 s0_3 from by repeat (first | (with_reducible first | exact HI0.out | apply IsS157.alloc | apply IsS157.drewN | apply IsS157.drew | apply IsS157.set_1 | apply IsS157.set_2 | apply IsS157.set_3) | exact HI0.out))) : gb108 ≠ g)); clear HI0; clear HK; clear HB; have HI0 := n0_; have HK := n1_; have HB := n2_; have BK108 := n3_; have GW108 := n4_; have GE108 := n5_; have NB0_108 := n6_; have NB108_0 := n7_; clear n0_ n1_ n2_ n3_ n4_ n5_ n6_ n7_; clear hb hbox hg) | ((with_reducible refine gate_callee (f := 77) rfl ?_); refine goesL_ (some 5) rfl rfl Try.func77 (by kernel_rfl) rfl #[.pointer (some ⟨g, 0, none⟩), .int .i64 8] rfl (by (try simp only [List.map_toArray, List.map_cons, List.map_nil]); first | done | rfl | (simp only [List.length_drop, List.length_take]; rfl)) ?_; (with_reducible refine (spec_l01Src_n.calls g s0_0 s0_1 s0_2 s0_3 8 t109 t110 t111 t112 w0 _ ?side1 ?side2 A2.out).mono ?_); (case side1 => repeat (first | (with_reducible first | exact HI0.out | apply IsS157.alloc | apply IsS157.drewN | apply IsS157.drew | apply IsS157.set_1 | apply IsS157.set_2 | apply IsS157.set_3 | refine IsS157.far ?_ NB0_108.out _) | exact HI0.out)); (case side2 => repeat (first | (with_reducible first | exact HB.out | apply below_alloc | apply pw_below_drewN | apply below_drew1 | refine below_set ?_ (IsS157.ge HI0.out) | refine below_set ?_ GE108.out) | exact HB.out)); rintro e w13 ⟨rfl, hi, hb, hk⟩; refine ⟨_, rfl, ?_⟩; have n0_ := Aside0.mk (KeepBut.blk hk (g' := gb108) (o := .cells #[.int .i64 0, .int .i64 0, .int .i64 0] 40 (0, 0)) (by (with_reducible repeat (first | refine blk_drewN ?_ _ | refine blk_drew ?_ | refine blk_alloc ?_ _)); exact BK108.out) NB108_0.out (by simp)); have n1_ := Aside0.mk (KeepBut.trans (by repeat (first | (with_reducible first | exact HK.out | apply KeepBut.set_ | apply keep_drewN | apply keep_drew | apply keep_alloc | refine keep_far ?_ GW108.out _) | exact HK.out)) hk (.inl rfl)); have n2_ := Aside0.mk (hb); have n3_ := Aside0.mk (hi); clear BK108; clear HK; clear HB; clear HI0; have BK108 := n0_; have HK := n1_; have HB := n2_; have HI0 := n3_; clear n0_ n1_ n2_ n3_; (try clear hb); (try clear hb2); (try clear hk); (try clear hi)) | ((with_reducible refine gate_callee (f := 77) rfl ?_); refine goesL_ (some 8) rfl rfl Try.func77 (by kernel_rfl) rfl #[.pointer (some ⟨g, 0, none⟩), .int .i64 3] rfl (by (try simp only [List.map_toArray, List.map_cons, List.map_nil]); first | done | rfl | (simp only [List.length_drop, List.length_take]; rfl)) ?_; (with_reducible refine (spec_l01Src_n.calls g s0_0 t110 t111 t112 3 t113 t114 t115 t116 w0 _ ?side1 ?side2 A3.out).mono ?_); (case side1 => repeat (first | (with_reducible first | exact HI0.out | apply IsS157.alloc | apply IsS157.drewN | apply IsS157.drew | apply IsS157.set_1 | apply IsS157.set_2 | apply IsS157.set_3 | refine IsS157.far ?_ NB0_108.out _) | exact HI0.out)); (case side2 => repeat (first | (with_reducible first | exact HB.out | apply below_alloc | apply pw_below_drewN | apply below_drew1 | refine below_set ?_ (IsS157.ge HI0.out) | refine below_set ?_ GE108.out) | exact HB.out)); rintro e w14 ⟨rfl, hi, hb, hk⟩; refine ⟨_, rfl, ?_⟩; have n0_ := Aside0.mk (KeepBut.blk hk (g' := gb108) (o := .cells #[.int .i64 0, .int .i64 0, .int .i64 0] 40 (0, 0)) (by (with_reducible repeat (first | refine blk_drewN ?_ _ | refine blk_drew ?_ | refine blk_alloc ?_ _)); exact BK108.out) NB108_0.out (by simp)); have n1_ := Aside0.mk (KeepBut.trans (by repeat (first | (with_reducible first | exact HK.out | apply KeepBut.set_ | apply keep_drewN | apply keep_drew | apply keep_alloc | refine keep_far ?_ GW108.out _) | exact HK.out)) hk (.inl rfl)); have n2_ := Aside0.mk (hb); have n3_ := Aside0.mk (hi); clear BK108; clear HK; clear HB; clear HI0; have BK108 := n0_; have HK := n1_; have HB := n2_; have HI0 := n3_; clear n0_ n1_ n2_ n3_; (try clear hb); (try clear hb2); (try clear hk); (try clear hi)) | ((with_reducible refine gate_dst (N := 3) rfl ?_); refine box_event ?hg (N := 3) ?hd (cs := #[.int .i64 0, .int .i64 0, .int .i64 0]) (t := 40) ?hr ?_; (case hd => rfl); (case hg => rfl); (case hr => first | (go_simp; done) | (go_simp; rfl)); intro gb117 hg w15 hbox hb; have n0_ := Aside0.mk (IsS157.below (by repeat (first | (with_reducible first | exact HI0.out | apply IsS157.alloc | apply IsS157.drewN | apply IsS157.drew | apply IsS157.set_1 | apply IsS157.set_2 | apply IsS157.set_3 | refine IsS157.far ?_ NB0_108.out _) | exact HI0.out)) hb); have n1_ := Aside0.mk (blk_below (g := gb108) (o := .cells #[.int .i64 0, .int .i64 0, .int .i64 0] 40 (0, 0)) (by (with_reducible repeat (first | refine blk_drewN ?_ _ | refine blk_drew ?_ | refine blk_alloc ?_ _)); exact BK108.out) hb); have n2_ := Aside0.mk (KeepBut.trans (by repeat (first | (with_reducible first | exact HK.out | apply KeepBut.set_ | apply keep_drewN | apply keep_drew | apply keep_alloc | refine keep_far ?_ GW108.out _) | exact HK.out)) (KeepBut.of_below hb g none) (.inl rfl)); have n3_ := Aside0.mk (below_step (by repeat (first | (with_reducible first | exact HB.out | apply below_alloc | apply pw_below_drewN | apply below_drew1 | refine below_set ?_ (IsS157.ge HI0.out) | refine below_set ?_ GE108.out) | exact HB.out)) hb); have n4_ := Aside0.mk (hbox); have n5_ := Aside0.mk ((by rw [hg]; exact (keep_size (w := w) (g := g) (row := none) (by repeat (first | (with_reducible first | exact HK.out | apply KeepBut.set_ | apply keep_drewN | apply keep_drew | apply keep_alloc | refine keep_far ?_ GW108.out _) | exact HK.out))) : w.heap.size ≤ gb117)); have n6_ := Aside0.mk ((Nat.le_trans HW0.out (by rw [hg]; exact (keep_size (w := w) (g := g) (row := none) (by repeat (first | (with_reducible first | exact HK.out | apply KeepBut.set_ | apply keep_drewN | apply keep_drew | apply keep_alloc | refine keep_far ?_ GW108.out _) | exact HK.out))) : w.heap.size ≤ gb117) : w0.heap.size ≤ gb117)); have n7_ := Aside0.mk ((by rw [hg]; exact Nat.ne_of_lt (blk_lt (g := gb108) (o := .cells #[.int .i64 0, .int .i64 0, .int .i64 0] 40 (0, 0)) (by (with_reducible repeat (first | refine blk_drewN ?_ _ | refine blk_drew ?_ | refine blk_alloc ?_ _)); exact BK108.out)) : gb108 ≠ gb117)); have n8_ := Aside0.mk ((by rw [hg]; exact Nat.ne_of_gt (blk_lt (g := gb108) (o := .cells #[.int .i64 0, .int .i64 0, .int .i64 0] 40 (0, 0)) (by (with_reducible repeat (first | refine blk_drewN ?_ _ | refine blk_drew ?_ | refine blk_alloc ?_ _)); exact BK108.out)) : gb117 ≠ gb108)); have n9_ := Aside0.mk ((by rw [hg]; exact Nat.ne_of_lt (IsS157.lt (show IsS157 w0 _ g s0_0 t114 t115 t116 from by repeat (first | (with_reducible first | exact HI0.out | apply IsS157.alloc | apply IsS157.drewN | apply IsS157.drew | apply IsS157.set_1 | apply IsS157.set_2 | apply IsS157.set_3 | refine IsS157.far ?_ NB0_108.out _) | exact HI0.out))) : g ≠ gb117)); have n10_ := Aside0.mk ((by rw [hg]; exact Nat.ne_of_gt (IsS157.lt (show IsS157 w0 _ g s0_0 t114 t115 t116 from by repeat (first | (with_reducible first | exact HI0.out | apply IsS157.alloc | apply IsS157.drewN | apply IsS157.drew | apply IsS157.set_1 | apply IsS157.set_2 | apply IsS157.set_3 | refine IsS157.far ?_ NB0_108.out _) | exact HI0.out))) : gb117 ≠ g)); clear HI0; clear BK108; clear HK; clear HB; have HI0 := n0_; have BK108 := n1_; have HK := n2_; have HB := n3_; have BK117 := n4_; have GW117 := n5_; have GE117 := n6_; have NB108_117 := n7_; have NB117_108 := n8_; have NB0_117 := n9_; have NB117_0 := n10_; clear n0_ n1_ n2_ n3_ n4_ n5_ n6_ n7_ n8_ n9_ n10_; clear hb hbox hg; have hnb16 := NB117_108.out; have hnc16 := NB108_117.out; have hnb17 := NB117_0.out; have hnc17 := NB0_117.out; have hcz18_0 : w15.cell? ⟨gb117, 0, none⟩ = some (.int .i64 0) := (blk_cell BK117.out 0).trans rfl; have hcz18_1 : w15.cell? ⟨gb117, 1, none⟩ = some (.int .i64 0) := (blk_cell BK117.out 1).trans rfl; have hcz18_2 : w15.cell? ⟨gb117, 2, none⟩ = some (.int .i64 0) := (blk_cell BK117.out 2).trans rfl; have hfz18_0 := blk_frozen BK117.out 0; have hfz18_1 := blk_frozen BK117.out 1; have hfz18_2 := blk_frozen BK117.out 2))
          have n0_ : Aside0 ((((w15.setCell ⟨gb117, 0, none⟩ (.int .i64 (wrap64 (16 + t109)))).setCell ⟨gb117, 1, none⟩ (.int .i64 (wrap64 (2 + t113)))).setCell ⟨gb117, 2, none⟩ (.int .i64 0)).heap[gb108]? = some (.cells #[.int .i64 0, .int .i64 0, .int .i64 0] 40 (0, 0))) := ⟨by (with_reducible repeat (first | refine blk_drewN ?_ _ | refine blk_drew ?_ | refine blk_alloc ?_ _)); refine blk_far ?_ NB108_117.out _; (with_reducible repeat (first | refine blk_drewN ?_ _ | refine blk_drew ?_ | refine blk_alloc ?_ _)); refine blk_far ?_ NB108_117.out _; (with_reducible repeat (first | refine blk_drewN ?_ _ | refine blk_drew ?_ | refine blk_alloc ?_ _)); refine blk_far ?_ NB108_117.out _; (with_reducible repeat (first | refine blk_drewN ?_ _ | refine blk_drew ?_ | refine blk_alloc ?_ _)); exact BK108.out⟩
          have n1_ : Aside0 ((((w15.setCell ⟨gb117, 0, none⟩ (.int .i64 (wrap64 (16 + t109)))).setCell ⟨gb117, 1, none⟩ (.int .i64 (wrap64 (2 + t113)))).setCell ⟨gb117, 2, none⟩ (.int .i64 0)).heap[gb117]? = some (.cells #[.int .i64 (wrap64 (16 + t109)), .int .i64 (wrap64 (2 + t113)), .int .i64 0] 40 (0, 0))) := ⟨by (with_reducible repeat (first | refine blk_drewN ?_ _ | refine blk_drew ?_ | refine blk_alloc ?_ _)); refine blk_put (cs := #[.int .i64 (wrap64 (16 + t109)), .int .i64 (wrap64 (2 + t113)), .int .i64 0]) ?_ 2 _ rfl; (with_reducible repeat (first | refine blk_drewN ?_ _ | refine blk_drew ?_ | refine blk_alloc ?_ _)); refine blk_put (cs := #[.int .i64 (wrap64 (16 + t109)), .int .i64 0, .int .i64 0]) ?_ 1 _ rfl; (with_reducible repeat (first | refine blk_drewN ?_ _ | refine blk_drew ?_ | refine blk_alloc ?_ _)); refine blk_put (cs := #[.int .i64 0, .int .i64 0, .int .i64 0]) ?_ 0 _ rfl; (with_reducible repeat (first | refine blk_drewN ?_ _ | refine blk_drew ?_ | refine blk_alloc ?_ _)); exact BK117.out⟩
          have n2_ : Aside0 (IsS157 w0 (((w15.setCell ⟨gb117, 0, none⟩ (.int .i64 (wrap64 (16 + t109)))).setCell ⟨gb117, 1, none⟩ (.int .i64 (wrap64 (2 + t113)))).setCell ⟨gb117, 2, none⟩ (.int .i64 0)) g s0_0 t114 t115 t116) := ⟨by repeat (first | (with_reducible first | exact HI0.out | apply IsS157.alloc | apply IsS157.drewN | apply IsS157.drew | apply IsS157.set_1 | apply IsS157.set_2 | apply IsS157.set_3 | refine IsS157.far ?_ NB0_108.out _ | refine IsS157.far ?_ NB0_117.out _) | exact HI0.out)⟩
          have n3_ : Aside0 (KeepBut w (((w15.setCell ⟨gb117, 0, none⟩ (.int .i64 (wrap64 (16 + t109)))).setCell ⟨gb117, 1, none⟩ (.int .i64 (wrap64 (2 + t113)))).setCell ⟨gb117, 2, none⟩ (.int .i64 0)) g none) := ⟨by repeat (first | (with_reducible first | exact HK.out | apply KeepBut.set_ | apply keep_drewN | apply keep_drew | apply keep_alloc | refine keep_far ?_ GW108.out _ | refine keep_far ?_ GW117.out _) | exact HK.out)⟩
          have n4_ : Aside0 (Below w0.heap.size w0 (((w15.setCell ⟨gb117, 0, none⟩ (.int .i64 (wrap64 (16 + t109)))).setCell ⟨gb117, 1, none⟩ (.int .i64 (wrap64 (2 + t113)))).setCell ⟨gb117, 2, none⟩ (.int .i64 0))) := ⟨by repeat (first | (with_reducible first | exact HB.out | apply below_alloc | apply pw_below_drewN | apply below_drew1 | refine below_set ?_ (IsS157.ge HI0.out) | refine below_set ?_ GE108.out | refine below_set ?_ GE117.out) | exact HB.out)⟩
          (try clear BK108)
          (try clear BK117)
          (try clear HI0)
          (try clear HK)
          (try clear HB)
          generalize (((w15.setCell ⟨gb117, 0, none⟩ (.int .i64 (wrap64 (16 + t109)))).setCell ⟨gb117, 1, none⟩ (.int .i64 (wrap64 (2 + t113)))).setCell ⟨gb117, 2, none⟩ (.int .i64 0)) = w19 at n0_ n1_ n2_ n3_ n4_ ⊢
          have BK108 := n0_
          have BK117 := n1_
          have HI0 := n2_
          have HK := n3_
          have HB := n4_
          clear n0_ n1_ n2_ n3_ n4_
          have n0_ := Aside0.mk (blk_drew BK108.out)
          have n1_ := Aside0.mk (blk_drew BK117.out)
          have n2_ := Aside0.mk (IsS157.drew HI0.out)
          have n3_ := Aside0.mk (keep_drew HK.out)
          have n4_ := Aside0.mk (below_drew1 HB.out)
          clear BK108
          clear BK117
          clear HI0
          clear HK
          clear HB
          have BK108 := n0_
          have BK117 := n1_
          have HI0 := n2_
          have HK := n3_
          have HB := n4_
          clear n0_ n1_ n2_ n3_ n4_
          refine start_ (n := 7) (S := fun w' => w'.cell? ⟨gb117, 0, none⟩ = some (.int .i64 (wrap64 (16 + t109))) ∧ w'.cell? ⟨gb117, 1, none⟩ = some (.int .i64 (wrap64 (2 + t113))) ∧ w'.cell? ⟨gb117, 2, none⟩ = some (.int .i64 0)) (ds := [6]) #[false, false, false, false, false, false, false] (by kernel_rfl) rfl rfl ⟨(blk_cell BK117.out 0).trans rfl, (blk_cell BK117.out 1).trans rfl, (blk_cell BK117.out 2).trans rfl⟩ (fun hHeld => ?_)
          generalize w19.drew = w20 at BK108 BK117 HI0 HK HB hHeld ⊢
          refine pure_ (i := 0) (N := some 11) (v := ?_) (a' := ?_) #[true, false, false, false, false, false, false] rfl rfl (by kernel_rfl) (fun _ _ _ h => h) (Or.inl ⟨by rfl, ?_⟩) ?_ ?_
          rotate_left
          · intro w'
            go_simp
            with_reducible rfl
          rotate_left
          · simp only [Act.put, List.setIfInBounds_toArray, List.set_cons_zero, List.set_cons_succ, i64_w, i32_w]
            rfl
          refine pure_ (i := 2) (N := some 13) (v := ?_) (a' := ?_) #[true, false, true, false, false, false, false] rfl rfl (by kernel_rfl) (fun _ _ _ h => h) (Or.inl ⟨by rfl, ?_⟩) ?_ ?_
          rotate_left
          · intro w'
            go_simp
            with_reducible rfl
          rotate_left
          · simp only [Act.put, List.setIfInBounds_toArray, List.set_cons_zero, List.set_cons_succ, i64_w, i32_w]
            rfl
          refine take_ (i := 1) (N := some 12) (v := ?_) (a' := ?_) #[true, true, true, false, false, false, false] rfl rfl (by kernel_rfl) (fun _ _ _ h => h) (Or.inl ⟨by rfl, ?_⟩) hHeld ?_ ?_
          rotate_left
          · rintro w' ⟨s0, s1, s2⟩
            go_simp
            with_reducible rfl
          rotate_left
          · simp only [Act.put, List.setIfInBounds_toArray, List.set_cons_zero, List.set_cons_succ, i64_w, i32_w]
            rfl
          refine one_ (i := 3) (N := some 14) #[true, true, true, true, false, false, false] rfl rfl (by kernel_rfl) (by decide) (fun K hK => ?_)
          refine goes_ Try.func77 (by kernel_rfl) rfl #[.pointer (some ⟨g, 0, none⟩), .int .i64 40] (by rfl) rfl rfl (by (try simp only [List.map_toArray, List.map_cons, List.map_nil]); first | done | rfl | (simp only [List.length_drop, List.length_take]; rfl)) ?_
          with_reducible refine (spec_l01Src_n.calls g s0_0 t114 t115 t116 40 t118 t119 t120 t121 w0 _ ?side1 ?side2 A4.out).mono ?_
          (case side1 => repeat (first | (with_reducible first | exact HI0.out | apply IsS157.alloc | apply IsS157.drewN | apply IsS157.drew | apply IsS157.set_1 | apply IsS157.set_2 | apply IsS157.set_3 | refine IsS157.far ?_ NB0_108.out _ | refine IsS157.far ?_ NB0_117.out _) | exact HI0.out))
          (case side2 => repeat (first | (with_reducible first | exact HB.out | apply below_alloc | apply pw_below_drewN | apply below_drew1 | refine below_set ?_ (IsS157.ge HI0.out) | refine below_set ?_ GE108.out | refine below_set ?_ GE117.out) | exact HB.out))
          rintro e w21 ⟨rfl, hi, hb, hk⟩
          refine ⟨_, rfl, ?_⟩
          have n0_ := Aside0.mk (KeepBut.blk hk (g' := gb108) (o := .cells #[.int .i64 0, .int .i64 0, .int .i64 0] 40 (0, 0)) (by (with_reducible repeat (first | refine blk_drewN ?_ _ | refine blk_drew ?_ | refine blk_alloc ?_ _)); exact BK108.out) NB108_0.out (by simp))
          have n1_ := Aside0.mk (KeepBut.blk hk (g' := gb117) (o := .cells #[.int .i64 (wrap64 (16 + t109)), .int .i64 (wrap64 (2 + t113)), .int .i64 0] 40 (0, 0)) (by (with_reducible repeat (first | refine blk_drewN ?_ _ | refine blk_drew ?_ | refine blk_alloc ?_ _)); exact BK117.out) NB117_0.out (by simp))
          have n2_ := Aside0.mk (KeepBut.trans (by repeat (first | (with_reducible first | exact HK.out | apply KeepBut.set_ | apply keep_drewN | apply keep_drew | apply keep_alloc | refine keep_far ?_ GW108.out _ | refine keep_far ?_ GW117.out _) | exact HK.out)) hk (.inl rfl))
          have n3_ := Aside0.mk (hb)
          have n4_ := Aside0.mk (hi)
          clear BK108
          clear BK117
          clear HK
          clear HB
          clear HI0
          have BK108 := n0_
          have BK117 := n1_
          have HK := n2_
          have HB := n3_
          have HI0 := n4_
          clear n0_ n1_ n2_ n3_ n4_
          (try clear hb)
          (try clear hb2)
          (try clear hk)
          (try clear hi)
          refine hK.out _ _ ⟨(blk_cell BK117.out 0).trans rfl, (blk_cell BK117.out 1).trans rfl, (blk_cell BK117.out 2).trans rfl⟩ (fun hHeld => ?_)
          clear hK K
          refine norm_ (a' := ?_) ?_ ?_
          rotate_left
          · show Act.put _ (some 14) _ = _
            simp only [Act.put, List.setIfInBounds_toArray, List.set_cons_zero, List.set_cons_succ, i64_w, i32_w]
            rfl
          refine pure_ (i := 4) (N := some 15) (v := ?_) (a' := ?_) #[true, true, true, true, true, false, false] rfl rfl (by kernel_rfl) (fun _ _ _ h => h) (Or.inl ⟨by rfl, ?_⟩) ?_ ?_
          rotate_left
          · intro w'
            go_simp
            with_reducible rfl
          rotate_left
          · simp only [Act.put, List.setIfInBounds_toArray, List.set_cons_zero, List.set_cons_succ, i64_w, i32_w]
            rfl
          refine pure_ (i := 5) (N := some 16) (v := ?_) (a' := ?_) #[true, true, true, true, true, true, false] rfl rfl (by kernel_rfl) (fun _ _ _ h => h) (Or.inl ⟨by rfl, ?_⟩) ?_ ?_
          rotate_left
          · intro w'
            go_simp
            with_reducible rfl
          rotate_left
          · simp only [Act.put, List.setIfInBounds_toArray, List.set_cons_zero, List.set_cons_succ, i64_w, i32_w]
            rfl
          refine last_ (i := 6) (N := none) #[true, true, true, true, true, true, true] rfl rfl (by kernel_rfl) (by decide) (fun K hK => ?_)
          have hs22 : w21.cell? ⟨gb117, 2, none⟩ = some (.int .i64 0) := (blk_cell BK117.out 2).trans rfl
          have hfs22 := blk_frozen BK117.out 2
          have hns22_0 := NB108_117.out
          have hms22_0 := NB117_108.out
          refine skip_ (w1 := ?_) (by rfl) rfl ?_ ?_
          rotate_left
          · go_simp
            rfl
          refine hK.out _ _ ?_
          clear hK K
          refine done_ (by kernel_rfl) ?_
          try go_wp2_with (first | ((with_reducible refine gate_callee (f := 85) rfl ?_); refine goesL_ (some 18) rfl rfl Try.func85 (by kernel_rfl) rfl #[.pointer (some ⟨g, 0, none⟩), .int .i64 15] rfl (by (try simp only [List.map_toArray, List.map_cons, List.map_nil]); first | done | rfl | (simp only [List.length_drop, List.length_take]; rfl)) ?_; (with_reducible refine (spec_l01Src_one.calls g s0_0 t119 t120 t121 15 true t123 t124 t125 w0 _ ?side1 ?side2 A5.out).mono ?_); (case side1 => repeat (first | (with_reducible first | exact HI0.out | apply IsS157.alloc | apply IsS157.drewN | apply IsS157.drew | apply IsS157.set_1 | apply IsS157.set_2 | apply IsS157.set_3 | refine IsS157.far ?_ NB0_108.out _ | refine IsS157.far ?_ NB0_117.out _) | exact HI0.out)); (case side2 => repeat (first | (with_reducible first | exact HB.out | apply below_alloc | apply pw_below_drewN | apply below_drew1 | refine below_set ?_ (IsS157.ge HI0.out) | refine below_set ?_ GE108.out | refine below_set ?_ GE117.out) | exact HB.out)); rintro e w23 ⟨rfl, hi, hb, hk⟩; refine ⟨_, rfl, ?_⟩; have n0_ := Aside0.mk (KeepBut.blk hk (g' := gb108) (o := .cells #[.int .i64 0, .int .i64 0, .int .i64 0] 40 (0, 0)) (by (with_reducible repeat (first | refine blk_drewN ?_ _ | refine blk_drew ?_ | refine blk_alloc ?_ _)); refine blk_far ?_ NB108_117.out _; (with_reducible repeat (first | refine blk_drewN ?_ _ | refine blk_drew ?_ | refine blk_alloc ?_ _)); exact BK108.out) NB108_0.out (by simp)); have n1_ := Aside0.mk (KeepBut.blk hk (g' := gb117) (o := .cells #[.int .i64 (wrap64 (16 + t109)), .int .i64 (wrap64 (2 + t113)), .int .i64 (wrap64 ((wrap64 (16 + t109)) + t118))] 40 (0, 0)) (by (with_reducible repeat (first | refine blk_drewN ?_ _ | refine blk_drew ?_ | refine blk_alloc ?_ _)); refine blk_put (cs := #[.int .i64 (wrap64 (16 + t109)), .int .i64 (wrap64 (2 + t113)), .int .i64 0]) ?_ 2 _ rfl; (with_reducible repeat (first | refine blk_drewN ?_ _ | refine blk_drew ?_ | refine blk_alloc ?_ _)); exact BK117.out) NB117_0.out (by simp)); have n2_ := Aside0.mk (KeepBut.trans (by repeat (first | (with_reducible first | exact HK.out | apply KeepBut.set_ | apply keep_drewN | apply keep_drew | apply keep_alloc | refine keep_far ?_ GW108.out _ | refine keep_far ?_ GW117.out _) | exact HK.out)) hk (.inl rfl)); have n3_ := Aside0.mk (hb); have n4_ := Aside0.mk (hi); clear BK108; clear BK117; clear HK; clear HB; clear HI0; have BK108 := n0_; have BK117 := n1_; have HK := n2_; have HB := n3_; have HI0 := n4_; clear n0_ n1_ n2_ n3_ n4_; (try clear hb); (try clear hb2); (try clear hk); (try clear hi)) | ((with_reducible refine gate_callee (f := 77) rfl ?_); refine goesL_ (some 20) rfl rfl Try.func77 (by kernel_rfl) rfl #[.pointer (some ⟨g, 0, none⟩), .int .i64 3] rfl (by (try simp only [List.map_toArray, List.map_cons, List.map_nil]); first | done | rfl | (simp only [List.length_drop, List.length_take]; rfl)) ?_; (with_reducible refine (spec_l01Src_n.calls g s0_0 t123 t124 t125 3 t126 t127 t128 t129 w0 _ ?side1 ?side2 A7.out).mono ?_); (case side1 => repeat (first | (with_reducible first | exact HI0.out | apply IsS157.alloc | apply IsS157.drewN | apply IsS157.drew | apply IsS157.set_1 | apply IsS157.set_2 | apply IsS157.set_3 | refine IsS157.far ?_ NB0_108.out _ | refine IsS157.far ?_ NB0_117.out _) | exact HI0.out)); (case side2 => repeat (first | (with_reducible first | exact HB.out | apply below_alloc | apply pw_below_drewN | apply below_drew1 | refine below_set ?_ (IsS157.ge HI0.out) | refine below_set ?_ GE108.out | refine below_set ?_ GE117.out) | exact HB.out)); rintro e w24 ⟨rfl, hi, hb, hk⟩; refine ⟨_, rfl, ?_⟩; have n0_ := Aside0.mk (KeepBut.blk hk (g' := gb108) (o := .cells #[.int .i64 0, .int .i64 0, .int .i64 0] 40 (0, 0)) (by (with_reducible repeat (first | refine blk_drewN ?_ _ | refine blk_drew ?_ | refine blk_alloc ?_ _)); exact BK108.out) NB108_0.out (by simp)); have n1_ := Aside0.mk (KeepBut.blk hk (g' := gb117) (o := .cells #[.int .i64 (wrap64 (16 + t109)), .int .i64 (wrap64 (2 + t113)), .int .i64 (wrap64 ((wrap64 (16 + t109)) + t118))] 40 (0, 0)) (by (with_reducible repeat (first | refine blk_drewN ?_ _ | refine blk_drew ?_ | refine blk_alloc ?_ _)); exact BK117.out) NB117_0.out (by simp)); have n2_ := Aside0.mk (KeepBut.trans (by repeat (first | (with_reducible first | exact HK.out | apply KeepBut.set_ | apply keep_drewN | apply keep_drew | apply keep_alloc | refine keep_far ?_ GW108.out _ | refine keep_far ?_ GW117.out _) | exact HK.out)) hk (.inl rfl)); have n3_ := Aside0.mk (hb); have n4_ := Aside0.mk (hi); clear BK108; clear BK117; clear HK; clear HB; clear HI0; have BK108 := n0_; have BK117 := n1_; have HK := n2_; have HB := n3_; have HI0 := n4_; clear n0_ n1_ n2_ n3_ n4_; (try clear hb); (try clear hb2); (try clear hk); (try clear hi)) | ((with_reducible refine gate_dst (N := 34) rfl ?_); refine Kd.R_lit (Kd.int .i64) _ 2 ?hg (N := 34) ?hd (xs := ([15, 16, 1000, 1001] : List Int)) (inner := [.int .i64 15, .int .i64 16, .int .i64 1000, .int .i64 1001]) (ok := fun _ => True) (okp := fun _ => True) ?hr ?hp (fun _ hk => hk) trivial (Below.refl _ _) (Nat.le_refl _) (by simp) ?_; (case hd => rfl); (case hg => rfl); (case hr => first | (go_simp; done) | (go_simp; rfl)); (case hp => exact (Reps.one (show Kd.M (Kd.int .i64) _ _ _ 15 [.int .i64 15] from rfl) (Reps.one (show Kd.M (Kd.int .i64) _ _ _ 16 [.int .i64 16] from rfl) (Reps.one (show Kd.M (Kd.int .i64) _ _ _ 1000 [.int .i64 1000] from rfl) (Reps.one (show Kd.M (Kd.int .i64) _ _ _ 1001 [.int .i64 1001] from rfl) (Reps.none _ _)))))); intro v131 w25 ho26 hb hg_ hnew_; clear hg_ hnew_; (first | rw [← Ny130.out] at ho26 | (simp only [Int.reduceToNat] at ho26; rw [← Ny130.out] at ho26)); have n0_ := Aside0.mk (Kd.R_lower ho26 (keep_size (w := w) (g := g) (row := none) (by repeat (first | (with_reducible first | exact HK.out | apply KeepBut.set_ | apply keep_drewN | apply keep_drew | apply keep_alloc | refine keep_far ?_ GW108.out _ | refine keep_far ?_ GW117.out _) | exact HK.out)))); have n1_ := Aside0.mk (IsS157.below (by repeat (first | (with_reducible first | exact HI0.out | apply IsS157.alloc | apply IsS157.drewN | apply IsS157.drew | apply IsS157.set_1 | apply IsS157.set_2 | apply IsS157.set_3 | refine IsS157.far ?_ NB0_108.out _ | refine IsS157.far ?_ NB0_117.out _) | exact HI0.out)) hb); have n2_ := Aside0.mk (blk_below (g := gb108) (o := .cells #[.int .i64 0, .int .i64 0, .int .i64 0] 40 (0, 0)) (by (with_reducible repeat (first | refine blk_drewN ?_ _ | refine blk_drew ?_ | refine blk_alloc ?_ _)); exact BK108.out) hb); have n3_ := Aside0.mk (blk_below (g := gb117) (o := .cells #[.int .i64 (wrap64 (16 + t109)), .int .i64 (wrap64 (2 + t113)), .int .i64 (wrap64 ((wrap64 (16 + t109)) + t118))] 40 (0, 0)) (by (with_reducible repeat (first | refine blk_drewN ?_ _ | refine blk_drew ?_ | refine blk_alloc ?_ _)); exact BK117.out) hb); have n4_ := Aside0.mk (KeepBut.trans (by repeat (first | (with_reducible first | exact HK.out | apply KeepBut.set_ | apply keep_drewN | apply keep_drew | apply keep_alloc | refine keep_far ?_ GW108.out _ | refine keep_far ?_ GW117.out _) | exact HK.out)) (KeepBut.of_below hb g none) (.inl rfl)); have n5_ := Aside0.mk (below_step (by repeat (first | (with_reducible first | exact HB.out | apply below_alloc | apply pw_below_drewN | apply below_drew1 | refine below_set ?_ (IsS157.ge HI0.out) | refine below_set ?_ GE108.out | refine below_set ?_ GE117.out) | exact HB.out)) hb); clear HI0; clear BK108; clear BK117; clear HK; clear HB; have HO132 := n0_; have HI0 := n1_; have BK108 := n2_; have BK117 := n3_; have HK := n4_; have HB := n5_; clear n0_ n1_ n2_ n3_ n4_ n5_; clear hb ho26) | ((with_reducible refine gate_callee (f := 77) rfl ?_); refine goesL_ (some 36) rfl rfl Try.func77 (by kernel_rfl) rfl #[.pointer (some ⟨g, 0, none⟩), .int .i64 4] rfl (by (try simp only [List.map_toArray, List.map_cons, List.map_nil]); first | done | rfl | (simp only [List.length_drop, List.length_take]; rfl)) ?_; (with_reducible refine (spec_l01Src_n.calls g s0_0 t127 t128 t129 4 t133 t134 t135 t136 w0 _ ?side1 ?side2 A9.out).mono ?_); (case side1 => repeat (first | (with_reducible first | exact HI0.out | apply IsS157.alloc | apply IsS157.drewN | apply IsS157.drew | apply IsS157.set_1 | apply IsS157.set_2 | apply IsS157.set_3 | refine IsS157.far ?_ NB0_108.out _ | refine IsS157.far ?_ NB0_117.out _) | exact HI0.out)); (case side2 => repeat (first | (with_reducible first | exact HB.out | apply below_alloc | apply pw_below_drewN | apply below_drew1 | refine below_set ?_ (IsS157.ge HI0.out) | refine below_set ?_ GE108.out | refine below_set ?_ GE117.out) | exact HB.out)); rintro e w27 ⟨rfl, hi, hb, hk⟩; refine ⟨_, rfl, ?_⟩; have n0_ := Aside0.mk (KeepBut.blk hk (g' := gb108) (o := .cells #[.int .i64 0, .int .i64 0, .int .i64 0] 40 (0, 0)) (by (with_reducible repeat (first | refine blk_drewN ?_ _ | refine blk_drew ?_ | refine blk_alloc ?_ _)); exact BK108.out) NB108_0.out (by simp)); have n1_ := Aside0.mk (KeepBut.blk hk (g' := gb117) (o := .cells #[.int .i64 (wrap64 (16 + t109)), .int .i64 (wrap64 (2 + t113)), .int .i64 (wrap64 ((wrap64 (16 + t109)) + t118))] 40 (0, 0)) (by (with_reducible repeat (first | refine blk_drewN ?_ _ | refine blk_drew ?_ | refine blk_alloc ?_ _)); exact BK117.out) NB117_0.out (by simp)); have n2_ := Aside0.mk (Kd.R_mono (Kd.R_keep (IsS157.apart (show IsS157 w0 _ g s0_0 t127 t128 t129 from by repeat (first | (with_reducible first | exact HI0.out | apply IsS157.alloc | apply IsS157.drewN | apply IsS157.drew | apply IsS157.set_1 | apply IsS157.set_2 | apply IsS157.set_3 | refine IsS157.far ?_ NB0_108.out _ | refine IsS157.far ?_ NB0_117.out _) | exact HI0.out)) (by (with_reducible repeat (first | apply Kd.R_alloc | apply Kd.R_drewN | apply Kd.R_drew)); exact HO132.out) (by decide)) hk (fun _ h => h.2)) (fun _ h => h.1)); have n3_ := Aside0.mk (KeepBut.trans (by repeat (first | (with_reducible first | exact HK.out | apply KeepBut.set_ | apply keep_drewN | apply keep_drew | apply keep_alloc | refine keep_far ?_ GW108.out _ | refine keep_far ?_ GW117.out _) | exact HK.out)) hk (.inl rfl)); have n4_ := Aside0.mk (hb); have n5_ := Aside0.mk (hi); clear BK108; clear BK117; clear HO132; clear HK; clear HB; clear HI0; have BK108 := n0_; have BK117 := n1_; have HO132 := n2_; have HK := n3_; have HB := n4_; have HI0 := n5_; clear n0_ n1_ n2_ n3_ n4_ n5_; (try clear hb); (try clear hb2); (try clear hk); (try clear hi); obtain ⟨Ao28, co28, eo28⟩ := Kd.R_slice HO132.out; subst eo28; have p137 : 0 ≤ (t133 : Int) := of_decide_eq_true (by first | (with_reducible assumption) | assumption); have q137 : t133 < (y130.length : Int) := of_decide_eq_true (by first | (with_reducible assumption) | assumption); obtain ⟨ad137, e137, hx137_0⟩ := Kd.at_int (Kd.R_reads' HO132.out).2.2 t133 p137 q137; cases e137; replace p137 := eq_true p137; replace q137 := eq_true q137; have hcz29_0 : w27.cell? ⟨gb117, 0, none⟩ = some (.int .i64 (wrap64 (16 + t109))) := (blk_cell BK117.out 0).trans rfl; have hcz29_1 : w27.cell? ⟨gb117, 1, none⟩ = some (.int .i64 (wrap64 (2 + t113))) := (blk_cell BK117.out 1).trans rfl; have hcz29_2 : w27.cell? ⟨gb117, 2, none⟩ = some (.int .i64 (wrap64 ((wrap64 (16 + t109)) + t118))) := (blk_cell BK117.out 2).trans rfl; have hfz29_0 := blk_frozen BK117.out 0; have hfz29_1 := blk_frozen BK117.out 1; have hfz29_2 := blk_frozen BK117.out 2; have hnb30 := NB108_0.out; have hnc30 := NB0_108.out; have hcz31_0 : w27.cell? ⟨gb108, 0, none⟩ = some (.int .i64 0) := (blk_cell BK108.out 0).trans rfl; have hcz31_1 : w27.cell? ⟨gb108, 1, none⟩ = some (.int .i64 0) := (blk_cell BK108.out 1).trans rfl; have hcz31_2 : w27.cell? ⟨gb108, 2, none⟩ = some (.int .i64 0) := (blk_cell BK108.out 2).trans rfl; have hfz31_0 := blk_frozen BK108.out 0; have hfz31_1 := blk_frozen BK108.out 1; have hfz31_2 := blk_frozen BK108.out 2))
          refine bodyPost_ret (results_cell_row rfl _ _ gb108 40 #[.int .i64 (rd y130 t133), .int .i64 (wrap64 (2 + t113)), .int .i64 (wrap64 ((wrap64 (16 + t109)) + t118))] (0, 0) _ rfl (by (with_reducible repeat (first | refine blk_drewN ?_ _ | refine blk_drew ?_ | refine blk_alloc ?_ _)); refine blk_put (cs := #[.int .i64 (rd y130 t133), .int .i64 (wrap64 (2 + t113)), .int .i64 0]) ?_ 2 _ rfl; (with_reducible repeat (first | refine blk_drewN ?_ _ | refine blk_drew ?_ | refine blk_alloc ?_ _)); refine blk_put (cs := #[.int .i64 (rd y130 t133), .int .i64 0, .int .i64 0]) ?_ 1 _ rfl; (with_reducible repeat (first | refine blk_drewN ?_ _ | refine blk_drew ?_ | refine blk_alloc ?_ _)); refine blk_put (cs := #[.int .i64 0, .int .i64 0, .int .i64 0]) ?_ 0 _ rfl; (with_reducible repeat (first | refine blk_drewN ?_ _ | refine blk_drew ?_ | refine blk_alloc ?_ _)); refine blk_far ?_ NB108_117.out _; (with_reducible repeat (first | refine blk_drewN ?_ _ | refine blk_drew ?_ | refine blk_alloc ?_ _)); exact BK108.out) Try.underlying40 rfl (by kernel_rfl)) rfl ?_
          exact ⟨by first | rfl | (simp [errW_none, errW_some] <;> rfl) | (simp [*, errW_none, errW_some] <;> rfl), by repeat (first | (with_reducible first | exact HI0.out | apply IsS157.alloc | apply IsS157.drewN | apply IsS157.drew | apply IsS157.set_1 | apply IsS157.set_2 | apply IsS157.set_3 | refine IsS157.far ?_ NB0_108.out _ | refine IsS157.far ?_ NB0_117.out _) | exact HI0.out), by repeat (first | (with_reducible first | exact HB.out | apply below_alloc | apply pw_below_drewN | apply below_drew1 | refine below_set ?_ (IsS157.ge HI0.out) | refine below_set ?_ GE108.out | refine below_set ?_ GE117.out) | exact HB.out), by repeat (first | (with_reducible first | exact HK.out | apply KeepBut.set_ | apply keep_drewN | apply keep_drew | apply keep_alloc | refine keep_far ?_ GW108.out _ | refine keep_far ?_ GW117.out _) | exact HK.out)⟩
        · rw [if_neg c11] at H
          exact absurd H (by simp)
      · rw [if_neg c10] at H
        exact absurd H (by simp)
    · rw [if_neg c8] at H
      have c8b0 : (t126 == 0) = false := beq_eq_false_iff_ne.mpr c8
      have c8b1 : (t126 != 0) = true := bne_iff_ne.mpr c8
      by_cases c32 : t126 = 1
      · rw [if_pos c32] at H
        have c32b0 : (t126 == 1) = true := beq_iff_eq.mpr c32
        have c32b1 : (t126 != 1) = false := bne_eq_false_iff_eq.mpr c32
        clear c32
        obtain ⟨y138, hy138⟩ : ∃ y_ : List Int, y_ = (([(-1), 0, 12, 13] : List Int)) := ⟨_, rfl⟩
        replace H : ((spec_l01Src_n.f s0_0 t127 t128 t129 4).bind fun bt141 => (if 0 ≤ bt141.1 then (if bt141.1 < (y138.length : Int) then (some (wrap64 (16 + t109), rd y138 bt141.1, wrap64 ((wrap64 (16 + t109)) + t118), bt141.2.1, bt141.2.2.1, bt141.2.2.2)) else (none)) else (none))) = some (r1, r2, r3, r4, r5, r6) := by first | (rw [hy138]; with_reducible exact H) | (have H2_ := (Option.bind_some _ _).symm.trans H; rw [hy138]; with_reducible exact H2_) | (have H2_ := (Option.bind_some _ _).symm.trans H; with_reducible exact H2_) | with_reducible exact H | (rw [hy138]; exact H) | exact H
        have Ny138 := Aside0.mk hy138
        clear hy138
        replace H := Option.bind_eq_some_iff.mp H
        obtain ⟨⟨t141, t142, t143, t144⟩, A330, H⟩ := H
        replace H : (if 0 ≤ t141 then (if t141 < (y138.length : Int) then (some (wrap64 (16 + t109), rd y138 t141, wrap64 ((wrap64 (16 + t109)) + t118), t142, t143, t144)) else (none)) else (none)) = some (r1, r2, r3, r4, r5, r6) := H
        have A33 := Aside0.mk A330
        clear A330
        by_cases c34 : 0 ≤ t141
        · rw [if_pos c34] at H
          have c34b0 : decide (0 ≤ t141) = true := decide_eq_true c34
          clear c34
          by_cases c35 : t141 < (y138.length : Int)
          · rw [if_pos c35] at H
            have c35b0 : decide (t141 < (y138.length : Int)) = true := decide_eq_true c35
            clear c35
            simp only [Option.some.injEq, Prod.mk.injEq] at H
            obtain ⟨rfl, rfl, rfl, rfl, rfl, rfl⟩ := H
            go_enter Try.func147, Try.ntmps147
            try go_wp2_with (first | ((with_reducible refine gate_dst (N := 2) rfl ?_); refine box_event ?hg (N := 2) ?hd (cs := #[.int .i64 0, .int .i64 0, .int .i64 0]) (t := 40) ?hr ?_; (case hd => rfl); (case hg => rfl); (case hr => first | (go_simp; done) | (go_simp; rfl)); intro gb108 hg w36 hbox hb; have n0_ := Aside0.mk (IsS157.below (by repeat (first | (with_reducible first | exact HI0.out | apply IsS157.alloc | apply IsS157.drewN | apply IsS157.drew | apply IsS157.set_1 | apply IsS157.set_2 | apply IsS157.set_3) | exact HI0.out)) hb); have n1_ := Aside0.mk (KeepBut.trans (by repeat (first | (with_reducible first | exact HK.out | apply KeepBut.set_ | apply keep_drewN | apply keep_drew | apply keep_alloc) | exact HK.out)) (KeepBut.of_below hb g none) (.inl rfl)); have n2_ := Aside0.mk (below_step (by repeat (first | (with_reducible first | exact HB.out | apply below_alloc | apply pw_below_drewN | apply below_drew1 | refine below_set ?_ (IsS157.ge HI0.out)) | exact HB.out)) hb); have n3_ := Aside0.mk (hbox); have n4_ := Aside0.mk ((by rw [hg]; exact (keep_size (w := w) (g := g) (row := none) (by repeat (first | (with_reducible first | exact HK.out | apply KeepBut.set_ | apply keep_drewN | apply keep_drew | apply keep_alloc) | exact HK.out))) : w.heap.size ≤ gb108)); have n5_ := Aside0.mk ((Nat.le_trans HW0.out (by rw [hg]; exact (keep_size (w := w) (g := g) (row := none) (by repeat (first | (with_reducible first | exact HK.out | apply KeepBut.set_ | apply keep_drewN | apply keep_drew | apply keep_alloc) | exact HK.out))) : w.heap.size ≤ gb108) : w0.heap.size ≤ gb108)); have n6_ := Aside0.mk ((by rw [hg]; exact Nat.ne_of_lt (IsS157.lt (show IsS157 w0 _ g s0_0 s0_1 s0_2 s0_3 from by repeat (first | (with_reducible first | exact HI0.out | apply IsS157.alloc | apply IsS157.drewN | apply IsS157.drew | apply IsS157.set_1 | apply IsS157.set_2 | apply IsS157.set_3) | exact HI0.out))) : g ≠ gb108)); have n7_ := Aside0.mk ((by rw [hg]; exact Nat.ne_of_gt (IsS157.lt (show IsS157 w0 _ g s0_0 s0_1 s0_2 s0_3 from by repeat (first | (with_reducible first | exact HI0.out | apply IsS157.alloc | apply IsS157.drewN | apply IsS157.drew | apply IsS157.set_1 | apply IsS157.set_2 | apply IsS157.set_3) | exact HI0.out))) : gb108 ≠ g)); clear HI0; clear HK; clear HB; have HI0 := n0_; have HK := n1_; have HB := n2_; have BK108 := n3_; have GW108 := n4_; have GE108 := n5_; have NB0_108 := n6_; have NB108_0 := n7_; clear n0_ n1_ n2_ n3_ n4_ n5_ n6_ n7_; clear hb hbox hg) | ((with_reducible refine gate_callee (f := 77) rfl ?_); refine goesL_ (some 5) rfl rfl Try.func77 (by kernel_rfl) rfl #[.pointer (some ⟨g, 0, none⟩), .int .i64 8] rfl (by (try simp only [List.map_toArray, List.map_cons, List.map_nil]); first | done | rfl | (simp only [List.length_drop, List.length_take]; rfl)) ?_; (with_reducible refine (spec_l01Src_n.calls g s0_0 s0_1 s0_2 s0_3 8 t109 t110 t111 t112 w0 _ ?side1 ?side2 A2.out).mono ?_); (case side1 => repeat (first | (with_reducible first | exact HI0.out | apply IsS157.alloc | apply IsS157.drewN | apply IsS157.drew | apply IsS157.set_1 | apply IsS157.set_2 | apply IsS157.set_3 | refine IsS157.far ?_ NB0_108.out _) | exact HI0.out)); (case side2 => repeat (first | (with_reducible first | exact HB.out | apply below_alloc | apply pw_below_drewN | apply below_drew1 | refine below_set ?_ (IsS157.ge HI0.out) | refine below_set ?_ GE108.out) | exact HB.out)); rintro e w37 ⟨rfl, hi, hb, hk⟩; refine ⟨_, rfl, ?_⟩; have n0_ := Aside0.mk (KeepBut.blk hk (g' := gb108) (o := .cells #[.int .i64 0, .int .i64 0, .int .i64 0] 40 (0, 0)) (by (with_reducible repeat (first | refine blk_drewN ?_ _ | refine blk_drew ?_ | refine blk_alloc ?_ _)); exact BK108.out) NB108_0.out (by simp)); have n1_ := Aside0.mk (KeepBut.trans (by repeat (first | (with_reducible first | exact HK.out | apply KeepBut.set_ | apply keep_drewN | apply keep_drew | apply keep_alloc | refine keep_far ?_ GW108.out _) | exact HK.out)) hk (.inl rfl)); have n2_ := Aside0.mk (hb); have n3_ := Aside0.mk (hi); clear BK108; clear HK; clear HB; clear HI0; have BK108 := n0_; have HK := n1_; have HB := n2_; have HI0 := n3_; clear n0_ n1_ n2_ n3_; (try clear hb); (try clear hb2); (try clear hk); (try clear hi)) | ((with_reducible refine gate_callee (f := 77) rfl ?_); refine goesL_ (some 8) rfl rfl Try.func77 (by kernel_rfl) rfl #[.pointer (some ⟨g, 0, none⟩), .int .i64 3] rfl (by (try simp only [List.map_toArray, List.map_cons, List.map_nil]); first | done | rfl | (simp only [List.length_drop, List.length_take]; rfl)) ?_; (with_reducible refine (spec_l01Src_n.calls g s0_0 t110 t111 t112 3 t113 t114 t115 t116 w0 _ ?side1 ?side2 A3.out).mono ?_); (case side1 => repeat (first | (with_reducible first | exact HI0.out | apply IsS157.alloc | apply IsS157.drewN | apply IsS157.drew | apply IsS157.set_1 | apply IsS157.set_2 | apply IsS157.set_3 | refine IsS157.far ?_ NB0_108.out _) | exact HI0.out)); (case side2 => repeat (first | (with_reducible first | exact HB.out | apply below_alloc | apply pw_below_drewN | apply below_drew1 | refine below_set ?_ (IsS157.ge HI0.out) | refine below_set ?_ GE108.out) | exact HB.out)); rintro e w38 ⟨rfl, hi, hb, hk⟩; refine ⟨_, rfl, ?_⟩; have n0_ := Aside0.mk (KeepBut.blk hk (g' := gb108) (o := .cells #[.int .i64 0, .int .i64 0, .int .i64 0] 40 (0, 0)) (by (with_reducible repeat (first | refine blk_drewN ?_ _ | refine blk_drew ?_ | refine blk_alloc ?_ _)); exact BK108.out) NB108_0.out (by simp)); have n1_ := Aside0.mk (KeepBut.trans (by repeat (first | (with_reducible first | exact HK.out | apply KeepBut.set_ | apply keep_drewN | apply keep_drew | apply keep_alloc | refine keep_far ?_ GW108.out _) | exact HK.out)) hk (.inl rfl)); have n2_ := Aside0.mk (hb); have n3_ := Aside0.mk (hi); clear BK108; clear HK; clear HB; clear HI0; have BK108 := n0_; have HK := n1_; have HB := n2_; have HI0 := n3_; clear n0_ n1_ n2_ n3_; (try clear hb); (try clear hb2); (try clear hk); (try clear hi)) | ((with_reducible refine gate_dst (N := 3) rfl ?_); refine box_event ?hg (N := 3) ?hd (cs := #[.int .i64 0, .int .i64 0, .int .i64 0]) (t := 40) ?hr ?_; (case hd => rfl); (case hg => rfl); (case hr => first | (go_simp; done) | (go_simp; rfl)); intro gb117 hg w39 hbox hb; have n0_ := Aside0.mk (IsS157.below (by repeat (first | (with_reducible first | exact HI0.out | apply IsS157.alloc | apply IsS157.drewN | apply IsS157.drew | apply IsS157.set_1 | apply IsS157.set_2 | apply IsS157.set_3 | refine IsS157.far ?_ NB0_108.out _) | exact HI0.out)) hb); have n1_ := Aside0.mk (blk_below (g := gb108) (o := .cells #[.int .i64 0, .int .i64 0, .int .i64 0] 40 (0, 0)) (by (with_reducible repeat (first | refine blk_drewN ?_ _ | refine blk_drew ?_ | refine blk_alloc ?_ _)); exact BK108.out) hb); have n2_ := Aside0.mk (KeepBut.trans (by repeat (first | (with_reducible first | exact HK.out | apply KeepBut.set_ | apply keep_drewN | apply keep_drew | apply keep_alloc | refine keep_far ?_ GW108.out _) | exact HK.out)) (KeepBut.of_below hb g none) (.inl rfl)); have n3_ := Aside0.mk (below_step (by repeat (first | (with_reducible first | exact HB.out | apply below_alloc | apply pw_below_drewN | apply below_drew1 | refine below_set ?_ (IsS157.ge HI0.out) | refine below_set ?_ GE108.out) | exact HB.out)) hb); have n4_ := Aside0.mk (hbox); have n5_ := Aside0.mk ((by rw [hg]; exact (keep_size (w := w) (g := g) (row := none) (by repeat (first | (with_reducible first | exact HK.out | apply KeepBut.set_ | apply keep_drewN | apply keep_drew | apply keep_alloc | refine keep_far ?_ GW108.out _) | exact HK.out))) : w.heap.size ≤ gb117)); have n6_ := Aside0.mk ((Nat.le_trans HW0.out (by rw [hg]; exact (keep_size (w := w) (g := g) (row := none) (by repeat (first | (with_reducible first | exact HK.out | apply KeepBut.set_ | apply keep_drewN | apply keep_drew | apply keep_alloc | refine keep_far ?_ GW108.out _) | exact HK.out))) : w.heap.size ≤ gb117) : w0.heap.size ≤ gb117)); have n7_ := Aside0.mk ((by rw [hg]; exact Nat.ne_of_lt (blk_lt (g := gb108) (o := .cells #[.int .i64 0, .int .i64 0, .int .i64 0] 40 (0, 0)) (by (with_reducible repeat (first | refine blk_drewN ?_ _ | refine blk_drew ?_ | refine blk_alloc ?_ _)); exact BK108.out)) : gb108 ≠ gb117)); have n8_ := Aside0.mk ((by rw [hg]; exact Nat.ne_of_gt (blk_lt (g := gb108) (o := .cells #[.int .i64 0, .int .i64 0, .int .i64 0] 40 (0, 0)) (by (with_reducible repeat (first | refine blk_drewN ?_ _ | refine blk_drew ?_ | refine blk_alloc ?_ _)); exact BK108.out)) : gb117 ≠ gb108)); have n9_ := Aside0.mk ((by rw [hg]; exact Nat.ne_of_lt (IsS157.lt (show IsS157 w0 _ g s0_0 t114 t115 t116 from by repeat (first | (with_reducible first | exact HI0.out | apply IsS157.alloc | apply IsS157.drewN | apply IsS157.drew | apply IsS157.set_1 | apply IsS157.set_2 | apply IsS157.set_3 | refine IsS157.far ?_ NB0_108.out _) | exact HI0.out))) : g ≠ gb117)); have n10_ := Aside0.mk ((by rw [hg]; exact Nat.ne_of_gt (IsS157.lt (show IsS157 w0 _ g s0_0 t114 t115 t116 from by repeat (first | (with_reducible first | exact HI0.out | apply IsS157.alloc | apply IsS157.drewN | apply IsS157.drew | apply IsS157.set_1 | apply IsS157.set_2 | apply IsS157.set_3 | refine IsS157.far ?_ NB0_108.out _) | exact HI0.out))) : gb117 ≠ g)); clear HI0; clear BK108; clear HK; clear HB; have HI0 := n0_; have BK108 := n1_; have HK := n2_; have HB := n3_; have BK117 := n4_; have GW117 := n5_; have GE117 := n6_; have NB108_117 := n7_; have NB117_108 := n8_; have NB0_117 := n9_; have NB117_0 := n10_; clear n0_ n1_ n2_ n3_ n4_ n5_ n6_ n7_ n8_ n9_ n10_; clear hb hbox hg; have hnb40 := NB117_108.out; have hnc40 := NB108_117.out; have hnb41 := NB117_0.out; have hnc41 := NB0_117.out; have hcz42_0 : w39.cell? ⟨gb117, 0, none⟩ = some (.int .i64 0) := (blk_cell BK117.out 0).trans rfl; have hcz42_1 : w39.cell? ⟨gb117, 1, none⟩ = some (.int .i64 0) := (blk_cell BK117.out 1).trans rfl; have hcz42_2 : w39.cell? ⟨gb117, 2, none⟩ = some (.int .i64 0) := (blk_cell BK117.out 2).trans rfl; have hfz42_0 := blk_frozen BK117.out 0; have hfz42_1 := blk_frozen BK117.out 1; have hfz42_2 := blk_frozen BK117.out 2))
            have n0_ : Aside0 ((((w39.setCell ⟨gb117, 0, none⟩ (.int .i64 (wrap64 (16 + t109)))).setCell ⟨gb117, 1, none⟩ (.int .i64 (wrap64 (2 + t113)))).setCell ⟨gb117, 2, none⟩ (.int .i64 0)).heap[gb108]? = some (.cells #[.int .i64 0, .int .i64 0, .int .i64 0] 40 (0, 0))) := ⟨by (with_reducible repeat (first | refine blk_drewN ?_ _ | refine blk_drew ?_ | refine blk_alloc ?_ _)); refine blk_far ?_ NB108_117.out _; (with_reducible repeat (first | refine blk_drewN ?_ _ | refine blk_drew ?_ | refine blk_alloc ?_ _)); refine blk_far ?_ NB108_117.out _; (with_reducible repeat (first | refine blk_drewN ?_ _ | refine blk_drew ?_ | refine blk_alloc ?_ _)); refine blk_far ?_ NB108_117.out _; (with_reducible repeat (first | refine blk_drewN ?_ _ | refine blk_drew ?_ | refine blk_alloc ?_ _)); exact BK108.out⟩
            have n1_ : Aside0 ((((w39.setCell ⟨gb117, 0, none⟩ (.int .i64 (wrap64 (16 + t109)))).setCell ⟨gb117, 1, none⟩ (.int .i64 (wrap64 (2 + t113)))).setCell ⟨gb117, 2, none⟩ (.int .i64 0)).heap[gb117]? = some (.cells #[.int .i64 (wrap64 (16 + t109)), .int .i64 (wrap64 (2 + t113)), .int .i64 0] 40 (0, 0))) := ⟨by (with_reducible repeat (first | refine blk_drewN ?_ _ | refine blk_drew ?_ | refine blk_alloc ?_ _)); refine blk_put (cs := #[.int .i64 (wrap64 (16 + t109)), .int .i64 (wrap64 (2 + t113)), .int .i64 0]) ?_ 2 _ rfl; (with_reducible repeat (first | refine blk_drewN ?_ _ | refine blk_drew ?_ | refine blk_alloc ?_ _)); refine blk_put (cs := #[.int .i64 (wrap64 (16 + t109)), .int .i64 0, .int .i64 0]) ?_ 1 _ rfl; (with_reducible repeat (first | refine blk_drewN ?_ _ | refine blk_drew ?_ | refine blk_alloc ?_ _)); refine blk_put (cs := #[.int .i64 0, .int .i64 0, .int .i64 0]) ?_ 0 _ rfl; (with_reducible repeat (first | refine blk_drewN ?_ _ | refine blk_drew ?_ | refine blk_alloc ?_ _)); exact BK117.out⟩
            have n2_ : Aside0 (IsS157 w0 (((w39.setCell ⟨gb117, 0, none⟩ (.int .i64 (wrap64 (16 + t109)))).setCell ⟨gb117, 1, none⟩ (.int .i64 (wrap64 (2 + t113)))).setCell ⟨gb117, 2, none⟩ (.int .i64 0)) g s0_0 t114 t115 t116) := ⟨by repeat (first | (with_reducible first | exact HI0.out | apply IsS157.alloc | apply IsS157.drewN | apply IsS157.drew | apply IsS157.set_1 | apply IsS157.set_2 | apply IsS157.set_3 | refine IsS157.far ?_ NB0_108.out _ | refine IsS157.far ?_ NB0_117.out _) | exact HI0.out)⟩
            have n3_ : Aside0 (KeepBut w (((w39.setCell ⟨gb117, 0, none⟩ (.int .i64 (wrap64 (16 + t109)))).setCell ⟨gb117, 1, none⟩ (.int .i64 (wrap64 (2 + t113)))).setCell ⟨gb117, 2, none⟩ (.int .i64 0)) g none) := ⟨by repeat (first | (with_reducible first | exact HK.out | apply KeepBut.set_ | apply keep_drewN | apply keep_drew | apply keep_alloc | refine keep_far ?_ GW108.out _ | refine keep_far ?_ GW117.out _) | exact HK.out)⟩
            have n4_ : Aside0 (Below w0.heap.size w0 (((w39.setCell ⟨gb117, 0, none⟩ (.int .i64 (wrap64 (16 + t109)))).setCell ⟨gb117, 1, none⟩ (.int .i64 (wrap64 (2 + t113)))).setCell ⟨gb117, 2, none⟩ (.int .i64 0))) := ⟨by repeat (first | (with_reducible first | exact HB.out | apply below_alloc | apply pw_below_drewN | apply below_drew1 | refine below_set ?_ (IsS157.ge HI0.out) | refine below_set ?_ GE108.out | refine below_set ?_ GE117.out) | exact HB.out)⟩
            (try clear BK108)
            (try clear BK117)
            (try clear HI0)
            (try clear HK)
            (try clear HB)
            generalize (((w39.setCell ⟨gb117, 0, none⟩ (.int .i64 (wrap64 (16 + t109)))).setCell ⟨gb117, 1, none⟩ (.int .i64 (wrap64 (2 + t113)))).setCell ⟨gb117, 2, none⟩ (.int .i64 0)) = w43 at n0_ n1_ n2_ n3_ n4_ ⊢
            have BK108 := n0_
            have BK117 := n1_
            have HI0 := n2_
            have HK := n3_
            have HB := n4_
            clear n0_ n1_ n2_ n3_ n4_
            have n0_ := Aside0.mk (blk_drew BK108.out)
            have n1_ := Aside0.mk (blk_drew BK117.out)
            have n2_ := Aside0.mk (IsS157.drew HI0.out)
            have n3_ := Aside0.mk (keep_drew HK.out)
            have n4_ := Aside0.mk (below_drew1 HB.out)
            clear BK108
            clear BK117
            clear HI0
            clear HK
            clear HB
            have BK108 := n0_
            have BK117 := n1_
            have HI0 := n2_
            have HK := n3_
            have HB := n4_
            clear n0_ n1_ n2_ n3_ n4_
            refine start_ (n := 7) (S := fun w' => w'.cell? ⟨gb117, 0, none⟩ = some (.int .i64 (wrap64 (16 + t109))) ∧ w'.cell? ⟨gb117, 1, none⟩ = some (.int .i64 (wrap64 (2 + t113))) ∧ w'.cell? ⟨gb117, 2, none⟩ = some (.int .i64 0)) (ds := [6]) #[false, false, false, false, false, false, false] (by kernel_rfl) rfl rfl ⟨(blk_cell BK117.out 0).trans rfl, (blk_cell BK117.out 1).trans rfl, (blk_cell BK117.out 2).trans rfl⟩ (fun hHeld => ?_)
            generalize w43.drew = w44 at BK108 BK117 HI0 HK HB hHeld ⊢
            refine pure_ (i := 0) (N := some 11) (v := ?_) (a' := ?_) #[true, false, false, false, false, false, false] rfl rfl (by kernel_rfl) (fun _ _ _ h => h) (Or.inl ⟨by rfl, ?_⟩) ?_ ?_
            rotate_left
            · intro w'
              go_simp
              with_reducible rfl
            rotate_left
            · simp only [Act.put, List.setIfInBounds_toArray, List.set_cons_zero, List.set_cons_succ, i64_w, i32_w]
              rfl
            refine pure_ (i := 2) (N := some 13) (v := ?_) (a' := ?_) #[true, false, true, false, false, false, false] rfl rfl (by kernel_rfl) (fun _ _ _ h => h) (Or.inl ⟨by rfl, ?_⟩) ?_ ?_
            rotate_left
            · intro w'
              go_simp
              with_reducible rfl
            rotate_left
            · simp only [Act.put, List.setIfInBounds_toArray, List.set_cons_zero, List.set_cons_succ, i64_w, i32_w]
              rfl
            refine take_ (i := 1) (N := some 12) (v := ?_) (a' := ?_) #[true, true, true, false, false, false, false] rfl rfl (by kernel_rfl) (fun _ _ _ h => h) (Or.inl ⟨by rfl, ?_⟩) hHeld ?_ ?_
            rotate_left
            · rintro w' ⟨s0, s1, s2⟩
              go_simp
              with_reducible rfl
            rotate_left
            · simp only [Act.put, List.setIfInBounds_toArray, List.set_cons_zero, List.set_cons_succ, i64_w, i32_w]
              rfl
            refine one_ (i := 3) (N := some 14) #[true, true, true, true, false, false, false] rfl rfl (by kernel_rfl) (by decide) (fun K hK => ?_)
            refine goes_ Try.func77 (by kernel_rfl) rfl #[.pointer (some ⟨g, 0, none⟩), .int .i64 40] (by rfl) rfl rfl (by (try simp only [List.map_toArray, List.map_cons, List.map_nil]); first | done | rfl | (simp only [List.length_drop, List.length_take]; rfl)) ?_
            with_reducible refine (spec_l01Src_n.calls g s0_0 t114 t115 t116 40 t118 t119 t120 t121 w0 _ ?side1 ?side2 A4.out).mono ?_
            (case side1 => repeat (first | (with_reducible first | exact HI0.out | apply IsS157.alloc | apply IsS157.drewN | apply IsS157.drew | apply IsS157.set_1 | apply IsS157.set_2 | apply IsS157.set_3 | refine IsS157.far ?_ NB0_108.out _ | refine IsS157.far ?_ NB0_117.out _) | exact HI0.out))
            (case side2 => repeat (first | (with_reducible first | exact HB.out | apply below_alloc | apply pw_below_drewN | apply below_drew1 | refine below_set ?_ (IsS157.ge HI0.out) | refine below_set ?_ GE108.out | refine below_set ?_ GE117.out) | exact HB.out))
            rintro e w45 ⟨rfl, hi, hb, hk⟩
            refine ⟨_, rfl, ?_⟩
            have n0_ := Aside0.mk (KeepBut.blk hk (g' := gb108) (o := .cells #[.int .i64 0, .int .i64 0, .int .i64 0] 40 (0, 0)) (by (with_reducible repeat (first | refine blk_drewN ?_ _ | refine blk_drew ?_ | refine blk_alloc ?_ _)); exact BK108.out) NB108_0.out (by simp))
            have n1_ := Aside0.mk (KeepBut.blk hk (g' := gb117) (o := .cells #[.int .i64 (wrap64 (16 + t109)), .int .i64 (wrap64 (2 + t113)), .int .i64 0] 40 (0, 0)) (by (with_reducible repeat (first | refine blk_drewN ?_ _ | refine blk_drew ?_ | refine blk_alloc ?_ _)); exact BK117.out) NB117_0.out (by simp))
            have n2_ := Aside0.mk (KeepBut.trans (by repeat (first | (with_reducible first | exact HK.out | apply KeepBut.set_ | apply keep_drewN | apply keep_drew | apply keep_alloc | refine keep_far ?_ GW108.out _ | refine keep_far ?_ GW117.out _) | exact HK.out)) hk (.inl rfl))
            have n3_ := Aside0.mk (hb)
            have n4_ := Aside0.mk (hi)
            clear BK108
            clear BK117
            clear HK
            clear HB
            clear HI0
            have BK108 := n0_
            have BK117 := n1_
            have HK := n2_
            have HB := n3_
            have HI0 := n4_
            clear n0_ n1_ n2_ n3_ n4_
            (try clear hb)
            (try clear hb2)
            (try clear hk)
            (try clear hi)
            refine hK.out _ _ ⟨(blk_cell BK117.out 0).trans rfl, (blk_cell BK117.out 1).trans rfl, (blk_cell BK117.out 2).trans rfl⟩ (fun hHeld => ?_)
            clear hK K
            refine norm_ (a' := ?_) ?_ ?_
            rotate_left
            · show Act.put _ (some 14) _ = _
              simp only [Act.put, List.setIfInBounds_toArray, List.set_cons_zero, List.set_cons_succ, i64_w, i32_w]
              rfl
            refine pure_ (i := 4) (N := some 15) (v := ?_) (a' := ?_) #[true, true, true, true, true, false, false] rfl rfl (by kernel_rfl) (fun _ _ _ h => h) (Or.inl ⟨by rfl, ?_⟩) ?_ ?_
            rotate_left
            · intro w'
              go_simp
              with_reducible rfl
            rotate_left
            · simp only [Act.put, List.setIfInBounds_toArray, List.set_cons_zero, List.set_cons_succ, i64_w, i32_w]
              rfl
            refine pure_ (i := 5) (N := some 16) (v := ?_) (a' := ?_) #[true, true, true, true, true, true, false] rfl rfl (by kernel_rfl) (fun _ _ _ h => h) (Or.inl ⟨by rfl, ?_⟩) ?_ ?_
            rotate_left
            · intro w'
              go_simp
              with_reducible rfl
            rotate_left
            · simp only [Act.put, List.setIfInBounds_toArray, List.set_cons_zero, List.set_cons_succ, i64_w, i32_w]
              rfl
            refine last_ (i := 6) (N := none) #[true, true, true, true, true, true, true] rfl rfl (by kernel_rfl) (by decide) (fun K hK => ?_)
            have hs46 : w45.cell? ⟨gb117, 2, none⟩ = some (.int .i64 0) := (blk_cell BK117.out 2).trans rfl
            have hfs46 := blk_frozen BK117.out 2
            have hns46_0 := NB108_117.out
            have hms46_0 := NB117_108.out
            refine skip_ (w1 := ?_) (by rfl) rfl ?_ ?_
            rotate_left
            · go_simp
              rfl
            refine hK.out _ _ ?_
            clear hK K
            refine done_ (by kernel_rfl) ?_
            try go_wp2_with (first | ((with_reducible refine gate_callee (f := 85) rfl ?_); refine goesL_ (some 18) rfl rfl Try.func85 (by kernel_rfl) rfl #[.pointer (some ⟨g, 0, none⟩), .int .i64 15] rfl (by (try simp only [List.map_toArray, List.map_cons, List.map_nil]); first | done | rfl | (simp only [List.length_drop, List.length_take]; rfl)) ?_; (with_reducible refine (spec_l01Src_one.calls g s0_0 t119 t120 t121 15 true t123 t124 t125 w0 _ ?side1 ?side2 A5.out).mono ?_); (case side1 => repeat (first | (with_reducible first | exact HI0.out | apply IsS157.alloc | apply IsS157.drewN | apply IsS157.drew | apply IsS157.set_1 | apply IsS157.set_2 | apply IsS157.set_3 | refine IsS157.far ?_ NB0_108.out _ | refine IsS157.far ?_ NB0_117.out _) | exact HI0.out)); (case side2 => repeat (first | (with_reducible first | exact HB.out | apply below_alloc | apply pw_below_drewN | apply below_drew1 | refine below_set ?_ (IsS157.ge HI0.out) | refine below_set ?_ GE108.out | refine below_set ?_ GE117.out) | exact HB.out)); rintro e w47 ⟨rfl, hi, hb, hk⟩; refine ⟨_, rfl, ?_⟩; have n0_ := Aside0.mk (KeepBut.blk hk (g' := gb108) (o := .cells #[.int .i64 0, .int .i64 0, .int .i64 0] 40 (0, 0)) (by (with_reducible repeat (first | refine blk_drewN ?_ _ | refine blk_drew ?_ | refine blk_alloc ?_ _)); refine blk_far ?_ NB108_117.out _; (with_reducible repeat (first | refine blk_drewN ?_ _ | refine blk_drew ?_ | refine blk_alloc ?_ _)); exact BK108.out) NB108_0.out (by simp)); have n1_ := Aside0.mk (KeepBut.blk hk (g' := gb117) (o := .cells #[.int .i64 (wrap64 (16 + t109)), .int .i64 (wrap64 (2 + t113)), .int .i64 (wrap64 ((wrap64 (16 + t109)) + t118))] 40 (0, 0)) (by (with_reducible repeat (first | refine blk_drewN ?_ _ | refine blk_drew ?_ | refine blk_alloc ?_ _)); refine blk_put (cs := #[.int .i64 (wrap64 (16 + t109)), .int .i64 (wrap64 (2 + t113)), .int .i64 0]) ?_ 2 _ rfl; (with_reducible repeat (first | refine blk_drewN ?_ _ | refine blk_drew ?_ | refine blk_alloc ?_ _)); exact BK117.out) NB117_0.out (by simp)); have n2_ := Aside0.mk (KeepBut.trans (by repeat (first | (with_reducible first | exact HK.out | apply KeepBut.set_ | apply keep_drewN | apply keep_drew | apply keep_alloc | refine keep_far ?_ GW108.out _ | refine keep_far ?_ GW117.out _) | exact HK.out)) hk (.inl rfl)); have n3_ := Aside0.mk (hb); have n4_ := Aside0.mk (hi); clear BK108; clear BK117; clear HK; clear HB; clear HI0; have BK108 := n0_; have BK117 := n1_; have HK := n2_; have HB := n3_; have HI0 := n4_; clear n0_ n1_ n2_ n3_ n4_; (try clear hb); (try clear hb2); (try clear hk); (try clear hi)) | ((with_reducible refine gate_callee (f := 77) rfl ?_); refine goesL_ (some 20) rfl rfl Try.func77 (by kernel_rfl) rfl #[.pointer (some ⟨g, 0, none⟩), .int .i64 3] rfl (by (try simp only [List.map_toArray, List.map_cons, List.map_nil]); first | done | rfl | (simp only [List.length_drop, List.length_take]; rfl)) ?_; (with_reducible refine (spec_l01Src_n.calls g s0_0 t123 t124 t125 3 t126 t127 t128 t129 w0 _ ?side1 ?side2 A7.out).mono ?_); (case side1 => repeat (first | (with_reducible first | exact HI0.out | apply IsS157.alloc | apply IsS157.drewN | apply IsS157.drew | apply IsS157.set_1 | apply IsS157.set_2 | apply IsS157.set_3 | refine IsS157.far ?_ NB0_108.out _ | refine IsS157.far ?_ NB0_117.out _) | exact HI0.out)); (case side2 => repeat (first | (with_reducible first | exact HB.out | apply below_alloc | apply pw_below_drewN | apply below_drew1 | refine below_set ?_ (IsS157.ge HI0.out) | refine below_set ?_ GE108.out | refine below_set ?_ GE117.out) | exact HB.out)); rintro e w48 ⟨rfl, hi, hb, hk⟩; refine ⟨_, rfl, ?_⟩; have n0_ := Aside0.mk (KeepBut.blk hk (g' := gb108) (o := .cells #[.int .i64 0, .int .i64 0, .int .i64 0] 40 (0, 0)) (by (with_reducible repeat (first | refine blk_drewN ?_ _ | refine blk_drew ?_ | refine blk_alloc ?_ _)); exact BK108.out) NB108_0.out (by simp)); have n1_ := Aside0.mk (KeepBut.blk hk (g' := gb117) (o := .cells #[.int .i64 (wrap64 (16 + t109)), .int .i64 (wrap64 (2 + t113)), .int .i64 (wrap64 ((wrap64 (16 + t109)) + t118))] 40 (0, 0)) (by (with_reducible repeat (first | refine blk_drewN ?_ _ | refine blk_drew ?_ | refine blk_alloc ?_ _)); exact BK117.out) NB117_0.out (by simp)); have n2_ := Aside0.mk (KeepBut.trans (by repeat (first | (with_reducible first | exact HK.out | apply KeepBut.set_ | apply keep_drewN | apply keep_drew | apply keep_alloc | refine keep_far ?_ GW108.out _ | refine keep_far ?_ GW117.out _) | exact HK.out)) hk (.inl rfl)); have n3_ := Aside0.mk (hb); have n4_ := Aside0.mk (hi); clear BK108; clear BK117; clear HK; clear HB; clear HI0; have BK108 := n0_; have BK117 := n1_; have HK := n2_; have HB := n3_; have HI0 := n4_; clear n0_ n1_ n2_ n3_ n4_; (try clear hb); (try clear hb2); (try clear hk); (try clear hi)) | ((with_reducible refine gate_dst (N := 42) rfl ?_); refine Kd.R_lit (Kd.int .i64) _ 2 ?hg (N := 42) ?hd (xs := ([(-1), 0, 12, 13] : List Int)) (inner := [.int .i64 (-1), .int .i64 0, .int .i64 12, .int .i64 13]) (ok := fun _ => True) (okp := fun _ => True) ?hr ?hp (fun _ hk => hk) trivial (Below.refl _ _) (Nat.le_refl _) (by simp) ?_; (case hd => rfl); (case hg => rfl); (case hr => first | (go_simp; done) | (go_simp; rfl)); (case hp => exact (Reps.one (show Kd.M (Kd.int .i64) _ _ _ (-1) [.int .i64 (-1)] from rfl) (Reps.one (show Kd.M (Kd.int .i64) _ _ _ 0 [.int .i64 0] from rfl) (Reps.one (show Kd.M (Kd.int .i64) _ _ _ 12 [.int .i64 12] from rfl) (Reps.one (show Kd.M (Kd.int .i64) _ _ _ 13 [.int .i64 13] from rfl) (Reps.none _ _)))))); intro v139 w49 ho50 hb hg_ hnew_; clear hg_ hnew_; (first | rw [← Ny138.out] at ho50 | (simp only [Int.reduceToNat] at ho50; rw [← Ny138.out] at ho50)); have n0_ := Aside0.mk (Kd.R_lower ho50 (keep_size (w := w) (g := g) (row := none) (by repeat (first | (with_reducible first | exact HK.out | apply KeepBut.set_ | apply keep_drewN | apply keep_drew | apply keep_alloc | refine keep_far ?_ GW108.out _ | refine keep_far ?_ GW117.out _) | exact HK.out)))); have n1_ := Aside0.mk (IsS157.below (by repeat (first | (with_reducible first | exact HI0.out | apply IsS157.alloc | apply IsS157.drewN | apply IsS157.drew | apply IsS157.set_1 | apply IsS157.set_2 | apply IsS157.set_3 | refine IsS157.far ?_ NB0_108.out _ | refine IsS157.far ?_ NB0_117.out _) | exact HI0.out)) hb); have n2_ := Aside0.mk (blk_below (g := gb108) (o := .cells #[.int .i64 0, .int .i64 0, .int .i64 0] 40 (0, 0)) (by (with_reducible repeat (first | refine blk_drewN ?_ _ | refine blk_drew ?_ | refine blk_alloc ?_ _)); exact BK108.out) hb); have n3_ := Aside0.mk (blk_below (g := gb117) (o := .cells #[.int .i64 (wrap64 (16 + t109)), .int .i64 (wrap64 (2 + t113)), .int .i64 (wrap64 ((wrap64 (16 + t109)) + t118))] 40 (0, 0)) (by (with_reducible repeat (first | refine blk_drewN ?_ _ | refine blk_drew ?_ | refine blk_alloc ?_ _)); exact BK117.out) hb); have n4_ := Aside0.mk (KeepBut.trans (by repeat (first | (with_reducible first | exact HK.out | apply KeepBut.set_ | apply keep_drewN | apply keep_drew | apply keep_alloc | refine keep_far ?_ GW108.out _ | refine keep_far ?_ GW117.out _) | exact HK.out)) (KeepBut.of_below hb g none) (.inl rfl)); have n5_ := Aside0.mk (below_step (by repeat (first | (with_reducible first | exact HB.out | apply below_alloc | apply pw_below_drewN | apply below_drew1 | refine below_set ?_ (IsS157.ge HI0.out) | refine below_set ?_ GE108.out | refine below_set ?_ GE117.out) | exact HB.out)) hb); clear HI0; clear BK108; clear BK117; clear HK; clear HB; have HO140 := n0_; have HI0 := n1_; have BK108 := n2_; have BK117 := n3_; have HK := n4_; have HB := n5_; clear n0_ n1_ n2_ n3_ n4_ n5_; clear hb ho50) | ((with_reducible refine gate_callee (f := 77) rfl ?_); refine goesL_ (some 44) rfl rfl Try.func77 (by kernel_rfl) rfl #[.pointer (some ⟨g, 0, none⟩), .int .i64 4] rfl (by (try simp only [List.map_toArray, List.map_cons, List.map_nil]); first | done | rfl | (simp only [List.length_drop, List.length_take]; rfl)) ?_; (with_reducible refine (spec_l01Src_n.calls g s0_0 t127 t128 t129 4 t141 t142 t143 t144 w0 _ ?side1 ?side2 A33.out).mono ?_); (case side1 => repeat (first | (with_reducible first | exact HI0.out | apply IsS157.alloc | apply IsS157.drewN | apply IsS157.drew | apply IsS157.set_1 | apply IsS157.set_2 | apply IsS157.set_3 | refine IsS157.far ?_ NB0_108.out _ | refine IsS157.far ?_ NB0_117.out _) | exact HI0.out)); (case side2 => repeat (first | (with_reducible first | exact HB.out | apply below_alloc | apply pw_below_drewN | apply below_drew1 | refine below_set ?_ (IsS157.ge HI0.out) | refine below_set ?_ GE108.out | refine below_set ?_ GE117.out) | exact HB.out)); rintro e w51 ⟨rfl, hi, hb, hk⟩; refine ⟨_, rfl, ?_⟩; have n0_ := Aside0.mk (KeepBut.blk hk (g' := gb108) (o := .cells #[.int .i64 0, .int .i64 0, .int .i64 0] 40 (0, 0)) (by (with_reducible repeat (first | refine blk_drewN ?_ _ | refine blk_drew ?_ | refine blk_alloc ?_ _)); exact BK108.out) NB108_0.out (by simp)); have n1_ := Aside0.mk (KeepBut.blk hk (g' := gb117) (o := .cells #[.int .i64 (wrap64 (16 + t109)), .int .i64 (wrap64 (2 + t113)), .int .i64 (wrap64 ((wrap64 (16 + t109)) + t118))] 40 (0, 0)) (by (with_reducible repeat (first | refine blk_drewN ?_ _ | refine blk_drew ?_ | refine blk_alloc ?_ _)); exact BK117.out) NB117_0.out (by simp)); have n2_ := Aside0.mk (Kd.R_mono (Kd.R_keep (IsS157.apart (show IsS157 w0 _ g s0_0 t127 t128 t129 from by repeat (first | (with_reducible first | exact HI0.out | apply IsS157.alloc | apply IsS157.drewN | apply IsS157.drew | apply IsS157.set_1 | apply IsS157.set_2 | apply IsS157.set_3 | refine IsS157.far ?_ NB0_108.out _ | refine IsS157.far ?_ NB0_117.out _) | exact HI0.out)) (by (with_reducible repeat (first | apply Kd.R_alloc | apply Kd.R_drewN | apply Kd.R_drew)); exact HO140.out) (by decide)) hk (fun _ h => h.2)) (fun _ h => h.1)); have n3_ := Aside0.mk (KeepBut.trans (by repeat (first | (with_reducible first | exact HK.out | apply KeepBut.set_ | apply keep_drewN | apply keep_drew | apply keep_alloc | refine keep_far ?_ GW108.out _ | refine keep_far ?_ GW117.out _) | exact HK.out)) hk (.inl rfl)); have n4_ := Aside0.mk (hb); have n5_ := Aside0.mk (hi); clear BK108; clear BK117; clear HO140; clear HK; clear HB; clear HI0; have BK108 := n0_; have BK117 := n1_; have HO140 := n2_; have HK := n3_; have HB := n4_; have HI0 := n5_; clear n0_ n1_ n2_ n3_ n4_ n5_; (try clear hb); (try clear hb2); (try clear hk); (try clear hi); obtain ⟨Ao52, co52, eo52⟩ := Kd.R_slice HO140.out; subst eo52; have p145 : 0 ≤ (t141 : Int) := of_decide_eq_true (by first | (with_reducible assumption) | assumption); have q145 : t141 < (y138.length : Int) := of_decide_eq_true (by first | (with_reducible assumption) | assumption); obtain ⟨ad145, e145, hx145_0⟩ := Kd.at_int (Kd.R_reads' HO140.out).2.2 t141 p145 q145; cases e145; replace p145 := eq_true p145; replace q145 := eq_true q145; have hcz53_0 : w51.cell? ⟨gb117, 0, none⟩ = some (.int .i64 (wrap64 (16 + t109))) := (blk_cell BK117.out 0).trans rfl; have hcz53_1 : w51.cell? ⟨gb117, 1, none⟩ = some (.int .i64 (wrap64 (2 + t113))) := (blk_cell BK117.out 1).trans rfl; have hcz53_2 : w51.cell? ⟨gb117, 2, none⟩ = some (.int .i64 (wrap64 ((wrap64 (16 + t109)) + t118))) := (blk_cell BK117.out 2).trans rfl; have hfz53_0 := blk_frozen BK117.out 0; have hfz53_1 := blk_frozen BK117.out 1; have hfz53_2 := blk_frozen BK117.out 2; have hnb54 := NB108_0.out; have hnc54 := NB0_108.out; have hcz55_0 : w51.cell? ⟨gb108, 0, none⟩ = some (.int .i64 0) := (blk_cell BK108.out 0).trans rfl; have hcz55_1 : w51.cell? ⟨gb108, 1, none⟩ = some (.int .i64 0) := (blk_cell BK108.out 1).trans rfl; have hcz55_2 : w51.cell? ⟨gb108, 2, none⟩ = some (.int .i64 0) := (blk_cell BK108.out 2).trans rfl; have hfz55_0 := blk_frozen BK108.out 0; have hfz55_1 := blk_frozen BK108.out 1; have hfz55_2 := blk_frozen BK108.out 2))
            refine bodyPost_ret (results_cell_row rfl _ _ gb108 40 #[.int .i64 (wrap64 (16 + t109)), .int .i64 (rd y138 t141), .int .i64 (wrap64 ((wrap64 (16 + t109)) + t118))] (0, 0) _ rfl (by (with_reducible repeat (first | refine blk_drewN ?_ _ | refine blk_drew ?_ | refine blk_alloc ?_ _)); refine blk_put (cs := #[.int .i64 (wrap64 (16 + t109)), .int .i64 (rd y138 t141), .int .i64 0]) ?_ 2 _ rfl; (with_reducible repeat (first | refine blk_drewN ?_ _ | refine blk_drew ?_ | refine blk_alloc ?_ _)); refine blk_put (cs := #[.int .i64 (wrap64 (16 + t109)), .int .i64 0, .int .i64 0]) ?_ 1 _ rfl; (with_reducible repeat (first | refine blk_drewN ?_ _ | refine blk_drew ?_ | refine blk_alloc ?_ _)); refine blk_put (cs := #[.int .i64 0, .int .i64 0, .int .i64 0]) ?_ 0 _ rfl; (with_reducible repeat (first | refine blk_drewN ?_ _ | refine blk_drew ?_ | refine blk_alloc ?_ _)); refine blk_far ?_ NB108_117.out _; (with_reducible repeat (first | refine blk_drewN ?_ _ | refine blk_drew ?_ | refine blk_alloc ?_ _)); exact BK108.out) Try.underlying40 rfl (by kernel_rfl)) rfl ?_
            exact ⟨by first | rfl | (simp [errW_none, errW_some] <;> rfl) | (simp [*, errW_none, errW_some] <;> rfl), by repeat (first | (with_reducible first | exact HI0.out | apply IsS157.alloc | apply IsS157.drewN | apply IsS157.drew | apply IsS157.set_1 | apply IsS157.set_2 | apply IsS157.set_3 | refine IsS157.far ?_ NB0_108.out _ | refine IsS157.far ?_ NB0_117.out _) | exact HI0.out), by repeat (first | (with_reducible first | exact HB.out | apply below_alloc | apply pw_below_drewN | apply below_drew1 | refine below_set ?_ (IsS157.ge HI0.out) | refine below_set ?_ GE108.out | refine below_set ?_ GE117.out) | exact HB.out), by repeat (first | (with_reducible first | exact HK.out | apply KeepBut.set_ | apply keep_drewN | apply keep_drew | apply keep_alloc | refine keep_far ?_ GW108.out _ | refine keep_far ?_ GW117.out _) | exact HK.out)⟩
          · rw [if_neg c35] at H
            exact absurd H (by simp)
        · rw [if_neg c34] at H
          exact absurd H (by simp)
      · rw [if_neg c32] at H
        have c32b0 : (t126 == 1) = false := beq_eq_false_iff_ne.mpr c32
        have c32b1 : (t126 != 1) = true := bne_iff_ne.mpr c32
        obtain ⟨y146, hy146⟩ : ∃ y_ : List Int, y_ = (([wrap64 ((wrap64 (16 + t109)) - 1), wrap64 (16 + t109), 2000, 2001] : List Int)) := ⟨_, rfl⟩
        replace H : ((spec_l01Src_n.f s0_0 t127 t128 t129 4).bind fun bt149 => (if 0 ≤ bt149.1 then (if bt149.1 < (y146.length : Int) then (some (wrap64 (16 + t109), wrap64 (2 + t113), rd y146 bt149.1, bt149.2.1, bt149.2.2.1, bt149.2.2.2)) else (none)) else (none))) = some (r1, r2, r3, r4, r5, r6) := by first | (rw [hy146]; with_reducible exact H) | (have H2_ := (Option.bind_some _ _).symm.trans H; rw [hy146]; with_reducible exact H2_) | (have H2_ := (Option.bind_some _ _).symm.trans H; with_reducible exact H2_) | with_reducible exact H | (rw [hy146]; exact H) | exact H
        have Ny146 := Aside0.mk hy146
        clear hy146
        replace H := Option.bind_eq_some_iff.mp H
        obtain ⟨⟨t149, t150, t151, t152⟩, A560, H⟩ := H
        replace H : (if 0 ≤ t149 then (if t149 < (y146.length : Int) then (some (wrap64 (16 + t109), wrap64 (2 + t113), rd y146 t149, t150, t151, t152)) else (none)) else (none)) = some (r1, r2, r3, r4, r5, r6) := H
        have A56 := Aside0.mk A560
        clear A560
        by_cases c57 : 0 ≤ t149
        · rw [if_pos c57] at H
          have c57b0 : decide (0 ≤ t149) = true := decide_eq_true c57
          clear c57
          by_cases c58 : t149 < (y146.length : Int)
          · rw [if_pos c58] at H
            have c58b0 : decide (t149 < (y146.length : Int)) = true := decide_eq_true c58
            clear c58
            simp only [Option.some.injEq, Prod.mk.injEq] at H
            obtain ⟨rfl, rfl, rfl, rfl, rfl, rfl⟩ := H
            go_enter Try.func147, Try.ntmps147
            try go_wp2_with (first | ((with_reducible refine gate_dst (N := 2) rfl ?_); refine box_event ?hg (N := 2) ?hd (cs := #[.int .i64 0, .int .i64 0, .int .i64 0]) (t := 40) ?hr ?_; (case hd => rfl); (case hg => rfl); (case hr => first | (go_simp; done) | (go_simp; rfl)); intro gb108 hg w59 hbox hb; have n0_ := Aside0.mk (IsS157.below (by repeat (first | (with_reducible first | exact HI0.out | apply IsS157.alloc | apply IsS157.drewN | apply IsS157.drew | apply IsS157.set_1 | apply IsS157.set_2 | apply IsS157.set_3) | exact HI0.out)) hb); have n1_ := Aside0.mk (KeepBut.trans (by repeat (first | (with_reducible first | exact HK.out | apply KeepBut.set_ | apply keep_drewN | apply keep_drew | apply keep_alloc) | exact HK.out)) (KeepBut.of_below hb g none) (.inl rfl)); have n2_ := Aside0.mk (below_step (by repeat (first | (with_reducible first | exact HB.out | apply below_alloc | apply pw_below_drewN | apply below_drew1 | refine below_set ?_ (IsS157.ge HI0.out)) | exact HB.out)) hb); have n3_ := Aside0.mk (hbox); have n4_ := Aside0.mk ((by rw [hg]; exact (keep_size (w := w) (g := g) (row := none) (by repeat (first | (with_reducible first | exact HK.out | apply KeepBut.set_ | apply keep_drewN | apply keep_drew | apply keep_alloc) | exact HK.out))) : w.heap.size ≤ gb108)); have n5_ := Aside0.mk ((Nat.le_trans HW0.out (by rw [hg]; exact (keep_size (w := w) (g := g) (row := none) (by repeat (first | (with_reducible first | exact HK.out | apply KeepBut.set_ | apply keep_drewN | apply keep_drew | apply keep_alloc) | exact HK.out))) : w.heap.size ≤ gb108) : w0.heap.size ≤ gb108)); have n6_ := Aside0.mk ((by rw [hg]; exact Nat.ne_of_lt (IsS157.lt (show IsS157 w0 _ g s0_0 s0_1 s0_2 s0_3 from by repeat (first | (with_reducible first | exact HI0.out | apply IsS157.alloc | apply IsS157.drewN | apply IsS157.drew | apply IsS157.set_1 | apply IsS157.set_2 | apply IsS157.set_3) | exact HI0.out))) : g ≠ gb108)); have n7_ := Aside0.mk ((by rw [hg]; exact Nat.ne_of_gt (IsS157.lt (show IsS157 w0 _ g s0_0 s0_1 s0_2 s0_3 from by repeat (first | (with_reducible first | exact HI0.out | apply IsS157.alloc | apply IsS157.drewN | apply IsS157.drew | apply IsS157.set_1 | apply IsS157.set_2 | apply IsS157.set_3) | exact HI0.out))) : gb108 ≠ g)); clear HI0; clear HK; clear HB; have HI0 := n0_; have HK := n1_; have HB := n2_; have BK108 := n3_; have GW108 := n4_; have GE108 := n5_; have NB0_108 := n6_; have NB108_0 := n7_; clear n0_ n1_ n2_ n3_ n4_ n5_ n6_ n7_; clear hb hbox hg) | ((with_reducible refine gate_callee (f := 77) rfl ?_); refine goesL_ (some 5) rfl rfl Try.func77 (by kernel_rfl) rfl #[.pointer (some ⟨g, 0, none⟩), .int .i64 8] rfl (by (try simp only [List.map_toArray, List.map_cons, List.map_nil]); first | done | rfl | (simp only [List.length_drop, List.length_take]; rfl)) ?_; (with_reducible refine (spec_l01Src_n.calls g s0_0 s0_1 s0_2 s0_3 8 t109 t110 t111 t112 w0 _ ?side1 ?side2 A2.out).mono ?_); (case side1 => repeat (first | (with_reducible first | exact HI0.out | apply IsS157.alloc | apply IsS157.drewN | apply IsS157.drew | apply IsS157.set_1 | apply IsS157.set_2 | apply IsS157.set_3 | refine IsS157.far ?_ NB0_108.out _) | exact HI0.out)); (case side2 => repeat (first | (with_reducible first | exact HB.out | apply below_alloc | apply pw_below_drewN | apply below_drew1 | refine below_set ?_ (IsS157.ge HI0.out) | refine below_set ?_ GE108.out) | exact HB.out)); rintro e w60 ⟨rfl, hi, hb, hk⟩; refine ⟨_, rfl, ?_⟩; have n0_ := Aside0.mk (KeepBut.blk hk (g' := gb108) (o := .cells #[.int .i64 0, .int .i64 0, .int .i64 0] 40 (0, 0)) (by (with_reducible repeat (first | refine blk_drewN ?_ _ | refine blk_drew ?_ | refine blk_alloc ?_ _)); exact BK108.out) NB108_0.out (by simp)); have n1_ := Aside0.mk (KeepBut.trans (by repeat (first | (with_reducible first | exact HK.out | apply KeepBut.set_ | apply keep_drewN | apply keep_drew | apply keep_alloc | refine keep_far ?_ GW108.out _) | exact HK.out)) hk (.inl rfl)); have n2_ := Aside0.mk (hb); have n3_ := Aside0.mk (hi); clear BK108; clear HK; clear HB; clear HI0; have BK108 := n0_; have HK := n1_; have HB := n2_; have HI0 := n3_; clear n0_ n1_ n2_ n3_; (try clear hb); (try clear hb2); (try clear hk); (try clear hi)) | ((with_reducible refine gate_callee (f := 77) rfl ?_); refine goesL_ (some 8) rfl rfl Try.func77 (by kernel_rfl) rfl #[.pointer (some ⟨g, 0, none⟩), .int .i64 3] rfl (by (try simp only [List.map_toArray, List.map_cons, List.map_nil]); first | done | rfl | (simp only [List.length_drop, List.length_take]; rfl)) ?_; (with_reducible refine (spec_l01Src_n.calls g s0_0 t110 t111 t112 3 t113 t114 t115 t116 w0 _ ?side1 ?side2 A3.out).mono ?_); (case side1 => repeat (first | (with_reducible first | exact HI0.out | apply IsS157.alloc | apply IsS157.drewN | apply IsS157.drew | apply IsS157.set_1 | apply IsS157.set_2 | apply IsS157.set_3 | refine IsS157.far ?_ NB0_108.out _) | exact HI0.out)); (case side2 => repeat (first | (with_reducible first | exact HB.out | apply below_alloc | apply pw_below_drewN | apply below_drew1 | refine below_set ?_ (IsS157.ge HI0.out) | refine below_set ?_ GE108.out) | exact HB.out)); rintro e w61 ⟨rfl, hi, hb, hk⟩; refine ⟨_, rfl, ?_⟩; have n0_ := Aside0.mk (KeepBut.blk hk (g' := gb108) (o := .cells #[.int .i64 0, .int .i64 0, .int .i64 0] 40 (0, 0)) (by (with_reducible repeat (first | refine blk_drewN ?_ _ | refine blk_drew ?_ | refine blk_alloc ?_ _)); exact BK108.out) NB108_0.out (by simp)); have n1_ := Aside0.mk (KeepBut.trans (by repeat (first | (with_reducible first | exact HK.out | apply KeepBut.set_ | apply keep_drewN | apply keep_drew | apply keep_alloc | refine keep_far ?_ GW108.out _) | exact HK.out)) hk (.inl rfl)); have n2_ := Aside0.mk (hb); have n3_ := Aside0.mk (hi); clear BK108; clear HK; clear HB; clear HI0; have BK108 := n0_; have HK := n1_; have HB := n2_; have HI0 := n3_; clear n0_ n1_ n2_ n3_; (try clear hb); (try clear hb2); (try clear hk); (try clear hi)) | ((with_reducible refine gate_dst (N := 3) rfl ?_); refine box_event ?hg (N := 3) ?hd (cs := #[.int .i64 0, .int .i64 0, .int .i64 0]) (t := 40) ?hr ?_; (case hd => rfl); (case hg => rfl); (case hr => first | (go_simp; done) | (go_simp; rfl)); intro gb117 hg w62 hbox hb; have n0_ := Aside0.mk (IsS157.below (by repeat (first | (with_reducible first | exact HI0.out | apply IsS157.alloc | apply IsS157.drewN | apply IsS157.drew | apply IsS157.set_1 | apply IsS157.set_2 | apply IsS157.set_3 | refine IsS157.far ?_ NB0_108.out _) | exact HI0.out)) hb); have n1_ := Aside0.mk (blk_below (g := gb108) (o := .cells #[.int .i64 0, .int .i64 0, .int .i64 0] 40 (0, 0)) (by (with_reducible repeat (first | refine blk_drewN ?_ _ | refine blk_drew ?_ | refine blk_alloc ?_ _)); exact BK108.out) hb); have n2_ := Aside0.mk (KeepBut.trans (by repeat (first | (with_reducible first | exact HK.out | apply KeepBut.set_ | apply keep_drewN | apply keep_drew | apply keep_alloc | refine keep_far ?_ GW108.out _) | exact HK.out)) (KeepBut.of_below hb g none) (.inl rfl)); have n3_ := Aside0.mk (below_step (by repeat (first | (with_reducible first | exact HB.out | apply below_alloc | apply pw_below_drewN | apply below_drew1 | refine below_set ?_ (IsS157.ge HI0.out) | refine below_set ?_ GE108.out) | exact HB.out)) hb); have n4_ := Aside0.mk (hbox); have n5_ := Aside0.mk ((by rw [hg]; exact (keep_size (w := w) (g := g) (row := none) (by repeat (first | (with_reducible first | exact HK.out | apply KeepBut.set_ | apply keep_drewN | apply keep_drew | apply keep_alloc | refine keep_far ?_ GW108.out _) | exact HK.out))) : w.heap.size ≤ gb117)); have n6_ := Aside0.mk ((Nat.le_trans HW0.out (by rw [hg]; exact (keep_size (w := w) (g := g) (row := none) (by repeat (first | (with_reducible first | exact HK.out | apply KeepBut.set_ | apply keep_drewN | apply keep_drew | apply keep_alloc | refine keep_far ?_ GW108.out _) | exact HK.out))) : w.heap.size ≤ gb117) : w0.heap.size ≤ gb117)); have n7_ := Aside0.mk ((by rw [hg]; exact Nat.ne_of_lt (blk_lt (g := gb108) (o := .cells #[.int .i64 0, .int .i64 0, .int .i64 0] 40 (0, 0)) (by (with_reducible repeat (first | refine blk_drewN ?_ _ | refine blk_drew ?_ | refine blk_alloc ?_ _)); exact BK108.out)) : gb108 ≠ gb117)); have n8_ := Aside0.mk ((by rw [hg]; exact Nat.ne_of_gt (blk_lt (g := gb108) (o := .cells #[.int .i64 0, .int .i64 0, .int .i64 0] 40 (0, 0)) (by (with_reducible repeat (first | refine blk_drewN ?_ _ | refine blk_drew ?_ | refine blk_alloc ?_ _)); exact BK108.out)) : gb117 ≠ gb108)); have n9_ := Aside0.mk ((by rw [hg]; exact Nat.ne_of_lt (IsS157.lt (show IsS157 w0 _ g s0_0 t114 t115 t116 from by repeat (first | (with_reducible first | exact HI0.out | apply IsS157.alloc | apply IsS157.drewN | apply IsS157.drew | apply IsS157.set_1 | apply IsS157.set_2 | apply IsS157.set_3 | refine IsS157.far ?_ NB0_108.out _) | exact HI0.out))) : g ≠ gb117)); have n10_ := Aside0.mk ((by rw [hg]; exact Nat.ne_of_gt (IsS157.lt (show IsS157 w0 _ g s0_0 t114 t115 t116 from by repeat (first | (with_reducible first | exact HI0.out | apply IsS157.alloc | apply IsS157.drewN | apply IsS157.drew | apply IsS157.set_1 | apply IsS157.set_2 | apply IsS157.set_3 | refine IsS157.far ?_ NB0_108.out _) | exact HI0.out))) : gb117 ≠ g)); clear HI0; clear BK108; clear HK; clear HB; have HI0 := n0_; have BK108 := n1_; have HK := n2_; have HB := n3_; have BK117 := n4_; have GW117 := n5_; have GE117 := n6_; have NB108_117 := n7_; have NB117_108 := n8_; have NB0_117 := n9_; have NB117_0 := n10_; clear n0_ n1_ n2_ n3_ n4_ n5_ n6_ n7_ n8_ n9_ n10_; clear hb hbox hg; have hnb63 := NB117_108.out; have hnc63 := NB108_117.out; have hnb64 := NB117_0.out; have hnc64 := NB0_117.out; have hcz65_0 : w62.cell? ⟨gb117, 0, none⟩ = some (.int .i64 0) := (blk_cell BK117.out 0).trans rfl; have hcz65_1 : w62.cell? ⟨gb117, 1, none⟩ = some (.int .i64 0) := (blk_cell BK117.out 1).trans rfl; have hcz65_2 : w62.cell? ⟨gb117, 2, none⟩ = some (.int .i64 0) := (blk_cell BK117.out 2).trans rfl; have hfz65_0 := blk_frozen BK117.out 0; have hfz65_1 := blk_frozen BK117.out 1; have hfz65_2 := blk_frozen BK117.out 2))
            have n0_ : Aside0 ((((w62.setCell ⟨gb117, 0, none⟩ (.int .i64 (wrap64 (16 + t109)))).setCell ⟨gb117, 1, none⟩ (.int .i64 (wrap64 (2 + t113)))).setCell ⟨gb117, 2, none⟩ (.int .i64 0)).heap[gb108]? = some (.cells #[.int .i64 0, .int .i64 0, .int .i64 0] 40 (0, 0))) := ⟨by (with_reducible repeat (first | refine blk_drewN ?_ _ | refine blk_drew ?_ | refine blk_alloc ?_ _)); refine blk_far ?_ NB108_117.out _; (with_reducible repeat (first | refine blk_drewN ?_ _ | refine blk_drew ?_ | refine blk_alloc ?_ _)); refine blk_far ?_ NB108_117.out _; (with_reducible repeat (first | refine blk_drewN ?_ _ | refine blk_drew ?_ | refine blk_alloc ?_ _)); refine blk_far ?_ NB108_117.out _; (with_reducible repeat (first | refine blk_drewN ?_ _ | refine blk_drew ?_ | refine blk_alloc ?_ _)); exact BK108.out⟩
            have n1_ : Aside0 ((((w62.setCell ⟨gb117, 0, none⟩ (.int .i64 (wrap64 (16 + t109)))).setCell ⟨gb117, 1, none⟩ (.int .i64 (wrap64 (2 + t113)))).setCell ⟨gb117, 2, none⟩ (.int .i64 0)).heap[gb117]? = some (.cells #[.int .i64 (wrap64 (16 + t109)), .int .i64 (wrap64 (2 + t113)), .int .i64 0] 40 (0, 0))) := ⟨by (with_reducible repeat (first | refine blk_drewN ?_ _ | refine blk_drew ?_ | refine blk_alloc ?_ _)); refine blk_put (cs := #[.int .i64 (wrap64 (16 + t109)), .int .i64 (wrap64 (2 + t113)), .int .i64 0]) ?_ 2 _ rfl; (with_reducible repeat (first | refine blk_drewN ?_ _ | refine blk_drew ?_ | refine blk_alloc ?_ _)); refine blk_put (cs := #[.int .i64 (wrap64 (16 + t109)), .int .i64 0, .int .i64 0]) ?_ 1 _ rfl; (with_reducible repeat (first | refine blk_drewN ?_ _ | refine blk_drew ?_ | refine blk_alloc ?_ _)); refine blk_put (cs := #[.int .i64 0, .int .i64 0, .int .i64 0]) ?_ 0 _ rfl; (with_reducible repeat (first | refine blk_drewN ?_ _ | refine blk_drew ?_ | refine blk_alloc ?_ _)); exact BK117.out⟩
            have n2_ : Aside0 (IsS157 w0 (((w62.setCell ⟨gb117, 0, none⟩ (.int .i64 (wrap64 (16 + t109)))).setCell ⟨gb117, 1, none⟩ (.int .i64 (wrap64 (2 + t113)))).setCell ⟨gb117, 2, none⟩ (.int .i64 0)) g s0_0 t114 t115 t116) := ⟨by repeat (first | (with_reducible first | exact HI0.out | apply IsS157.alloc | apply IsS157.drewN | apply IsS157.drew | apply IsS157.set_1 | apply IsS157.set_2 | apply IsS157.set_3 | refine IsS157.far ?_ NB0_108.out _ | refine IsS157.far ?_ NB0_117.out _) | exact HI0.out)⟩
            have n3_ : Aside0 (KeepBut w (((w62.setCell ⟨gb117, 0, none⟩ (.int .i64 (wrap64 (16 + t109)))).setCell ⟨gb117, 1, none⟩ (.int .i64 (wrap64 (2 + t113)))).setCell ⟨gb117, 2, none⟩ (.int .i64 0)) g none) := ⟨by repeat (first | (with_reducible first | exact HK.out | apply KeepBut.set_ | apply keep_drewN | apply keep_drew | apply keep_alloc | refine keep_far ?_ GW108.out _ | refine keep_far ?_ GW117.out _) | exact HK.out)⟩
            have n4_ : Aside0 (Below w0.heap.size w0 (((w62.setCell ⟨gb117, 0, none⟩ (.int .i64 (wrap64 (16 + t109)))).setCell ⟨gb117, 1, none⟩ (.int .i64 (wrap64 (2 + t113)))).setCell ⟨gb117, 2, none⟩ (.int .i64 0))) := ⟨by repeat (first | (with_reducible first | exact HB.out | apply below_alloc | apply pw_below_drewN | apply below_drew1 | refine below_set ?_ (IsS157.ge HI0.out) | refine below_set ?_ GE108.out | refine below_set ?_ GE117.out) | exact HB.out)⟩
            (try clear BK108)
            (try clear BK117)
            (try clear HI0)
            (try clear HK)
            (try clear HB)
            generalize (((w62.setCell ⟨gb117, 0, none⟩ (.int .i64 (wrap64 (16 + t109)))).setCell ⟨gb117, 1, none⟩ (.int .i64 (wrap64 (2 + t113)))).setCell ⟨gb117, 2, none⟩ (.int .i64 0)) = w66 at n0_ n1_ n2_ n3_ n4_ ⊢
            have BK108 := n0_
            have BK117 := n1_
            have HI0 := n2_
            have HK := n3_
            have HB := n4_
            clear n0_ n1_ n2_ n3_ n4_
            have n0_ := Aside0.mk (blk_drew BK108.out)
            have n1_ := Aside0.mk (blk_drew BK117.out)
            have n2_ := Aside0.mk (IsS157.drew HI0.out)
            have n3_ := Aside0.mk (keep_drew HK.out)
            have n4_ := Aside0.mk (below_drew1 HB.out)
            clear BK108
            clear BK117
            clear HI0
            clear HK
            clear HB
            have BK108 := n0_
            have BK117 := n1_
            have HI0 := n2_
            have HK := n3_
            have HB := n4_
            clear n0_ n1_ n2_ n3_ n4_
            refine start_ (n := 7) (S := fun w' => w'.cell? ⟨gb117, 0, none⟩ = some (.int .i64 (wrap64 (16 + t109))) ∧ w'.cell? ⟨gb117, 1, none⟩ = some (.int .i64 (wrap64 (2 + t113))) ∧ w'.cell? ⟨gb117, 2, none⟩ = some (.int .i64 0)) (ds := [6]) #[false, false, false, false, false, false, false] (by kernel_rfl) rfl rfl ⟨(blk_cell BK117.out 0).trans rfl, (blk_cell BK117.out 1).trans rfl, (blk_cell BK117.out 2).trans rfl⟩ (fun hHeld => ?_)
            generalize w66.drew = w67 at BK108 BK117 HI0 HK HB hHeld ⊢
            refine pure_ (i := 0) (N := some 11) (v := ?_) (a' := ?_) #[true, false, false, false, false, false, false] rfl rfl (by kernel_rfl) (fun _ _ _ h => h) (Or.inl ⟨by rfl, ?_⟩) ?_ ?_
            rotate_left
            · intro w'
              go_simp
              with_reducible rfl
            rotate_left
            · simp only [Act.put, List.setIfInBounds_toArray, List.set_cons_zero, List.set_cons_succ, i64_w, i32_w]
              rfl
            refine pure_ (i := 2) (N := some 13) (v := ?_) (a' := ?_) #[true, false, true, false, false, false, false] rfl rfl (by kernel_rfl) (fun _ _ _ h => h) (Or.inl ⟨by rfl, ?_⟩) ?_ ?_
            rotate_left
            · intro w'
              go_simp
              with_reducible rfl
            rotate_left
            · simp only [Act.put, List.setIfInBounds_toArray, List.set_cons_zero, List.set_cons_succ, i64_w, i32_w]
              rfl
            refine take_ (i := 1) (N := some 12) (v := ?_) (a' := ?_) #[true, true, true, false, false, false, false] rfl rfl (by kernel_rfl) (fun _ _ _ h => h) (Or.inl ⟨by rfl, ?_⟩) hHeld ?_ ?_
            rotate_left
            · rintro w' ⟨s0, s1, s2⟩
              go_simp
              with_reducible rfl
            rotate_left
            · simp only [Act.put, List.setIfInBounds_toArray, List.set_cons_zero, List.set_cons_succ, i64_w, i32_w]
              rfl
            refine one_ (i := 3) (N := some 14) #[true, true, true, true, false, false, false] rfl rfl (by kernel_rfl) (by decide) (fun K hK => ?_)
            refine goes_ Try.func77 (by kernel_rfl) rfl #[.pointer (some ⟨g, 0, none⟩), .int .i64 40] (by rfl) rfl rfl (by (try simp only [List.map_toArray, List.map_cons, List.map_nil]); first | done | rfl | (simp only [List.length_drop, List.length_take]; rfl)) ?_
            with_reducible refine (spec_l01Src_n.calls g s0_0 t114 t115 t116 40 t118 t119 t120 t121 w0 _ ?side1 ?side2 A4.out).mono ?_
            (case side1 => repeat (first | (with_reducible first | exact HI0.out | apply IsS157.alloc | apply IsS157.drewN | apply IsS157.drew | apply IsS157.set_1 | apply IsS157.set_2 | apply IsS157.set_3 | refine IsS157.far ?_ NB0_108.out _ | refine IsS157.far ?_ NB0_117.out _) | exact HI0.out))
            (case side2 => repeat (first | (with_reducible first | exact HB.out | apply below_alloc | apply pw_below_drewN | apply below_drew1 | refine below_set ?_ (IsS157.ge HI0.out) | refine below_set ?_ GE108.out | refine below_set ?_ GE117.out) | exact HB.out))
            rintro e w68 ⟨rfl, hi, hb, hk⟩
            refine ⟨_, rfl, ?_⟩
            have n0_ := Aside0.mk (KeepBut.blk hk (g' := gb108) (o := .cells #[.int .i64 0, .int .i64 0, .int .i64 0] 40 (0, 0)) (by (with_reducible repeat (first | refine blk_drewN ?_ _ | refine blk_drew ?_ | refine blk_alloc ?_ _)); exact BK108.out) NB108_0.out (by simp))
            have n1_ := Aside0.mk (KeepBut.blk hk (g' := gb117) (o := .cells #[.int .i64 (wrap64 (16 + t109)), .int .i64 (wrap64 (2 + t113)), .int .i64 0] 40 (0, 0)) (by (with_reducible repeat (first | refine blk_drewN ?_ _ | refine blk_drew ?_ | refine blk_alloc ?_ _)); exact BK117.out) NB117_0.out (by simp))
            have n2_ := Aside0.mk (KeepBut.trans (by repeat (first | (with_reducible first | exact HK.out | apply KeepBut.set_ | apply keep_drewN | apply keep_drew | apply keep_alloc | refine keep_far ?_ GW108.out _ | refine keep_far ?_ GW117.out _) | exact HK.out)) hk (.inl rfl))
            have n3_ := Aside0.mk (hb)
            have n4_ := Aside0.mk (hi)
            clear BK108
            clear BK117
            clear HK
            clear HB
            clear HI0
            have BK108 := n0_
            have BK117 := n1_
            have HK := n2_
            have HB := n3_
            have HI0 := n4_
            clear n0_ n1_ n2_ n3_ n4_
            (try clear hb)
            (try clear hb2)
            (try clear hk)
            (try clear hi)
            refine hK.out _ _ ⟨(blk_cell BK117.out 0).trans rfl, (blk_cell BK117.out 1).trans rfl, (blk_cell BK117.out 2).trans rfl⟩ (fun hHeld => ?_)
            clear hK K
            refine norm_ (a' := ?_) ?_ ?_
            rotate_left
            · show Act.put _ (some 14) _ = _
              simp only [Act.put, List.setIfInBounds_toArray, List.set_cons_zero, List.set_cons_succ, i64_w, i32_w]
              rfl
            refine pure_ (i := 4) (N := some 15) (v := ?_) (a' := ?_) #[true, true, true, true, true, false, false] rfl rfl (by kernel_rfl) (fun _ _ _ h => h) (Or.inl ⟨by rfl, ?_⟩) ?_ ?_
            rotate_left
            · intro w'
              go_simp
              with_reducible rfl
            rotate_left
            · simp only [Act.put, List.setIfInBounds_toArray, List.set_cons_zero, List.set_cons_succ, i64_w, i32_w]
              rfl
            refine pure_ (i := 5) (N := some 16) (v := ?_) (a' := ?_) #[true, true, true, true, true, true, false] rfl rfl (by kernel_rfl) (fun _ _ _ h => h) (Or.inl ⟨by rfl, ?_⟩) ?_ ?_
            rotate_left
            · intro w'
              go_simp
              with_reducible rfl
            rotate_left
            · simp only [Act.put, List.setIfInBounds_toArray, List.set_cons_zero, List.set_cons_succ, i64_w, i32_w]
              rfl
            refine last_ (i := 6) (N := none) #[true, true, true, true, true, true, true] rfl rfl (by kernel_rfl) (by decide) (fun K hK => ?_)
            have hs69 : w68.cell? ⟨gb117, 2, none⟩ = some (.int .i64 0) := (blk_cell BK117.out 2).trans rfl
            have hfs69 := blk_frozen BK117.out 2
            have hns69_0 := NB108_117.out
            have hms69_0 := NB117_108.out
            refine skip_ (w1 := ?_) (by rfl) rfl ?_ ?_
            rotate_left
            · go_simp
              rfl
            refine hK.out _ _ ?_
            clear hK K
            refine done_ (by kernel_rfl) ?_
            try go_wp2_with (first | ((with_reducible refine gate_callee (f := 85) rfl ?_); refine goesL_ (some 18) rfl rfl Try.func85 (by kernel_rfl) rfl #[.pointer (some ⟨g, 0, none⟩), .int .i64 15] rfl (by (try simp only [List.map_toArray, List.map_cons, List.map_nil]); first | done | rfl | (simp only [List.length_drop, List.length_take]; rfl)) ?_; (with_reducible refine (spec_l01Src_one.calls g s0_0 t119 t120 t121 15 true t123 t124 t125 w0 _ ?side1 ?side2 A5.out).mono ?_); (case side1 => repeat (first | (with_reducible first | exact HI0.out | apply IsS157.alloc | apply IsS157.drewN | apply IsS157.drew | apply IsS157.set_1 | apply IsS157.set_2 | apply IsS157.set_3 | refine IsS157.far ?_ NB0_108.out _ | refine IsS157.far ?_ NB0_117.out _) | exact HI0.out)); (case side2 => repeat (first | (with_reducible first | exact HB.out | apply below_alloc | apply pw_below_drewN | apply below_drew1 | refine below_set ?_ (IsS157.ge HI0.out) | refine below_set ?_ GE108.out | refine below_set ?_ GE117.out) | exact HB.out)); rintro e w70 ⟨rfl, hi, hb, hk⟩; refine ⟨_, rfl, ?_⟩; have n0_ := Aside0.mk (KeepBut.blk hk (g' := gb108) (o := .cells #[.int .i64 0, .int .i64 0, .int .i64 0] 40 (0, 0)) (by (with_reducible repeat (first | refine blk_drewN ?_ _ | refine blk_drew ?_ | refine blk_alloc ?_ _)); refine blk_far ?_ NB108_117.out _; (with_reducible repeat (first | refine blk_drewN ?_ _ | refine blk_drew ?_ | refine blk_alloc ?_ _)); exact BK108.out) NB108_0.out (by simp)); have n1_ := Aside0.mk (KeepBut.blk hk (g' := gb117) (o := .cells #[.int .i64 (wrap64 (16 + t109)), .int .i64 (wrap64 (2 + t113)), .int .i64 (wrap64 ((wrap64 (16 + t109)) + t118))] 40 (0, 0)) (by (with_reducible repeat (first | refine blk_drewN ?_ _ | refine blk_drew ?_ | refine blk_alloc ?_ _)); refine blk_put (cs := #[.int .i64 (wrap64 (16 + t109)), .int .i64 (wrap64 (2 + t113)), .int .i64 0]) ?_ 2 _ rfl; (with_reducible repeat (first | refine blk_drewN ?_ _ | refine blk_drew ?_ | refine blk_alloc ?_ _)); exact BK117.out) NB117_0.out (by simp)); have n2_ := Aside0.mk (KeepBut.trans (by repeat (first | (with_reducible first | exact HK.out | apply KeepBut.set_ | apply keep_drewN | apply keep_drew | apply keep_alloc | refine keep_far ?_ GW108.out _ | refine keep_far ?_ GW117.out _) | exact HK.out)) hk (.inl rfl)); have n3_ := Aside0.mk (hb); have n4_ := Aside0.mk (hi); clear BK108; clear BK117; clear HK; clear HB; clear HI0; have BK108 := n0_; have BK117 := n1_; have HK := n2_; have HB := n3_; have HI0 := n4_; clear n0_ n1_ n2_ n3_ n4_; (try clear hb); (try clear hb2); (try clear hk); (try clear hi)) | ((with_reducible refine gate_callee (f := 77) rfl ?_); refine goesL_ (some 20) rfl rfl Try.func77 (by kernel_rfl) rfl #[.pointer (some ⟨g, 0, none⟩), .int .i64 3] rfl (by (try simp only [List.map_toArray, List.map_cons, List.map_nil]); first | done | rfl | (simp only [List.length_drop, List.length_take]; rfl)) ?_; (with_reducible refine (spec_l01Src_n.calls g s0_0 t123 t124 t125 3 t126 t127 t128 t129 w0 _ ?side1 ?side2 A7.out).mono ?_); (case side1 => repeat (first | (with_reducible first | exact HI0.out | apply IsS157.alloc | apply IsS157.drewN | apply IsS157.drew | apply IsS157.set_1 | apply IsS157.set_2 | apply IsS157.set_3 | refine IsS157.far ?_ NB0_108.out _ | refine IsS157.far ?_ NB0_117.out _) | exact HI0.out)); (case side2 => repeat (first | (with_reducible first | exact HB.out | apply below_alloc | apply pw_below_drewN | apply below_drew1 | refine below_set ?_ (IsS157.ge HI0.out) | refine below_set ?_ GE108.out | refine below_set ?_ GE117.out) | exact HB.out)); rintro e w71 ⟨rfl, hi, hb, hk⟩; refine ⟨_, rfl, ?_⟩; have n0_ := Aside0.mk (KeepBut.blk hk (g' := gb108) (o := .cells #[.int .i64 0, .int .i64 0, .int .i64 0] 40 (0, 0)) (by (with_reducible repeat (first | refine blk_drewN ?_ _ | refine blk_drew ?_ | refine blk_alloc ?_ _)); exact BK108.out) NB108_0.out (by simp)); have n1_ := Aside0.mk (KeepBut.blk hk (g' := gb117) (o := .cells #[.int .i64 (wrap64 (16 + t109)), .int .i64 (wrap64 (2 + t113)), .int .i64 (wrap64 ((wrap64 (16 + t109)) + t118))] 40 (0, 0)) (by (with_reducible repeat (first | refine blk_drewN ?_ _ | refine blk_drew ?_ | refine blk_alloc ?_ _)); exact BK117.out) NB117_0.out (by simp)); have n2_ := Aside0.mk (KeepBut.trans (by repeat (first | (with_reducible first | exact HK.out | apply KeepBut.set_ | apply keep_drewN | apply keep_drew | apply keep_alloc | refine keep_far ?_ GW108.out _ | refine keep_far ?_ GW117.out _) | exact HK.out)) hk (.inl rfl)); have n3_ := Aside0.mk (hb); have n4_ := Aside0.mk (hi); clear BK108; clear BK117; clear HK; clear HB; clear HI0; have BK108 := n0_; have BK117 := n1_; have HK := n2_; have HB := n3_; have HI0 := n4_; clear n0_ n1_ n2_ n3_ n4_; (try clear hb); (try clear hb2); (try clear hk); (try clear hi)))
            have pi153 : (0 ≤ (t149 : Int)) = True := eq_true (of_decide_eq_true (by first | (with_reducible assumption) | assumption))
            have qi153 : (t149 < (y146.length : Int)) = True := eq_true (of_decide_eq_true (by first | (with_reducible assumption) | assumption))
            have n0_ := Aside0.mk (blk_drew BK108.out)
            have n1_ := Aside0.mk (blk_drew BK117.out)
            have n2_ := Aside0.mk (IsS157.drew HI0.out)
            have n3_ := Aside0.mk (keep_drew HK.out)
            have n4_ := Aside0.mk (below_drew1 HB.out)
            clear BK108
            clear BK117
            clear HI0
            clear HK
            clear HB
            have BK108 := n0_
            have BK117 := n1_
            have HI0 := n2_
            have HK := n3_
            have HB := n4_
            clear n0_ n1_ n2_ n3_ n4_
            refine start_ (n := 12) (S := fun w' => w'.cell? ⟨gb117, 0, none⟩ = some (.int .i64 (wrap64 (16 + t109))) ∧ w'.cell? ⟨gb117, 1, none⟩ = some (.int .i64 (wrap64 (2 + t113))) ∧ w'.cell? ⟨gb117, 2, none⟩ = some (.int .i64 (wrap64 ((wrap64 (16 + t109)) + t118)))) (ds := [11]) #[false, false, false, false, false, false, false, false, false, false, false, false] (by kernel_rfl) rfl rfl ⟨(blk_cell BK117.out 0).trans rfl, (blk_cell BK117.out 1).trans rfl, (blk_cell BK117.out 2).trans rfl⟩ (fun hHeld => ?_); refine with_tabW spec_l01Src_l06Cutting.tab5 spec_l01Src_l06Cutting.bits5 (fun HT_ HW_ => ?_)
            generalize w71.drew = w72 at BK108 BK117 HI0 HK HB hHeld ⊢
            refine pure_ (i := 0) (N := some 21) (v := ?_) (a' := ?_) #[true, false, false, false, false, false, false, false, false, false, false, false] rfl rfl (any_of HT_.out (by kernel_rfl)) (fun _ _ _ h => h) (Or.inl ⟨by rfl, ?_⟩) ?_ ?_
            rotate_left
            · intro w'
              go_simp
              with_reducible rfl
            rotate_left
            · simp only [Act.put, List.setIfInBounds_toArray, List.set_cons_zero, List.set_cons_succ, i64_w, i32_w]
              rfl
            refine pure_ (i := 3) (N := some 24) (v := ?_) (a' := ?_) #[true, false, false, true, false, false, false, false, false, false, false, false] rfl rfl (any_of HT_.out (by kernel_rfl)) (fun _ _ _ h => h) (Or.inl ⟨by rfl, ?_⟩) ?_ ?_
            rotate_left
            · intro w'
              go_simp
              with_reducible rfl
            rotate_left
            · simp only [Act.put, List.setIfInBounds_toArray, List.set_cons_zero, List.set_cons_succ, i64_w, i32_w]
              rfl
            refine pure_ (i := 6) (N := some 27) (v := ?_) (a' := ?_) #[true, false, false, true, false, false, true, false, false, false, false, false] rfl rfl (any_of HT_.out (by kernel_rfl)) (fun _ _ _ h => h) (Or.inl ⟨by rfl, ?_⟩) ?_ ?_
            rotate_left
            · intro w'
              go_simp
              with_reducible rfl
            rotate_left
            · simp only [Act.put, List.setIfInBounds_toArray, List.set_cons_zero, List.set_cons_succ, i64_w, i32_w]
              rfl
            refine take_ (i := 1) (N := some 22) (v := ?_) (a' := ?_) #[true, true, false, true, false, false, true, false, false, false, false, false] rfl rfl (take_ofW HT_.out HW_.out (by kernel_rfl)) (fun _ _ _ h => h) (Or.inl ⟨by rfl, ?_⟩) hHeld ?_ ?_
            rotate_left
            · rintro w' ⟨s0, s1, s2⟩
              go_simp
              with_reducible rfl
            rotate_left
            · simp only [Act.put, List.setIfInBounds_toArray, List.set_cons_zero, List.set_cons_succ, i64_w, i32_w]
              rfl
            refine pure_ (i := 2) (N := some 23) (v := ?_) (a' := ?_) #[true, true, true, true, false, false, true, false, false, false, false, false] rfl rfl (any_of HT_.out (by kernel_rfl)) (fun _ _ _ h => h) (Or.inl ⟨by rfl, ?_⟩) ?_ ?_
            rotate_left
            · intro w'
              go_simp
              with_reducible rfl
            rotate_left
            · simp only [Act.put, List.setIfInBounds_toArray, List.set_cons_zero, List.set_cons_succ, i64_w, i32_w]
              rfl
            refine take_ (i := 4) (N := some 25) (v := ?_) (a' := ?_) #[true, true, true, true, true, false, true, false, false, false, false, false] rfl rfl (take_ofW HT_.out HW_.out (by kernel_rfl)) (fun _ _ _ h => h) (Or.inl ⟨by rfl, ?_⟩) hHeld ?_ ?_
            rotate_left
            · rintro w' ⟨s0, s1, s2⟩
              go_simp
              with_reducible rfl
            rotate_left
            · simp only [Act.put, List.setIfInBounds_toArray, List.set_cons_zero, List.set_cons_succ, i64_w, i32_w]
              rfl
            refine join_ (σ := Value × Addr) 4 #[true, true, true, true, true, true, true, true, false, false, false, false] (fun s_ => [(26, s_.1), (28, .int .i64 t149)]) (fun s_ w' => (w'.cell? ⟨gb117, 0, none⟩ = some (.int .i64 (wrap64 (16 + t109))) ∧ w'.cell? ⟨gb117, 1, none⟩ = some (.int .i64 (wrap64 (2 + t113))) ∧ w'.cell? ⟨gb117, 2, none⟩ = some (.int .i64 (wrap64 ((wrap64 (16 + t109)) + t118)))) ∧ (Kd.R (Kd.int .i64) 2 w' w.heap.size (fun _ => True) s_.1 y146) ∧ (∃ c_, (s_.1 : Value) = .slice (some s_.2) y146.length c_) ∧ (w'.heap[gb108]? = some (.cells #[.int .i64 0, .int .i64 0, .int .i64 0] 40 (0, 0))) ∧ (w'.heap[gb117]? = some (.cells #[.int .i64 (wrap64 (16 + t109)), .int .i64 (wrap64 (2 + t113)), .int .i64 (wrap64 ((wrap64 (16 + t109)) + t118))] 40 (0, 0))) ∧ (IsS157 w0 w' g s0_0 t150 t151 t152) ∧ (KeepBut w w' g none) ∧ (Below w0.heap.size w0 w')) ?_ ?_
            rotate_left
            · intro hCont
              refine two_ (i := 5) (j := 7) (Ni := some 26) (Nj := some 28) #[true, true, true, true, true, true, true, false, false, false, false, false] #[true, true, true, true, true, false, true, true, false, false, false, false] rfl rfl rfl rfl (two_of HT_.out (by kernel_rfl)) (by decide) (by decide) (fun K hK => ?_) (fun K hK => ?_)
              · skip
                refine Kd.R_lit_step (Kd.int .i64) _ 2 ?hg (N := 26) ?hd (xs := ([wrap64 ((wrap64 (16 + t109)) - 1), wrap64 (16 + t109), 2000, 2001] : List Int)) (inner := [.int .i64 (wrap64 ((wrap64 (16 + t109)) - 1)), .int .i64 (wrap64 (16 + t109)), .int .i64 2000, .int .i64 2001]) (ok := fun _ => True) (okp := fun _ => True) ?hr ?hp (fun _ hk => hk) trivial (Below.refl _ _) (Nat.le_refl _) (by simp) ?_; (case hd => rfl); (case hg => rfl); (case hr => first | (go_simp; done) | (go_simp; rfl)); (case hp => exact (Reps.one (show Kd.M (Kd.int .i64) _ _ _ (wrap64 ((wrap64 (16 + t109)) - 1)) [.int .i64 (wrap64 ((wrap64 (16 + t109)) - 1))] from rfl) (Reps.one (show Kd.M (Kd.int .i64) _ _ _ (wrap64 (16 + t109)) [.int .i64 (wrap64 (16 + t109))] from rfl) (Reps.one (show Kd.M (Kd.int .i64) _ _ _ 2000 [.int .i64 2000] from rfl) (Reps.one (show Kd.M (Kd.int .i64) _ _ _ 2001 [.int .i64 2001] from rfl) (Reps.none _ _))))))
                intro v147 w73 ho74 hb hg_ hnew_
                clear hg_ hnew_
                (first | rw [← Ny146.out] at ho74 | (simp only [Int.reduceToNat] at ho74; rw [← Ny146.out] at ho74))
                have n0_ := Aside0.mk (Kd.R_lower ho74 (keep_size (w := w) (g := g) (row := none) (by repeat (first | (with_reducible first | exact HK.out | apply KeepBut.set_ | apply keep_drewN | apply keep_drew | apply keep_alloc | refine keep_far ?_ GW108.out _ | refine keep_far ?_ GW117.out _) | exact HK.out))))
                have n1_ := Aside0.mk (IsS157.below (by repeat (first | (with_reducible first | exact HI0.out | apply IsS157.alloc | apply IsS157.drewN | apply IsS157.drew | apply IsS157.set_1 | apply IsS157.set_2 | apply IsS157.set_3 | refine IsS157.far ?_ NB0_108.out _ | refine IsS157.far ?_ NB0_117.out _) | exact HI0.out)) hb)
                have n2_ := Aside0.mk (blk_below (g := gb108) (o := .cells #[.int .i64 0, .int .i64 0, .int .i64 0] 40 (0, 0)) (by (with_reducible repeat (first | refine blk_drewN ?_ _ | refine blk_drew ?_ | refine blk_alloc ?_ _)); exact BK108.out) hb)
                have n3_ := Aside0.mk (blk_below (g := gb117) (o := .cells #[.int .i64 (wrap64 (16 + t109)), .int .i64 (wrap64 (2 + t113)), .int .i64 (wrap64 ((wrap64 (16 + t109)) + t118))] 40 (0, 0)) (by (with_reducible repeat (first | refine blk_drewN ?_ _ | refine blk_drew ?_ | refine blk_alloc ?_ _)); exact BK117.out) hb)
                have n4_ := Aside0.mk (KeepBut.trans (by repeat (first | (with_reducible first | exact HK.out | apply KeepBut.set_ | apply keep_drewN | apply keep_drew | apply keep_alloc | refine keep_far ?_ GW108.out _ | refine keep_far ?_ GW117.out _) | exact HK.out)) (KeepBut.of_below hb g none) (.inl rfl))
                have n5_ := Aside0.mk (below_step (by repeat (first | (with_reducible first | exact HB.out | apply below_alloc | apply pw_below_drewN | apply below_drew1 | refine below_set ?_ (IsS157.ge HI0.out) | refine below_set ?_ GE108.out | refine below_set ?_ GE117.out) | exact HB.out)) hb)
                clear HI0
                clear BK108
                clear BK117
                clear HK
                clear HB
                have HO148 := n0_
                have HI0 := n1_
                have BK108 := n2_
                have BK117 := n3_
                have HK := n4_
                have HB := n5_
                clear n0_ n1_ n2_ n3_ n4_ n5_
                clear hb ho74
                obtain ⟨Ao75, co75, eo75⟩ := Kd.R_slice HO148.out
                subst eo75
                obtain ⟨ado75, fo75, _⟩ := Kd.at_int (Kd.R_reads' HO148.out).2.2 0 (by decide) (by rw [Ny146.out]; simp)
                cases fo75
                refine hK.out _ _ ⟨(blk_cell BK117.out 0).trans rfl, (blk_cell BK117.out 1).trans rfl, (blk_cell BK117.out 2).trans rfl⟩ (fun hHeld => ?_)
                clear hK K
                refine norm_ (a' := ?_) ?_ ?_
                rotate_left
                · show Act.put _ (some 26) _ = _
                  simp only [Act.put, List.setIfInBounds_toArray, List.set_cons_zero, List.set_cons_succ, i64_w, i32_w]
                  rfl
                refine one_ (i := 7) (N := some 28) #[true, true, true, true, true, true, true, true, false, false, false, false] rfl rfl (one_of HT_.out (by kernel_rfl)) (by decide) (fun K hK => ?_)
                refine goes_ Try.func77 (by kernel_rfl) rfl #[.pointer (some ⟨g, 0, none⟩), .int .i64 4] (by rfl) rfl rfl (by (try simp only [List.map_toArray, List.map_cons, List.map_nil]); first | done | rfl | (simp only [List.length_drop, List.length_take]; rfl)) ?_
                with_reducible refine (spec_l01Src_n.calls g s0_0 t127 t128 t129 4 t149 t150 t151 t152 w0 _ ?side1 ?side2 A56.out).mono ?_
                (case side1 => repeat (first | (with_reducible first | exact HI0.out | apply IsS157.alloc | apply IsS157.drewN | apply IsS157.drew | apply IsS157.set_1 | apply IsS157.set_2 | apply IsS157.set_3 | refine IsS157.far ?_ NB0_108.out _ | refine IsS157.far ?_ NB0_117.out _) | exact HI0.out))
                (case side2 => repeat (first | (with_reducible first | exact HB.out | apply below_alloc | apply pw_below_drewN | apply below_drew1 | refine below_set ?_ (IsS157.ge HI0.out) | refine below_set ?_ GE108.out | refine below_set ?_ GE117.out) | exact HB.out))
                rintro e w76 ⟨rfl, hi, hb, hk⟩
                refine ⟨_, rfl, ?_⟩
                have n0_ := Aside0.mk (KeepBut.blk hk (g' := gb108) (o := .cells #[.int .i64 0, .int .i64 0, .int .i64 0] 40 (0, 0)) (by (with_reducible repeat (first | refine blk_drewN ?_ _ | refine blk_drew ?_ | refine blk_alloc ?_ _)); exact BK108.out) NB108_0.out (by simp))
                have n1_ := Aside0.mk (KeepBut.blk hk (g' := gb117) (o := .cells #[.int .i64 (wrap64 (16 + t109)), .int .i64 (wrap64 (2 + t113)), .int .i64 (wrap64 ((wrap64 (16 + t109)) + t118))] 40 (0, 0)) (by (with_reducible repeat (first | refine blk_drewN ?_ _ | refine blk_drew ?_ | refine blk_alloc ?_ _)); exact BK117.out) NB117_0.out (by simp))
                have n2_ := Aside0.mk (Kd.R_mono (Kd.R_keep (IsS157.apart (show IsS157 w0 _ g s0_0 t127 t128 t129 from by repeat (first | (with_reducible first | exact HI0.out | apply IsS157.alloc | apply IsS157.drewN | apply IsS157.drew | apply IsS157.set_1 | apply IsS157.set_2 | apply IsS157.set_3 | refine IsS157.far ?_ NB0_108.out _ | refine IsS157.far ?_ NB0_117.out _) | exact HI0.out)) (by (with_reducible repeat (first | apply Kd.R_alloc | apply Kd.R_drewN | apply Kd.R_drew)); exact HO148.out) (by decide)) hk (fun _ h => h.2)) (fun _ h => h.1))
                have n3_ := Aside0.mk (KeepBut.trans (by repeat (first | (with_reducible first | exact HK.out | apply KeepBut.set_ | apply keep_drewN | apply keep_drew | apply keep_alloc | refine keep_far ?_ GW108.out _ | refine keep_far ?_ GW117.out _) | exact HK.out)) hk (.inl rfl))
                have n4_ := Aside0.mk (hb)
                have n5_ := Aside0.mk (hi)
                clear BK108
                clear BK117
                clear HO148
                clear HK
                clear HB
                clear HI0
                have BK108 := n0_
                have BK117 := n1_
                have HO148 := n2_
                have HK := n3_
                have HB := n4_
                have HI0 := n5_
                clear n0_ n1_ n2_ n3_ n4_ n5_
                (try clear hb)
                (try clear hb2)
                (try clear hk)
                (try clear hi)
                refine hK.out _ _ ⟨(blk_cell BK117.out 0).trans rfl, (blk_cell BK117.out 1).trans rfl, (blk_cell BK117.out 2).trans rfl⟩ (fun hHeld => ?_)
                clear hK K
                refine norm_ (a' := ?_) ?_ ?_
                rotate_left
                · show Act.put _ (some 28) _ = _
                  simp only [Act.put, List.setIfInBounds_toArray, List.set_cons_zero, List.set_cons_succ, i64_w, i32_w]
                  rfl
                exact norm_ (by simp only [putAll, Act.put, List.setIfInBounds_toArray, List.set_cons_zero, List.set_cons_succ]) (hCont (.slice (some ado75) y146.length co75, ado75) _ ⟨hHeld, (by (with_reducible repeat (first | apply Kd.R_alloc | apply Kd.R_drewN | apply Kd.R_drew)); exact HO148.out), ⟨_, rfl⟩, (by (with_reducible repeat (first | refine blk_drewN ?_ _ | refine blk_drew ?_ | refine blk_alloc ?_ _)); exact BK108.out), (by (with_reducible repeat (first | refine blk_drewN ?_ _ | refine blk_drew ?_ | refine blk_alloc ?_ _)); exact BK117.out), (by repeat (first | (with_reducible first | exact HI0.out | apply IsS157.alloc | apply IsS157.drewN | apply IsS157.drew | apply IsS157.set_1 | apply IsS157.set_2 | apply IsS157.set_3 | refine IsS157.far ?_ NB0_108.out _ | refine IsS157.far ?_ NB0_117.out _) | exact HI0.out)), (by repeat (first | (with_reducible first | exact HK.out | apply KeepBut.set_ | apply keep_drewN | apply keep_drew | apply keep_alloc | refine keep_far ?_ GW108.out _ | refine keep_far ?_ GW117.out _) | exact HK.out)), (by repeat (first | (with_reducible first | exact HB.out | apply below_alloc | apply pw_below_drewN | apply below_drew1 | refine below_set ?_ (IsS157.ge HI0.out) | refine below_set ?_ GE108.out | refine below_set ?_ GE117.out) | exact HB.out))⟩)
              · skip
                refine goes_ Try.func77 (by kernel_rfl) rfl #[.pointer (some ⟨g, 0, none⟩), .int .i64 4] (by rfl) rfl rfl (by (try simp only [List.map_toArray, List.map_cons, List.map_nil]); first | done | rfl | (simp only [List.length_drop, List.length_take]; rfl)) ?_
                with_reducible refine (spec_l01Src_n.calls g s0_0 t127 t128 t129 4 t149 t150 t151 t152 w0 _ ?side1 ?side2 A56.out).mono ?_
                (case side1 => repeat (first | (with_reducible first | exact HI0.out | apply IsS157.alloc | apply IsS157.drewN | apply IsS157.drew | apply IsS157.set_1 | apply IsS157.set_2 | apply IsS157.set_3 | refine IsS157.far ?_ NB0_108.out _ | refine IsS157.far ?_ NB0_117.out _) | exact HI0.out))
                (case side2 => repeat (first | (with_reducible first | exact HB.out | apply below_alloc | apply pw_below_drewN | apply below_drew1 | refine below_set ?_ (IsS157.ge HI0.out) | refine below_set ?_ GE108.out | refine below_set ?_ GE117.out) | exact HB.out))
                rintro e w73 ⟨rfl, hi, hb, hk⟩
                refine ⟨_, rfl, ?_⟩
                have n0_ := Aside0.mk (KeepBut.blk hk (g' := gb108) (o := .cells #[.int .i64 0, .int .i64 0, .int .i64 0] 40 (0, 0)) (by (with_reducible repeat (first | refine blk_drewN ?_ _ | refine blk_drew ?_ | refine blk_alloc ?_ _)); exact BK108.out) NB108_0.out (by simp))
                have n1_ := Aside0.mk (KeepBut.blk hk (g' := gb117) (o := .cells #[.int .i64 (wrap64 (16 + t109)), .int .i64 (wrap64 (2 + t113)), .int .i64 (wrap64 ((wrap64 (16 + t109)) + t118))] 40 (0, 0)) (by (with_reducible repeat (first | refine blk_drewN ?_ _ | refine blk_drew ?_ | refine blk_alloc ?_ _)); exact BK117.out) NB117_0.out (by simp))
                have n2_ := Aside0.mk (KeepBut.trans (by repeat (first | (with_reducible first | exact HK.out | apply KeepBut.set_ | apply keep_drewN | apply keep_drew | apply keep_alloc | refine keep_far ?_ GW108.out _ | refine keep_far ?_ GW117.out _) | exact HK.out)) hk (.inl rfl))
                have n3_ := Aside0.mk (hb)
                have n4_ := Aside0.mk (hi)
                clear BK108
                clear BK117
                clear HK
                clear HB
                clear HI0
                have BK108 := n0_
                have BK117 := n1_
                have HK := n2_
                have HB := n3_
                have HI0 := n4_
                clear n0_ n1_ n2_ n3_ n4_
                (try clear hb)
                (try clear hb2)
                (try clear hk)
                (try clear hi)
                refine hK.out _ _ ⟨(blk_cell BK117.out 0).trans rfl, (blk_cell BK117.out 1).trans rfl, (blk_cell BK117.out 2).trans rfl⟩ (fun hHeld => ?_)
                clear hK K
                refine norm_ (a' := ?_) ?_ ?_
                rotate_left
                · show Act.put _ (some 28) _ = _
                  simp only [Act.put, List.setIfInBounds_toArray, List.set_cons_zero, List.set_cons_succ, i64_w, i32_w]
                  rfl
                refine one_ (i := 5) (N := some 26) #[true, true, true, true, true, true, true, true, false, false, false, false] rfl rfl (one_of HT_.out (by kernel_rfl)) (by decide) (fun K hK => ?_)
                refine Kd.R_lit_step (Kd.int .i64) _ 2 ?hg (N := 26) ?hd (xs := ([wrap64 ((wrap64 (16 + t109)) - 1), wrap64 (16 + t109), 2000, 2001] : List Int)) (inner := [.int .i64 (wrap64 ((wrap64 (16 + t109)) - 1)), .int .i64 (wrap64 (16 + t109)), .int .i64 2000, .int .i64 2001]) (ok := fun _ => True) (okp := fun _ => True) ?hr ?hp (fun _ hk => hk) trivial (Below.refl _ _) (Nat.le_refl _) (by simp) ?_; (case hd => rfl); (case hg => rfl); (case hr => first | (go_simp; done) | (go_simp; rfl)); (case hp => exact (Reps.one (show Kd.M (Kd.int .i64) _ _ _ (wrap64 ((wrap64 (16 + t109)) - 1)) [.int .i64 (wrap64 ((wrap64 (16 + t109)) - 1))] from rfl) (Reps.one (show Kd.M (Kd.int .i64) _ _ _ (wrap64 (16 + t109)) [.int .i64 (wrap64 (16 + t109))] from rfl) (Reps.one (show Kd.M (Kd.int .i64) _ _ _ 2000 [.int .i64 2000] from rfl) (Reps.one (show Kd.M (Kd.int .i64) _ _ _ 2001 [.int .i64 2001] from rfl) (Reps.none _ _))))))
                intro v147 w74 ho75 hb hg_ hnew_
                clear hg_ hnew_
                (first | rw [← Ny146.out] at ho75 | (simp only [Int.reduceToNat] at ho75; rw [← Ny146.out] at ho75))
                have n0_ := Aside0.mk (Kd.R_lower ho75 (keep_size (w := w) (g := g) (row := none) (by repeat (first | (with_reducible first | exact HK.out | apply KeepBut.set_ | apply keep_drewN | apply keep_drew | apply keep_alloc | refine keep_far ?_ GW108.out _ | refine keep_far ?_ GW117.out _) | exact HK.out))))
                have n1_ := Aside0.mk (IsS157.below (by repeat (first | (with_reducible first | exact HI0.out | apply IsS157.alloc | apply IsS157.drewN | apply IsS157.drew | apply IsS157.set_1 | apply IsS157.set_2 | apply IsS157.set_3 | refine IsS157.far ?_ NB0_108.out _ | refine IsS157.far ?_ NB0_117.out _) | exact HI0.out)) hb)
                have n2_ := Aside0.mk (blk_below (g := gb108) (o := .cells #[.int .i64 0, .int .i64 0, .int .i64 0] 40 (0, 0)) (by (with_reducible repeat (first | refine blk_drewN ?_ _ | refine blk_drew ?_ | refine blk_alloc ?_ _)); exact BK108.out) hb)
                have n3_ := Aside0.mk (blk_below (g := gb117) (o := .cells #[.int .i64 (wrap64 (16 + t109)), .int .i64 (wrap64 (2 + t113)), .int .i64 (wrap64 ((wrap64 (16 + t109)) + t118))] 40 (0, 0)) (by (with_reducible repeat (first | refine blk_drewN ?_ _ | refine blk_drew ?_ | refine blk_alloc ?_ _)); exact BK117.out) hb)
                have n4_ := Aside0.mk (KeepBut.trans (by repeat (first | (with_reducible first | exact HK.out | apply KeepBut.set_ | apply keep_drewN | apply keep_drew | apply keep_alloc | refine keep_far ?_ GW108.out _ | refine keep_far ?_ GW117.out _) | exact HK.out)) (KeepBut.of_below hb g none) (.inl rfl))
                have n5_ := Aside0.mk (below_step (by repeat (first | (with_reducible first | exact HB.out | apply below_alloc | apply pw_below_drewN | apply below_drew1 | refine below_set ?_ (IsS157.ge HI0.out) | refine below_set ?_ GE108.out | refine below_set ?_ GE117.out) | exact HB.out)) hb)
                clear HI0
                clear BK108
                clear BK117
                clear HK
                clear HB
                have HO148 := n0_
                have HI0 := n1_
                have BK108 := n2_
                have BK117 := n3_
                have HK := n4_
                have HB := n5_
                clear n0_ n1_ n2_ n3_ n4_ n5_
                clear hb ho75
                obtain ⟨Ao76, co76, eo76⟩ := Kd.R_slice HO148.out
                subst eo76
                obtain ⟨ado76, fo76, _⟩ := Kd.at_int (Kd.R_reads' HO148.out).2.2 0 (by decide) (by rw [Ny146.out]; simp)
                cases fo76
                refine hK.out _ _ ⟨(blk_cell BK117.out 0).trans rfl, (blk_cell BK117.out 1).trans rfl, (blk_cell BK117.out 2).trans rfl⟩ (fun hHeld => ?_)
                clear hK K
                refine norm_ (a' := ?_) ?_ ?_
                rotate_left
                · show Act.put _ (some 26) _ = _
                  simp only [Act.put, List.setIfInBounds_toArray, List.set_cons_zero, List.set_cons_succ, i64_w, i32_w]
                  rfl
                exact norm_ (by simp only [putAll, Act.put, List.setIfInBounds_toArray, List.set_cons_zero, List.set_cons_succ]) (hCont (.slice (some ado76) y146.length co76, ado76) _ ⟨hHeld, (by (with_reducible repeat (first | apply Kd.R_alloc | apply Kd.R_drewN | apply Kd.R_drew)); exact HO148.out), ⟨_, rfl⟩, (by (with_reducible repeat (first | refine blk_drewN ?_ _ | refine blk_drew ?_ | refine blk_alloc ?_ _)); exact BK108.out), (by (with_reducible repeat (first | refine blk_drewN ?_ _ | refine blk_drew ?_ | refine blk_alloc ?_ _)); exact BK117.out), (by repeat (first | (with_reducible first | exact HI0.out | apply IsS157.alloc | apply IsS157.drewN | apply IsS157.drew | apply IsS157.set_1 | apply IsS157.set_2 | apply IsS157.set_3 | refine IsS157.far ?_ NB0_108.out _ | refine IsS157.far ?_ NB0_117.out _) | exact HI0.out)), (by repeat (first | (with_reducible first | exact HK.out | apply KeepBut.set_ | apply keep_drewN | apply keep_drew | apply keep_alloc | refine keep_far ?_ GW108.out _ | refine keep_far ?_ GW117.out _) | exact HK.out)), (by repeat (first | (with_reducible first | exact HB.out | apply below_alloc | apply pw_below_drewN | apply below_drew1 | refine below_set ?_ (IsS157.ge HI0.out) | refine below_set ?_ GE108.out | refine below_set ?_ GE117.out) | exact HB.out))⟩)
            rintro ⟨v147, adz_v147⟩ w77 ⟨hS_, h0_, h1_, h2_, h3_, h4_, h5_, h6_⟩
            have n0_ : Aside0 (Kd.R (Kd.int .i64) 2 w77 w.heap.size (fun _ => True) v147 y146) := ⟨h0_⟩
            have n1_ : Aside0 (∃ c_, (v147 : Value) = .slice (some adz_v147) y146.length c_) := ⟨h1_⟩
            have n2_ : Aside0 (w77.heap[gb108]? = some (.cells #[.int .i64 0, .int .i64 0, .int .i64 0] 40 (0, 0))) := ⟨h2_⟩
            have n3_ : Aside0 (w77.heap[gb117]? = some (.cells #[.int .i64 (wrap64 (16 + t109)), .int .i64 (wrap64 (2 + t113)), .int .i64 (wrap64 ((wrap64 (16 + t109)) + t118))] 40 (0, 0))) := ⟨h3_⟩
            have n4_ : Aside0 (IsS157 w0 w77 g s0_0 t150 t151 t152) := ⟨h4_⟩
            have n5_ : Aside0 (KeepBut w w77 g none) := ⟨h5_⟩
            have n6_ : Aside0 (Below w0.heap.size w0 w77) := ⟨h6_⟩
            clear BK108
            clear BK117
            clear HI0
            clear HK
            clear HB
            clear h0_ h1_ h2_ h3_ h4_ h5_ h6_
            have HO148 := n0_
            have HA_HO148 := n1_
            have BK108 := n2_
            have BK117 := n3_
            have HI0 := n4_
            have HK := n5_
            have HB := n6_
            clear n0_ n1_ n2_ n3_ n4_ n5_ n6_
            have hHeld : w77.cell? ⟨gb117, 0, none⟩ = some (.int .i64 (wrap64 (16 + t109))) ∧ w77.cell? ⟨gb117, 1, none⟩ = some (.int .i64 (wrap64 (2 + t113))) ∧ w77.cell? ⟨gb117, 2, none⟩ = some (.int .i64 (wrap64 ((wrap64 (16 + t109)) + t118))) := hS_
            obtain ⟨co78, eo78⟩ := HA_HO148.out
            clear HA_HO148
            subst eo78
            refine norm_ (a' := ?_) ?_ ?_
            rotate_left
            · simp only [putAll, Act.put, List.setIfInBounds_toArray, List.set_cons_zero, List.set_cons_succ]
              rfl
            refine pure_ (i := 8) (N := some 29) (v := ?_) (a' := ?_) #[true, true, true, true, true, true, true, true, true, false, false, false] rfl rfl (any_of HT_.out (by kernel_rfl)) (fun _ _ _ h => h) (Or.inl ⟨by rfl, ?_⟩) ?_ ?_
            rotate_left
            · intro w'
              go_simp
              with_reducible rfl
            rotate_left
            · simp only [Act.put, List.setIfInBounds_toArray, List.set_cons_zero, List.set_cons_succ, i64_w, i32_w]
              rfl
            refine one_ (i := 9) (N := some 30) #[true, true, true, true, true, true, true, true, true, true, false, false] rfl rfl (one_of HT_.out (by kernel_rfl)) (by decide) (fun K hK => ?_)
            (have p153 : 0 ≤ (t149 : Int) := of_decide_eq_true (by first | (with_reducible assumption) | assumption); have q153 : t149 < (y146.length : Int) := of_decide_eq_true (by first | (with_reducible assumption) | assumption); obtain ⟨ad153, e153, hx153_0⟩ := Kd.at_int (Kd.R_reads' HO148.out).2.2 t149 p153 q153; obtain rfl : adz_v147 = ad153 := (by injection e153))
            refine value_ (w1 := ?_) (v := ?_) (by rfl) rfl ?_ ?_
            rotate_left 2
            · go_simp
              constructor
              · rfl
              · rfl
            clear hx153_0
            refine hK.out _ _ ⟨(blk_cell BK117.out 0).trans rfl, (blk_cell BK117.out 1).trans rfl, (blk_cell BK117.out 2).trans rfl⟩ (fun hHeld => ?_)
            clear hK K
            refine norm_ (a' := ?_) ?_ ?_
            rotate_left
            · show Act.put _ (some 30) _ = _
              simp only [Act.put, List.setIfInBounds_toArray, List.set_cons_zero, List.set_cons_succ, i64_w, i32_w]
              rfl
            refine pure_ (i := 10) (N := some 31) (v := ?_) (a' := ?_) #[true, true, true, true, true, true, true, true, true, true, true, false] rfl rfl (any_of HT_.out (by kernel_rfl)) (fun _ _ _ h => h) (Or.inl ⟨by rfl, ?_⟩) ?_ ?_
            rotate_left
            · intro w'
              go_simp
              with_reducible rfl
            rotate_left
            · simp only [Act.put, List.setIfInBounds_toArray, List.set_cons_zero, List.set_cons_succ, i64_w, i32_w]
              rfl
            refine last_ (i := 11) (N := none) #[true, true, true, true, true, true, true, true, true, true, true, true] rfl rfl (one_of HT_.out (by kernel_rfl)) (by decide) (fun K hK => ?_)
            have hs79 : w77.cell? ⟨gb117, 2, none⟩ = some (.int .i64 (wrap64 ((wrap64 (16 + t109)) + t118))) := (blk_cell BK117.out 2).trans rfl
            have hfs79 := blk_frozen BK117.out 2
            have hns79_0 := NB108_117.out
            have hms79_0 := NB117_108.out
            refine skip_ (w1 := ?_) (by rfl) rfl ?_ ?_
            rotate_left
            · go_simp
              rfl
            refine hK.out _ _ ?_
            clear hK K
            refine done_ (done_of HT_.out (by kernel_rfl)) ?_
            have hcz80_0 : w77.cell? ⟨gb117, 0, none⟩ = some (.int .i64 (wrap64 (16 + t109))) := (blk_cell BK117.out 0).trans rfl
            have hcz80_1 : w77.cell? ⟨gb117, 1, none⟩ = some (.int .i64 (wrap64 (2 + t113))) := (blk_cell BK117.out 1).trans rfl
            have hcz80_2 : w77.cell? ⟨gb117, 2, none⟩ = some (.int .i64 (wrap64 ((wrap64 (16 + t109)) + t118))) := (blk_cell BK117.out 2).trans rfl
            have hfz80_0 := blk_frozen BK117.out 0
            have hfz80_1 := blk_frozen BK117.out 1
            have hfz80_2 := blk_frozen BK117.out 2
            have hnb81 := NB108_0.out
            have hnc81 := NB0_108.out
            have hcz82_0 : w77.cell? ⟨gb108, 0, none⟩ = some (.int .i64 0) := (blk_cell BK108.out 0).trans rfl
            have hcz82_1 : w77.cell? ⟨gb108, 1, none⟩ = some (.int .i64 0) := (blk_cell BK108.out 1).trans rfl
            have hcz82_2 : w77.cell? ⟨gb108, 2, none⟩ = some (.int .i64 0) := (blk_cell BK108.out 2).trans rfl
            have hfz82_0 := blk_frozen BK108.out 0
            have hfz82_1 := blk_frozen BK108.out 1
            have hfz82_2 := blk_frozen BK108.out 2
            try go_wp2
            refine bodyPost_ret (results_cell_row rfl _ _ gb108 40 #[.int .i64 (wrap64 (16 + t109)), .int .i64 (wrap64 (2 + t113)), .int .i64 (rd y146 t149)] (0, 0) _ rfl (by (with_reducible repeat (first | refine blk_drewN ?_ _ | refine blk_drew ?_ | refine blk_alloc ?_ _)); refine blk_put (cs := #[.int .i64 (wrap64 (16 + t109)), .int .i64 (wrap64 (2 + t113)), .int .i64 0]) ?_ 2 _ rfl; (with_reducible repeat (first | refine blk_drewN ?_ _ | refine blk_drew ?_ | refine blk_alloc ?_ _)); refine blk_put (cs := #[.int .i64 (wrap64 (16 + t109)), .int .i64 0, .int .i64 0]) ?_ 1 _ rfl; (with_reducible repeat (first | refine blk_drewN ?_ _ | refine blk_drew ?_ | refine blk_alloc ?_ _)); refine blk_put (cs := #[.int .i64 0, .int .i64 0, .int .i64 0]) ?_ 0 _ rfl; (with_reducible repeat (first | refine blk_drewN ?_ _ | refine blk_drew ?_ | refine blk_alloc ?_ _)); refine blk_far ?_ NB108_117.out _; (with_reducible repeat (first | refine blk_drewN ?_ _ | refine blk_drew ?_ | refine blk_alloc ?_ _)); exact BK108.out) Try.underlying40 rfl (by kernel_rfl)) rfl ?_
            exact ⟨by first | rfl | (simp [errW_none, errW_some] <;> rfl) | (simp [*, errW_none, errW_some] <;> rfl), by repeat (first | (with_reducible first | exact HI0.out | apply IsS157.alloc | apply IsS157.drewN | apply IsS157.drew | apply IsS157.set_1 | apply IsS157.set_2 | apply IsS157.set_3 | refine IsS157.far ?_ NB0_108.out _ | refine IsS157.far ?_ NB0_117.out _) | exact HI0.out), by repeat (first | (with_reducible first | exact HB.out | apply below_alloc | apply pw_below_drewN | apply below_drew1 | refine below_set ?_ (IsS157.ge HI0.out) | refine below_set ?_ GE108.out | refine below_set ?_ GE117.out) | exact HB.out), by repeat (first | (with_reducible first | exact HK.out | apply KeepBut.set_ | apply keep_drewN | apply keep_drew | apply keep_alloc | refine keep_far ?_ GW108.out _ | refine keep_far ?_ GW117.out _) | exact HK.out)⟩
          · rw [if_neg c58] at H
            exact absurd H (by simp)
        · rw [if_neg c57] at H
          exact absurd H (by simp)
  · replace c6 := Bool.eq_false_iff.mpr c6
    subst c6
    have H1 : (some (wrap64 (16 + t109), wrap64 (2 + t113), wrap64 ((wrap64 (16 + t109)) + t118), t123, t124, t125)) = some (r1, r2, r3, r4, r5, r6) := by rw [if_neg (show ¬ (false = true) by decide)] at H; exact H
    clear H
    have H := H1
    clear H1
    simp only [Option.some.injEq, Prod.mk.injEq] at H
    obtain ⟨rfl, rfl, rfl, rfl, rfl, rfl⟩ := H
    go_enter Try.func147, Try.ntmps147
    try go_wp2_with (first | ((with_reducible refine gate_dst (N := 2) rfl ?_); refine box_event ?hg (N := 2) ?hd (cs := #[.int .i64 0, .int .i64 0, .int .i64 0]) (t := 40) ?hr ?_; (case hd => rfl); (case hg => rfl); (case hr => first | (go_simp; done) | (go_simp; rfl)); intro gb108 hg w83 hbox hb; have n0_ := Aside0.mk (IsS157.below (by repeat (first | (with_reducible first | exact HI0.out | apply IsS157.alloc | apply IsS157.drewN | apply IsS157.drew | apply IsS157.set_1 | apply IsS157.set_2 | apply IsS157.set_3) | exact HI0.out)) hb); have n1_ := Aside0.mk (KeepBut.trans (by repeat (first | (with_reducible first | exact HK.out | apply KeepBut.set_ | apply keep_drewN | apply keep_drew | apply keep_alloc) | exact HK.out)) (KeepBut.of_below hb g none) (.inl rfl)); have n2_ := Aside0.mk (below_step (by repeat (first | (with_reducible first | exact HB.out | apply below_alloc | apply pw_below_drewN | apply below_drew1 | refine below_set ?_ (IsS157.ge HI0.out)) | exact HB.out)) hb); have n3_ := Aside0.mk (hbox); have n4_ := Aside0.mk ((by rw [hg]; exact (keep_size (w := w) (g := g) (row := none) (by repeat (first | (with_reducible first | exact HK.out | apply KeepBut.set_ | apply keep_drewN | apply keep_drew | apply keep_alloc) | exact HK.out))) : w.heap.size ≤ gb108)); have n5_ := Aside0.mk ((Nat.le_trans HW0.out (by rw [hg]; exact (keep_size (w := w) (g := g) (row := none) (by repeat (first | (with_reducible first | exact HK.out | apply KeepBut.set_ | apply keep_drewN | apply keep_drew | apply keep_alloc) | exact HK.out))) : w.heap.size ≤ gb108) : w0.heap.size ≤ gb108)); have n6_ := Aside0.mk ((by rw [hg]; exact Nat.ne_of_lt (IsS157.lt (show IsS157 w0 _ g s0_0 s0_1 s0_2 s0_3 from by repeat (first | (with_reducible first | exact HI0.out | apply IsS157.alloc | apply IsS157.drewN | apply IsS157.drew | apply IsS157.set_1 | apply IsS157.set_2 | apply IsS157.set_3) | exact HI0.out))) : g ≠ gb108)); have n7_ := Aside0.mk ((by rw [hg]; exact Nat.ne_of_gt (IsS157.lt (show IsS157 w0 _ g s0_0 s0_1 s0_2 s0_3 from by repeat (first | (with_reducible first | exact HI0.out | apply IsS157.alloc | apply IsS157.drewN | apply IsS157.drew | apply IsS157.set_1 | apply IsS157.set_2 | apply IsS157.set_3) | exact HI0.out))) : gb108 ≠ g)); clear HI0; clear HK; clear HB; have HI0 := n0_; have HK := n1_; have HB := n2_; have BK108 := n3_; have GW108 := n4_; have GE108 := n5_; have NB0_108 := n6_; have NB108_0 := n7_; clear n0_ n1_ n2_ n3_ n4_ n5_ n6_ n7_; clear hb hbox hg) | ((with_reducible refine gate_callee (f := 77) rfl ?_); refine goesL_ (some 5) rfl rfl Try.func77 (by kernel_rfl) rfl #[.pointer (some ⟨g, 0, none⟩), .int .i64 8] rfl (by (try simp only [List.map_toArray, List.map_cons, List.map_nil]); first | done | rfl | (simp only [List.length_drop, List.length_take]; rfl)) ?_; (with_reducible refine (spec_l01Src_n.calls g s0_0 s0_1 s0_2 s0_3 8 t109 t110 t111 t112 w0 _ ?side1 ?side2 A2.out).mono ?_); (case side1 => repeat (first | (with_reducible first | exact HI0.out | apply IsS157.alloc | apply IsS157.drewN | apply IsS157.drew | apply IsS157.set_1 | apply IsS157.set_2 | apply IsS157.set_3 | refine IsS157.far ?_ NB0_108.out _) | exact HI0.out)); (case side2 => repeat (first | (with_reducible first | exact HB.out | apply below_alloc | apply pw_below_drewN | apply below_drew1 | refine below_set ?_ (IsS157.ge HI0.out) | refine below_set ?_ GE108.out) | exact HB.out)); rintro e w84 ⟨rfl, hi, hb, hk⟩; refine ⟨_, rfl, ?_⟩; have n0_ := Aside0.mk (KeepBut.blk hk (g' := gb108) (o := .cells #[.int .i64 0, .int .i64 0, .int .i64 0] 40 (0, 0)) (by (with_reducible repeat (first | refine blk_drewN ?_ _ | refine blk_drew ?_ | refine blk_alloc ?_ _)); exact BK108.out) NB108_0.out (by simp)); have n1_ := Aside0.mk (KeepBut.trans (by repeat (first | (with_reducible first | exact HK.out | apply KeepBut.set_ | apply keep_drewN | apply keep_drew | apply keep_alloc | refine keep_far ?_ GW108.out _) | exact HK.out)) hk (.inl rfl)); have n2_ := Aside0.mk (hb); have n3_ := Aside0.mk (hi); clear BK108; clear HK; clear HB; clear HI0; have BK108 := n0_; have HK := n1_; have HB := n2_; have HI0 := n3_; clear n0_ n1_ n2_ n3_; (try clear hb); (try clear hb2); (try clear hk); (try clear hi)) | ((with_reducible refine gate_callee (f := 77) rfl ?_); refine goesL_ (some 8) rfl rfl Try.func77 (by kernel_rfl) rfl #[.pointer (some ⟨g, 0, none⟩), .int .i64 3] rfl (by (try simp only [List.map_toArray, List.map_cons, List.map_nil]); first | done | rfl | (simp only [List.length_drop, List.length_take]; rfl)) ?_; (with_reducible refine (spec_l01Src_n.calls g s0_0 t110 t111 t112 3 t113 t114 t115 t116 w0 _ ?side1 ?side2 A3.out).mono ?_); (case side1 => repeat (first | (with_reducible first | exact HI0.out | apply IsS157.alloc | apply IsS157.drewN | apply IsS157.drew | apply IsS157.set_1 | apply IsS157.set_2 | apply IsS157.set_3 | refine IsS157.far ?_ NB0_108.out _) | exact HI0.out)); (case side2 => repeat (first | (with_reducible first | exact HB.out | apply below_alloc | apply pw_below_drewN | apply below_drew1 | refine below_set ?_ (IsS157.ge HI0.out) | refine below_set ?_ GE108.out) | exact HB.out)); rintro e w85 ⟨rfl, hi, hb, hk⟩; refine ⟨_, rfl, ?_⟩; have n0_ := Aside0.mk (KeepBut.blk hk (g' := gb108) (o := .cells #[.int .i64 0, .int .i64 0, .int .i64 0] 40 (0, 0)) (by (with_reducible repeat (first | refine blk_drewN ?_ _ | refine blk_drew ?_ | refine blk_alloc ?_ _)); exact BK108.out) NB108_0.out (by simp)); have n1_ := Aside0.mk (KeepBut.trans (by repeat (first | (with_reducible first | exact HK.out | apply KeepBut.set_ | apply keep_drewN | apply keep_drew | apply keep_alloc | refine keep_far ?_ GW108.out _) | exact HK.out)) hk (.inl rfl)); have n2_ := Aside0.mk (hb); have n3_ := Aside0.mk (hi); clear BK108; clear HK; clear HB; clear HI0; have BK108 := n0_; have HK := n1_; have HB := n2_; have HI0 := n3_; clear n0_ n1_ n2_ n3_; (try clear hb); (try clear hb2); (try clear hk); (try clear hi)) | ((with_reducible refine gate_dst (N := 3) rfl ?_); refine box_event ?hg (N := 3) ?hd (cs := #[.int .i64 0, .int .i64 0, .int .i64 0]) (t := 40) ?hr ?_; (case hd => rfl); (case hg => rfl); (case hr => first | (go_simp; done) | (go_simp; rfl)); intro gb117 hg w86 hbox hb; have n0_ := Aside0.mk (IsS157.below (by repeat (first | (with_reducible first | exact HI0.out | apply IsS157.alloc | apply IsS157.drewN | apply IsS157.drew | apply IsS157.set_1 | apply IsS157.set_2 | apply IsS157.set_3 | refine IsS157.far ?_ NB0_108.out _) | exact HI0.out)) hb); have n1_ := Aside0.mk (blk_below (g := gb108) (o := .cells #[.int .i64 0, .int .i64 0, .int .i64 0] 40 (0, 0)) (by (with_reducible repeat (first | refine blk_drewN ?_ _ | refine blk_drew ?_ | refine blk_alloc ?_ _)); exact BK108.out) hb); have n2_ := Aside0.mk (KeepBut.trans (by repeat (first | (with_reducible first | exact HK.out | apply KeepBut.set_ | apply keep_drewN | apply keep_drew | apply keep_alloc | refine keep_far ?_ GW108.out _) | exact HK.out)) (KeepBut.of_below hb g none) (.inl rfl)); have n3_ := Aside0.mk (below_step (by repeat (first | (with_reducible first | exact HB.out | apply below_alloc | apply pw_below_drewN | apply below_drew1 | refine below_set ?_ (IsS157.ge HI0.out) | refine below_set ?_ GE108.out) | exact HB.out)) hb); have n4_ := Aside0.mk (hbox); have n5_ := Aside0.mk ((by rw [hg]; exact (keep_size (w := w) (g := g) (row := none) (by repeat (first | (with_reducible first | exact HK.out | apply KeepBut.set_ | apply keep_drewN | apply keep_drew | apply keep_alloc | refine keep_far ?_ GW108.out _) | exact HK.out))) : w.heap.size ≤ gb117)); have n6_ := Aside0.mk ((Nat.le_trans HW0.out (by rw [hg]; exact (keep_size (w := w) (g := g) (row := none) (by repeat (first | (with_reducible first | exact HK.out | apply KeepBut.set_ | apply keep_drewN | apply keep_drew | apply keep_alloc | refine keep_far ?_ GW108.out _) | exact HK.out))) : w.heap.size ≤ gb117) : w0.heap.size ≤ gb117)); have n7_ := Aside0.mk ((by rw [hg]; exact Nat.ne_of_lt (blk_lt (g := gb108) (o := .cells #[.int .i64 0, .int .i64 0, .int .i64 0] 40 (0, 0)) (by (with_reducible repeat (first | refine blk_drewN ?_ _ | refine blk_drew ?_ | refine blk_alloc ?_ _)); exact BK108.out)) : gb108 ≠ gb117)); have n8_ := Aside0.mk ((by rw [hg]; exact Nat.ne_of_gt (blk_lt (g := gb108) (o := .cells #[.int .i64 0, .int .i64 0, .int .i64 0] 40 (0, 0)) (by (with_reducible repeat (first | refine blk_drewN ?_ _ | refine blk_drew ?_ | refine blk_alloc ?_ _)); exact BK108.out)) : gb117 ≠ gb108)); have n9_ := Aside0.mk ((by rw [hg]; exact Nat.ne_of_lt (IsS157.lt (show IsS157 w0 _ g s0_0 t114 t115 t116 from by repeat (first | (with_reducible first | exact HI0.out | apply IsS157.alloc | apply IsS157.drewN | apply IsS157.drew | apply IsS157.set_1 | apply IsS157.set_2 | apply IsS157.set_3 | refine IsS157.far ?_ NB0_108.out _) | exact HI0.out))) : g ≠ gb117)); have n10_ := Aside0.mk ((by rw [hg]; exact Nat.ne_of_gt (IsS157.lt (show IsS157 w0 _ g s0_0 t114 t115 t116 from by repeat (first | (with_reducible first | exact HI0.out | apply IsS157.alloc | apply IsS157.drewN | apply IsS157.drew | apply IsS157.set_1 | apply IsS157.set_2 | apply IsS157.set_3 | refine IsS157.far ?_ NB0_108.out _) | exact HI0.out))) : gb117 ≠ g)); clear HI0; clear BK108; clear HK; clear HB; have HI0 := n0_; have BK108 := n1_; have HK := n2_; have HB := n3_; have BK117 := n4_; have GW117 := n5_; have GE117 := n6_; have NB108_117 := n7_; have NB117_108 := n8_; have NB0_117 := n9_; have NB117_0 := n10_; clear n0_ n1_ n2_ n3_ n4_ n5_ n6_ n7_ n8_ n9_ n10_; clear hb hbox hg; have hnb87 := NB117_108.out; have hnc87 := NB108_117.out; have hnb88 := NB117_0.out; have hnc88 := NB0_117.out; have hcz89_0 : w86.cell? ⟨gb117, 0, none⟩ = some (.int .i64 0) := (blk_cell BK117.out 0).trans rfl; have hcz89_1 : w86.cell? ⟨gb117, 1, none⟩ = some (.int .i64 0) := (blk_cell BK117.out 1).trans rfl; have hcz89_2 : w86.cell? ⟨gb117, 2, none⟩ = some (.int .i64 0) := (blk_cell BK117.out 2).trans rfl; have hfz89_0 := blk_frozen BK117.out 0; have hfz89_1 := blk_frozen BK117.out 1; have hfz89_2 := blk_frozen BK117.out 2))
    have n0_ : Aside0 ((((w86.setCell ⟨gb117, 0, none⟩ (.int .i64 (wrap64 (16 + t109)))).setCell ⟨gb117, 1, none⟩ (.int .i64 (wrap64 (2 + t113)))).setCell ⟨gb117, 2, none⟩ (.int .i64 0)).heap[gb108]? = some (.cells #[.int .i64 0, .int .i64 0, .int .i64 0] 40 (0, 0))) := ⟨by (with_reducible repeat (first | refine blk_drewN ?_ _ | refine blk_drew ?_ | refine blk_alloc ?_ _)); refine blk_far ?_ NB108_117.out _; (with_reducible repeat (first | refine blk_drewN ?_ _ | refine blk_drew ?_ | refine blk_alloc ?_ _)); refine blk_far ?_ NB108_117.out _; (with_reducible repeat (first | refine blk_drewN ?_ _ | refine blk_drew ?_ | refine blk_alloc ?_ _)); refine blk_far ?_ NB108_117.out _; (with_reducible repeat (first | refine blk_drewN ?_ _ | refine blk_drew ?_ | refine blk_alloc ?_ _)); exact BK108.out⟩
    have n1_ : Aside0 ((((w86.setCell ⟨gb117, 0, none⟩ (.int .i64 (wrap64 (16 + t109)))).setCell ⟨gb117, 1, none⟩ (.int .i64 (wrap64 (2 + t113)))).setCell ⟨gb117, 2, none⟩ (.int .i64 0)).heap[gb117]? = some (.cells #[.int .i64 (wrap64 (16 + t109)), .int .i64 (wrap64 (2 + t113)), .int .i64 0] 40 (0, 0))) := ⟨by (with_reducible repeat (first | refine blk_drewN ?_ _ | refine blk_drew ?_ | refine blk_alloc ?_ _)); refine blk_put (cs := #[.int .i64 (wrap64 (16 + t109)), .int .i64 (wrap64 (2 + t113)), .int .i64 0]) ?_ 2 _ rfl; (with_reducible repeat (first | refine blk_drewN ?_ _ | refine blk_drew ?_ | refine blk_alloc ?_ _)); refine blk_put (cs := #[.int .i64 (wrap64 (16 + t109)), .int .i64 0, .int .i64 0]) ?_ 1 _ rfl; (with_reducible repeat (first | refine blk_drewN ?_ _ | refine blk_drew ?_ | refine blk_alloc ?_ _)); refine blk_put (cs := #[.int .i64 0, .int .i64 0, .int .i64 0]) ?_ 0 _ rfl; (with_reducible repeat (first | refine blk_drewN ?_ _ | refine blk_drew ?_ | refine blk_alloc ?_ _)); exact BK117.out⟩
    have n2_ : Aside0 (IsS157 w0 (((w86.setCell ⟨gb117, 0, none⟩ (.int .i64 (wrap64 (16 + t109)))).setCell ⟨gb117, 1, none⟩ (.int .i64 (wrap64 (2 + t113)))).setCell ⟨gb117, 2, none⟩ (.int .i64 0)) g s0_0 t114 t115 t116) := ⟨by repeat (first | (with_reducible first | exact HI0.out | apply IsS157.alloc | apply IsS157.drewN | apply IsS157.drew | apply IsS157.set_1 | apply IsS157.set_2 | apply IsS157.set_3 | refine IsS157.far ?_ NB0_108.out _ | refine IsS157.far ?_ NB0_117.out _) | exact HI0.out)⟩
    have n3_ : Aside0 (KeepBut w (((w86.setCell ⟨gb117, 0, none⟩ (.int .i64 (wrap64 (16 + t109)))).setCell ⟨gb117, 1, none⟩ (.int .i64 (wrap64 (2 + t113)))).setCell ⟨gb117, 2, none⟩ (.int .i64 0)) g none) := ⟨by repeat (first | (with_reducible first | exact HK.out | apply KeepBut.set_ | apply keep_drewN | apply keep_drew | apply keep_alloc | refine keep_far ?_ GW108.out _ | refine keep_far ?_ GW117.out _) | exact HK.out)⟩
    have n4_ : Aside0 (Below w0.heap.size w0 (((w86.setCell ⟨gb117, 0, none⟩ (.int .i64 (wrap64 (16 + t109)))).setCell ⟨gb117, 1, none⟩ (.int .i64 (wrap64 (2 + t113)))).setCell ⟨gb117, 2, none⟩ (.int .i64 0))) := ⟨by repeat (first | (with_reducible first | exact HB.out | apply below_alloc | apply pw_below_drewN | apply below_drew1 | refine below_set ?_ (IsS157.ge HI0.out) | refine below_set ?_ GE108.out | refine below_set ?_ GE117.out) | exact HB.out)⟩
    (try clear BK108)
    (try clear BK117)
    (try clear HI0)
    (try clear HK)
    (try clear HB)
    generalize (((w86.setCell ⟨gb117, 0, none⟩ (.int .i64 (wrap64 (16 + t109)))).setCell ⟨gb117, 1, none⟩ (.int .i64 (wrap64 (2 + t113)))).setCell ⟨gb117, 2, none⟩ (.int .i64 0)) = w90 at n0_ n1_ n2_ n3_ n4_ ⊢
    have BK108 := n0_
    have BK117 := n1_
    have HI0 := n2_
    have HK := n3_
    have HB := n4_
    clear n0_ n1_ n2_ n3_ n4_
    have n0_ := Aside0.mk (blk_drew BK108.out)
    have n1_ := Aside0.mk (blk_drew BK117.out)
    have n2_ := Aside0.mk (IsS157.drew HI0.out)
    have n3_ := Aside0.mk (keep_drew HK.out)
    have n4_ := Aside0.mk (below_drew1 HB.out)
    clear BK108
    clear BK117
    clear HI0
    clear HK
    clear HB
    have BK108 := n0_
    have BK117 := n1_
    have HI0 := n2_
    have HK := n3_
    have HB := n4_
    clear n0_ n1_ n2_ n3_ n4_
    refine start_ (n := 7) (S := fun w' => w'.cell? ⟨gb117, 0, none⟩ = some (.int .i64 (wrap64 (16 + t109))) ∧ w'.cell? ⟨gb117, 1, none⟩ = some (.int .i64 (wrap64 (2 + t113))) ∧ w'.cell? ⟨gb117, 2, none⟩ = some (.int .i64 0)) (ds := [6]) #[false, false, false, false, false, false, false] (by kernel_rfl) rfl rfl ⟨(blk_cell BK117.out 0).trans rfl, (blk_cell BK117.out 1).trans rfl, (blk_cell BK117.out 2).trans rfl⟩ (fun hHeld => ?_)
    generalize w90.drew = w91 at BK108 BK117 HI0 HK HB hHeld ⊢
    refine pure_ (i := 0) (N := some 11) (v := ?_) (a' := ?_) #[true, false, false, false, false, false, false] rfl rfl (by kernel_rfl) (fun _ _ _ h => h) (Or.inl ⟨by rfl, ?_⟩) ?_ ?_
    rotate_left
    · intro w'
      go_simp
      with_reducible rfl
    rotate_left
    · simp only [Act.put, List.setIfInBounds_toArray, List.set_cons_zero, List.set_cons_succ, i64_w, i32_w]
      rfl
    refine pure_ (i := 2) (N := some 13) (v := ?_) (a' := ?_) #[true, false, true, false, false, false, false] rfl rfl (by kernel_rfl) (fun _ _ _ h => h) (Or.inl ⟨by rfl, ?_⟩) ?_ ?_
    rotate_left
    · intro w'
      go_simp
      with_reducible rfl
    rotate_left
    · simp only [Act.put, List.setIfInBounds_toArray, List.set_cons_zero, List.set_cons_succ, i64_w, i32_w]
      rfl
    refine take_ (i := 1) (N := some 12) (v := ?_) (a' := ?_) #[true, true, true, false, false, false, false] rfl rfl (by kernel_rfl) (fun _ _ _ h => h) (Or.inl ⟨by rfl, ?_⟩) hHeld ?_ ?_
    rotate_left
    · rintro w' ⟨s0, s1, s2⟩
      go_simp
      with_reducible rfl
    rotate_left
    · simp only [Act.put, List.setIfInBounds_toArray, List.set_cons_zero, List.set_cons_succ, i64_w, i32_w]
      rfl
    refine one_ (i := 3) (N := some 14) #[true, true, true, true, false, false, false] rfl rfl (by kernel_rfl) (by decide) (fun K hK => ?_)
    refine goes_ Try.func77 (by kernel_rfl) rfl #[.pointer (some ⟨g, 0, none⟩), .int .i64 40] (by rfl) rfl rfl (by (try simp only [List.map_toArray, List.map_cons, List.map_nil]); first | done | rfl | (simp only [List.length_drop, List.length_take]; rfl)) ?_
    with_reducible refine (spec_l01Src_n.calls g s0_0 t114 t115 t116 40 t118 t119 t120 t121 w0 _ ?side1 ?side2 A4.out).mono ?_
    (case side1 => repeat (first | (with_reducible first | exact HI0.out | apply IsS157.alloc | apply IsS157.drewN | apply IsS157.drew | apply IsS157.set_1 | apply IsS157.set_2 | apply IsS157.set_3 | refine IsS157.far ?_ NB0_108.out _ | refine IsS157.far ?_ NB0_117.out _) | exact HI0.out))
    (case side2 => repeat (first | (with_reducible first | exact HB.out | apply below_alloc | apply pw_below_drewN | apply below_drew1 | refine below_set ?_ (IsS157.ge HI0.out) | refine below_set ?_ GE108.out | refine below_set ?_ GE117.out) | exact HB.out))
    rintro e w92 ⟨rfl, hi, hb, hk⟩
    refine ⟨_, rfl, ?_⟩
    have n0_ := Aside0.mk (KeepBut.blk hk (g' := gb108) (o := .cells #[.int .i64 0, .int .i64 0, .int .i64 0] 40 (0, 0)) (by (with_reducible repeat (first | refine blk_drewN ?_ _ | refine blk_drew ?_ | refine blk_alloc ?_ _)); exact BK108.out) NB108_0.out (by simp))
    have n1_ := Aside0.mk (KeepBut.blk hk (g' := gb117) (o := .cells #[.int .i64 (wrap64 (16 + t109)), .int .i64 (wrap64 (2 + t113)), .int .i64 0] 40 (0, 0)) (by (with_reducible repeat (first | refine blk_drewN ?_ _ | refine blk_drew ?_ | refine blk_alloc ?_ _)); exact BK117.out) NB117_0.out (by simp))
    have n2_ := Aside0.mk (KeepBut.trans (by repeat (first | (with_reducible first | exact HK.out | apply KeepBut.set_ | apply keep_drewN | apply keep_drew | apply keep_alloc | refine keep_far ?_ GW108.out _ | refine keep_far ?_ GW117.out _) | exact HK.out)) hk (.inl rfl))
    have n3_ := Aside0.mk (hb)
    have n4_ := Aside0.mk (hi)
    clear BK108
    clear BK117
    clear HK
    clear HB
    clear HI0
    have BK108 := n0_
    have BK117 := n1_
    have HK := n2_
    have HB := n3_
    have HI0 := n4_
    clear n0_ n1_ n2_ n3_ n4_
    (try clear hb)
    (try clear hb2)
    (try clear hk)
    (try clear hi)
    refine hK.out _ _ ⟨(blk_cell BK117.out 0).trans rfl, (blk_cell BK117.out 1).trans rfl, (blk_cell BK117.out 2).trans rfl⟩ (fun hHeld => ?_)
    clear hK K
    refine norm_ (a' := ?_) ?_ ?_
    rotate_left
    · show Act.put _ (some 14) _ = _
      simp only [Act.put, List.setIfInBounds_toArray, List.set_cons_zero, List.set_cons_succ, i64_w, i32_w]
      rfl
    refine pure_ (i := 4) (N := some 15) (v := ?_) (a' := ?_) #[true, true, true, true, true, false, false] rfl rfl (by kernel_rfl) (fun _ _ _ h => h) (Or.inl ⟨by rfl, ?_⟩) ?_ ?_
    rotate_left
    · intro w'
      go_simp
      with_reducible rfl
    rotate_left
    · simp only [Act.put, List.setIfInBounds_toArray, List.set_cons_zero, List.set_cons_succ, i64_w, i32_w]
      rfl
    refine pure_ (i := 5) (N := some 16) (v := ?_) (a' := ?_) #[true, true, true, true, true, true, false] rfl rfl (by kernel_rfl) (fun _ _ _ h => h) (Or.inl ⟨by rfl, ?_⟩) ?_ ?_
    rotate_left
    · intro w'
      go_simp
      with_reducible rfl
    rotate_left
    · simp only [Act.put, List.setIfInBounds_toArray, List.set_cons_zero, List.set_cons_succ, i64_w, i32_w]
      rfl
    refine last_ (i := 6) (N := none) #[true, true, true, true, true, true, true] rfl rfl (by kernel_rfl) (by decide) (fun K hK => ?_)
    have hs93 : w92.cell? ⟨gb117, 2, none⟩ = some (.int .i64 0) := (blk_cell BK117.out 2).trans rfl
    have hfs93 := blk_frozen BK117.out 2
    have hns93_0 := NB108_117.out
    have hms93_0 := NB117_108.out
    refine skip_ (w1 := ?_) (by rfl) rfl ?_ ?_
    rotate_left
    · go_simp
      rfl
    refine hK.out _ _ ?_
    clear hK K
    refine done_ (by kernel_rfl) ?_
    try go_wp2_with (first | ((with_reducible refine gate_callee (f := 85) rfl ?_); refine goesL_ (some 18) rfl rfl Try.func85 (by kernel_rfl) rfl #[.pointer (some ⟨g, 0, none⟩), .int .i64 15] rfl (by (try simp only [List.map_toArray, List.map_cons, List.map_nil]); first | done | rfl | (simp only [List.length_drop, List.length_take]; rfl)) ?_; (with_reducible refine (spec_l01Src_one.calls g s0_0 t119 t120 t121 15 false t123 t124 t125 w0 _ ?side1 ?side2 A5.out).mono ?_); (case side1 => repeat (first | (with_reducible first | exact HI0.out | apply IsS157.alloc | apply IsS157.drewN | apply IsS157.drew | apply IsS157.set_1 | apply IsS157.set_2 | apply IsS157.set_3 | refine IsS157.far ?_ NB0_108.out _ | refine IsS157.far ?_ NB0_117.out _) | exact HI0.out)); (case side2 => repeat (first | (with_reducible first | exact HB.out | apply below_alloc | apply pw_below_drewN | apply below_drew1 | refine below_set ?_ (IsS157.ge HI0.out) | refine below_set ?_ GE108.out | refine below_set ?_ GE117.out) | exact HB.out)); rintro e w94 ⟨rfl, hi, hb, hk⟩; refine ⟨_, rfl, ?_⟩; have n0_ := Aside0.mk (KeepBut.blk hk (g' := gb108) (o := .cells #[.int .i64 0, .int .i64 0, .int .i64 0] 40 (0, 0)) (by (with_reducible repeat (first | refine blk_drewN ?_ _ | refine blk_drew ?_ | refine blk_alloc ?_ _)); refine blk_far ?_ NB108_117.out _; (with_reducible repeat (first | refine blk_drewN ?_ _ | refine blk_drew ?_ | refine blk_alloc ?_ _)); exact BK108.out) NB108_0.out (by simp)); have n1_ := Aside0.mk (KeepBut.blk hk (g' := gb117) (o := .cells #[.int .i64 (wrap64 (16 + t109)), .int .i64 (wrap64 (2 + t113)), .int .i64 (wrap64 ((wrap64 (16 + t109)) + t118))] 40 (0, 0)) (by (with_reducible repeat (first | refine blk_drewN ?_ _ | refine blk_drew ?_ | refine blk_alloc ?_ _)); refine blk_put (cs := #[.int .i64 (wrap64 (16 + t109)), .int .i64 (wrap64 (2 + t113)), .int .i64 0]) ?_ 2 _ rfl; (with_reducible repeat (first | refine blk_drewN ?_ _ | refine blk_drew ?_ | refine blk_alloc ?_ _)); exact BK117.out) NB117_0.out (by simp)); have n2_ := Aside0.mk (KeepBut.trans (by repeat (first | (with_reducible first | exact HK.out | apply KeepBut.set_ | apply keep_drewN | apply keep_drew | apply keep_alloc | refine keep_far ?_ GW108.out _ | refine keep_far ?_ GW117.out _) | exact HK.out)) hk (.inl rfl)); have n3_ := Aside0.mk (hb); have n4_ := Aside0.mk (hi); clear BK108; clear BK117; clear HK; clear HB; clear HI0; have BK108 := n0_; have BK117 := n1_; have HK := n2_; have HB := n3_; have HI0 := n4_; clear n0_ n1_ n2_ n3_ n4_; (try clear hb); (try clear hb2); (try clear hk); (try clear hi); have hcz95_0 : w94.cell? ⟨gb117, 0, none⟩ = some (.int .i64 (wrap64 (16 + t109))) := (blk_cell BK117.out 0).trans rfl; have hcz95_1 : w94.cell? ⟨gb117, 1, none⟩ = some (.int .i64 (wrap64 (2 + t113))) := (blk_cell BK117.out 1).trans rfl; have hcz95_2 : w94.cell? ⟨gb117, 2, none⟩ = some (.int .i64 (wrap64 ((wrap64 (16 + t109)) + t118))) := (blk_cell BK117.out 2).trans rfl; have hfz95_0 := blk_frozen BK117.out 0; have hfz95_1 := blk_frozen BK117.out 1; have hfz95_2 := blk_frozen BK117.out 2; have hnb96 := NB108_0.out; have hnc96 := NB0_108.out; have hcz97_0 : w94.cell? ⟨gb108, 0, none⟩ = some (.int .i64 0) := (blk_cell BK108.out 0).trans rfl; have hcz97_1 : w94.cell? ⟨gb108, 1, none⟩ = some (.int .i64 0) := (blk_cell BK108.out 1).trans rfl; have hcz97_2 : w94.cell? ⟨gb108, 2, none⟩ = some (.int .i64 0) := (blk_cell BK108.out 2).trans rfl; have hfz97_0 := blk_frozen BK108.out 0; have hfz97_1 := blk_frozen BK108.out 1; have hfz97_2 := blk_frozen BK108.out 2))
    refine bodyPost_ret (results_cell_row rfl _ _ gb108 40 #[.int .i64 (wrap64 (16 + t109)), .int .i64 (wrap64 (2 + t113)), .int .i64 (wrap64 ((wrap64 (16 + t109)) + t118))] (0, 0) _ rfl (by (with_reducible repeat (first | refine blk_drewN ?_ _ | refine blk_drew ?_ | refine blk_alloc ?_ _)); refine blk_put (cs := #[.int .i64 (wrap64 (16 + t109)), .int .i64 (wrap64 (2 + t113)), .int .i64 0]) ?_ 2 _ rfl; (with_reducible repeat (first | refine blk_drewN ?_ _ | refine blk_drew ?_ | refine blk_alloc ?_ _)); refine blk_put (cs := #[.int .i64 (wrap64 (16 + t109)), .int .i64 0, .int .i64 0]) ?_ 1 _ rfl; (with_reducible repeat (first | refine blk_drewN ?_ _ | refine blk_drew ?_ | refine blk_alloc ?_ _)); refine blk_put (cs := #[.int .i64 0, .int .i64 0, .int .i64 0]) ?_ 0 _ rfl; (with_reducible repeat (first | refine blk_drewN ?_ _ | refine blk_drew ?_ | refine blk_alloc ?_ _)); exact BK108.out) Try.underlying40 rfl (by kernel_rfl)) rfl ?_
    exact ⟨by first | rfl | (simp [errW_none, errW_some] <;> rfl) | (simp [*, errW_none, errW_some] <;> rfl), by repeat (first | (with_reducible first | exact HI0.out | apply IsS157.alloc | apply IsS157.drewN | apply IsS157.drew | apply IsS157.set_1 | apply IsS157.set_2 | apply IsS157.set_3 | refine IsS157.far ?_ NB0_108.out _ | refine IsS157.far ?_ NB0_117.out _) | exact HI0.out), by repeat (first | (with_reducible first | exact HB.out | apply below_alloc | apply pw_below_drewN | apply below_drew1 | refine below_set ?_ (IsS157.ge HI0.out) | refine below_set ?_ GE108.out | refine below_set ?_ GE117.out) | exact HB.out), by repeat (first | (with_reducible first | exact HK.out | apply KeepBut.set_ | apply keep_drewN | apply keep_drew | apply keep_alloc | refine keep_far ?_ GW108.out _ | refine keep_far ?_ GW117.out _) | exact HK.out)⟩

end Go.Proofs.Yteljfdhjbnlgoaa.PFnPieces
