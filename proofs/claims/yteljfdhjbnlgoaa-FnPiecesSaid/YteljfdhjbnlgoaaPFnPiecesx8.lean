/- Functions of the law FnPieces: the print's, with walks of this session's own. No statement is proved here. -/
import Derived.WalkLawsBesides
import Derived.Test.YteljfdhjbnlgoaaReg
-- A program of this session wrote this text: a changed copy of the kit print, with given functions.
import Derived.Test.YteljfdhjbnlgoaaPFnPiecesx0
import Derived.Test.YteljfdhjbnlgoaaPFnPiecesx5
import Derived.Test.YteljfdhjbnlgoaaPFnPiecesx6
import Derived.Test.YteljfdhjbnlgoaaPFnPiecesx7
namespace Go.Proofs.Yteljfdhjbnlgoaa.PFnPieces
open Go.RowKit Go.Proofs.YteljfdhjbnlgoaaW.PrintWords Go.Proofs.YteljfdhjbnlgoaaW.PrintLast Go.Proofs.YteljfdhjbnlgoaaW.PrintMore Go.Proofs.Yteljfdhjbnlgoaa.Reg
attribute [local go_sem] max2_int min2_int max_two min_two max_three min_three max_four min_four   -- for this text's walks alone
set_option linter.unusedVariables false
set_option linter.unusedSimpArgs false

/-! ### laws_FnPieces: function 6 -/
mutual
def laws_FnPieces.j0 : Nat → List Int → List Int → Bool → Option (Bool)
  | 0, _, _, _ => none
  | k + 1, x0, x1, x22 => if x22 = true then (some true) else ((spec_DrawPieces.f k x0).bind fun bt261 => ((impl_Pieces.f k bt261.1 bt261.2.1 bt261.2.2.1 bt261.2.2.2).bind fun t266 => ((spec_Pieces.f k bt261.1 bt261.2.1 bt261.2.2.1 bt261.2.2.2).bind fun t269 => (if (t266.length : Int) = (t269.length : Int) then (if (t269.length : Int) = 0 then (some true) else ((laws_lwAt.f x1 0 (t266.length : Int)).bind fun t272 => (laws_FnPieces.l0 k t266 t272 bt261.2.2.2 0 bt261.1 bt261.2.1 bt261.2.2.1))) else (some false)))))
def laws_FnPieces.l0 : Nat → List ByteArray → Int → ByteArray → Int → Int → Int → Int → Option (Bool)
  | 0, _, _, _, _, _, _, _ => none
  | k + 1, x7, x9, x10, x11, x266000, x266001, x266002 => if x11 < (x7.length : Int) then (if 0 ≤ x11 then (if ((rdOf ByteArray.empty x7 x11).size : Int) > (x10.size : Int) then (laws_FnPieces.j2 k x7 x9 x10 x11 ((rdOf ByteArray.empty x7 x11).size : Int) true x266000 x266001 x266002) else (if 0 ≤ ((rdOf ByteArray.empty x7 x11).size : Int) then (if ((rdOf ByteArray.empty x7 x11).size : Int) ≤ (x10.size : Int) then (if (x10.extract 0 (((rdOf ByteArray.empty x7 x11).size : Int) : Int).toNat).toList = (rdOf ByteArray.empty x7 x11).toList then (if ((rdOf ByteArray.empty x7 x11).size : Int) > x266002 then (laws_FnPieces.j2 k x7 x9 x10 x11 ((rdOf ByteArray.empty x7 x11).size : Int) true x266000 x266001 x266002) else (if ((rdOf ByteArray.empty x7 x11).size : Int) < 1 then (laws_FnPieces.j2 k x7 x9 x10 x11 ((rdOf ByteArray.empty x7 x11).size : Int) true x266000 x266001 x266002) else (if (wrap64 (x11 + 1)) < (x7.length : Int) then (if ((rdOf ByteArray.empty x7 x11).size : Int) < x266000 then (laws_FnPieces.j2 k x7 x9 x10 x11 ((rdOf ByteArray.empty x7 x11).size : Int) true x266000 x266001 x266002) else ((impl_CutAt.f k x266000 x266001 x266002 x10).bind fun t275 => (laws_FnPieces.j2 k x7 x9 x10 x11 ((rdOf ByteArray.empty x7 x11).size : Int) (t275 != ((rdOf ByteArray.empty x7 x11).size : Int)) x266000 x266001 x266002))) else ((impl_CutAt.f k x266000 x266001 x266002 x10).bind fun t276 => (laws_FnPieces.j2 k x7 x9 x10 x11 ((rdOf ByteArray.empty x7 x11).size : Int) (t276 != ((rdOf ByteArray.empty x7 x11).size : Int)) x266000 x266001 x266002))))) else (laws_FnPieces.j2 k x7 x9 x10 x11 ((rdOf ByteArray.empty x7 x11).size : Int) true x266000 x266001 x266002)) else (none)) else (none))) else (none)) else (some (x10.toList == ([] : List UInt8)))
def laws_FnPieces.j2 : Nat → List ByteArray → Int → ByteArray → Int → Int → Bool → Int → Int → Int → Option (Bool)
  | 0, _, _, _, _, _, _, _, _, _ => none
  | k + 1, x7, x9, x10, x11, x12, x101, x266000, x266001, x266002 => if x101 = true then (some false) else (if x11 = x9 then ((impl_Pieces.f k x266000 x266001 x266002 x10).bind fun t277 => (if (t277.length : Int) = (wrap64 ((x7.length : Int) - x11)) then (laws_FnPieces.l1 k x7 x9 x10 x11 x12 t277 0 x266000 x266001 x266002) else (some false))) else (if 0 ≤ x12 then (if x12 ≤ (x10.size : Int) then (laws_FnPieces.l0 k x7 x9 (x10.extract (x12 : Int).toNat x10.size) (wrap64 (x11 + 1)) x266000 x266001 x266002) else (none)) else (none)))
def laws_FnPieces.l1 : Nat → List ByteArray → Int → ByteArray → Int → Int → List ByteArray → Int → Int → Int → Int → Option (Bool)
  | 0, _, _, _, _, _, _, _, _, _, _ => none
  | k + 1, x7, x9, x10, x11, x12, x13, x14, x266000, x266001, x266002 => if x14 < (x13.length : Int) then (if 0 ≤ x14 then (if 0 ≤ (wrap64 (x11 + x14)) then (if (wrap64 (x11 + x14)) < (x7.length : Int) then (if (rdOf ByteArray.empty x13 x14).toList = (rdOf ByteArray.empty x7 (wrap64 (x11 + x14))).toList then (laws_FnPieces.l1 k x7 x9 x10 x11 x12 x13 (wrap64 (x14 + 1)) x266000 x266001 x266002) else (some false)) else (none)) else (none)) else (none)) else (if 0 ≤ x12 then (if x12 ≤ (x10.size : Int) then (laws_FnPieces.l0 k x7 x9 (x10.extract (x12 : Int).toNat x10.size) (wrap64 (x11 + 1)) x266000 x266001 x266002) else (none)) else (none))
end
def laws_FnPieces.f (k : Nat) (l0 : List Int) (l1 : List Int) : Option (Bool) := if (l0.length : Int) > 1048576 then (laws_FnPieces.j0 k l0 l1 true) else (laws_FnPieces.j0 k l0 l1 (decide ((l1.length : Int) > 1048576)))
theorem laws_FnPieces.mono_l : ∀ k, (∀ y0 y1 y2, LeO (laws_FnPieces.j0 k y0 y1 y2) (laws_FnPieces.j0 (k + 1) y0 y1 y2)) ∧ (∀ y0 y1 y2 y3 y4 y5 y6, LeO (laws_FnPieces.l0 k y0 y1 y2 y3 y4 y5 y6) (laws_FnPieces.l0 (k + 1) y0 y1 y2 y3 y4 y5 y6)) ∧ (∀ y0 y1 y2 y3 y4 y5 y6 y7 y8, LeO (laws_FnPieces.j2 k y0 y1 y2 y3 y4 y5 y6 y7 y8) (laws_FnPieces.j2 (k + 1) y0 y1 y2 y3 y4 y5 y6 y7 y8)) ∧ (∀ y0 y1 y2 y3 y4 y5 y6 y7 y8 y9, LeO (laws_FnPieces.l1 k y0 y1 y2 y3 y4 y5 y6 y7 y8 y9) (laws_FnPieces.l1 (k + 1) y0 y1 y2 y3 y4 y5 y6 y7 y8 y9))
  | 0 => ⟨fun _ _ _ r h => by simp [laws_FnPieces.j0] at h, fun _ _ _ _ _ _ _ r h => by simp [laws_FnPieces.l0] at h, fun _ _ _ _ _ _ _ _ _ r h => by simp [laws_FnPieces.j2] at h, fun _ _ _ _ _ _ _ _ _ _ r h => by simp [laws_FnPieces.l1] at h⟩
  | k + 1 => by
    obtain ⟨ih0, ih1, ih2, ih3⟩ := laws_FnPieces.mono_l k
    refine ⟨?_, ?_, ?_, ?_⟩
    · intro y0 y1 y2
      unfold laws_FnPieces.j0
      repeat' first
      | (with_reducible exact ih0 _ _ _)
      | (with_reducible exact ih1 _ _ _ _ _ _ _)
      | (with_reducible exact ih2 _ _ _ _ _ _ _ _ _)
      | (with_reducible exact ih3 _ _ _ _ _ _ _ _ _ _)
      | (with_reducible exact impl_CutAt.mono _ _ _ _ _)
      | (with_reducible exact impl_Pieces.mono _ _ _ _ _)
      | (with_reducible exact spec_DrawPieces.mono _ _)
      | (with_reducible exact spec_Pieces.mono _ _ _ _ _)
      | (with_reducible exact LeO.refl _)
      | (with_reducible exact LeO.none _)
      | (with_reducible refine LeO.ite ?_ ?_)
      | (with_reducible refine LeO.bind ?_ (fun _ => ?_))
      | exact ih0 _ _ _
      | exact ih1 _ _ _ _ _ _ _
      | exact ih2 _ _ _ _ _ _ _ _ _
      | exact ih3 _ _ _ _ _ _ _ _ _ _
      | exact impl_CutAt.mono _ _ _ _ _
      | exact impl_Pieces.mono _ _ _ _ _
      | exact spec_DrawPieces.mono _ _
      | exact spec_Pieces.mono _ _ _ _ _
      | exact LeO.none _
      | refine LeO.ite ?_ ?_
      | refine LeO.bind ?_ (fun _ => ?_)
    · intro y0 y1 y2 y3 y4 y5 y6
      unfold laws_FnPieces.l0
      repeat' first
      | (with_reducible exact ih0 _ _ _)
      | (with_reducible exact ih1 _ _ _ _ _ _ _)
      | (with_reducible exact ih2 _ _ _ _ _ _ _ _ _)
      | (with_reducible exact ih3 _ _ _ _ _ _ _ _ _ _)
      | (with_reducible exact impl_CutAt.mono _ _ _ _ _)
      | (with_reducible exact impl_Pieces.mono _ _ _ _ _)
      | (with_reducible exact spec_DrawPieces.mono _ _)
      | (with_reducible exact spec_Pieces.mono _ _ _ _ _)
      | (with_reducible exact LeO.refl _)
      | (with_reducible exact LeO.none _)
      | (with_reducible refine LeO.ite ?_ ?_)
      | (with_reducible refine LeO.bind ?_ (fun _ => ?_))
      | exact ih0 _ _ _
      | exact ih1 _ _ _ _ _ _ _
      | exact ih2 _ _ _ _ _ _ _ _ _
      | exact ih3 _ _ _ _ _ _ _ _ _ _
      | exact impl_CutAt.mono _ _ _ _ _
      | exact impl_Pieces.mono _ _ _ _ _
      | exact spec_DrawPieces.mono _ _
      | exact spec_Pieces.mono _ _ _ _ _
      | exact LeO.none _
      | refine LeO.ite ?_ ?_
      | refine LeO.bind ?_ (fun _ => ?_)
    · intro y0 y1 y2 y3 y4 y5 y6 y7 y8
      unfold laws_FnPieces.j2
      repeat' first
      | (with_reducible exact ih0 _ _ _)
      | (with_reducible exact ih1 _ _ _ _ _ _ _)
      | (with_reducible exact ih2 _ _ _ _ _ _ _ _ _)
      | (with_reducible exact ih3 _ _ _ _ _ _ _ _ _ _)
      | (with_reducible exact impl_CutAt.mono _ _ _ _ _)
      | (with_reducible exact impl_Pieces.mono _ _ _ _ _)
      | (with_reducible exact spec_DrawPieces.mono _ _)
      | (with_reducible exact spec_Pieces.mono _ _ _ _ _)
      | (with_reducible exact LeO.refl _)
      | (with_reducible exact LeO.none _)
      | (with_reducible refine LeO.ite ?_ ?_)
      | (with_reducible refine LeO.bind ?_ (fun _ => ?_))
      | exact ih0 _ _ _
      | exact ih1 _ _ _ _ _ _ _
      | exact ih2 _ _ _ _ _ _ _ _ _
      | exact ih3 _ _ _ _ _ _ _ _ _ _
      | exact impl_CutAt.mono _ _ _ _ _
      | exact impl_Pieces.mono _ _ _ _ _
      | exact spec_DrawPieces.mono _ _
      | exact spec_Pieces.mono _ _ _ _ _
      | exact LeO.none _
      | refine LeO.ite ?_ ?_
      | refine LeO.bind ?_ (fun _ => ?_)
    · intro y0 y1 y2 y3 y4 y5 y6 y7 y8 y9
      unfold laws_FnPieces.l1
      repeat' first
      | (with_reducible exact ih0 _ _ _)
      | (with_reducible exact ih1 _ _ _ _ _ _ _)
      | (with_reducible exact ih2 _ _ _ _ _ _ _ _ _)
      | (with_reducible exact ih3 _ _ _ _ _ _ _ _ _ _)
      | (with_reducible exact impl_CutAt.mono _ _ _ _ _)
      | (with_reducible exact impl_Pieces.mono _ _ _ _ _)
      | (with_reducible exact spec_DrawPieces.mono _ _)
      | (with_reducible exact spec_Pieces.mono _ _ _ _ _)
      | (with_reducible exact LeO.refl _)
      | (with_reducible exact LeO.none _)
      | (with_reducible refine LeO.ite ?_ ?_)
      | (with_reducible refine LeO.bind ?_ (fun _ => ?_))
      | exact ih0 _ _ _
      | exact ih1 _ _ _ _ _ _ _
      | exact ih2 _ _ _ _ _ _ _ _ _
      | exact ih3 _ _ _ _ _ _ _ _ _ _
      | exact impl_CutAt.mono _ _ _ _ _
      | exact impl_Pieces.mono _ _ _ _ _
      | exact spec_DrawPieces.mono _ _
      | exact spec_Pieces.mono _ _ _ _ _
      | exact LeO.none _
      | refine LeO.ite ?_ ?_
      | refine LeO.bind ?_ (fun _ => ?_)
theorem laws_FnPieces.mono : ∀ a0 a1 k, LeO (laws_FnPieces.f k a0 a1) (laws_FnPieces.f (k + 1) a0 a1) := by
  intro a0 a1 k
  obtain ⟨ih0, ih1, ih2, ih3⟩ := laws_FnPieces.mono_l k
  unfold laws_FnPieces.f
  repeat' first
      | (with_reducible exact ih0 _ _ _)
      | (with_reducible exact ih1 _ _ _ _ _ _ _)
      | (with_reducible exact ih2 _ _ _ _ _ _ _ _ _)
      | (with_reducible exact ih3 _ _ _ _ _ _ _ _ _ _)
      | (with_reducible exact impl_CutAt.mono _ _ _ _ _)
      | (with_reducible exact impl_Pieces.mono _ _ _ _ _)
      | (with_reducible exact spec_DrawPieces.mono _ _)
      | (with_reducible exact spec_Pieces.mono _ _ _ _ _)
      | (with_reducible exact LeO.refl _)
      | (with_reducible exact LeO.none _)
      | (with_reducible refine LeO.ite ?_ ?_)
      | (with_reducible refine LeO.bind ?_ (fun _ => ?_))
      | exact ih0 _ _ _
      | exact ih1 _ _ _ _ _ _ _
      | exact ih2 _ _ _ _ _ _ _ _ _
      | exact ih3 _ _ _ _ _ _ _ _ _ _
      | exact impl_CutAt.mono _ _ _ _ _
      | exact impl_Pieces.mono _ _ _ _ _
      | exact spec_DrawPieces.mono _ _
      | exact spec_Pieces.mono _ _ _ _ _
      | exact LeO.none _
      | refine LeO.ite ?_ ?_
      | refine LeO.bind ?_ (fun _ => ?_)
def laws_FnPieces.T16 : Bool × List (List Nat × List Nat) := (true, [([], []), ([], []), ([1], [1]), ([0, 2], [0, 2]), ([3], [3]), ([4], [4]), ([4], [4]), ([5, 6, 4], [4, 5, 6]), ([4], [4]), ([4], [4]), ([8, 9, 4], [4, 8, 9]), ([10, 4], [4, 10]), ([7, 11, 4], [4, 7, 11]), ([4, 12], [4, 12]), ([13, 4], [13]), ([14], [14]), ([14], [14]), ([16, 14], [14, 16]), ([15, 17, 14], [14, 15, 17]), ([14, 18], [14, 18]), ([19, 14], [19]), ([20], [20]), ([21, 20], [20, 21]), ([20, 22], [20, 22]), ([23, 20], [23]), ([24], [24]), ([25, 24], [24, 25]), ([24], [24]), ([27, 24], [24, 27]), ([26, 28, 24], [24, 26, 28]), ([29, 24, 24], [24, 29]), ([30], [30]), ([30], [30]), ([32, 30], [30, 32]), ([31, 33, 30], [30, 31, 33]), ([30, 34, 24], [24, 30, 34]), ([24, 35], [24, 35]), ([36, 30], [36]), ([37], [37]), ([37], [37]), ([38, 39, 37, 37], [37, 38, 39]), ([37], [37]), ([40, 41, 37], [37, 40, 41]), ([37, 42], [37, 42])])
def laws_FnPieces.B16 : List Nat := [0, 0, 2, 7, 15, 31, 31, 127, 31, 31, 799, 1823, 4095, 8191, 16383, 32767, 32767, 98303, 262143, 524287, 1048575, 2097151, 4194303, 8388607, 16777215, 33554431, 67108863, 33554431, 167772159, 536870911, 1073741823, 2147483647, 2147483647, 6442450943, 17179869183, 34359738367, 68719476735, 137438953471, 274877906943, 274877906943, 1099511627775, 274877906943, 4398046511103, 8796093022207]
theorem laws_FnPieces.tab16 : rtab .any (opsOf Try.f6 16) = laws_FnPieces.T16 := by kernel_rfl
theorem laws_FnPieces.bits16 : waitsOk laws_FnPieces.T16.2 laws_FnPieces.B16 = true := by kernel_rfl
def laws_FnPieces.T25 : Bool × List (List Nat × List Nat) := (true, [([], []), ([], []), ([0, 1], [0, 1]), ([2], [2]), ([], []), ([], []), ([], []), ([5, 6], [5, 6]), ([4, 7], [4, 7]), ([8], [8]), ([3, 9], [3, 9])])
def laws_FnPieces.B25 : List Nat := [0, 0, 3, 7, 0, 0, 0, 96, 240, 496, 1023]
theorem laws_FnPieces.tab25 : rtab .any (opsOf Try.f6 25) = laws_FnPieces.T25 := by kernel_rfl
theorem laws_FnPieces.bits25 : waitsOk laws_FnPieces.T25.2 laws_FnPieces.B25 = true := by kernel_rfl
/-- what one round's test comes to, as Bools. -/
theorem laws_FnPieces.step (k : Nat) (P : List ByteArray) (q : Int) (x s : ByteArray) (i y mi bi ma : Int) (r : Bool) (e61 e70 e76 e80 e87 e92 : Bool)
    (h61 : ((x.size : Int) < (s.size : Int)) = (e61 = true)) (h70 : ((x.extract 0 s.size).toList == s.toList) = !e70) (h76 : (ma < (s.size : Int)) = (e76 = true)) (h80 : ((s.size : Int) < 1) = (e80 = true)) (h87 : (y < (P.length : Int)) = (e87 = true)) (h92 : ((s.size : Int) < mi) = (e92 = true))
    (H : (if (s.size : Int) > (x.size : Int) then (laws_FnPieces.j2 k P q x i (s.size : Int) true mi bi ma) else (if 0 ≤ (s.size : Int) then (if (s.size : Int) ≤ (x.size : Int) then (if (x.extract 0 ((s.size : Int) : Int).toNat).toList = s.toList then (if (s.size : Int) > ma then (laws_FnPieces.j2 k P q x i (s.size : Int) true mi bi ma) else (if (s.size : Int) < 1 then (laws_FnPieces.j2 k P q x i (s.size : Int) true mi bi ma) else (if y < (P.length : Int) then (if (s.size : Int) < mi then (laws_FnPieces.j2 k P q x i (s.size : Int) true mi bi ma) else ((impl_CutAt.f k mi bi ma x).bind fun t275 => (laws_FnPieces.j2 k P q x i (s.size : Int) (t275 != (s.size : Int)) mi bi ma))) else ((impl_CutAt.f k mi bi ma x).bind fun t276 => (laws_FnPieces.j2 k P q x i (s.size : Int) (t276 != (s.size : Int)) mi bi ma))))) else (laws_FnPieces.j2 k P q x i (s.size : Int) true mi bi ma)) else (none)) else (none))) = some r) :
    ∃ t : Int, (((((e61 || e70) || e76) || e80) || (e87 && e92)) = false → impl_CutAt.f k mi bi ma x = some t) ∧ laws_FnPieces.j2 k P q x i (s.size : Int) ((((((e61 || e70) || e76) || e80) || (e87 && e92)) || !(decide (t = (s.size : Int))))) mi bi ma = some r := by
  by_cases c1 : (x.size : Int) < (s.size : Int)
  · rw [if_pos c1] at H
    have e : e61 = true := by rw [← h61]; exact c1
    exact ⟨0, by rw [e]; simp, by rw [e]; simpa using H⟩
  have e1 : e61 = false := by rw [Bool.eq_false_iff]; intro z; exact c1 (by rw [h61]; exact z)
  rw [if_neg c1, if_pos (by omega), if_pos (by omega), Int.toNat_natCast] at H
  by_cases c2 : (x.extract 0 s.size).toList = s.toList
  · have e2 : e70 = false := by
      rw [c2] at h70
      simp only [beq_self_eq_true] at h70
      cases e70
      · rfl
      · cases h70
    rw [if_pos c2] at H
    by_cases c3 : ma < (s.size : Int)
    · rw [if_pos c3] at H
      have e : e76 = true := by rw [← h76]; exact c3
      exact ⟨0, by rw [e]; simp, by rw [e]; simpa using H⟩
    have e3 : e76 = false := by rw [Bool.eq_false_iff]; intro z; exact c3 (by rw [h76]; exact z)
    rw [if_neg c3] at H
    by_cases c4 : (s.size : Int) < 1
    · rw [if_pos c4] at H
      have e : e80 = true := by rw [← h80]; exact c4
      exact ⟨0, by rw [e]; simp, by rw [e]; simpa using H⟩
    have e4 : e80 = false := by rw [Bool.eq_false_iff]; intro z; exact c4 (by rw [h80]; exact z)
    rw [if_neg c4] at H
    have fin : (e87 && e92) = false → (impl_CutAt.f k mi bi ma x).bind (fun t276 => (laws_FnPieces.j2 k P q x i (s.size : Int) (t276 != (s.size : Int)) mi bi ma)) = some r → (∃ t : Int, (((((e61 || e70) || e76) || e80) || (e87 && e92)) = false → impl_CutAt.f k mi bi ma x = some t) ∧ laws_FnPieces.j2 k P q x i (s.size : Int) ((((((e61 || e70) || e76) || e80) || (e87 && e92)) || !(decide (t = (s.size : Int))))) mi bi ma = some r) := fun e5 h => by
      obtain ⟨t, ht, h⟩ := Option.bind_eq_some_iff.mp h
      refine ⟨t, fun _ => ht, ?_⟩
      rw [e1, e2, e3, e4, e5]
      have : (t != (s.size : Int)) = !(decide (t = (s.size : Int))) := rfl
      rw [← this]
      simpa using h
    by_cases c5 : y < (P.length : Int)
    · rw [if_pos c5] at H
      have e5 : e87 = true := by rw [← h87]; exact c5
      by_cases c6 : (s.size : Int) < mi
      · rw [if_pos c6] at H
        have e : e92 = true := by rw [← h92]; exact c6
        exact ⟨0, by rw [e5, e]; simp, by rw [e5, e]; simpa using H⟩
      · rw [if_neg c6] at H
        have e6 : e92 = false := by rw [Bool.eq_false_iff]; intro z; exact c6 (by rw [h92]; exact z)
        exact fin (by rw [e6]; simp) H
    · rw [if_neg c5] at H
      have e5 : e87 = false := by rw [Bool.eq_false_iff]; intro z; exact c5 (by rw [h87]; exact z)
      exact fin (by rw [e5]; simp) H
  · rw [if_neg c2] at H
    have e : e70 = true := by
      have : ((x.extract 0 s.size).toList == s.toList) = false := beq_eq_false_iff_ne.2 c2
      rw [this] at h70
      cases e70
      · cases h70
      · rfl
    exact ⟨0, by rw [e]; simp, by rw [e]; simpa using H⟩
set_option maxHeartbeats 8000000 in
set_option maxRecDepth 100000 in
theorem laws_FnPieces.calls (k : Nat) (A0 : Option Addr) (c0 : Nat) (l0 : List Int) (A1 : Option Addr) (c1 : Nat) (l1 : List Int) (r : Bool) (w : World) (hr0 : Kd.C (Kd.int .u8) w A0 l0.length l0) (hc0 : l0.length ≤ c0) (hr1 : Kd.C (Kd.int .u8) w A1 l1.length l1) (hc1 : l1.length ≤ c1) (h : laws_FnPieces.f k l0 l1 = some r) :
    Calls Try.prog 6 #[.slice A0 l0.length c0, .slice A1 l1.length c1] w fun e w' => e = .returned (.bool r) ∧ Below w.heap.size w w' := by
  have hu40 := Try.underlying40
  have HR0 := Aside0.mk hr0
  have HC0 := Aside0.mk hc0
  clear hr0 hc0
  have HR1 := Aside0.mk hr1
  have HC1 := Aside0.mk hc1
  clear hr1 hc1
  have HB := Aside0.mk (Below.refl w.heap.size w)
  have H : (if (l0.length : Int) > 1048576 then (laws_FnPieces.j0 k l0 l1 true) else (laws_FnPieces.j0 k l0 l1 (decide ((l1.length : Int) > 1048576)))) = some r := h
  clear h
  have HC3 := Aside0.mk H
  clear H
  go_enter Try.func6, Try.ntmps6
  go_upto_region 1 with (fail)
  go_cut [22] (fun v22 wc => ∃ (kq : Nat) (x22_2 : Bool), v22 = .bool x22_2 ∧ Aside0 (laws_FnPieces.j0 kq l0 l1 x22_2 = some r) ∧ Aside0 (kq ≤ k) ∧ Aside0 (Below w.heap.size w wc))
  case first =>
    have H := HC3.out
    clear HC3
    by_cases c4 : (l0.length : Int) > 1048576
    · rw [if_pos c4] at H
      have c4b0 : decide (1048576 < (l0.length : Int)) = true := decide_eq_true c4
      have c4b1 : decide (1048576 < l0.length) = true := decide_eq_true (by omega)
      clear c4
      (first | rw [c4b0] | (simp only [i64_w, i32_w]; rw [c4b0]) | skip)
      have H' := Aside0.mk H
      clear H
      go_wp2
      go_meet
      case rel => exact ⟨_, (true), (by first | rfl | (simp; done) | (simp [*]; done)), H', ⟨by first | omega | exact Nat.le_refl _⟩, ⟨by repeat (first | (with_reducible first | exact HB.out | apply below_alloc | apply pw_below_drewN | apply below_drew1) | exact HB.out)⟩⟩
    · rw [if_neg c4] at H
      have c4b0 : decide (1048576 < (l0.length : Int)) = false := decide_eq_false c4
      have c4b1 : decide (1048576 < l0.length) = false := decide_eq_false (by omega)
      clear c4
      (first | rw [c4b0] | (simp only [i64_w, i32_w]; rw [c4b0]) | skip)
      have H' := Aside0.mk H
      clear H
      go_wp2
      go_meet
      case rel => exact ⟨_, (decide ((l1.length : Int) > 1048576)), (by first | rfl | (simp; done) | (simp [*]; done)), H', ⟨by first | omega | exact Nat.le_refl _⟩, ⟨by repeat (first | (with_reducible first | exact HB.out | apply below_alloc | apply pw_below_drewN | apply below_drew1) | exact HB.out)⟩⟩
  case rest =>
    clear HC3
    try clear c1
    try clear p2
    try clear c4
    try clear c4b0
    try clear c4b1
    obtain ⟨kq, x22_2, rfl, HA, HJ2, HB⟩ := hcut
    cases kq with
    | zero => exact absurd HA.out (by simp [laws_FnPieces.j0])
    | succ kj2 =>
      have H := HA.out
      clear HA
      simp only [laws_FnPieces.j0] at H
      by_cases c5 : x22_2 = true
      · subst c5
        have H1 : (some true) = some r := by rw [if_pos rfl] at H; exact H
        clear H
        have H := H1
        clear H1
        obtain rfl := Option.some.inj H
        go_wp2
        go_ret
        exact ⟨by first | rfl | (simp [errW_none, errW_some] <;> rfl) | (simp [*, errW_none, errW_some] <;> rfl), by repeat (first | (with_reducible first | exact HB.out | apply below_alloc | apply pw_below_drewN | apply below_drew1) | exact HB.out)⟩
      · replace c5 := Bool.eq_false_iff.mpr c5
        subst c5
        have H1 : ((spec_DrawPieces.f kj2 l0).bind fun bt261 => ((impl_Pieces.f kj2 bt261.1 bt261.2.1 bt261.2.2.1 bt261.2.2.2).bind fun t266 => ((spec_Pieces.f kj2 bt261.1 bt261.2.1 bt261.2.2.1 bt261.2.2.2).bind fun t269 => (if (t266.length : Int) = (t269.length : Int) then (if (t269.length : Int) = 0 then (some true) else ((laws_lwAt.f l1 0 (t266.length : Int)).bind fun t272 => (laws_FnPieces.l0 kj2 t266 t272 bt261.2.2.2 0 bt261.1 bt261.2.1 bt261.2.2.1))) else (some false))))) = some r := by rw [if_neg (show ¬ (false = true) by decide)] at H; exact H
        clear H
        have H := H1
        clear H1
        replace H := Option.bind_eq_some_iff.mp H
        obtain ⟨⟨t261, t262, t263, t264⟩, A60, H⟩ := H
        replace H : ((impl_Pieces.f kj2 t261 t262 t263 t264).bind fun t266 => ((spec_Pieces.f kj2 t261 t262 t263 t264).bind fun t269 => (if (t266.length : Int) = (t269.length : Int) then (if (t269.length : Int) = 0 then (some true) else ((laws_lwAt.f l1 0 (t266.length : Int)).bind fun t272 => (laws_FnPieces.l0 kj2 t266 t272 t264 0 t261 t262 t263))) else (some false)))) = some r := H
        have A6 := Aside0.mk A60
        clear A60
        replace H := Option.bind_eq_some_iff.mp H
        obtain ⟨t266, A70, H⟩ := H
        replace H : ((spec_Pieces.f kj2 t261 t262 t263 t264).bind fun t269 => (if (t266.length : Int) = (t269.length : Int) then (if (t269.length : Int) = 0 then (some true) else ((laws_lwAt.f l1 0 (t266.length : Int)).bind fun t272 => (laws_FnPieces.l0 kj2 t266 t272 t264 0 t261 t262 t263))) else (some false))) = some r := H
        have A7 := Aside0.mk A70
        clear A70
        replace H := Option.bind_eq_some_iff.mp H
        obtain ⟨t269, A80, H⟩ := H
        replace H : (if (t266.length : Int) = (t269.length : Int) then (if (t269.length : Int) = 0 then (some true) else ((laws_lwAt.f l1 0 (t266.length : Int)).bind fun t272 => (laws_FnPieces.l0 kj2 t266 t272 t264 0 t261 t262 t263))) else (some false)) = some r := H
        have A8 := Aside0.mk A80
        clear A80
        by_cases c9 : (t266.length : Int) = (t269.length : Int)
        · rw [if_pos c9] at H
          have c9b0 : ((t266.length : Int) == (t269.length : Int)) = true := beq_iff_eq.mpr c9
          have c9b1 : ((t266.length : Int) != (t269.length : Int)) = false := bne_eq_false_iff_eq.mpr c9
          have c9b2 : (t266.length == t269.length) = true := by first | simpa using c9 | (simp at c9 ⊢; omega)
          clear c9
          by_cases c10 : (t269.length : Int) = 0
          · rw [if_pos c10] at H
            have c10b0 : ((t269.length : Int) == 0) = true := beq_iff_eq.mpr c10
            have c10b1 : ((t269.length : Int) != 0) = false := bne_eq_false_iff_eq.mpr c10
            clear c10
            obtain rfl := Option.some.inj H
            go_wp2_with (first | ((with_reducible refine gate_callee (f := 33) rfl ?_); refine goesL_ (some 25) rfl rfl Try.func33 (by kernel_rfl) rfl #[.slice A0 l0.length c0] rfl (by (try simp only [List.map_toArray, List.map_cons, List.map_nil]); first | done | rfl | (simp only [List.length_drop, List.length_take]; rfl)) ?_; (with_reducible refine (spec_DrawPieces.calls kj2 _ _ l0 t261 t262 t263 t264 _ ?side1 ?side2 A6.out).mono ?_); (case side1 => repeat (first | exact (Kd.C_below HR0.out HB.out) | (with_reducible refine Kd.C_alloc ?_ _) | (with_reducible refine Kd.C_drewN ?_ _) | (with_reducible refine Kd.C_drew ?_))); (case side2 => exact HC0.out); rintro e w11 ⟨rfl, hb⟩; refine ⟨_, rfl, ?_⟩; have n0_ := Aside0.mk (below_step (by repeat (first | (with_reducible first | exact HB.out | apply below_alloc | apply pw_below_drewN | apply below_drew1) | exact HB.out)) hb); clear HB; have HB := n0_; clear n0_; (try clear hb); (try clear hb2); (try clear hk); (try clear hi)) | ((with_reducible refine gate_dst (N := 5) rfl ?_); (try (refine gate_guard (by rfl) ?_; dsimp only)); refine box_event ?hg (N := 5) ?hd (cs := #[.int .i64 0, .int .i64 0, .int .i64 0]) (t := 40) ?hr ?_; (case hd => rfl); (case hg => rfl); (case hr => first | (go_simp; done) | (go_simp; rfl)); intro gb265 hg w12 hbox hb; have n0_ := Aside0.mk (below_step (by repeat (first | (with_reducible first | exact HB.out | apply below_alloc | apply pw_below_drewN | apply below_drew1) | exact HB.out)) hb); have n1_ := Aside0.mk (hbox); have n2_ := Aside0.mk ((by rw [hg]; exact (below_size (by repeat (first | (with_reducible first | exact HB.out | apply below_alloc | apply pw_below_drewN | apply below_drew1) | exact HB.out))) : w.heap.size ≤ gb265)); have n3_ := Aside0.mk ((by rw [hg]; exact (below_size (by repeat (first | (with_reducible first | exact HB.out | apply below_alloc | apply pw_below_drewN | apply below_drew1) | exact HB.out))) : w.heap.size ≤ gb265)); clear HB; have HB := n0_; have BK265 := n1_; have GW265 := n2_; have GE265 := n3_; clear n0_ n1_ n2_ n3_; clear hb hbox hg; have hcz13_0 : w12.cell? ⟨gb265, 0, none⟩ = some (.int .i64 0) := (blk_cell BK265.out 0).trans rfl; have hcz13_1 : w12.cell? ⟨gb265, 1, none⟩ = some (.int .i64 0) := (blk_cell BK265.out 1).trans rfl; have hcz13_2 : w12.cell? ⟨gb265, 2, none⟩ = some (.int .i64 0) := (blk_cell BK265.out 2).trans rfl; have hfz13_0 := blk_frozen BK265.out 0; have hfz13_1 := blk_frozen BK265.out 1; have hfz13_2 := blk_frozen BK265.out 2) | ((with_reducible refine gate_callee (f := 34) rfl ?_); refine goesL_ (some 30) rfl rfl Try.func34 (by kernel_rfl) rfl #[.agg #[.int .i64 t261, .int .i64 t262, .int .i64 t263], .string t264] rfl (by (try simp only [List.map_toArray, List.map_cons, List.map_nil]); first | done | rfl | (simp only [List.length_drop, List.length_take]; rfl)) ?_; (with_reducible refine (impl_Pieces.calls kj2 t261 t262 t263 t264 t266 _ A7.out).mono ?_); rintro e w14 ⟨v267, rfl, ho0, hb⟩; refine ⟨_, rfl, ?_⟩; have n0_ := Aside0.mk (Kd.R_lower ho0 (below_size (by repeat (first | (with_reducible first | exact HB.out | apply below_alloc | apply pw_below_drewN | apply below_drew1 | refine below_set ?_ GE265.out) | exact HB.out)))); have n1_ := Aside0.mk (blk_below (g := gb265) (o := .cells #[.int .i64 t261, .int .i64 t262, .int .i64 t263] 40 (0, 0)) (by (with_reducible repeat (first | refine blk_drewN ?_ _ | refine blk_drew ?_ | refine blk_alloc ?_ _)); refine blk_put (cs := #[.int .i64 t261, .int .i64 t262, .int .i64 0]) ?_ 2 _ rfl; (with_reducible repeat (first | refine blk_drewN ?_ _ | refine blk_drew ?_ | refine blk_alloc ?_ _)); refine blk_put (cs := #[.int .i64 t261, .int .i64 0, .int .i64 0]) ?_ 1 _ rfl; (with_reducible repeat (first | refine blk_drewN ?_ _ | refine blk_drew ?_ | refine blk_alloc ?_ _)); refine blk_put (cs := #[.int .i64 0, .int .i64 0, .int .i64 0]) ?_ 0 _ rfl; (with_reducible repeat (first | refine blk_drewN ?_ _ | refine blk_drew ?_ | refine blk_alloc ?_ _)); exact BK265.out) hb); have n2_ := Aside0.mk (below_step (by repeat (first | (with_reducible first | exact HB.out | apply below_alloc | apply pw_below_drewN | apply below_drew1 | refine below_set ?_ GE265.out) | exact HB.out)) hb); clear BK265; clear HB; have HO268 := n0_; have BK265 := n1_; have HB := n2_; clear n0_ n1_ n2_; (try clear hb); (try clear hb2); (try clear hk); (try clear hi); (try clear ho0); have hcz15_0 : w14.cell? ⟨gb265, 0, none⟩ = some (.int .i64 t261) := (blk_cell BK265.out 0).trans rfl; have hcz15_1 : w14.cell? ⟨gb265, 1, none⟩ = some (.int .i64 t262) := (blk_cell BK265.out 1).trans rfl; have hcz15_2 : w14.cell? ⟨gb265, 2, none⟩ = some (.int .i64 t263) := (blk_cell BK265.out 2).trans rfl; have hfz15_0 := blk_frozen BK265.out 0; have hfz15_1 := blk_frozen BK265.out 1; have hfz15_2 := blk_frozen BK265.out 2) | ((with_reducible refine gate_callee (f := 35) rfl ?_); refine goesL_ (some 33) rfl rfl Try.func35 (by kernel_rfl) rfl #[.agg #[.int .i64 t261, .int .i64 t262, .int .i64 t263], .string t264] rfl (by (try simp only [List.map_toArray, List.map_cons, List.map_nil]); first | done | rfl | (simp only [List.length_drop, List.length_take]; rfl)) ?_; (with_reducible refine (spec_Pieces.calls kj2 t261 t262 t263 t264 t269 _ A8.out).mono ?_); rintro e w16 ⟨v270, rfl, ho0, hb⟩; refine ⟨_, rfl, ?_⟩; have n0_ := Aside0.mk (Kd.R_elder' (by (with_reducible repeat (first | apply Kd.R_alloc | apply Kd.R_drewN | apply Kd.R_drew)); exact HO268.out) (Kd.R_base ho0) hb); have n1_ := Aside0.mk (Kd.R_lower (Kd.R_new' ho0 (Kd.R_lt (by (with_reducible repeat (first | apply Kd.R_alloc | apply Kd.R_drewN | apply Kd.R_drew)); exact HO268.out))) (below_size (by repeat (first | (with_reducible first | exact HB.out | apply below_alloc | apply pw_below_drewN | apply below_drew1 | refine below_set ?_ GE265.out) | exact HB.out)))); have n2_ := Aside0.mk (blk_below (g := gb265) (o := .cells #[.int .i64 t261, .int .i64 t262, .int .i64 t263] 40 (0, 0)) (by (with_reducible repeat (first | refine blk_drewN ?_ _ | refine blk_drew ?_ | refine blk_alloc ?_ _)); exact BK265.out) hb); have n3_ := Aside0.mk (below_step (by repeat (first | (with_reducible first | exact HB.out | apply below_alloc | apply pw_below_drewN | apply below_drew1 | refine below_set ?_ GE265.out) | exact HB.out)) hb); clear HO268; clear BK265; clear HB; have HO268 := n0_; have HO271 := n1_; have BK265 := n2_; have HB := n3_; clear n0_ n1_ n2_ n3_; (try clear hb); (try clear hb2); (try clear hk); (try clear hi); (try clear ho0); obtain ⟨Ao17, co17, eo17⟩ := Kd.R_slice HO268.out; subst eo17; obtain ⟨Ao18, co18, eo18⟩ := Kd.R_slice HO271.out; subst eo18))
            go_ret
            exact ⟨by first | rfl | (simp [errW_none, errW_some] <;> rfl) | (simp [*, errW_none, errW_some] <;> rfl), by repeat (first | (with_reducible first | exact HB.out | apply below_alloc | apply pw_below_drewN | apply below_drew1 | refine below_set ?_ GE265.out) | exact HB.out)⟩
          · rw [if_neg c10] at H
            have c10b0 : ((t269.length : Int) == 0) = false := beq_eq_false_iff_ne.mpr c10
            have c10b1 : ((t269.length : Int) != 0) = true := bne_iff_ne.mpr c10
            have c10b2 : ¬ (t269 = []) := fun h_ => c10 (by rw [h_]; rfl)
            replace H := Option.bind_eq_some_iff.mp H
            obtain ⟨t272, A190, H⟩ := H
            replace H : (laws_FnPieces.l0 kj2 t266 t272 t264 0 t261 t262 t263) = some r := H
            have A19 := Aside0.mk A190
            clear A190
            have H' := Aside0.mk H
            clear H
            go_wp2_with (first | ((with_reducible refine gate_callee (f := 33) rfl ?_); refine goesL_ (some 25) rfl rfl Try.func33 (by kernel_rfl) rfl #[.slice A0 l0.length c0] rfl (by (try simp only [List.map_toArray, List.map_cons, List.map_nil]); first | done | rfl | (simp only [List.length_drop, List.length_take]; rfl)) ?_; (with_reducible refine (spec_DrawPieces.calls kj2 _ _ l0 t261 t262 t263 t264 _ ?side1 ?side2 A6.out).mono ?_); (case side1 => repeat (first | exact (Kd.C_below HR0.out HB.out) | (with_reducible refine Kd.C_alloc ?_ _) | (with_reducible refine Kd.C_drewN ?_ _) | (with_reducible refine Kd.C_drew ?_))); (case side2 => exact HC0.out); rintro e w20 ⟨rfl, hb⟩; refine ⟨_, rfl, ?_⟩; have n0_ := Aside0.mk (below_step (by repeat (first | (with_reducible first | exact HB.out | apply below_alloc | apply pw_below_drewN | apply below_drew1) | exact HB.out)) hb); clear HB; have HB := n0_; clear n0_; (try clear hb); (try clear hb2); (try clear hk); (try clear hi)) | ((with_reducible refine gate_dst (N := 5) rfl ?_); (try (refine gate_guard (by rfl) ?_; dsimp only)); refine box_event ?hg (N := 5) ?hd (cs := #[.int .i64 0, .int .i64 0, .int .i64 0]) (t := 40) ?hr ?_; (case hd => rfl); (case hg => rfl); (case hr => first | (go_simp; done) | (go_simp; rfl)); intro gb265 hg w21 hbox hb; have n0_ := Aside0.mk (below_step (by repeat (first | (with_reducible first | exact HB.out | apply below_alloc | apply pw_below_drewN | apply below_drew1) | exact HB.out)) hb); have n1_ := Aside0.mk (hbox); have n2_ := Aside0.mk ((by rw [hg]; exact (below_size (by repeat (first | (with_reducible first | exact HB.out | apply below_alloc | apply pw_below_drewN | apply below_drew1) | exact HB.out))) : w.heap.size ≤ gb265)); have n3_ := Aside0.mk ((by rw [hg]; exact (below_size (by repeat (first | (with_reducible first | exact HB.out | apply below_alloc | apply pw_below_drewN | apply below_drew1) | exact HB.out))) : w.heap.size ≤ gb265)); clear HB; have HB := n0_; have BK265 := n1_; have GW265 := n2_; have GE265 := n3_; clear n0_ n1_ n2_ n3_; clear hb hbox hg; have hcz22_0 : w21.cell? ⟨gb265, 0, none⟩ = some (.int .i64 0) := (blk_cell BK265.out 0).trans rfl; have hcz22_1 : w21.cell? ⟨gb265, 1, none⟩ = some (.int .i64 0) := (blk_cell BK265.out 1).trans rfl; have hcz22_2 : w21.cell? ⟨gb265, 2, none⟩ = some (.int .i64 0) := (blk_cell BK265.out 2).trans rfl; have hfz22_0 := blk_frozen BK265.out 0; have hfz22_1 := blk_frozen BK265.out 1; have hfz22_2 := blk_frozen BK265.out 2) | ((with_reducible refine gate_callee (f := 34) rfl ?_); refine goesL_ (some 30) rfl rfl Try.func34 (by kernel_rfl) rfl #[.agg #[.int .i64 t261, .int .i64 t262, .int .i64 t263], .string t264] rfl (by (try simp only [List.map_toArray, List.map_cons, List.map_nil]); first | done | rfl | (simp only [List.length_drop, List.length_take]; rfl)) ?_; (with_reducible refine (impl_Pieces.calls kj2 t261 t262 t263 t264 t266 _ A7.out).mono ?_); rintro e w23 ⟨v267, rfl, ho0, hb⟩; refine ⟨_, rfl, ?_⟩; have n0_ := Aside0.mk (Kd.R_lower ho0 (below_size (by repeat (first | (with_reducible first | exact HB.out | apply below_alloc | apply pw_below_drewN | apply below_drew1 | refine below_set ?_ GE265.out) | exact HB.out)))); have n1_ := Aside0.mk (blk_below (g := gb265) (o := .cells #[.int .i64 t261, .int .i64 t262, .int .i64 t263] 40 (0, 0)) (by (with_reducible repeat (first | refine blk_drewN ?_ _ | refine blk_drew ?_ | refine blk_alloc ?_ _)); refine blk_put (cs := #[.int .i64 t261, .int .i64 t262, .int .i64 0]) ?_ 2 _ rfl; (with_reducible repeat (first | refine blk_drewN ?_ _ | refine blk_drew ?_ | refine blk_alloc ?_ _)); refine blk_put (cs := #[.int .i64 t261, .int .i64 0, .int .i64 0]) ?_ 1 _ rfl; (with_reducible repeat (first | refine blk_drewN ?_ _ | refine blk_drew ?_ | refine blk_alloc ?_ _)); refine blk_put (cs := #[.int .i64 0, .int .i64 0, .int .i64 0]) ?_ 0 _ rfl; (with_reducible repeat (first | refine blk_drewN ?_ _ | refine blk_drew ?_ | refine blk_alloc ?_ _)); exact BK265.out) hb); have n2_ := Aside0.mk (below_step (by repeat (first | (with_reducible first | exact HB.out | apply below_alloc | apply pw_below_drewN | apply below_drew1 | refine below_set ?_ GE265.out) | exact HB.out)) hb); clear BK265; clear HB; have HO268 := n0_; have BK265 := n1_; have HB := n2_; clear n0_ n1_ n2_; (try clear hb); (try clear hb2); (try clear hk); (try clear hi); (try clear ho0); have hcz24_0 : w23.cell? ⟨gb265, 0, none⟩ = some (.int .i64 t261) := (blk_cell BK265.out 0).trans rfl; have hcz24_1 : w23.cell? ⟨gb265, 1, none⟩ = some (.int .i64 t262) := (blk_cell BK265.out 1).trans rfl; have hcz24_2 : w23.cell? ⟨gb265, 2, none⟩ = some (.int .i64 t263) := (blk_cell BK265.out 2).trans rfl; have hfz24_0 := blk_frozen BK265.out 0; have hfz24_1 := blk_frozen BK265.out 1; have hfz24_2 := blk_frozen BK265.out 2) | ((with_reducible refine gate_callee (f := 35) rfl ?_); refine goesL_ (some 33) rfl rfl Try.func35 (by kernel_rfl) rfl #[.agg #[.int .i64 t261, .int .i64 t262, .int .i64 t263], .string t264] rfl (by (try simp only [List.map_toArray, List.map_cons, List.map_nil]); first | done | rfl | (simp only [List.length_drop, List.length_take]; rfl)) ?_; (with_reducible refine (spec_Pieces.calls kj2 t261 t262 t263 t264 t269 _ A8.out).mono ?_); rintro e w25 ⟨v270, rfl, ho0, hb⟩; refine ⟨_, rfl, ?_⟩; have n0_ := Aside0.mk (Kd.R_elder' (by (with_reducible repeat (first | apply Kd.R_alloc | apply Kd.R_drewN | apply Kd.R_drew)); exact HO268.out) (Kd.R_base ho0) hb); have n1_ := Aside0.mk (Kd.R_lower (Kd.R_new' ho0 (Kd.R_lt (by (with_reducible repeat (first | apply Kd.R_alloc | apply Kd.R_drewN | apply Kd.R_drew)); exact HO268.out))) (below_size (by repeat (first | (with_reducible first | exact HB.out | apply below_alloc | apply pw_below_drewN | apply below_drew1 | refine below_set ?_ GE265.out) | exact HB.out)))); have n2_ := Aside0.mk (blk_below (g := gb265) (o := .cells #[.int .i64 t261, .int .i64 t262, .int .i64 t263] 40 (0, 0)) (by (with_reducible repeat (first | refine blk_drewN ?_ _ | refine blk_drew ?_ | refine blk_alloc ?_ _)); exact BK265.out) hb); have n3_ := Aside0.mk (below_step (by repeat (first | (with_reducible first | exact HB.out | apply below_alloc | apply pw_below_drewN | apply below_drew1 | refine below_set ?_ GE265.out) | exact HB.out)) hb); clear HO268; clear BK265; clear HB; have HO268 := n0_; have HO271 := n1_; have BK265 := n2_; have HB := n3_; clear n0_ n1_ n2_ n3_; (try clear hb); (try clear hb2); (try clear hk); (try clear hi); (try clear ho0); obtain ⟨Ao26, co26, eo26⟩ := Kd.R_slice HO268.out; subst eo26; obtain ⟨Ao27, co27, eo27⟩ := Kd.R_slice HO271.out; subst eo27) | ((with_reducible refine gate_callee (f := 36) rfl ?_); refine goesL_ (some 45) rfl rfl Try.func36 (by kernel_rfl) rfl #[.slice A1 l1.length c1, .int .i64 0, .int .i64 (t266.length : Int)] rfl (by (try simp only [List.map_toArray, List.map_cons, List.map_nil]); first | done | rfl | (simp only [List.length_drop, List.length_take]; rfl)) ?_; (with_reducible refine (laws_lwAt.calls _ _ l1 0 (t266.length : Int) t272 _ ?side1 ?side2 A19.out).mono ?_); (case side1 => repeat (first | exact (Kd.C_below HR1.out HB.out) | (with_reducible refine Kd.C_alloc ?_ _) | (with_reducible refine Kd.C_drewN ?_ _) | (with_reducible refine Kd.C_drew ?_))); (case side2 => exact HC1.out); rintro e w' ⟨rfl, ⟨nd, rfl⟩⟩; refine ⟨_, rfl, ?_⟩))
            go_loopg [10, 11] kj2 (fun kq v10 v11 w' => ∃ (x10_2 : ByteArray) (x11_2 : Int), v10 = .string x10_2 ∧ v11 = .int .i64 x11_2 ∧ Aside0 (laws_FnPieces.l0 kq t266 t272 x10_2 x11_2 t261 t262 t263 = some r) ∧ Aside0 (kq ≤ kj2) ∧ Aside0 (Kd.R Kd.string 9 w' w.heap.size (fun _ => True) (.slice Ao26 t266.length co26) t266) ∧ Aside0 (w'.heap[gb265]? = some (.cells #[.int .i64 t261, .int .i64 t262, .int .i64 t263] 40 (0, 0))) ∧ Aside0 (Below w.heap.size w w'))
            case atStart => exact ⟨(t264), (0), (by first | rfl | (simp; done) | (simp [*]; done)), (by first | rfl | (simp; done) | (simp [*]; done)), H', ⟨Nat.le_refl _⟩, ⟨by (with_reducible repeat (first | apply Kd.R_alloc | apply Kd.R_drewN | apply Kd.R_drew)); exact Kd.R_mono HO268.out (fun _ hk => trivial)⟩, ⟨by (with_reducible repeat (first | refine blk_drewN ?_ _ | refine blk_drew ?_ | refine blk_alloc ?_ _)); exact BK265.out⟩, ⟨by repeat (first | (with_reducible first | exact HB.out | apply below_alloc | apply pw_below_drewN | apply below_drew1 | refine below_set ?_ GE265.out) | exact HB.out)⟩⟩
            case round =>
              clear H'
              try clear c1
              try clear p2
              try clear c3
              try clear c4
              try clear c4b0
              try clear c4b1
              try clear c5
              try clear c6
              try clear c9
              try clear c9b0
              try clear c9b1
              try clear c9b2
              try clear c10
              try clear c10b0
              try clear c10b1
              try clear c10b2
              try clear hcz13_0
              try clear hcz13_1
              try clear hcz13_2
              try clear hcz15_0
              try clear hcz15_1
              try clear hcz15_2
              try clear hcz22_0
              try clear hcz22_1
              try clear hcz22_2
              try clear hcz24_0
              try clear hcz24_1
              try clear hcz24_2
              try clear hfz13_0
              try clear hfz13_1
              try clear hfz13_2
              try clear hfz15_0
              try clear hfz15_1
              try clear hfz15_2
              try clear hfz22_0
              try clear hfz22_1
              try clear hfz22_2
              try clear hfz24_0
              try clear hfz24_1
              try clear hfz24_2
              try clear p2
              obtain ⟨x10_2, x11_2, rfl, rfl, HA, HK2, HO_7, BK265, HB⟩ := hrel
              cases gk with
              | zero => exact absurd HA.out (by simp [laws_FnPieces.l0])
              | succ k2 =>
                have H := HA.out
                clear HA
                simp only [laws_FnPieces.l0] at H
                by_cases c28 : x11_2 < (t266.length : Int)
                · rw [if_pos c28] at H
                  have c28b0 : decide (x11_2 < (t266.length : Int)) = true := decide_eq_true c28
                  clear c28
                  by_cases c29 : 0 ≤ x11_2
                  · rw [if_pos c29] at H
                    have c29b0 : decide (0 ≤ x11_2) = true := decide_eq_true c29
                    clear c29
                    have HC30 := Aside0.mk H
                    clear H
                    have p273 : 0 ≤ (x11_2 : Int) := of_decide_eq_true (by first | (with_reducible assumption) | assumption)
                    have q273 : x11_2 < (t266.length : Int) := of_decide_eq_true (by first | (with_reducible assumption) | assumption)
                    obtain ⟨ad273, e273, hx273_0⟩ := Kd.at_string (Kd.R_reads' HO_7.out).2.2 x11_2 p273 q273
                    cases e273
                    replace p273 := eq_true p273
                    replace q273 := eq_true q273
                    go_upto_region 16 with (fail)
                    go_cut [101] (fun v101 wc => ∃ (kq : Nat) (x101_29 : Bool), v101 = .bool x101_29 ∧ Aside0 (laws_FnPieces.j2 kq t266 t272 x10_2 x11_2 ((rdOf ByteArray.empty t266 x11_2).size : Int) x101_29 t261 t262 t263 = some r) ∧ Aside0 (kq ≤ k2) ∧ Aside0 (Kd.R Kd.string 9 wc w.heap.size (fun _ => True) (.slice (some ad273) t266.length co26) t266) ∧ Aside0 (wc.heap[gb265]? = some (.cells #[.int .i64 t261, .int .i64 t262, .int .i64 t263] 40 (0, 0))) ∧ Aside0 (Below w.heap.size w wc))
                    case first =>
                      have H := HC30.out
                      clear HC30
                      obtain ⟨y, hy⟩ : ∃ y, wrap64 (x11_2 + 1) = y := ⟨_, rfl⟩
                      have hyw : IntKind.i64.wrap (x11_2 + 1) = y := (i64_w _).trans hy
                      rw [hy] at H
                      obtain ⟨sx, hsx⟩ : ∃ s_, rdOf ByteArray.empty t266 x11_2 = s_ := ⟨_, rfl⟩
                      rw [hsx] at H hx273_0
                      try rw [hsx]
                      have HSX := Aside0.mk hsx
                      clear hsx
                      obtain ⟨e61, he61⟩ : ∃ e_ : Bool, ((x10_2.size : Int) < (sx.size : Int)) = (e_ = true) := ⟨decide ((x10_2.size : Int) < (sx.size : Int)), by simp⟩
                      have he61n : (x10_2.size < sx.size) = (e61 = true) := by rw [← he61]; simp
                      obtain ⟨e70, he70⟩ : ∃ e_ : Bool, ((x10_2.extract 0 sx.size).toList == sx.toList) = !e_ := ⟨!((x10_2.extract 0 sx.size).toList == sx.toList), by simp⟩
                      have he70m : ((x10_2.extract 0 sx.size).toList != sx.toList) = e70 := by simp only [bne, he70, Bool.not_not]
                      obtain ⟨e76, he76⟩ : ∃ e_ : Bool, (t263 < (sx.size : Int)) = (e_ = true) := ⟨decide (t263 < (sx.size : Int)), by simp⟩
                      obtain ⟨e80, he80⟩ : ∃ e_ : Bool, ((sx.size : Int) < 1) = (e_ = true) := ⟨decide ((sx.size : Int) < 1), by simp⟩
                      have he80n : (sx.size < 1) = (e80 = true) := by rw [← he80]; exact propext (by constructor <;> intro _ <;> omega)
                      have he80z : (sx.size = 0) = (e80 = true) := by rw [← he80]; exact propext (by constructor <;> intro _ <;> omega)
                      have he80e : (sx = ByteArray.empty) = (e80 = true) := by rw [← he80z]; simp
                      obtain ⟨e87, he87⟩ : ∃ e_ : Bool, (y < (t266.length : Int)) = (e_ = true) := ⟨decide (y < (t266.length : Int)), by simp⟩
                      obtain ⟨e92, he92⟩ : ∃ e_ : Bool, ((sx.size : Int) < t261) = (e_ = true) := ⟨decide ((sx.size : Int) < t261), by simp⟩
                      obtain ⟨t98, hcut, hj2⟩ := laws_FnPieces.step k2 t266 t272 x10_2 sx x11_2 y t261 t262 t263 r e61 e70 e76 e80 e87 e92 he61 he70 he76 he80 he87 he92 H
                      clear H hy
                      obtain ⟨e100, he100⟩ : ∃ e_ : Bool, (t98 = (sx.size : Int)) = (e_ = true) := ⟨decide (t98 = (sx.size : Int)), by simp⟩
                      have he100b : (t98 == (sx.size : Int)) = e100 := by rw [Bool.eq_iff_iff, ← he100]; simp
                      have he100m : (t98 != (sx.size : Int)) = !e100 := by simp only [bne, he100b]
                      have hj3 : laws_FnPieces.j2 k2 t266 t272 x10_2 x11_2 (sx.size : Int) ((((((e61 || e70) || e76) || e80) || (e87 && e92)) || !e100)) t261 t262 t263 = some r := by
                        have : decide (t98 = (sx.size : Int)) = e100 := by simp [he100]
                        rw [← this]
                        exact hj2
                      have HJ3 := Aside0.mk hj3
                      have HCUT := Aside0.mk hcut
                      have HLE := Aside0.mk (show e61 = false → (sx.size ≤ x10_2.size) = True ∧ ((sx.size : Int) ≤ (x10_2.size : Int)) = True from fun z => by
                        have : ¬ (x10_2.size : Int) < (sx.size : Int) := fun w_ => by rw [he61] at w_; rw [z] at w_; cases w_
                        exact ⟨eq_true (by omega), eq_true (by omega)⟩)
                      clear hj2 hj3 hcut
                      have hcz_0 : wr.cell? ⟨gb265, 0, none⟩ = some (.int .i64 t261) := (blk_cell BK265.out 0).trans rfl
                      have hcz_1 : wr.cell? ⟨gb265, 1, none⟩ = some (.int .i64 t262) := (blk_cell BK265.out 1).trans rfl
                      have hcz_2 : wr.cell? ⟨gb265, 2, none⟩ = some (.int .i64 t263) := (blk_cell BK265.out 2).trans rfl
                      refine wp_reg1 [[], [], [1], [0, 2], [3], [4], [4], [4, 5, 6], [4], [4], [4, 8, 9], [4, 10], [4, 7, 11], [4, 12], [13], [14], [14], [14, 16], [14, 15, 17], [14, 18], [19], [20], [20, 21], [20, 22], [23], [24], [24, 25], [24], [24, 27], [24, 26, 28], [24, 29], [30], [30], [30, 32], [30, 31, 33], [24, 30, 34], [24, 35], [36], [37], [37], [37, 38, 39], [37], [37, 40, 41], [37, 42]]
                        (isVal [.int .i64 (sx.size : Int),
                          .string x10_2,
                          .int .i64 (x10_2.size : Int),
                          .bool e61,
                          .bool e61,
                          if !e61 then .string x10_2 else undef,
                          if !e61 then .int .i64 (sx.size : Int) else undef,
                          if !e61 then .string (x10_2.extract 0 sx.size) else undef,
                          if !e61 then .slice (some ad273) t266.length co26 else undef,
                          if !e61 then .int .i64 x11_2 else undef,
                          if !e61 then .pointer (some (ad273.add x11_2.toNat)) else undef,
                          if !e61 then .string sx else undef,
                          if !e61 then .bool e70 else undef,
                          .bool (e61 || e70),
                          .bool (e61 || e70),
                          if !(e61 || e70) then .int .i64 (sx.size : Int) else undef,
                          if !(e61 || e70) then .pointer (some ⟨gb265, 2, none⟩) else undef,
                          if !(e61 || e70) then .int .i64 t263 else undef,
                          if !(e61 || e70) then .bool e76 else undef,
                          .bool ((e61 || e70) || e76),
                          .bool ((e61 || e70) || e76),
                          if !((e61 || e70) || e76) then .int .i64 (sx.size : Int) else undef,
                          if !((e61 || e70) || e76) then .bool e80 else undef,
                          .bool (((e61 || e70) || e76) || e80),
                          .bool (((e61 || e70) || e76) || e80),
                          if !(((e61 || e70) || e76) || e80) then .int .i64 x11_2 else undef,
                          if !(((e61 || e70) || e76) || e80) then .int .i64 y else undef,
                          if !(((e61 || e70) || e76) || e80) then .slice (some ad273) t266.length co26 else undef,
                          if !(((e61 || e70) || e76) || e80) then .int .i64 (t266.length : Int) else undef,
                          if !(((e61 || e70) || e76) || e80) then .bool e87 else undef,
                          if !(((e61 || e70) || e76) || e80) then .bool e87 else undef,
                          if !(((e61 || e70) || e76) || e80) && e87 then .int .i64 (sx.size : Int) else undef,
                          if !(((e61 || e70) || e76) || e80) && e87 then .pointer (some ⟨gb265, 0, none⟩) else undef,
                          if !(((e61 || e70) || e76) || e80) && e87 then .int .i64 t261 else undef,
                          if !(((e61 || e70) || e76) || e80) && e87 then .bool e92 else undef,
                          if !(((e61 || e70) || e76) || e80) then .bool (e87 && e92) else undef,
                          .bool ((((e61 || e70) || e76) || e80) || (e87 && e92)),
                          .bool ((((e61 || e70) || e76) || e80) || (e87 && e92)),
                          if !((((e61 || e70) || e76) || e80) || (e87 && e92)) then .agg #[.int .i64 t261, .int .i64 t262, .int .i64 t263] else undef,
                          if !((((e61 || e70) || e76) || e80) || (e87 && e92)) then .string x10_2 else undef,
                          if !((((e61 || e70) || e76) || e80) || (e87 && e92)) then .int .i64 t98 else undef,
                          if !((((e61 || e70) || e76) || e80) || (e87 && e92)) then .int .i64 (sx.size : Int) else undef,
                          if !((((e61 || e70) || e76) || e80) || (e87 && e92)) then .bool (!e100) else undef,
                          .bool (((((e61 || e70) || e76) || e80) || (e87 && e92)) || !e100)]) ?B16 ?d16 (by kernel_rfl) (by kernel_rfl) (by kernel_rfl) (by kernel_rfl) (fun us => ?hA16) (isVal_grow _) ?hS16 ?hE16
                      case hA16 =>
                        simp only [regPut, Act.put, List.setIfInBounds_toArray, List.set_cons_zero, List.set_cons_succ, Nat.reduceAdd, Nat.zero_add]
                        rfl
                      case hS16 =>
                        refine ⟨?_, ?_, ?_, ?_, ?_, ?_, ?_, ?_, ?_, ?_, ?_, ?_, ?_, ?_, ?_, ?_, ?_, ?_, ?_, ?_, ?_, ?_, ?_, ?_, ?_, ?_, ?_, ?_, ?_, ?_, ?_, ?_, ?_, ?_, ?_, ?_, ?_, ?_, ?_, ?_, ?_, ?_, ?_, ?_, trivial⟩
                        all_goals (intro us w' hg hd K hK; simp only [AllR, isVal, List.getD_cons_zero, List.getD_cons_succ] at hd; clear HJ3 HO_7 BK265 HB)
                        all_goals (have g1_ := True.intro; have g2_ := True.intro; have g3_ := True.intro; try (obtain ⟨g1_, hd⟩ := hd); try (obtain ⟨g2_, hd⟩ := hd); try (obtain ⟨g3_, hd⟩ := hd))
                        all_goals (replace hcz_0 := cellG (grow_refl _) hg hcz_0; replace hcz_1 := cellG (grow_refl _) hg hcz_1; replace hcz_2 := cellG (grow_refl _) hg hcz_2; replace hx273_0 := cellG (grow_refl _) hg hx273_0)
                        · all_goals (repeat' (first
                              | (refine reg_val hK ?_ ?_ (grow_refl _) rfl
                                 · first | rfl | (simp [wantedG, asB, undef, g1_, g2_, g3_]; done)
                                 · skip
                                   (try (obtain ⟨y1, y2⟩ := HLE.out rfl))
                                   go_simp
                                   done)
                              | cases e61 | cases e70 | cases e76 | cases e80 | cases e87 | cases e92 | cases e100))
                        · all_goals (repeat' (first
                              | (refine reg_val hK ?_ ?_ (grow_refl _) rfl
                                 · first | rfl | (simp [wantedG, asB, undef, g1_, g2_, g3_]; done)
                                 · skip
                                   (try (obtain ⟨y1, y2⟩ := HLE.out rfl))
                                   go_simp
                                   done)
                              | cases e61 | cases e70 | cases e76 | cases e80 | cases e87 | cases e92 | cases e100))
                        · all_goals (repeat' (first
                              | (refine reg_val hK ?_ ?_ (grow_refl _) rfl
                                 · first | rfl | (simp [wantedG, asB, undef, g1_, g2_, g3_]; done)
                                 · skip
                                   (try (obtain ⟨y1, y2⟩ := HLE.out rfl))
                                   go_simp
                                   done)
                              | cases e61 | cases e70 | cases e76 | cases e80 | cases e87 | cases e92 | cases e100))
                        · all_goals (repeat' (first
                              | (refine reg_val hK ?_ ?_ (grow_refl _) rfl
                                 · first | rfl | (simp [wantedG, asB, undef, g1_, g2_, g3_]; done)
                                 · skip
                                   (try (obtain ⟨y1, y2⟩ := HLE.out rfl))
                                   go_simp
                                   done)
                              | cases e61 | cases e70 | cases e76 | cases e80 | cases e87 | cases e92 | cases e100))
                        · all_goals (repeat' (first
                              | (refine reg_val hK ?_ ?_ (grow_refl _) rfl
                                 · first | rfl | (simp [wantedG, asB, undef, g1_, g2_, g3_]; done)
                                 · skip
                                   (try (obtain ⟨y1, y2⟩ := HLE.out rfl))
                                   go_simp
                                   done)
                              | cases e61 | cases e70 | cases e76 | cases e80 | cases e87 | cases e92 | cases e100))
                        · rcases Bool.eq_false_or_eq_true (!e61 : Bool) with hG_ | hG_
                          rotate_left
                          · exact reg_skip hK (by rw [(wanted_f rfl g1_).trans (show _ = (!e61 : Bool) by first | rfl | (simp; done)), hG_]; decide) (by show undef = ite _ _ _; rw [hG_]; rfl)
                          all_goals (cases e61 <;> first | (exfalso; simp at hG_; done) | skip)
                          all_goals (repeat' (first
                              | (refine reg_skip hK ?_ rfl; (simp [wantedG, asB, undef, g1_, g2_, g3_]; done))
                              | (refine reg_val hK ?_ ?_ (grow_refl _) rfl
                                 · first | rfl | (simp [wantedG, asB, undef, g1_, g2_, g3_]; done)
                                 · skip
                                   (try (obtain ⟨y1, y2⟩ := HLE.out rfl))
                                   go_simp
                                   done)
                              | cases e70 | cases e76 | cases e80 | cases e87 | cases e92 | cases e100))
                        · rcases Bool.eq_false_or_eq_true (!e61 : Bool) with hG_ | hG_
                          rotate_left
                          · exact reg_skip hK (by rw [(wanted_f rfl g1_).trans (show _ = (!e61 : Bool) by first | rfl | (simp; done)), hG_]; decide) (by show undef = ite _ _ _; rw [hG_]; rfl)
                          all_goals (cases e61 <;> first | (exfalso; simp at hG_; done) | skip)
                          all_goals (repeat' (first
                              | (refine reg_skip hK ?_ rfl; (simp [wantedG, asB, undef, g1_, g2_, g3_]; done))
                              | (refine reg_val hK ?_ ?_ (grow_refl _) rfl
                                 · first | rfl | (simp [wantedG, asB, undef, g1_, g2_, g3_]; done)
                                 · skip
                                   (try (obtain ⟨y1, y2⟩ := HLE.out rfl))
                                   go_simp
                                   done)
                              | cases e70 | cases e76 | cases e80 | cases e87 | cases e92 | cases e100))
                        · rcases Bool.eq_false_or_eq_true (!e61 : Bool) with hG_ | hG_
                          rotate_left
                          · exact reg_skip hK (by rw [(wanted_f rfl g1_).trans (show _ = (!e61 : Bool) by first | rfl | (simp; done)), hG_]; decide) (by show undef = ite _ _ _; rw [hG_]; rfl)
                          all_goals (cases e61 <;> first | (exfalso; simp at hG_; done) | skip)
                          all_goals (repeat' (first
                              | (refine reg_skip hK ?_ rfl; (simp [wantedG, asB, undef, g1_, g2_, g3_]; done))
                              | (refine reg_val hK ?_ ?_ (grow_refl _) rfl
                                 · first | rfl | (simp [wantedG, asB, undef, g1_, g2_, g3_]; done)
                                 · skip
                                   (try (obtain ⟨y1, y2⟩ := HLE.out rfl))
                                   go_simp
                                   done)
                              | cases e70 | cases e76 | cases e80 | cases e87 | cases e92 | cases e100))
                        · rcases Bool.eq_false_or_eq_true (!e61 : Bool) with hG_ | hG_
                          rotate_left
                          · exact reg_skip hK (by rw [(wanted_f rfl g1_).trans (show _ = (!e61 : Bool) by first | rfl | (simp; done)), hG_]; decide) (by show undef = ite _ _ _; rw [hG_]; rfl)
                          all_goals (cases e61 <;> first | (exfalso; simp at hG_; done) | skip)
                          all_goals (repeat' (first
                              | (refine reg_skip hK ?_ rfl; (simp [wantedG, asB, undef, g1_, g2_, g3_]; done))
                              | (refine reg_val hK ?_ ?_ (grow_refl _) rfl
                                 · first | rfl | (simp [wantedG, asB, undef, g1_, g2_, g3_]; done)
                                 · skip
                                   (try (obtain ⟨y1, y2⟩ := HLE.out rfl))
                                   go_simp
                                   done)
                              | cases e70 | cases e76 | cases e80 | cases e87 | cases e92 | cases e100))
                        · rcases Bool.eq_false_or_eq_true (!e61 : Bool) with hG_ | hG_
                          rotate_left
                          · exact reg_skip hK (by rw [(wanted_f rfl g1_).trans (show _ = (!e61 : Bool) by first | rfl | (simp; done)), hG_]; decide) (by show undef = ite _ _ _; rw [hG_]; rfl)
                          all_goals (cases e61 <;> first | (exfalso; simp at hG_; done) | skip)
                          all_goals (repeat' (first
                              | (refine reg_skip hK ?_ rfl; (simp [wantedG, asB, undef, g1_, g2_, g3_]; done))
                              | (refine reg_val hK ?_ ?_ (grow_refl _) rfl
                                 · first | rfl | (simp [wantedG, asB, undef, g1_, g2_, g3_]; done)
                                 · skip
                                   (try (obtain ⟨y1, y2⟩ := HLE.out rfl))
                                   go_simp
                                   done)
                              | cases e70 | cases e76 | cases e80 | cases e87 | cases e92 | cases e100))
                        · rcases Bool.eq_false_or_eq_true (!e61 : Bool) with hG_ | hG_
                          rotate_left
                          · exact reg_skip hK (by rw [(wanted_f rfl g1_).trans (show _ = (!e61 : Bool) by first | rfl | (simp; done)), hG_]; decide) (by show undef = ite _ _ _; rw [hG_]; rfl)
                          all_goals (cases e61 <;> first | (exfalso; simp at hG_; done) | skip)
                          all_goals (repeat' (first
                              | (refine reg_skip hK ?_ rfl; (simp [wantedG, asB, undef, g1_, g2_, g3_]; done))
                              | (refine reg_val hK ?_ ?_ (grow_refl _) rfl
                                 · first | rfl | (simp [wantedG, asB, undef, g1_, g2_, g3_]; done)
                                 · skip
                                   (try (obtain ⟨y1, y2⟩ := HLE.out rfl))
                                   go_simp
                                   done)
                              | cases e70 | cases e76 | cases e80 | cases e87 | cases e92 | cases e100))
                        · rcases Bool.eq_false_or_eq_true (!e61 : Bool) with hG_ | hG_
                          rotate_left
                          · exact reg_skip hK (by rw [(wanted_f rfl g1_).trans (show _ = (!e61 : Bool) by first | rfl | (simp; done)), hG_]; decide) (by show undef = ite _ _ _; rw [hG_]; rfl)
                          all_goals (cases e61 <;> first | (exfalso; simp at hG_; done) | skip)
                          all_goals (repeat' (first
                              | (refine reg_skip hK ?_ rfl; (simp [wantedG, asB, undef, g1_, g2_, g3_]; done))
                              | (refine reg_val hK ?_ ?_ (grow_refl _) rfl
                                 · first | rfl | (simp [wantedG, asB, undef, g1_, g2_, g3_]; done)
                                 · skip
                                   (try (obtain ⟨y1, y2⟩ := HLE.out rfl))
                                   go_simp
                                   done)
                              | cases e70 | cases e76 | cases e80 | cases e87 | cases e92 | cases e100))
                        · rcases Bool.eq_false_or_eq_true (!e61 : Bool) with hG_ | hG_
                          rotate_left
                          · exact reg_skip hK (by rw [(wanted_f rfl g1_).trans (show _ = (!e61 : Bool) by first | rfl | (simp; done)), hG_]; decide) (by show undef = ite _ _ _; rw [hG_]; rfl)
                          all_goals (cases e61 <;> first | (exfalso; simp at hG_; done) | skip)
                          all_goals (repeat' (first
                              | (refine reg_skip hK ?_ rfl; (simp [wantedG, asB, undef, g1_, g2_, g3_]; done))
                              | (refine reg_val hK ?_ ?_ (grow_refl _) rfl
                                 · first | rfl | (simp [wantedG, asB, undef, g1_, g2_, g3_]; done)
                                 · skip
                                   (try (obtain ⟨y1, y2⟩ := HLE.out rfl))
                                   go_simp
                                   done)
                              | cases e70 | cases e76 | cases e80 | cases e87 | cases e92 | cases e100))
                        · refine reg_pick hK rfl rfl g1_ (or_val ?_ g2_)
                          first | rfl | (simp; done)
                        · all_goals (repeat' (first
                              | (refine reg_val hK ?_ ?_ (grow_refl _) rfl
                                 · first | rfl | (simp [wantedG, asB, undef, g1_, g2_, g3_]; done)
                                 · skip
                                   (try (obtain ⟨y1, y2⟩ := HLE.out rfl))
                                   go_simp
                                   done)
                              | cases e61 | cases e70 | cases e76 | cases e80 | cases e87 | cases e92 | cases e100))
                        · rcases Bool.eq_false_or_eq_true (!(e61 || e70) : Bool) with hG_ | hG_
                          rotate_left
                          · exact reg_skip hK (by rw [(wanted_f rfl g1_).trans (show _ = (!(e61 || e70) : Bool) by first | rfl | (simp; done)), hG_]; decide) (by show undef = ite _ _ _; rw [hG_]; rfl)
                          all_goals (cases e61 <;> first | (exfalso; simp at hG_; done) | skip)
                          all_goals (cases e70 <;> first | (exfalso; simp at hG_; done) | skip)
                          all_goals (repeat' (first
                              | (refine reg_skip hK ?_ rfl; (simp [wantedG, asB, undef, g1_, g2_, g3_]; done))
                              | (refine reg_val hK ?_ ?_ (grow_refl _) rfl
                                 · first | rfl | (simp [wantedG, asB, undef, g1_, g2_, g3_]; done)
                                 · skip
                                   (try (obtain ⟨y1, y2⟩ := HLE.out rfl))
                                   go_simp
                                   done)
                              | cases e76 | cases e80 | cases e87 | cases e92 | cases e100))
                        · rcases Bool.eq_false_or_eq_true (!(e61 || e70) : Bool) with hG_ | hG_
                          rotate_left
                          · exact reg_skip hK (by rw [(wanted_f rfl g1_).trans (show _ = (!(e61 || e70) : Bool) by first | rfl | (simp; done)), hG_]; decide) (by show undef = ite _ _ _; rw [hG_]; rfl)
                          all_goals (cases e61 <;> first | (exfalso; simp at hG_; done) | skip)
                          all_goals (cases e70 <;> first | (exfalso; simp at hG_; done) | skip)
                          all_goals (repeat' (first
                              | (refine reg_skip hK ?_ rfl; (simp [wantedG, asB, undef, g1_, g2_, g3_]; done))
                              | (refine reg_val hK ?_ ?_ (grow_refl _) rfl
                                 · first | rfl | (simp [wantedG, asB, undef, g1_, g2_, g3_]; done)
                                 · skip
                                   (try (obtain ⟨y1, y2⟩ := HLE.out rfl))
                                   go_simp
                                   done)
                              | cases e76 | cases e80 | cases e87 | cases e92 | cases e100))
                        · rcases Bool.eq_false_or_eq_true (!(e61 || e70) : Bool) with hG_ | hG_
                          rotate_left
                          · exact reg_skip hK (by rw [(wanted_f rfl g1_).trans (show _ = (!(e61 || e70) : Bool) by first | rfl | (simp; done)), hG_]; decide) (by show undef = ite _ _ _; rw [hG_]; rfl)
                          all_goals (cases e61 <;> first | (exfalso; simp at hG_; done) | skip)
                          all_goals (cases e70 <;> first | (exfalso; simp at hG_; done) | skip)
                          all_goals (repeat' (first
                              | (refine reg_skip hK ?_ rfl; (simp [wantedG, asB, undef, g1_, g2_, g3_]; done))
                              | (refine reg_val hK ?_ ?_ (grow_refl _) rfl
                                 · first | rfl | (simp [wantedG, asB, undef, g1_, g2_, g3_]; done)
                                 · skip
                                   (try (obtain ⟨y1, y2⟩ := HLE.out rfl))
                                   go_simp
                                   done)
                              | cases e76 | cases e80 | cases e87 | cases e92 | cases e100))
                        · rcases Bool.eq_false_or_eq_true (!(e61 || e70) : Bool) with hG_ | hG_
                          rotate_left
                          · exact reg_skip hK (by rw [(wanted_f rfl g1_).trans (show _ = (!(e61 || e70) : Bool) by first | rfl | (simp; done)), hG_]; decide) (by show undef = ite _ _ _; rw [hG_]; rfl)
                          all_goals (cases e61 <;> first | (exfalso; simp at hG_; done) | skip)
                          all_goals (cases e70 <;> first | (exfalso; simp at hG_; done) | skip)
                          all_goals (repeat' (first
                              | (refine reg_skip hK ?_ rfl; (simp [wantedG, asB, undef, g1_, g2_, g3_]; done))
                              | (refine reg_val hK ?_ ?_ (grow_refl _) rfl
                                 · first | rfl | (simp [wantedG, asB, undef, g1_, g2_, g3_]; done)
                                 · skip
                                   (try (obtain ⟨y1, y2⟩ := HLE.out rfl))
                                   go_simp
                                   done)
                              | cases e76 | cases e80 | cases e87 | cases e92 | cases e100))
                        · refine reg_pick hK rfl rfl g1_ (or_val ?_ g2_)
                          first | rfl | (simp; done)
                        · all_goals (repeat' (first
                              | (refine reg_val hK ?_ ?_ (grow_refl _) rfl
                                 · first | rfl | (simp [wantedG, asB, undef, g1_, g2_, g3_]; done)
                                 · skip
                                   (try (obtain ⟨y1, y2⟩ := HLE.out rfl))
                                   go_simp
                                   done)
                              | cases e61 | cases e70 | cases e76 | cases e80 | cases e87 | cases e92 | cases e100))
                        · rcases Bool.eq_false_or_eq_true (!((e61 || e70) || e76) : Bool) with hG_ | hG_
                          rotate_left
                          · exact reg_skip hK (by rw [(wanted_f rfl g1_).trans (show _ = (!((e61 || e70) || e76) : Bool) by first | rfl | (simp; done)), hG_]; decide) (by show undef = ite _ _ _; rw [hG_]; rfl)
                          all_goals (cases e61 <;> first | (exfalso; simp at hG_; done) | skip)
                          all_goals (cases e70 <;> first | (exfalso; simp at hG_; done) | skip)
                          all_goals (cases e76 <;> first | (exfalso; simp at hG_; done) | skip)
                          all_goals (repeat' (first
                              | (refine reg_skip hK ?_ rfl; (simp [wantedG, asB, undef, g1_, g2_, g3_]; done))
                              | (refine reg_val hK ?_ ?_ (grow_refl _) rfl
                                 · first | rfl | (simp [wantedG, asB, undef, g1_, g2_, g3_]; done)
                                 · skip
                                   (try (obtain ⟨y1, y2⟩ := HLE.out rfl))
                                   go_simp
                                   done)
                              | cases e80 | cases e87 | cases e92 | cases e100))
                        · rcases Bool.eq_false_or_eq_true (!((e61 || e70) || e76) : Bool) with hG_ | hG_
                          rotate_left
                          · exact reg_skip hK (by rw [(wanted_f rfl g1_).trans (show _ = (!((e61 || e70) || e76) : Bool) by first | rfl | (simp; done)), hG_]; decide) (by show undef = ite _ _ _; rw [hG_]; rfl)
                          all_goals (cases e61 <;> first | (exfalso; simp at hG_; done) | skip)
                          all_goals (cases e70 <;> first | (exfalso; simp at hG_; done) | skip)
                          all_goals (cases e76 <;> first | (exfalso; simp at hG_; done) | skip)
                          all_goals (repeat' (first
                              | (refine reg_skip hK ?_ rfl; (simp [wantedG, asB, undef, g1_, g2_, g3_]; done))
                              | (refine reg_val hK ?_ ?_ (grow_refl _) rfl
                                 · first | rfl | (simp [wantedG, asB, undef, g1_, g2_, g3_]; done)
                                 · skip
                                   (try (obtain ⟨y1, y2⟩ := HLE.out rfl))
                                   go_simp
                                   done)
                              | cases e80 | cases e87 | cases e92 | cases e100))
                        · refine reg_pick hK rfl rfl g1_ (or_val ?_ g2_)
                          first | rfl | (simp; done)
                        · all_goals (repeat' (first
                              | (refine reg_val hK ?_ ?_ (grow_refl _) rfl
                                 · first | rfl | (simp [wantedG, asB, undef, g1_, g2_, g3_]; done)
                                 · skip
                                   (try (obtain ⟨y1, y2⟩ := HLE.out rfl))
                                   go_simp
                                   done)
                              | cases e61 | cases e70 | cases e76 | cases e80 | cases e87 | cases e92 | cases e100))
                        · rcases Bool.eq_false_or_eq_true (!(((e61 || e70) || e76) || e80) : Bool) with hG_ | hG_
                          rotate_left
                          · exact reg_skip hK (by rw [(wanted_f rfl g1_).trans (show _ = (!(((e61 || e70) || e76) || e80) : Bool) by first | rfl | (simp; done)), hG_]; decide) (by show undef = ite _ _ _; rw [hG_]; rfl)
                          all_goals (cases e61 <;> first | (exfalso; simp at hG_; done) | skip)
                          all_goals (cases e70 <;> first | (exfalso; simp at hG_; done) | skip)
                          all_goals (cases e76 <;> first | (exfalso; simp at hG_; done) | skip)
                          all_goals (cases e80 <;> first | (exfalso; simp at hG_; done) | skip)
                          all_goals (repeat' (first
                              | (refine reg_skip hK ?_ rfl; (simp [wantedG, asB, undef, g1_, g2_, g3_]; done))
                              | (refine reg_val hK ?_ ?_ (grow_refl _) rfl
                                 · first | rfl | (simp [wantedG, asB, undef, g1_, g2_, g3_]; done)
                                 · skip
                                   (try (obtain ⟨y1, y2⟩ := HLE.out rfl))
                                   go_simp
                                   done)
                              | cases e87 | cases e92 | cases e100))
                        · rcases Bool.eq_false_or_eq_true (!(((e61 || e70) || e76) || e80) : Bool) with hG_ | hG_
                          rotate_left
                          · exact reg_skip hK (by rw [(wanted_f rfl g1_).trans (show _ = (!(((e61 || e70) || e76) || e80) : Bool) by first | rfl | (simp; done)), hG_]; decide) (by show undef = ite _ _ _; rw [hG_]; rfl)
                          all_goals (cases e61 <;> first | (exfalso; simp at hG_; done) | skip)
                          all_goals (cases e70 <;> first | (exfalso; simp at hG_; done) | skip)
                          all_goals (cases e76 <;> first | (exfalso; simp at hG_; done) | skip)
                          all_goals (cases e80 <;> first | (exfalso; simp at hG_; done) | skip)
                          all_goals (repeat' (first
                              | (refine reg_skip hK ?_ rfl; (simp [wantedG, asB, undef, g1_, g2_, g3_]; done))
                              | (refine reg_val hK ?_ ?_ (grow_refl _) rfl
                                 · first | rfl | (simp [wantedG, asB, undef, g1_, g2_, g3_]; done)
                                 · skip
                                   (try (obtain ⟨y1, y2⟩ := HLE.out rfl))
                                   go_simp
                                   done)
                              | cases e87 | cases e92 | cases e100))
                        · rcases Bool.eq_false_or_eq_true (!(((e61 || e70) || e76) || e80) : Bool) with hG_ | hG_
                          rotate_left
                          · exact reg_skip hK (by rw [(wanted_f rfl g1_).trans (show _ = (!(((e61 || e70) || e76) || e80) : Bool) by first | rfl | (simp; done)), hG_]; decide) (by show undef = ite _ _ _; rw [hG_]; rfl)
                          all_goals (cases e61 <;> first | (exfalso; simp at hG_; done) | skip)
                          all_goals (cases e70 <;> first | (exfalso; simp at hG_; done) | skip)
                          all_goals (cases e76 <;> first | (exfalso; simp at hG_; done) | skip)
                          all_goals (cases e80 <;> first | (exfalso; simp at hG_; done) | skip)
                          all_goals (repeat' (first
                              | (refine reg_skip hK ?_ rfl; (simp [wantedG, asB, undef, g1_, g2_, g3_]; done))
                              | (refine reg_val hK ?_ ?_ (grow_refl _) rfl
                                 · first | rfl | (simp [wantedG, asB, undef, g1_, g2_, g3_]; done)
                                 · skip
                                   (try (obtain ⟨y1, y2⟩ := HLE.out rfl))
                                   go_simp
                                   done)
                              | cases e87 | cases e92 | cases e100))
                        · rcases Bool.eq_false_or_eq_true (!(((e61 || e70) || e76) || e80) : Bool) with hG_ | hG_
                          rotate_left
                          · exact reg_skip hK (by rw [(wanted_f rfl g1_).trans (show _ = (!(((e61 || e70) || e76) || e80) : Bool) by first | rfl | (simp; done)), hG_]; decide) (by show undef = ite _ _ _; rw [hG_]; rfl)
                          all_goals (cases e61 <;> first | (exfalso; simp at hG_; done) | skip)
                          all_goals (cases e70 <;> first | (exfalso; simp at hG_; done) | skip)
                          all_goals (cases e76 <;> first | (exfalso; simp at hG_; done) | skip)
                          all_goals (cases e80 <;> first | (exfalso; simp at hG_; done) | skip)
                          all_goals (repeat' (first
                              | (refine reg_skip hK ?_ rfl; (simp [wantedG, asB, undef, g1_, g2_, g3_]; done))
                              | (refine reg_val hK ?_ ?_ (grow_refl _) rfl
                                 · first | rfl | (simp [wantedG, asB, undef, g1_, g2_, g3_]; done)
                                 · skip
                                   (try (obtain ⟨y1, y2⟩ := HLE.out rfl))
                                   go_simp
                                   done)
                              | cases e87 | cases e92 | cases e100))
                        · rcases Bool.eq_false_or_eq_true (!(((e61 || e70) || e76) || e80) : Bool) with hG_ | hG_
                          rotate_left
                          · exact reg_skip hK (by rw [(wanted_f rfl g1_).trans (show _ = (!(((e61 || e70) || e76) || e80) : Bool) by first | rfl | (simp; done)), hG_]; decide) (by show undef = ite _ _ _; rw [hG_]; rfl)
                          all_goals (cases e61 <;> first | (exfalso; simp at hG_; done) | skip)
                          all_goals (cases e70 <;> first | (exfalso; simp at hG_; done) | skip)
                          all_goals (cases e76 <;> first | (exfalso; simp at hG_; done) | skip)
                          all_goals (cases e80 <;> first | (exfalso; simp at hG_; done) | skip)
                          all_goals (repeat' (first
                              | (refine reg_skip hK ?_ rfl; (simp [wantedG, asB, undef, g1_, g2_, g3_]; done))
                              | (refine reg_val hK ?_ ?_ (grow_refl _) rfl
                                 · first | rfl | (simp [wantedG, asB, undef, g1_, g2_, g3_]; done)
                                 · skip
                                   (try (obtain ⟨y1, y2⟩ := HLE.out rfl))
                                   go_simp
                                   done)
                              | cases e87 | cases e92 | cases e100))
                        · rcases Bool.eq_false_or_eq_true (!(((e61 || e70) || e76) || e80) : Bool) with hG_ | hG_
                          rotate_left
                          · exact reg_skip hK (by rw [(wanted_f rfl g1_).trans (show _ = (!(((e61 || e70) || e76) || e80) : Bool) by first | rfl | (simp; done)), hG_]; decide) (by show undef = ite _ _ _; rw [hG_]; rfl)
                          all_goals (cases e61 <;> first | (exfalso; simp at hG_; done) | skip)
                          all_goals (cases e70 <;> first | (exfalso; simp at hG_; done) | skip)
                          all_goals (cases e76 <;> first | (exfalso; simp at hG_; done) | skip)
                          all_goals (cases e80 <;> first | (exfalso; simp at hG_; done) | skip)
                          all_goals (repeat' (first
                              | (refine reg_skip hK ?_ rfl; (simp [wantedG, asB, undef, g1_, g2_, g3_]; done))
                              | (refine reg_val hK ?_ ?_ (grow_refl _) rfl
                                 · first | rfl | (simp [wantedG, asB, undef, g1_, g2_, g3_]; done)
                                 · skip
                                   (try (obtain ⟨y1, y2⟩ := HLE.out rfl))
                                   go_simp
                                   done)
                              | cases e87 | cases e92 | cases e100))
                        · rcases Bool.eq_false_or_eq_true ((!(((e61 || e70) || e76) || e80) && e87) : Bool) with hG_ | hG_
                          rotate_left
                          · exact reg_skip hK (by rw [(wanted_it rfl g1_).trans (show _ = ((!(((e61 || e70) || e76) || e80) && e87) : Bool) by first | rfl | (simp; done)), hG_]; decide) (by show undef = ite _ _ _; rw [hG_]; rfl)
                          all_goals (cases e61 <;> first | (exfalso; simp at hG_; done) | skip)
                          all_goals (cases e70 <;> first | (exfalso; simp at hG_; done) | skip)
                          all_goals (cases e76 <;> first | (exfalso; simp at hG_; done) | skip)
                          all_goals (cases e80 <;> first | (exfalso; simp at hG_; done) | skip)
                          all_goals (cases e87 <;> first | (exfalso; simp at hG_; done) | skip)
                          all_goals (repeat' (first
                              | (refine reg_skip hK ?_ rfl; (simp [wantedG, asB, undef, g1_, g2_, g3_]; done))
                              | (refine reg_val hK ?_ ?_ (grow_refl _) rfl
                                 · first | rfl | (simp [wantedG, asB, undef, g1_, g2_, g3_]; done)
                                 · skip
                                   (try (obtain ⟨y1, y2⟩ := HLE.out rfl))
                                   go_simp
                                   done)
                              | cases e92 | cases e100))
                        · rcases Bool.eq_false_or_eq_true ((!(((e61 || e70) || e76) || e80) && e87) : Bool) with hG_ | hG_
                          rotate_left
                          · exact reg_skip hK (by rw [(wanted_it rfl g1_).trans (show _ = ((!(((e61 || e70) || e76) || e80) && e87) : Bool) by first | rfl | (simp; done)), hG_]; decide) (by show undef = ite _ _ _; rw [hG_]; rfl)
                          all_goals (cases e61 <;> first | (exfalso; simp at hG_; done) | skip)
                          all_goals (cases e70 <;> first | (exfalso; simp at hG_; done) | skip)
                          all_goals (cases e76 <;> first | (exfalso; simp at hG_; done) | skip)
                          all_goals (cases e80 <;> first | (exfalso; simp at hG_; done) | skip)
                          all_goals (cases e87 <;> first | (exfalso; simp at hG_; done) | skip)
                          all_goals (repeat' (first
                              | (refine reg_skip hK ?_ rfl; (simp [wantedG, asB, undef, g1_, g2_, g3_]; done))
                              | (refine reg_val hK ?_ ?_ (grow_refl _) rfl
                                 · first | rfl | (simp [wantedG, asB, undef, g1_, g2_, g3_]; done)
                                 · skip
                                   (try (obtain ⟨y1, y2⟩ := HLE.out rfl))
                                   go_simp
                                   done)
                              | cases e92 | cases e100))
                        · rcases Bool.eq_false_or_eq_true ((!(((e61 || e70) || e76) || e80) && e87) : Bool) with hG_ | hG_
                          rotate_left
                          · exact reg_skip hK (by rw [(wanted_it rfl g1_).trans (show _ = ((!(((e61 || e70) || e76) || e80) && e87) : Bool) by first | rfl | (simp; done)), hG_]; decide) (by show undef = ite _ _ _; rw [hG_]; rfl)
                          all_goals (cases e61 <;> first | (exfalso; simp at hG_; done) | skip)
                          all_goals (cases e70 <;> first | (exfalso; simp at hG_; done) | skip)
                          all_goals (cases e76 <;> first | (exfalso; simp at hG_; done) | skip)
                          all_goals (cases e80 <;> first | (exfalso; simp at hG_; done) | skip)
                          all_goals (cases e87 <;> first | (exfalso; simp at hG_; done) | skip)
                          all_goals (repeat' (first
                              | (refine reg_skip hK ?_ rfl; (simp [wantedG, asB, undef, g1_, g2_, g3_]; done))
                              | (refine reg_val hK ?_ ?_ (grow_refl _) rfl
                                 · first | rfl | (simp [wantedG, asB, undef, g1_, g2_, g3_]; done)
                                 · skip
                                   (try (obtain ⟨y1, y2⟩ := HLE.out rfl))
                                   go_simp
                                   done)
                              | cases e92 | cases e100))
                        · rcases Bool.eq_false_or_eq_true ((!(((e61 || e70) || e76) || e80) && e87) : Bool) with hG_ | hG_
                          rotate_left
                          · exact reg_skip hK (by rw [(wanted_it rfl g1_).trans (show _ = ((!(((e61 || e70) || e76) || e80) && e87) : Bool) by first | rfl | (simp; done)), hG_]; decide) (by show undef = ite _ _ _; rw [hG_]; rfl)
                          all_goals (cases e61 <;> first | (exfalso; simp at hG_; done) | skip)
                          all_goals (cases e70 <;> first | (exfalso; simp at hG_; done) | skip)
                          all_goals (cases e76 <;> first | (exfalso; simp at hG_; done) | skip)
                          all_goals (cases e80 <;> first | (exfalso; simp at hG_; done) | skip)
                          all_goals (cases e87 <;> first | (exfalso; simp at hG_; done) | skip)
                          all_goals (repeat' (first
                              | (refine reg_skip hK ?_ rfl; (simp [wantedG, asB, undef, g1_, g2_, g3_]; done))
                              | (refine reg_val hK ?_ ?_ (grow_refl _) rfl
                                 · first | rfl | (simp [wantedG, asB, undef, g1_, g2_, g3_]; done)
                                 · skip
                                   (try (obtain ⟨y1, y2⟩ := HLE.out rfl))
                                   go_simp
                                   done)
                              | cases e92 | cases e100))
                        · rcases Bool.eq_false_or_eq_true (!(((e61 || e70) || e76) || e80) : Bool) with hG_ | hG_
                          rotate_left
                          · exact reg_skip hK (by rw [(wanted_f rfl g1_).trans (show _ = (!(((e61 || e70) || e76) || e80) : Bool) by first | rfl | (simp; done)), hG_]; decide) (by show undef = ite _ _ _; rw [hG_]; rfl)
                          all_goals (cases e61 <;> first | (exfalso; simp at hG_; done) | skip)
                          all_goals (cases e70 <;> first | (exfalso; simp at hG_; done) | skip)
                          all_goals (cases e76 <;> first | (exfalso; simp at hG_; done) | skip)
                          all_goals (cases e80 <;> first | (exfalso; simp at hG_; done) | skip)
                          all_goals (repeat' (first
                              | (refine reg_skip hK ?_ rfl; (simp [wantedG, asB, undef, g1_, g2_, g3_]; done))
                              | (refine reg_val hK ?_ ?_ (grow_refl _) rfl
                                 · first | rfl | (simp [wantedG, asB, undef, g1_, g2_, g3_]; done)
                                 · skip
                                   (try (obtain ⟨y1, y2⟩ := HLE.out rfl))
                                   go_simp
                                   done)
                              | cases e87 | cases e92 | cases e100))
                        · refine reg_pick hK rfl rfl g1_ (or_val ?_ g2_)
                          first | rfl | (simp; done)
                        · all_goals (repeat' (first
                              | (refine reg_val hK ?_ ?_ (grow_refl _) rfl
                                 · first | rfl | (simp [wantedG, asB, undef, g1_, g2_, g3_]; done)
                                 · skip
                                   (try (obtain ⟨y1, y2⟩ := HLE.out rfl))
                                   go_simp
                                   done)
                              | cases e61 | cases e70 | cases e76 | cases e80 | cases e87 | cases e92 | cases e100))
                        · rcases Bool.eq_false_or_eq_true (!((((e61 || e70) || e76) || e80) || (e87 && e92)) : Bool) with hG_ | hG_
                          rotate_left
                          · exact reg_skip hK (by rw [(wanted_f rfl g1_).trans (show _ = (!((((e61 || e70) || e76) || e80) || (e87 && e92)) : Bool) by first | rfl | (simp; done)), hG_]; decide) (by show undef = ite _ _ _; rw [hG_]; rfl)
                          all_goals (cases e61 <;> first | (exfalso; simp at hG_; done) | skip)
                          all_goals (cases e70 <;> first | (exfalso; simp at hG_; done) | skip)
                          all_goals (cases e76 <;> first | (exfalso; simp at hG_; done) | skip)
                          all_goals (cases e80 <;> first | (exfalso; simp at hG_; done) | skip)
                          all_goals (cases e87 <;> first | (exfalso; simp at hG_; done) | skip)
                          all_goals (cases e92 <;> first | (exfalso; simp at hG_; done) | skip)
                          all_goals (repeat' (first
                              | (refine reg_skip hK ?_ rfl; (simp [wantedG, asB, undef, g1_, g2_, g3_]; done))
                              | (refine reg_val hK ?_ ?_ (grow_refl _) rfl
                                 · first | rfl | (simp [wantedG, asB, undef, g1_, g2_, g3_]; done)
                                 · skip
                                   (try (obtain ⟨y1, y2⟩ := HLE.out rfl))
                                   go_simp
                                   done)
                              | cases e100))
                        · rcases Bool.eq_false_or_eq_true (!((((e61 || e70) || e76) || e80) || (e87 && e92)) : Bool) with hG_ | hG_
                          rotate_left
                          · exact reg_skip hK (by rw [(wanted_f rfl g1_).trans (show _ = (!((((e61 || e70) || e76) || e80) || (e87 && e92)) : Bool) by first | rfl | (simp; done)), hG_]; decide) (by show undef = ite _ _ _; rw [hG_]; rfl)
                          all_goals (cases e61 <;> first | (exfalso; simp at hG_; done) | skip)
                          all_goals (cases e70 <;> first | (exfalso; simp at hG_; done) | skip)
                          all_goals (cases e76 <;> first | (exfalso; simp at hG_; done) | skip)
                          all_goals (cases e80 <;> first | (exfalso; simp at hG_; done) | skip)
                          all_goals (cases e87 <;> first | (exfalso; simp at hG_; done) | skip)
                          all_goals (cases e92 <;> first | (exfalso; simp at hG_; done) | skip)
                          all_goals (repeat' (first
                              | (refine reg_skip hK ?_ rfl; (simp [wantedG, asB, undef, g1_, g2_, g3_]; done))
                              | (refine reg_val hK ?_ ?_ (grow_refl _) rfl
                                 · first | rfl | (simp [wantedG, asB, undef, g1_, g2_, g3_]; done)
                                 · skip
                                   (try (obtain ⟨y1, y2⟩ := HLE.out rfl))
                                   go_simp
                                   done)
                              | cases e100))
                        · rcases Bool.eq_false_or_eq_true (!((((e61 || e70) || e76) || e80) || (e87 && e92)) : Bool) with hG_ | hG_
                          rotate_left
                          · exact reg_skip hK (by rw [(wanted_f rfl g1_).trans (show _ = (!((((e61 || e70) || e76) || e80) || (e87 && e92)) : Bool) by first | rfl | (simp; done)), hG_]; decide) (by show undef = ite _ _ _; rw [hG_]; rfl)
                          all_goals (cases e61 <;> first | (exfalso; simp at hG_; done) | skip)
                          all_goals (cases e70 <;> first | (exfalso; simp at hG_; done) | skip)
                          all_goals (cases e76 <;> first | (exfalso; simp at hG_; done) | skip)
                          all_goals (cases e80 <;> first | (exfalso; simp at hG_; done) | skip)
                          all_goals (cases e87 <;> first | (exfalso; simp at hG_; done) | skip)
                          all_goals (cases e92 <;> first | (exfalso; simp at hG_; done) | skip)
                          all_goals (repeat' (first
                              | (refine reg_skip hK ?_ rfl; (simp [wantedG, asB, undef, g1_, g2_, g3_]; done))
                              | (refine reg_call hK ?_ rfl Try.func37 (by kernel_rfl) rfl #[.agg #[.int .i64 t261, .int .i64 t262, .int .i64 t263], .string x10_2] ?_ ((impl_CutAt.calls k2 _ _ _ _ _ _ (HCUT.out rfl)).mono ?_)
                                 · first | rfl | (simp [wantedG, asB, undef, g1_, g2_, g3_]; done)
                                 · simp [Act.eval, g1_, g2_, g3_]
                                 · rintro e_ w'' ⟨rfl, hb_⟩
                                   exact ⟨_, rfl, (by first | exact hb_ | exact hb_.below), rfl⟩)
                              | cases e100))
                        · rcases Bool.eq_false_or_eq_true (!((((e61 || e70) || e76) || e80) || (e87 && e92)) : Bool) with hG_ | hG_
                          rotate_left
                          · exact reg_skip hK (by rw [(wanted_f rfl g1_).trans (show _ = (!((((e61 || e70) || e76) || e80) || (e87 && e92)) : Bool) by first | rfl | (simp; done)), hG_]; decide) (by show undef = ite _ _ _; rw [hG_]; rfl)
                          all_goals (cases e61 <;> first | (exfalso; simp at hG_; done) | skip)
                          all_goals (cases e70 <;> first | (exfalso; simp at hG_; done) | skip)
                          all_goals (cases e76 <;> first | (exfalso; simp at hG_; done) | skip)
                          all_goals (cases e80 <;> first | (exfalso; simp at hG_; done) | skip)
                          all_goals (cases e87 <;> first | (exfalso; simp at hG_; done) | skip)
                          all_goals (cases e92 <;> first | (exfalso; simp at hG_; done) | skip)
                          all_goals (repeat' (first
                              | (refine reg_skip hK ?_ rfl; (simp [wantedG, asB, undef, g1_, g2_, g3_]; done))
                              | (refine reg_val hK ?_ ?_ (grow_refl _) rfl
                                 · first | rfl | (simp [wantedG, asB, undef, g1_, g2_, g3_]; done)
                                 · skip
                                   (try (obtain ⟨y1, y2⟩ := HLE.out rfl))
                                   go_simp
                                   done)
                              | cases e100))
                        · rcases Bool.eq_false_or_eq_true (!((((e61 || e70) || e76) || e80) || (e87 && e92)) : Bool) with hG_ | hG_
                          rotate_left
                          · exact reg_skip hK (by rw [(wanted_f rfl g1_).trans (show _ = (!((((e61 || e70) || e76) || e80) || (e87 && e92)) : Bool) by first | rfl | (simp; done)), hG_]; decide) (by show undef = ite _ _ _; rw [hG_]; rfl)
                          all_goals (cases e61 <;> first | (exfalso; simp at hG_; done) | skip)
                          all_goals (cases e70 <;> first | (exfalso; simp at hG_; done) | skip)
                          all_goals (cases e76 <;> first | (exfalso; simp at hG_; done) | skip)
                          all_goals (cases e80 <;> first | (exfalso; simp at hG_; done) | skip)
                          all_goals (cases e87 <;> first | (exfalso; simp at hG_; done) | skip)
                          all_goals (cases e92 <;> first | (exfalso; simp at hG_; done) | skip)
                          all_goals (repeat' (first
                              | (refine reg_skip hK ?_ rfl; (simp [wantedG, asB, undef, g1_, g2_, g3_]; done))
                              | (refine reg_val hK ?_ ?_ (grow_refl _) rfl
                                 · first | rfl | (simp [wantedG, asB, undef, g1_, g2_, g3_]; done)
                                 · skip
                                   (try (obtain ⟨y1, y2⟩ := HLE.out rfl))
                                   go_simp
                                   done)
                              | cases e100))
                        · refine reg_pick hK rfl rfl g1_ (or_val ?_ g2_)
                          first | rfl | (simp; done)
                      case hE16 =>
                        intro us w' hg hd
                        have hZ : us 43 = .bool ((((((e61 || e70) || e76) || e80) || (e87 && e92)) || !e100)) := allR_get hd (by kernel_rfl)
                        clear hd
                        replace HB := Aside0.mk (below_grow HB.out hg)
                        rw [hZ]
                        clear hZ
                        obtain rfl := HSX.out
                        try go_wp2
                        go_meet
                        case rel => exact ⟨_, _, rfl, HJ3, ⟨by have := HJ2.out; have := HK2.out; first | omega | exact Nat.le_refl _⟩, ⟨Kd.R_below HO_7.out hg⟩, ⟨blk_below BK265.out hg⟩, HB⟩
                    case rest =>
                      clear HC30
                      try clear p2
                      try clear q2
                      try clear hx2
                      try clear c3
                      try clear p27
                      try clear q27
                      try clear hx27
                      try clear c33
                      try clear c34
                      try clear c35
                      try clear c35b0
                      try clear c35b1
                      try clear c37
                      try clear hx274_0
                      try clear p274
                      try clear q274
                      obtain ⟨kq, x101_29, rfl, HA, HJ29, HO_7, BK265, HB⟩ := hcut
                      cases kq with
                      | zero => exact absurd HA.out (by simp [laws_FnPieces.j2])
                      | succ kj29 =>
                        have H := HA.out
                        clear HA
                        simp only [laws_FnPieces.j2] at H
                        by_cases c50 : x101_29 = true
                        · subst c50
                          have H1 : (some false) = some r := by rw [if_pos rfl] at H; exact H
                          clear H
                          have H := H1
                          clear H1
                          obtain rfl := Option.some.inj H
                          go_wp2
                          go_ret
                          exact ⟨by first | rfl | (simp [errW_none, errW_some] <;> rfl) | (simp [*, errW_none, errW_some] <;> rfl), by repeat (first | (with_reducible first | exact HB.out | apply below_alloc | apply pw_below_drewN | apply below_drew1 | refine below_set ?_ GE265.out) | exact HB.out)⟩
                        · replace c50 := Bool.eq_false_iff.mpr c50
                          subst c50
                          have H1 : (if x11_2 = t272 then ((impl_Pieces.f kj29 t261 t262 t263 x10_2).bind fun t277 => (if (t277.length : Int) = (wrap64 ((t266.length : Int) - x11_2)) then (laws_FnPieces.l1 kj29 t266 t272 x10_2 x11_2 ((rdOf ByteArray.empty t266 x11_2).size : Int) t277 0 t261 t262 t263) else (some false))) else (if 0 ≤ ((rdOf ByteArray.empty t266 x11_2).size : Int) then (if ((rdOf ByteArray.empty t266 x11_2).size : Int) ≤ (x10_2.size : Int) then (laws_FnPieces.l0 kj29 t266 t272 (x10_2.extract (((rdOf ByteArray.empty t266 x11_2).size : Int) : Int).toNat x10_2.size) (wrap64 (x11_2 + 1)) t261 t262 t263) else (none)) else (none))) = some r := by rw [if_neg (show ¬ (false = true) by decide)] at H; exact H
                          clear H
                          have H := H1
                          clear H1
                          by_cases c51 : x11_2 = t272
                          · rw [if_pos c51] at H
                            have c51b0 : (x11_2 == t272) = true := beq_iff_eq.mpr c51
                            have c51b1 : (x11_2 != t272) = false := bne_eq_false_iff_eq.mpr c51
                            clear c51
                            replace H := Option.bind_eq_some_iff.mp H
                            obtain ⟨t277, A520, H⟩ := H
                            replace H : (if (t277.length : Int) = (wrap64 ((t266.length : Int) - x11_2)) then (laws_FnPieces.l1 kj29 t266 t272 x10_2 x11_2 ((rdOf ByteArray.empty t266 x11_2).size : Int) t277 0 t261 t262 t263) else (some false)) = some r := H
                            have A52 := Aside0.mk A520
                            clear A520
                            by_cases c53 : (t277.length : Int) = (wrap64 ((t266.length : Int) - x11_2))
                            · rw [if_pos c53] at H
                              have c53b0 : ((t277.length : Int) == (wrap64 ((t266.length : Int) - x11_2))) = true := beq_iff_eq.mpr c53
                              try have c53b9 : (((t277.length : Int) == (((t266.length : Int) - x11_2)))) = true := (by have hw0 : wrap64 ((t266.length : Int) - x11_2) = (t266.length : Int) - x11_2 := (by unfold wrap64; omega); have z_ := c53b0; simp only [hw0] at z_; exact z_)
                              have c53b1 : ((t277.length : Int) != (wrap64 ((t266.length : Int) - x11_2))) = false := bne_eq_false_iff_eq.mpr c53
                              clear c53
                              have H' := Aside0.mk H
                              clear H
                              have hcz54_0 : wc.cell? ⟨gb265, 0, none⟩ = some (.int .i64 t261) := (blk_cell BK265.out 0).trans rfl
                              have hcz54_1 : wc.cell? ⟨gb265, 1, none⟩ = some (.int .i64 t262) := (blk_cell BK265.out 1).trans rfl
                              have hcz54_2 : wc.cell? ⟨gb265, 2, none⟩ = some (.int .i64 t263) := (blk_cell BK265.out 2).trans rfl
                              have hfz54_0 := blk_frozen BK265.out 0
                              have hfz54_1 := blk_frozen BK265.out 1
                              have hfz54_2 := blk_frozen BK265.out 2
                              go_wp2_with (first | ((with_reducible refine gate_callee (f := 34) rfl ?_); refine goesL_ (some 107) rfl rfl Try.func34 (by kernel_rfl) rfl #[.agg #[.int .i64 t261, .int .i64 t262, .int .i64 t263], .string x10_2] rfl (by (try simp only [List.map_toArray, List.map_cons, List.map_nil]); first | done | rfl | (simp only [List.length_drop, List.length_take]; rfl)) ?_; (with_reducible refine (impl_Pieces.calls kj29 t261 t262 t263 x10_2 t277 _ A52.out).mono ?_); rintro e w55 ⟨v278, rfl, ho0, hb⟩; refine ⟨_, rfl, ?_⟩; have n0_ := Aside0.mk (Kd.R_elder' (by (with_reducible repeat (first | apply Kd.R_alloc | apply Kd.R_drewN | apply Kd.R_drew)); exact HO_7.out) (Kd.R_base ho0) hb); have n1_ := Aside0.mk (Kd.R_lower (Kd.R_new' ho0 (Kd.R_lt (by (with_reducible repeat (first | apply Kd.R_alloc | apply Kd.R_drewN | apply Kd.R_drew)); exact HO_7.out))) (below_size (by repeat (first | (with_reducible first | exact HB.out | apply below_alloc | apply pw_below_drewN | apply below_drew1 | refine below_set ?_ GE265.out) | exact HB.out)))); have n2_ := Aside0.mk (blk_below (g := gb265) (o := .cells #[.int .i64 t261, .int .i64 t262, .int .i64 t263] 40 (0, 0)) (by (with_reducible repeat (first | refine blk_drewN ?_ _ | refine blk_drew ?_ | refine blk_alloc ?_ _)); exact BK265.out) hb); have n3_ := Aside0.mk (below_step (by repeat (first | (with_reducible first | exact HB.out | apply below_alloc | apply pw_below_drewN | apply below_drew1 | refine below_set ?_ GE265.out) | exact HB.out)) hb); clear HO_7; clear BK265; clear HB; have HO_7 := n0_; have HO279 := n1_; have BK265 := n2_; have HB := n3_; clear n0_ n1_ n2_ n3_; (try clear hb); (try clear hb2); (try clear hk); (try clear hi); (try clear ho0); obtain ⟨Ao56, co56, eo56⟩ := Kd.R_slice HO279.out; subst eo56))
                              go_loopg [14] kj29 (fun kq v14 w' => ∃ (x14_4 : Int), v14 = .int .i64 x14_4 ∧ Aside0 (laws_FnPieces.l1 kq t266 t272 x10_2 x11_2 ((rdOf ByteArray.empty t266 x11_2).size : Int) t277 x14_4 t261 t262 t263 = some r) ∧ Aside0 (kq ≤ kj29) ∧ Aside0 (Kd.R Kd.string 9 w' w.heap.size (fun k_ => some k_ ≠ ((.slice Ao56 t277.length co56) : Value).ownBlock) (.slice (some ad273) t266.length co26) t266) ∧ Aside0 (Kd.R Kd.string 9 w' w.heap.size (fun k_ => some k_ ≠ ((.slice (some ad273) t266.length co26) : Value).ownBlock) (.slice Ao56 t277.length co56) t277) ∧ Aside0 (w'.heap[gb265]? = some (.cells #[.int .i64 t261, .int .i64 t262, .int .i64 t263] 40 (0, 0))) ∧ Aside0 (Below w.heap.size w w'))
                              case atStart => exact ⟨(0), (by first | rfl | (simp; done) | (simp [*]; done)), H', ⟨Nat.le_refl _⟩, ⟨by (with_reducible repeat (first | apply Kd.R_alloc | apply Kd.R_drewN | apply Kd.R_drew)); exact Kd.R_mono HO_7.out (fun _ hk => hk.2)⟩, ⟨by (with_reducible repeat (first | apply Kd.R_alloc | apply Kd.R_drewN | apply Kd.R_drew)); exact Kd.R_mono HO279.out (fun _ hk => hk.2)⟩, ⟨by (with_reducible repeat (first | refine blk_drewN ?_ _ | refine blk_drew ?_ | refine blk_alloc ?_ _)); exact BK265.out⟩, ⟨by repeat (first | (with_reducible first | exact HB.out | apply below_alloc | apply pw_below_drewN | apply below_drew1 | refine below_set ?_ GE265.out) | exact HB.out)⟩⟩
                              case round =>
                                clear H'
                                try clear p2
                                try clear q2
                                try clear hx2
                                try clear c3
                                try clear c5
                                try clear p6
                                try clear p27
                                try clear q27
                                try clear hx27
                                try clear c33
                                try clear c34
                                try clear c35
                                try clear c35b0
                                try clear c35b1
                                try clear c37
                                try clear c50
                                try clear c51
                                try clear c51b0
                                try clear c51b1
                                try clear c53
                                try clear c53b0
                                try clear c53b1
                                try clear hcz54_0
                                try clear hcz54_1
                                try clear hcz54_2
                                try clear hfz54_0
                                try clear hfz54_1
                                try clear hfz54_2
                                try clear hx274_0
                                try clear p2
                                try clear p27
                                try clear p274
                                try clear q2
                                try clear q27
                                try clear q274
                                obtain ⟨x14_4, rfl, HA, HK4, HO_7, HO_13, BK265, HB⟩ := hrel
                                cases gk with
                                | zero => exact absurd HA.out (by simp [laws_FnPieces.l1])
                                | succ k4 =>
                                  have H := HA.out
                                  clear HA
                                  simp only [laws_FnPieces.l1] at H
                                  by_cases c57 : x14_4 < (t277.length : Int)
                                  · rw [if_pos c57] at H
                                    have c57b0 : decide (x14_4 < (t277.length : Int)) = true := decide_eq_true c57
                                    clear c57
                                    by_cases c58 : 0 ≤ x14_4
                                    · rw [if_pos c58] at H
                                      have c58b0 : decide (0 ≤ x14_4) = true := decide_eq_true c58
                                      clear c58
                                      obtain ⟨ji59, hji59⟩ : ∃ j_ : Int, (wrap64 (x11_2 + x14_4)) = j_ := ⟨_, rfl⟩
                                      replace H : (if 0 ≤ (ji59) then (if (ji59) < (t266.length : Int) then (if (rdOf ByteArray.empty t277 x14_4).toList = (rdOf ByteArray.empty t266 (ji59)).toList then (laws_FnPieces.l1 k4 t266 t272 x10_2 x11_2 ((rdOf ByteArray.empty t266 x11_2).size : Int) t277 (wrap64 (x14_4 + 1)) t261 t262 t263) else (some false)) else (none)) else (none)) = some r := by first | (rw [hji59] at H; exact H) | (simp only [hji59] at H ⊢; exact H)
                                      have hji59w : (IntKind.i64.wrap (x11_2 + x14_4)) = ji59 := (i64_w _).trans hji59
                                      by_cases c60 : 0 ≤ (ji59)
                                      · rw [if_pos c60] at H
                                        have c60b0 : decide (0 ≤ (ji59)) = true := decide_eq_true c60
                                        clear c60
                                        by_cases c61 : (ji59) < (t266.length : Int)
                                        · rw [if_pos c61] at H
                                          have c61b0 : decide ((ji59) < (t266.length : Int)) = true := decide_eq_true c61
                                          clear c61
                                          by_cases c62 : (rdOf ByteArray.empty t277 x14_4).toList = (rdOf ByteArray.empty t266 (ji59)).toList
                                          · rw [if_pos c62] at H
                                            have c62b0 : ((rdOf ByteArray.empty t277 x14_4).toList == (rdOf ByteArray.empty t266 (ji59)).toList) = true := beq_iff_eq.mpr c62
                                            have c62b1 : ((rdOf ByteArray.empty t277 x14_4).toList != (rdOf ByteArray.empty t266 (ji59)).toList) = false := bne_eq_false_iff_eq.mpr c62
                                            clear c62
                                            have H' := Aside0.mk H
                                            clear H
                                            try go_wp2
                                            have n0_ := Aside0.mk (Kd.R_drew HO_7.out)
                                            have n1_ := Aside0.mk (Kd.R_drew HO_13.out)
                                            have n2_ := Aside0.mk (blk_drew BK265.out)
                                            have n3_ := Aside0.mk (below_drew1 HB.out)
                                            clear HO_7
                                            clear HO_13
                                            clear BK265
                                            clear HB
                                            have HO_7 := n0_
                                            have HO_13 := n1_
                                            have BK265 := n2_
                                            have HB := n3_
                                            clear n0_ n1_ n2_ n3_
                                            have p280 : 0 ≤ (x14_4 : Int) := of_decide_eq_true (by first | (with_reducible assumption) | assumption)
                                            have q280 : x14_4 < (t277.length : Int) := of_decide_eq_true (by first | (with_reducible assumption) | assumption)
                                            obtain ⟨ad280, e280, hx280_0⟩ := Kd.at_string (Kd.R_reads' HO_13.out).2.2 x14_4 p280 q280
                                            cases e280
                                            replace p280 := eq_true p280
                                            replace q280 := eq_true q280
                                            have p281 : 0 ≤ ((ji59) : Int) := of_decide_eq_true (by first | (with_reducible assumption) | assumption)
                                            have q281 : (ji59) < (t266.length : Int) := of_decide_eq_true (by first | (with_reducible assumption) | assumption)
                                            obtain ⟨ad281, e281, hx281_0⟩ := Kd.at_string (Kd.R_reads' HO_7.out).2.2 (ji59) p281 q281
                                            obtain rfl : ad273 = ad281 := (by injection e281)
                                            replace p281 := eq_true p281
                                            replace q281 := eq_true q281
                                            refine start_ (n := 11) (S := fun w' => w'.cell? (ad280.add (x14_4).toNat) = some (.string (rdOf ByteArray.empty t277 x14_4)) ∧ w'.cell? (ad273.add ((ji59)).toNat) = some (.string (rdOf ByteArray.empty t266 (ji59)))) (ds := []) #[false, false, false, false, false, false, false, false, false, false, false] (by kernel_rfl) rfl rfl ⟨hx280_0, hx281_0⟩ (fun hHeld => ?_); refine with_tabW laws_FnPieces.tab25 laws_FnPieces.bits25 (fun HT_ HW_ => ?_)
                                            generalize wr.drew = w63 at HO_7 HO_13 BK265 HB hx280_0 hx281_0 hHeld ⊢
                                            refine pure_ (i := 0) (N := some 121) (v := ?_) (a' := ?_) #[true, false, false, false, false, false, false, false, false, false, false] rfl rfl (any_of HT_.out (by kernel_rfl)) (fun _ _ _ h => h) (Or.inl ⟨by rfl, ?_⟩) ?_ ?_
                                            rotate_left
                                            · intro w'
                                              go_simp
                                              with_reducible rfl
                                            rotate_left
                                            · simp only [Act.put, List.setIfInBounds_toArray, List.set_cons_zero, List.set_cons_succ, i64_w, i32_w]
                                              rfl
                                            refine pure_ (i := 1) (N := some 122) (v := ?_) (a' := ?_) #[true, true, false, false, false, false, false, false, false, false, false] rfl rfl (any_of HT_.out (by kernel_rfl)) (fun _ _ _ h => h) (Or.inl ⟨by rfl, ?_⟩) ?_ ?_
                                            rotate_left
                                            · intro w'
                                              go_simp
                                              with_reducible rfl
                                            rotate_left
                                            · simp only [Act.put, List.setIfInBounds_toArray, List.set_cons_zero, List.set_cons_succ, i64_w, i32_w]
                                              rfl
                                            refine pure_ (i := 2) (N := some 123) (v := ?_) (a' := ?_) #[true, true, true, false, false, false, false, false, false, false, false] rfl rfl (any_of HT_.out (by kernel_rfl)) (fun _ _ _ h => h) (Or.inl ⟨by rfl, ?_⟩) ?_ ?_
                                            rotate_left
                                            · intro w'
                                              go_simp
                                              with_reducible rfl
                                            rotate_left
                                            · simp only [Act.put, List.setIfInBounds_toArray, List.set_cons_zero, List.set_cons_succ, i64_w, i32_w]
                                              rfl
                                            refine pure_ (i := 4) (N := some 125) (v := ?_) (a' := ?_) #[true, true, true, false, true, false, false, false, false, false, false] rfl rfl (any_of HT_.out (by kernel_rfl)) (fun _ _ _ h => h) (Or.inl ⟨by rfl, ?_⟩) ?_ ?_
                                            rotate_left
                                            · intro w'
                                              go_simp
                                              with_reducible rfl
                                            rotate_left
                                            · simp only [Act.put, List.setIfInBounds_toArray, List.set_cons_zero, List.set_cons_succ, i64_w, i32_w]
                                              rfl
                                            refine pure_ (i := 5) (N := some 126) (v := ?_) (a' := ?_) #[true, true, true, false, true, true, false, false, false, false, false] rfl rfl (any_of HT_.out (by kernel_rfl)) (fun _ _ _ h => h) (Or.inl ⟨by rfl, ?_⟩) ?_ ?_
                                            rotate_left
                                            · intro w'
                                              go_simp
                                              with_reducible rfl
                                            rotate_left
                                            · simp only [Act.put, List.setIfInBounds_toArray, List.set_cons_zero, List.set_cons_succ, i64_w, i32_w]
                                              rfl
                                            refine pure_ (i := 6) (N := some 127) (v := ?_) (a' := ?_) #[true, true, true, false, true, true, true, false, false, false, false] rfl rfl (any_of HT_.out (by kernel_rfl)) (fun _ _ _ h => h) (Or.inl ⟨by rfl, ?_⟩) ?_ ?_
                                            rotate_left
                                            · intro w'
                                              go_simp
                                              with_reducible rfl
                                            rotate_left
                                            · simp only [Act.put, List.setIfInBounds_toArray, List.set_cons_zero, List.set_cons_succ, i64_w, i32_w]
                                              rfl
                                            refine pure_ (i := 7) (N := some 128) (v := ?_) (a' := ?_) #[true, true, true, false, true, true, true, true, false, false, false] rfl rfl (any_of HT_.out (by kernel_rfl)) (fun _ _ _ h => h) (Or.inl ⟨by rfl, ?_⟩) ?_ ?_
                                            rotate_left
                                            · intro w'
                                              go_simp
                                              with_reducible rfl
                                            rotate_left
                                            · simp only [Act.put, List.setIfInBounds_toArray, List.set_cons_zero, List.set_cons_succ, i64_w, i32_w]
                                              rfl
                                            refine pure_ (i := 8) (N := some 129) (v := ?_) (a' := ?_) #[true, true, true, false, true, true, true, true, true, false, false] rfl rfl (any_of HT_.out (by kernel_rfl)) (fun _ _ _ h => h) (Or.inl ⟨by rfl, ?_⟩) ?_ ?_
                                            rotate_left
                                            · intro w'
                                              go_simp
                                              with_reducible rfl
                                            rotate_left
                                            · simp only [Act.put, List.setIfInBounds_toArray, List.set_cons_zero, List.set_cons_succ, i64_w, i32_w]
                                              rfl
                                            refine take_ (i := 3) (N := some 124) (v := ?_) (a' := ?_) #[true, true, true, true, true, true, true, true, true, false, false] rfl rfl (take_ofW HT_.out HW_.out (by kernel_rfl)) (fun _ _ _ h => h) (Or.inl ⟨by rfl, ?_⟩) hHeld ?_ ?_
                                            rotate_left
                                            · rintro w' ⟨s0, s1⟩
                                              go_simp
                                              with_reducible rfl
                                            rotate_left
                                            · simp only [Act.put, List.setIfInBounds_toArray, List.set_cons_zero, List.set_cons_succ, i64_w, i32_w]
                                              rfl
                                            refine take_ (i := 9) (N := some 130) (v := ?_) (a' := ?_) #[true, true, true, true, true, true, true, true, true, true, false] rfl rfl (take_ofW HT_.out HW_.out (by kernel_rfl)) (fun _ _ _ h => h) (Or.inl ⟨by rfl, ?_⟩) hHeld ?_ ?_
                                            rotate_left
                                            · rintro w' ⟨s0, s1⟩
                                              go_simp
                                              with_reducible rfl
                                            rotate_left
                                            · simp only [Act.put, List.setIfInBounds_toArray, List.set_cons_zero, List.set_cons_succ, i64_w, i32_w]
                                              rfl
                                            refine pure_ (i := 10) (N := some 131) (v := ?_) (a' := ?_) #[true, true, true, true, true, true, true, true, true, true, true] rfl rfl (any_of HT_.out (by kernel_rfl)) (fun _ _ _ h => h) (Or.inl ⟨by rfl, ?_⟩) ?_ ?_
                                            rotate_left
                                            · intro w'
                                              go_simp
                                              with_reducible rfl
                                            rotate_left
                                            · simp only [Act.put, List.setIfInBounds_toArray, List.set_cons_zero, List.set_cons_succ, i64_w, i32_w]
                                              rfl
                                            refine done_ (done_of HT_.out (by kernel_rfl)) ?_
                                            try go_wp2
                                            go_roundg k4
                                            case measure => have := HJ2.out; have := HK2.out; have := HJ29.out; have := HK4.out; omega
                                            case rel => exact ⟨(wrap64 (x14_4 + 1)), (by first | rfl | (simp; done) | (simp [*]; done)), H', ⟨by have := HJ2.out; have := HK2.out; have := HJ29.out; have := HK4.out; omega⟩, ⟨by (with_reducible repeat (first | apply Kd.R_alloc | apply Kd.R_drewN | apply Kd.R_drew)); exact HO_7.out⟩, ⟨by (with_reducible repeat (first | apply Kd.R_alloc | apply Kd.R_drewN | apply Kd.R_drew)); exact HO_13.out⟩, ⟨by (with_reducible repeat (first | refine blk_drewN ?_ _ | refine blk_drew ?_ | refine blk_alloc ?_ _)); exact BK265.out⟩, ⟨by repeat (first | (with_reducible first | exact HB.out | apply below_alloc | apply pw_below_drewN | apply below_drew1 | refine below_set ?_ GE265.out) | exact HB.out)⟩⟩
                                          · rw [if_neg c62] at H
                                            have c62b0 : ((rdOf ByteArray.empty t277 x14_4).toList == (rdOf ByteArray.empty t266 (ji59)).toList) = false := beq_eq_false_iff_ne.mpr c62
                                            have c62b1 : ((rdOf ByteArray.empty t277 x14_4).toList != (rdOf ByteArray.empty t266 (ji59)).toList) = true := bne_iff_ne.mpr c62
                                            obtain rfl := Option.some.inj H
                                            try go_wp2
                                            have n0_ := Aside0.mk (Kd.R_drew HO_7.out)
                                            have n1_ := Aside0.mk (Kd.R_drew HO_13.out)
                                            have n2_ := Aside0.mk (blk_drew BK265.out)
                                            have n3_ := Aside0.mk (below_drew1 HB.out)
                                            clear HO_7
                                            clear HO_13
                                            clear BK265
                                            clear HB
                                            have HO_7 := n0_
                                            have HO_13 := n1_
                                            have BK265 := n2_
                                            have HB := n3_
                                            clear n0_ n1_ n2_ n3_
                                            have p280 : 0 ≤ (x14_4 : Int) := of_decide_eq_true (by first | (with_reducible assumption) | assumption)
                                            have q280 : x14_4 < (t277.length : Int) := of_decide_eq_true (by first | (with_reducible assumption) | assumption)
                                            obtain ⟨ad280, e280, hx280_0⟩ := Kd.at_string (Kd.R_reads' HO_13.out).2.2 x14_4 p280 q280
                                            cases e280
                                            replace p280 := eq_true p280
                                            replace q280 := eq_true q280
                                            have p281 : 0 ≤ ((ji59) : Int) := of_decide_eq_true (by first | (with_reducible assumption) | assumption)
                                            have q281 : (ji59) < (t266.length : Int) := of_decide_eq_true (by first | (with_reducible assumption) | assumption)
                                            obtain ⟨ad281, e281, hx281_0⟩ := Kd.at_string (Kd.R_reads' HO_7.out).2.2 (ji59) p281 q281
                                            obtain rfl : ad273 = ad281 := (by injection e281)
                                            replace p281 := eq_true p281
                                            replace q281 := eq_true q281
                                            refine start_ (n := 11) (S := fun w' => w'.cell? (ad280.add (x14_4).toNat) = some (.string (rdOf ByteArray.empty t277 x14_4)) ∧ w'.cell? (ad273.add ((ji59)).toNat) = some (.string (rdOf ByteArray.empty t266 (ji59)))) (ds := []) #[false, false, false, false, false, false, false, false, false, false, false] (by kernel_rfl) rfl rfl ⟨hx280_0, hx281_0⟩ (fun hHeld => ?_); refine with_tabW laws_FnPieces.tab25 laws_FnPieces.bits25 (fun HT_ HW_ => ?_)
                                            generalize wr.drew = w64 at HO_7 HO_13 BK265 HB hx280_0 hx281_0 hHeld ⊢
                                            refine pure_ (i := 0) (N := some 121) (v := ?_) (a' := ?_) #[true, false, false, false, false, false, false, false, false, false, false] rfl rfl (any_of HT_.out (by kernel_rfl)) (fun _ _ _ h => h) (Or.inl ⟨by rfl, ?_⟩) ?_ ?_
                                            rotate_left
                                            · intro w'
                                              go_simp
                                              with_reducible rfl
                                            rotate_left
                                            · simp only [Act.put, List.setIfInBounds_toArray, List.set_cons_zero, List.set_cons_succ, i64_w, i32_w]
                                              rfl
                                            refine pure_ (i := 1) (N := some 122) (v := ?_) (a' := ?_) #[true, true, false, false, false, false, false, false, false, false, false] rfl rfl (any_of HT_.out (by kernel_rfl)) (fun _ _ _ h => h) (Or.inl ⟨by rfl, ?_⟩) ?_ ?_
                                            rotate_left
                                            · intro w'
                                              go_simp
                                              with_reducible rfl
                                            rotate_left
                                            · simp only [Act.put, List.setIfInBounds_toArray, List.set_cons_zero, List.set_cons_succ, i64_w, i32_w]
                                              rfl
                                            refine pure_ (i := 2) (N := some 123) (v := ?_) (a' := ?_) #[true, true, true, false, false, false, false, false, false, false, false] rfl rfl (any_of HT_.out (by kernel_rfl)) (fun _ _ _ h => h) (Or.inl ⟨by rfl, ?_⟩) ?_ ?_
                                            rotate_left
                                            · intro w'
                                              go_simp
                                              with_reducible rfl
                                            rotate_left
                                            · simp only [Act.put, List.setIfInBounds_toArray, List.set_cons_zero, List.set_cons_succ, i64_w, i32_w]
                                              rfl
                                            refine pure_ (i := 4) (N := some 125) (v := ?_) (a' := ?_) #[true, true, true, false, true, false, false, false, false, false, false] rfl rfl (any_of HT_.out (by kernel_rfl)) (fun _ _ _ h => h) (Or.inl ⟨by rfl, ?_⟩) ?_ ?_
                                            rotate_left
                                            · intro w'
                                              go_simp
                                              with_reducible rfl
                                            rotate_left
                                            · simp only [Act.put, List.setIfInBounds_toArray, List.set_cons_zero, List.set_cons_succ, i64_w, i32_w]
                                              rfl
                                            refine pure_ (i := 5) (N := some 126) (v := ?_) (a' := ?_) #[true, true, true, false, true, true, false, false, false, false, false] rfl rfl (any_of HT_.out (by kernel_rfl)) (fun _ _ _ h => h) (Or.inl ⟨by rfl, ?_⟩) ?_ ?_
                                            rotate_left
                                            · intro w'
                                              go_simp
                                              with_reducible rfl
                                            rotate_left
                                            · simp only [Act.put, List.setIfInBounds_toArray, List.set_cons_zero, List.set_cons_succ, i64_w, i32_w]
                                              rfl
                                            refine pure_ (i := 6) (N := some 127) (v := ?_) (a' := ?_) #[true, true, true, false, true, true, true, false, false, false, false] rfl rfl (any_of HT_.out (by kernel_rfl)) (fun _ _ _ h => h) (Or.inl ⟨by rfl, ?_⟩) ?_ ?_
                                            rotate_left
                                            · intro w'
                                              go_simp
                                              with_reducible rfl
                                            rotate_left
                                            · simp only [Act.put, List.setIfInBounds_toArray, List.set_cons_zero, List.set_cons_succ, i64_w, i32_w]
                                              rfl
                                            refine pure_ (i := 7) (N := some 128) (v := ?_) (a' := ?_) #[true, true, true, false, true, true, true, true, false, false, false] rfl rfl (any_of HT_.out (by kernel_rfl)) (fun _ _ _ h => h) (Or.inl ⟨by rfl, ?_⟩) ?_ ?_
                                            rotate_left
                                            · intro w'
                                              go_simp
                                              with_reducible rfl
                                            rotate_left
                                            · simp only [Act.put, List.setIfInBounds_toArray, List.set_cons_zero, List.set_cons_succ, i64_w, i32_w]
                                              rfl
                                            refine pure_ (i := 8) (N := some 129) (v := ?_) (a' := ?_) #[true, true, true, false, true, true, true, true, true, false, false] rfl rfl (any_of HT_.out (by kernel_rfl)) (fun _ _ _ h => h) (Or.inl ⟨by rfl, ?_⟩) ?_ ?_
                                            rotate_left
                                            · intro w'
                                              go_simp
                                              with_reducible rfl
                                            rotate_left
                                            · simp only [Act.put, List.setIfInBounds_toArray, List.set_cons_zero, List.set_cons_succ, i64_w, i32_w]
                                              rfl
                                            refine take_ (i := 3) (N := some 124) (v := ?_) (a' := ?_) #[true, true, true, true, true, true, true, true, true, false, false] rfl rfl (take_ofW HT_.out HW_.out (by kernel_rfl)) (fun _ _ _ h => h) (Or.inl ⟨by rfl, ?_⟩) hHeld ?_ ?_
                                            rotate_left
                                            · rintro w' ⟨s0, s1⟩
                                              go_simp
                                              with_reducible rfl
                                            rotate_left
                                            · simp only [Act.put, List.setIfInBounds_toArray, List.set_cons_zero, List.set_cons_succ, i64_w, i32_w]
                                              rfl
                                            refine take_ (i := 9) (N := some 130) (v := ?_) (a' := ?_) #[true, true, true, true, true, true, true, true, true, true, false] rfl rfl (take_ofW HT_.out HW_.out (by kernel_rfl)) (fun _ _ _ h => h) (Or.inl ⟨by rfl, ?_⟩) hHeld ?_ ?_
                                            rotate_left
                                            · rintro w' ⟨s0, s1⟩
                                              go_simp
                                              with_reducible rfl
                                            rotate_left
                                            · simp only [Act.put, List.setIfInBounds_toArray, List.set_cons_zero, List.set_cons_succ, i64_w, i32_w]
                                              rfl
                                            refine pure_ (i := 10) (N := some 131) (v := ?_) (a' := ?_) #[true, true, true, true, true, true, true, true, true, true, true] rfl rfl (any_of HT_.out (by kernel_rfl)) (fun _ _ _ h => h) (Or.inl ⟨by rfl, ?_⟩) ?_ ?_
                                            rotate_left
                                            · intro w'
                                              go_simp
                                              with_reducible rfl
                                            rotate_left
                                            · simp only [Act.put, List.setIfInBounds_toArray, List.set_cons_zero, List.set_cons_succ, i64_w, i32_w]
                                              rfl
                                            refine done_ (done_of HT_.out (by kernel_rfl)) ?_
                                            try go_wp2
                                            go_ret
                                            exact ⟨by first | rfl | (simp [errW_none, errW_some] <;> rfl) | (simp only [← hji59]; first | rfl | (simp [errW_none, errW_some] <;> rfl)) | (simp [*, errW_none, errW_some] <;> rfl), by repeat (first | (with_reducible first | exact HB.out | apply below_alloc | apply pw_below_drewN | apply below_drew1 | refine below_set ?_ GE265.out) | exact HB.out)⟩
                                        · rw [if_neg c61] at H
                                          exact absurd H (by simp)
                                      · rw [if_neg c60] at H
                                        exact absurd H (by simp)
                                    · rw [if_neg c58] at H
                                      exact absurd H (by simp)
                                  · rw [if_neg c57] at H
                                    have c57b0 : decide (x14_4 < (t277.length : Int)) = false := decide_eq_false c57
                                    clear c57
                                    by_cases c65 : 0 ≤ ((rdOf ByteArray.empty t266 x11_2).size : Int)
                                    · rw [if_pos c65] at H
                                      have c65b0 := eq_true c65
                                      have c65b1 : decide (0 ≤ ((rdOf ByteArray.empty t266 x11_2).size : Int)) = true := decide_eq_true c65
                                      clear c65
                                      by_cases c66 : ((rdOf ByteArray.empty t266 x11_2).size : Int) ≤ (x10_2.size : Int)
                                      · rw [if_pos c66] at H
                                        have c66b0 := eq_true c66
                                        have c66b1 : decide (((rdOf ByteArray.empty t266 x11_2).size : Int) ≤ (x10_2.size : Int)) = true := decide_eq_true c66
                                        clear c66
                                        have H' := Aside0.mk H
                                        clear H
                                        go_wp2
                                        go_roundg k4
                                        case measure => have := HJ2.out; have := HK2.out; have := HJ29.out; have := HK4.out; omega
                                        case rel => exact ⟨(x10_2.extract (((rdOf ByteArray.empty t266 x11_2).size : Int) : Int).toNat x10_2.size), (wrap64 (x11_2 + 1)), (by first | rfl | (simp; done) | (simp [*]; done)), (by first | rfl | (simp; done) | (simp [*]; done)), H', ⟨by have := HJ2.out; have := HK2.out; have := HJ29.out; have := HK4.out; omega⟩, ⟨by (with_reducible repeat (first | apply Kd.R_alloc | apply Kd.R_drewN | apply Kd.R_drew)); exact Kd.R_mono HO_7.out (fun _ hk => trivial)⟩, ⟨by (with_reducible repeat (first | refine blk_drewN ?_ _ | refine blk_drew ?_ | refine blk_alloc ?_ _)); exact BK265.out⟩, ⟨by repeat (first | (with_reducible first | exact HB.out | apply below_alloc | apply pw_below_drewN | apply below_drew1 | refine below_set ?_ GE265.out) | exact HB.out)⟩⟩
                                      · rw [if_neg c66] at H
                                        exact absurd H (by simp)
                                    · rw [if_neg c65] at H
                                      exact absurd H (by simp)
                            · rw [if_neg c53] at H
                              have c53b0 : ((t277.length : Int) == (wrap64 ((t266.length : Int) - x11_2))) = false := beq_eq_false_iff_ne.mpr c53
                              try have c53b9 : (((t277.length : Int) == (((t266.length : Int) - x11_2)))) = false := (by have hw0 : wrap64 ((t266.length : Int) - x11_2) = (t266.length : Int) - x11_2 := (by unfold wrap64; omega); have z_ := c53b0; simp only [hw0] at z_; exact z_)
                              have c53b1 : ((t277.length : Int) != (wrap64 ((t266.length : Int) - x11_2))) = true := bne_iff_ne.mpr c53
                              obtain rfl := Option.some.inj H
                              have hcz67_0 : wc.cell? ⟨gb265, 0, none⟩ = some (.int .i64 t261) := (blk_cell BK265.out 0).trans rfl
                              have hcz67_1 : wc.cell? ⟨gb265, 1, none⟩ = some (.int .i64 t262) := (blk_cell BK265.out 1).trans rfl
                              have hcz67_2 : wc.cell? ⟨gb265, 2, none⟩ = some (.int .i64 t263) := (blk_cell BK265.out 2).trans rfl
                              have hfz67_0 := blk_frozen BK265.out 0
                              have hfz67_1 := blk_frozen BK265.out 1
                              have hfz67_2 := blk_frozen BK265.out 2
                              go_wp2_with (first | ((with_reducible refine gate_callee (f := 34) rfl ?_); refine goesL_ (some 107) rfl rfl Try.func34 (by kernel_rfl) rfl #[.agg #[.int .i64 t261, .int .i64 t262, .int .i64 t263], .string x10_2] rfl (by (try simp only [List.map_toArray, List.map_cons, List.map_nil]); first | done | rfl | (simp only [List.length_drop, List.length_take]; rfl)) ?_; (with_reducible refine (impl_Pieces.calls kj29 t261 t262 t263 x10_2 t277 _ A52.out).mono ?_); rintro e w68 ⟨v278, rfl, ho0, hb⟩; refine ⟨_, rfl, ?_⟩; have n0_ := Aside0.mk (Kd.R_elder' (by (with_reducible repeat (first | apply Kd.R_alloc | apply Kd.R_drewN | apply Kd.R_drew)); exact HO_7.out) (Kd.R_base ho0) hb); have n1_ := Aside0.mk (Kd.R_lower (Kd.R_new' ho0 (Kd.R_lt (by (with_reducible repeat (first | apply Kd.R_alloc | apply Kd.R_drewN | apply Kd.R_drew)); exact HO_7.out))) (below_size (by repeat (first | (with_reducible first | exact HB.out | apply below_alloc | apply pw_below_drewN | apply below_drew1 | refine below_set ?_ GE265.out) | exact HB.out)))); have n2_ := Aside0.mk (blk_below (g := gb265) (o := .cells #[.int .i64 t261, .int .i64 t262, .int .i64 t263] 40 (0, 0)) (by (with_reducible repeat (first | refine blk_drewN ?_ _ | refine blk_drew ?_ | refine blk_alloc ?_ _)); exact BK265.out) hb); have n3_ := Aside0.mk (below_step (by repeat (first | (with_reducible first | exact HB.out | apply below_alloc | apply pw_below_drewN | apply below_drew1 | refine below_set ?_ GE265.out) | exact HB.out)) hb); clear HO_7; clear BK265; clear HB; have HO_7 := n0_; have HO279 := n1_; have BK265 := n2_; have HB := n3_; clear n0_ n1_ n2_ n3_; (try clear hb); (try clear hb2); (try clear hk); (try clear hi); (try clear ho0); obtain ⟨Ao69, co69, eo69⟩ := Kd.R_slice HO279.out; subst eo69))
                              go_ret
                              exact ⟨by first | rfl | (simp [errW_none, errW_some] <;> rfl) | (simp [*, errW_none, errW_some] <;> rfl), by repeat (first | (with_reducible first | exact HB.out | apply below_alloc | apply pw_below_drewN | apply below_drew1 | refine below_set ?_ GE265.out) | exact HB.out)⟩
                          · rw [if_neg c51] at H
                            have c51b0 : (x11_2 == t272) = false := beq_eq_false_iff_ne.mpr c51
                            have c51b1 : (x11_2 != t272) = true := bne_iff_ne.mpr c51
                            by_cases c70 : 0 ≤ ((rdOf ByteArray.empty t266 x11_2).size : Int)
                            · rw [if_pos c70] at H
                              have c70b0 := eq_true c70
                              have c70b1 : decide (0 ≤ ((rdOf ByteArray.empty t266 x11_2).size : Int)) = true := decide_eq_true c70
                              clear c70
                              by_cases c71 : ((rdOf ByteArray.empty t266 x11_2).size : Int) ≤ (x10_2.size : Int)
                              · rw [if_pos c71] at H
                                have c71b0 := eq_true c71
                                have c71b1 : decide (((rdOf ByteArray.empty t266 x11_2).size : Int) ≤ (x10_2.size : Int)) = true := decide_eq_true c71
                                clear c71
                                have H' := Aside0.mk H
                                clear H
                                go_wp2
                                go_roundg kj29
                                case measure => have := HJ2.out; have := HK2.out; have := HJ29.out; omega
                                case rel => exact ⟨(x10_2.extract (((rdOf ByteArray.empty t266 x11_2).size : Int) : Int).toNat x10_2.size), (wrap64 (x11_2 + 1)), (by first | rfl | (simp; done) | (simp [*]; done)), (by first | rfl | (simp; done) | (simp [*]; done)), H', ⟨by have := HJ2.out; have := HK2.out; have := HJ29.out; omega⟩, ⟨by (with_reducible repeat (first | apply Kd.R_alloc | apply Kd.R_drewN | apply Kd.R_drew)); exact HO_7.out⟩, ⟨by (with_reducible repeat (first | refine blk_drewN ?_ _ | refine blk_drew ?_ | refine blk_alloc ?_ _)); exact BK265.out⟩, ⟨by repeat (first | (with_reducible first | exact HB.out | apply below_alloc | apply pw_below_drewN | apply below_drew1 | refine below_set ?_ GE265.out) | exact HB.out)⟩⟩
                              · rw [if_neg c71] at H
                                exact absurd H (by simp)
                            · rw [if_neg c70] at H
                              exact absurd H (by simp)
                  · rw [if_neg c29] at H
                    exact absurd H (by simp)
                · rw [if_neg c28] at H
                  have c28b0 : decide (x11_2 < (t266.length : Int)) = false := decide_eq_false c28
                  clear c28
                  obtain rfl := Option.some.inj H
                  go_wp2
                  go_ret
                  exact ⟨by first | rfl | (simp [errW_none, errW_some] <;> rfl) | (simp [*, errW_none, errW_some] <;> rfl), by repeat (first | (with_reducible first | exact HB.out | apply below_alloc | apply pw_below_drewN | apply below_drew1 | refine below_set ?_ GE265.out) | exact HB.out)⟩
        · rw [if_neg c9] at H
          have c9b0 : ((t266.length : Int) == (t269.length : Int)) = false := beq_eq_false_iff_ne.mpr c9
          have c9b1 : ((t266.length : Int) != (t269.length : Int)) = true := bne_iff_ne.mpr c9
          have c9b2 : (t266.length == t269.length) = false := by first | simpa using c9 | (simp at c9 ⊢; omega)
          obtain rfl := Option.some.inj H
          go_wp2_with (first | ((with_reducible refine gate_callee (f := 33) rfl ?_); refine goesL_ (some 25) rfl rfl Try.func33 (by kernel_rfl) rfl #[.slice A0 l0.length c0] rfl (by (try simp only [List.map_toArray, List.map_cons, List.map_nil]); first | done | rfl | (simp only [List.length_drop, List.length_take]; rfl)) ?_; (with_reducible refine (spec_DrawPieces.calls kj2 _ _ l0 t261 t262 t263 t264 _ ?side1 ?side2 A6.out).mono ?_); (case side1 => repeat (first | exact (Kd.C_below HR0.out HB.out) | (with_reducible refine Kd.C_alloc ?_ _) | (with_reducible refine Kd.C_drewN ?_ _) | (with_reducible refine Kd.C_drew ?_))); (case side2 => exact HC0.out); rintro e w72 ⟨rfl, hb⟩; refine ⟨_, rfl, ?_⟩; have n0_ := Aside0.mk (below_step (by repeat (first | (with_reducible first | exact HB.out | apply below_alloc | apply pw_below_drewN | apply below_drew1) | exact HB.out)) hb); clear HB; have HB := n0_; clear n0_; (try clear hb); (try clear hb2); (try clear hk); (try clear hi)) | ((with_reducible refine gate_dst (N := 5) rfl ?_); (try (refine gate_guard (by rfl) ?_; dsimp only)); refine box_event ?hg (N := 5) ?hd (cs := #[.int .i64 0, .int .i64 0, .int .i64 0]) (t := 40) ?hr ?_; (case hd => rfl); (case hg => rfl); (case hr => first | (go_simp; done) | (go_simp; rfl)); intro gb265 hg w73 hbox hb; have n0_ := Aside0.mk (below_step (by repeat (first | (with_reducible first | exact HB.out | apply below_alloc | apply pw_below_drewN | apply below_drew1) | exact HB.out)) hb); have n1_ := Aside0.mk (hbox); have n2_ := Aside0.mk ((by rw [hg]; exact (below_size (by repeat (first | (with_reducible first | exact HB.out | apply below_alloc | apply pw_below_drewN | apply below_drew1) | exact HB.out))) : w.heap.size ≤ gb265)); have n3_ := Aside0.mk ((by rw [hg]; exact (below_size (by repeat (first | (with_reducible first | exact HB.out | apply below_alloc | apply pw_below_drewN | apply below_drew1) | exact HB.out))) : w.heap.size ≤ gb265)); clear HB; have HB := n0_; have BK265 := n1_; have GW265 := n2_; have GE265 := n3_; clear n0_ n1_ n2_ n3_; clear hb hbox hg; have hcz74_0 : w73.cell? ⟨gb265, 0, none⟩ = some (.int .i64 0) := (blk_cell BK265.out 0).trans rfl; have hcz74_1 : w73.cell? ⟨gb265, 1, none⟩ = some (.int .i64 0) := (blk_cell BK265.out 1).trans rfl; have hcz74_2 : w73.cell? ⟨gb265, 2, none⟩ = some (.int .i64 0) := (blk_cell BK265.out 2).trans rfl; have hfz74_0 := blk_frozen BK265.out 0; have hfz74_1 := blk_frozen BK265.out 1; have hfz74_2 := blk_frozen BK265.out 2) | ((with_reducible refine gate_callee (f := 34) rfl ?_); refine goesL_ (some 30) rfl rfl Try.func34 (by kernel_rfl) rfl #[.agg #[.int .i64 t261, .int .i64 t262, .int .i64 t263], .string t264] rfl (by (try simp only [List.map_toArray, List.map_cons, List.map_nil]); first | done | rfl | (simp only [List.length_drop, List.length_take]; rfl)) ?_; (with_reducible refine (impl_Pieces.calls kj2 t261 t262 t263 t264 t266 _ A7.out).mono ?_); rintro e w75 ⟨v267, rfl, ho0, hb⟩; refine ⟨_, rfl, ?_⟩; have n0_ := Aside0.mk (Kd.R_lower ho0 (below_size (by repeat (first | (with_reducible first | exact HB.out | apply below_alloc | apply pw_below_drewN | apply below_drew1 | refine below_set ?_ GE265.out) | exact HB.out)))); have n1_ := Aside0.mk (blk_below (g := gb265) (o := .cells #[.int .i64 t261, .int .i64 t262, .int .i64 t263] 40 (0, 0)) (by (with_reducible repeat (first | refine blk_drewN ?_ _ | refine blk_drew ?_ | refine blk_alloc ?_ _)); refine blk_put (cs := #[.int .i64 t261, .int .i64 t262, .int .i64 0]) ?_ 2 _ rfl; (with_reducible repeat (first | refine blk_drewN ?_ _ | refine blk_drew ?_ | refine blk_alloc ?_ _)); refine blk_put (cs := #[.int .i64 t261, .int .i64 0, .int .i64 0]) ?_ 1 _ rfl; (with_reducible repeat (first | refine blk_drewN ?_ _ | refine blk_drew ?_ | refine blk_alloc ?_ _)); refine blk_put (cs := #[.int .i64 0, .int .i64 0, .int .i64 0]) ?_ 0 _ rfl; (with_reducible repeat (first | refine blk_drewN ?_ _ | refine blk_drew ?_ | refine blk_alloc ?_ _)); exact BK265.out) hb); have n2_ := Aside0.mk (below_step (by repeat (first | (with_reducible first | exact HB.out | apply below_alloc | apply pw_below_drewN | apply below_drew1 | refine below_set ?_ GE265.out) | exact HB.out)) hb); clear BK265; clear HB; have HO268 := n0_; have BK265 := n1_; have HB := n2_; clear n0_ n1_ n2_; (try clear hb); (try clear hb2); (try clear hk); (try clear hi); (try clear ho0); have hcz76_0 : w75.cell? ⟨gb265, 0, none⟩ = some (.int .i64 t261) := (blk_cell BK265.out 0).trans rfl; have hcz76_1 : w75.cell? ⟨gb265, 1, none⟩ = some (.int .i64 t262) := (blk_cell BK265.out 1).trans rfl; have hcz76_2 : w75.cell? ⟨gb265, 2, none⟩ = some (.int .i64 t263) := (blk_cell BK265.out 2).trans rfl; have hfz76_0 := blk_frozen BK265.out 0; have hfz76_1 := blk_frozen BK265.out 1; have hfz76_2 := blk_frozen BK265.out 2) | ((with_reducible refine gate_callee (f := 35) rfl ?_); refine goesL_ (some 33) rfl rfl Try.func35 (by kernel_rfl) rfl #[.agg #[.int .i64 t261, .int .i64 t262, .int .i64 t263], .string t264] rfl (by (try simp only [List.map_toArray, List.map_cons, List.map_nil]); first | done | rfl | (simp only [List.length_drop, List.length_take]; rfl)) ?_; (with_reducible refine (spec_Pieces.calls kj2 t261 t262 t263 t264 t269 _ A8.out).mono ?_); rintro e w77 ⟨v270, rfl, ho0, hb⟩; refine ⟨_, rfl, ?_⟩; have n0_ := Aside0.mk (Kd.R_elder' (by (with_reducible repeat (first | apply Kd.R_alloc | apply Kd.R_drewN | apply Kd.R_drew)); exact HO268.out) (Kd.R_base ho0) hb); have n1_ := Aside0.mk (Kd.R_lower (Kd.R_new' ho0 (Kd.R_lt (by (with_reducible repeat (first | apply Kd.R_alloc | apply Kd.R_drewN | apply Kd.R_drew)); exact HO268.out))) (below_size (by repeat (first | (with_reducible first | exact HB.out | apply below_alloc | apply pw_below_drewN | apply below_drew1 | refine below_set ?_ GE265.out) | exact HB.out)))); have n2_ := Aside0.mk (blk_below (g := gb265) (o := .cells #[.int .i64 t261, .int .i64 t262, .int .i64 t263] 40 (0, 0)) (by (with_reducible repeat (first | refine blk_drewN ?_ _ | refine blk_drew ?_ | refine blk_alloc ?_ _)); exact BK265.out) hb); have n3_ := Aside0.mk (below_step (by repeat (first | (with_reducible first | exact HB.out | apply below_alloc | apply pw_below_drewN | apply below_drew1 | refine below_set ?_ GE265.out) | exact HB.out)) hb); clear HO268; clear BK265; clear HB; have HO268 := n0_; have HO271 := n1_; have BK265 := n2_; have HB := n3_; clear n0_ n1_ n2_ n3_; (try clear hb); (try clear hb2); (try clear hk); (try clear hi); (try clear ho0); obtain ⟨Ao78, co78, eo78⟩ := Kd.R_slice HO268.out; subst eo78; obtain ⟨Ao79, co79, eo79⟩ := Kd.R_slice HO271.out; subst eo79))
          go_ret
          exact ⟨by first | rfl | (simp [errW_none, errW_some] <;> rfl) | (simp [*, errW_none, errW_some] <;> rfl), by repeat (first | (with_reducible first | exact HB.out | apply below_alloc | apply pw_below_drewN | apply below_drew1 | refine below_set ?_ GE265.out) | exact HB.out)⟩

/-- THE ONE PURE STATEMENT of laws_FnPieces: yours. -/
def laws_FnPieces.Pure : Prop := ∀ (l0 : List Int) (l1 : List Int), l0.length ≤ maxLen → l0.length * 1 ≤ 140737488351232 → (∀ x ∈ l0, (Lit.int .u8 x).wf = true) → l1.length ≤ maxLen → l1.length * 1 ≤ 140737488351232 → (∀ x ∈ l1, (Lit.int .u8 x).wf = true) → ∃ k, laws_FnPieces.f k l0 l1 = some true
theorem laws_FnPieces.walk (P : laws_FnPieces.Pure) (a0 : Option Addr) (len0 cap0 : Nat) (z0 : List Int) (a1 : Option Addr) (len1 cap1 : Nat) (z1 : List Int) (w : World) (w0 : (a0 = none ∧ len0 = 0 ∧ cap0 = 0 ∧ z0 = []) ∨ ∃ x, a0 = some x ∧ len0 ≤ cap0 ∧ cap0 ≤ maxLen ∧ z0.length = cap0 ∧ (∀ i, i < z0.length → w.cell? (x.add i) = some (.int .u8 (z0.getD i 0))) ∧ ∀ n ∈ z0, (Lit.int .u8 n).wf = true) (y0 : len0 * 1 ≤ 140737488351232) (w1 : (a1 = none ∧ len1 = 0 ∧ cap1 = 0 ∧ z1 = []) ∨ ∃ x, a1 = some x ∧ len1 ≤ cap1 ∧ cap1 ≤ maxLen ∧ z1.length = cap1 ∧ (∀ i, i < z1.length → w.cell? (x.add i) = some (.int .u8 (z1.getD i 0))) ∧ ∀ n ∈ z1, (Lit.int .u8 n).wf = true) (y1 : len1 * 1 ≤ 140737488351232) :
    Calls Try.prog 6 #[.slice a0 len0 cap0, .slice a1 len1 cap1] w fun e w' => e = .returned (.bool true) ∧ Below w.heap.size w w' := by
  obtain ⟨l0, rfl, hr0, hm0, hw0, hc0⟩ := ReadsInt.ofRowC w0
  obtain ⟨l1, rfl, hr1, hm1, hw1, hc1⟩ := ReadsInt.ofRowC w1
  obtain ⟨k, h⟩ := P l0 l1 hm0 y0 hw0 hm1 y1 hw1
  refine (laws_FnPieces.calls k _ _ l0 _ _ l1 true w (Kd.C_of_reads (d := (0 : Int)) (h1 := fun _ => rfl) hr0) hc0 (Kd.C_of_reads (d := (0 : Int)) (h1 := fun _ => rfl) hr1) hc1 h).mono ?_
  rintro e w' ⟨rfl, hd⟩
  exact ⟨rfl, hd⟩

end Go.Proofs.Yteljfdhjbnlgoaa.PFnPieces
