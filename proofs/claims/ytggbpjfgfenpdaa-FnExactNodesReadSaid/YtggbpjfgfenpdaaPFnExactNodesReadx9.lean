-- A program of this session wrote this text: a changed copy of the kit print, with given functions.
import Derived.Test.YtggbpjfgfenpdaaPFnExactNodesReadx0
import Derived.Test.YtggbpjfgfenpdaaPFnExactNodesReadx3
import Derived.Test.YtggbpjfgfenpdaaPFnExactNodesReadx5
import Derived.Test.YtggbpjfgfenpdaaPFnExactNodesReadx7
import Derived.Test.YtggbpjfgfenpdaaPFnExactNodesReadx8
namespace Go.Proofs.Ytggbpjfgfenpdaa.PFnExactNodesRead
open Go.RowKit Go.Proofs.YtggbpjfgfenpdaaW.PrintWords Go.Proofs.YtggbpjfgfenpdaaW.PrintLast Go.Proofs.YtggbpjfgfenpdaaW.PrintMore Go.Proofs.Ytggbpjfgfenpdaa.Aut
attribute [local go_sem] max2_int min2_int max_two min_two max_three min_three max_four min_four   -- for this text's walks alone
set_option linter.unusedVariables false
set_option linter.unusedSimpArgs false

/-! ### spec_l11Read: function 55 -/
mutual
def spec_l11Read.j0 : Nat → ByteArray → List (S74) → Int → Bool → ByteArray → Int → Bool → Option ((List (S74)) × Bool)
  | 0, _, _, _, _, _, _, _ => none
  | k + 1, x0, x5, x6, x21, x123000, x123001, x123002 => if x21 = true then (spec_l11Read.j1 k x0 x5 x6 x123000 x123001 true) else (spec_l11Read.j1 k x0 x5 x6 x123000 x123001 x123002)
def spec_l11Read.j1 : Nat → ByteArray → List (S74) → Int → ByteArray → Int → Bool → Option ((List (S74)) × Bool)
  | 0, _, _, _, _, _, _ => none
  | k + 1, x0, x5, x6, x123000, x123001, x123002 => spec_l11Read.l0 k x0 x5 x6 x123000 x123001 x123002
def spec_l11Read.l0 : Nat → ByteArray → List (S74) → Int → ByteArray → Int → Bool → Option ((List (S74)) × Bool)
  | 0, _, _, _, _, _, _ => none
  | k + 1, x0, x5, x6, x123000, x123001, x123002 => if x6 > 0 then (spec_l11Read.j3 k x0 x5 x6 (!x123002) x123000 x123001 x123002) else (spec_l11Read.j3 k x0 x5 x6 false x123000 x123001 x123002)
def spec_l11Read.j3 : Nat → ByteArray → List (S74) → Int → Bool → ByteArray → Int → Bool → Option ((List (S74)) × Bool)
  | 0, _, _, _, _, _, _, _ => none
  | k + 1, x0, x5, x6, x33, x123000, x123001, x123002 => if x33 = true then ((spec_l10Reader_text.f k x123000 x123001 x123002).bind fun bt132 => ((spec_l10Reader_num.f k bt132.2.1 bt132.2.2.1 bt132.2.2.2).bind fun bt136 => ((spec_l10Reader_num.f k bt136.2.1 bt136.2.2.1 bt136.2.2.2).bind fun bt140 => ((spec_l10Reader_num.f k bt140.2.1 bt140.2.2.1 bt140.2.2.2).bind fun bt144 => (if bt136.1 < 0 then (spec_l11Read.j4 k x0 x5 x6 bt144.1 true bt144.2.1 bt144.2.2.1 bt144.2.2.2 bt132.1 (bt136.1 == 1) bt140.1) else (if bt136.1 > 1 then (spec_l11Read.j4 k x0 x5 x6 bt144.1 true bt144.2.1 bt144.2.2.1 bt144.2.2.2 bt132.1 (bt136.1 == 1) bt140.1) else (if bt144.1 < 0 then (spec_l11Read.j4 k x0 x5 x6 bt144.1 true bt144.2.1 bt144.2.2.1 bt144.2.2.2 bt132.1 (bt136.1 == 1) bt140.1) else (spec_l11Read.j4 k x0 x5 x6 bt144.1 (decide (bt144.1 > 100)) bt144.2.1 bt144.2.2.1 bt144.2.2.2 bt132.1 (bt136.1 == 1) bt140.1)))))))) else (if x123002 = true then (some (x5, false)) else (if x123001 = (x0.size : Int) then ((spec_NodesRight.f k x5).bind fun t130 => (some (x5, t130))) else (some (x5, false))))
def spec_l11Read.j4 : Nat → ByteArray → List (S74) → Int → Int → Bool → ByteArray → Int → Bool → ByteArray → Bool → Int → Option ((List (S74)) × Bool)
  | 0, _, _, _, _, _, _, _, _, _, _, _ => none
  | k + 1, x0, x5, x6, x9, x63, x123000, x123001, x123002, x132000, x132001, x132002 => if x63 = true then (spec_l11Read.j5 k x0 x5 x6 x9 x123000 x123001 true x132000 x132001 x132002) else (spec_l11Read.j5 k x0 x5 x6 x9 x123000 x123001 x123002 x132000 x132001 x132002)
def spec_l11Read.j5 : Nat → ByteArray → List (S74) → Int → Int → ByteArray → Int → Bool → ByteArray → Bool → Int → Option ((List (S74)) × Bool)
  | 0, _, _, _, _, _, _, _, _, _, _ => none
  | k + 1, x0, x5, x6, x9, x123000, x123001, x123002, x132000, x132001, x132002 => spec_l11Read.l1 k x0 x5 x6 x9 x123000 x123001 x123002 x132000 x132001 x132002 ([] : List ByteArray)
def spec_l11Read.l1 : Nat → ByteArray → List (S74) → Int → Int → ByteArray → Int → Bool → ByteArray → Bool → Int → List ByteArray → Option ((List (S74)) × Bool)
  | 0, _, _, _, _, _, _, _, _, _, _, _ => none
  | k + 1, x0, x5, x6, x9, x123000, x123001, x123002, x132000, x132001, x132002, x132003 => if x9 > 0 then (if x123002 = true then (if x5.length < 2513169434916 then (spec_l11Read.l0 k x0 (x5 ++ [(⟨x132000, x132001, x132002, x132003⟩ : S74)]) (wrap64 (x6 - 1)) x123000 x123001 x123002) else (none)) else ((spec_l10Reader_bytes.f x123000 x123001 x123002 32).bind fun bt151 => (if x132003.length < 8796093022208 then (spec_l11Read.l1 k x0 x5 x6 (wrap64 (x9 - 1)) bt151.2.1 bt151.2.2.1 bt151.2.2.2 x132000 x132001 x132002 (x132003 ++ [bt151.1])) else (none)))) else (if x5.length < 2513169434916 then (spec_l11Read.l0 k x0 (x5 ++ [(⟨x132000, x132001, x132002, x132003⟩ : S74)]) (wrap64 (x6 - 1)) x123000 x123001 x123002) else (none))
end
def spec_l11Read.f (k : Nat) (a0 : ByteArray) : Option ((List (S74)) × Bool) := (some (([] : List (S74)) : List (S74))).bind fun y123 => ((spec_l10Reader_num.f k a0 0 false).bind fun bt126 => (if bt126.1 < 0 then (spec_l11Read.j0 k a0 y123 bt126.1 true bt126.2.1 bt126.2.2.1 bt126.2.2.2) else (spec_l11Read.j0 k a0 y123 bt126.1 (decide (bt126.1 > 20)) bt126.2.1 bt126.2.2.1 bt126.2.2.2)))
theorem spec_l11Read.mono_l : ∀ k, (∀ y0 y1 y2 y3 y4 y5 y6, LeO (spec_l11Read.j0 k y0 y1 y2 y3 y4 y5 y6) (spec_l11Read.j0 (k + 1) y0 y1 y2 y3 y4 y5 y6)) ∧ (∀ y0 y1 y2 y3 y4 y5, LeO (spec_l11Read.j1 k y0 y1 y2 y3 y4 y5) (spec_l11Read.j1 (k + 1) y0 y1 y2 y3 y4 y5)) ∧ (∀ y0 y1 y2 y3 y4 y5, LeO (spec_l11Read.l0 k y0 y1 y2 y3 y4 y5) (spec_l11Read.l0 (k + 1) y0 y1 y2 y3 y4 y5)) ∧ (∀ y0 y1 y2 y3 y4 y5 y6, LeO (spec_l11Read.j3 k y0 y1 y2 y3 y4 y5 y6) (spec_l11Read.j3 (k + 1) y0 y1 y2 y3 y4 y5 y6)) ∧ (∀ y0 y1 y2 y3 y4 y5 y6 y7 y8 y9 y10, LeO (spec_l11Read.j4 k y0 y1 y2 y3 y4 y5 y6 y7 y8 y9 y10) (spec_l11Read.j4 (k + 1) y0 y1 y2 y3 y4 y5 y6 y7 y8 y9 y10)) ∧ (∀ y0 y1 y2 y3 y4 y5 y6 y7 y8 y9, LeO (spec_l11Read.j5 k y0 y1 y2 y3 y4 y5 y6 y7 y8 y9) (spec_l11Read.j5 (k + 1) y0 y1 y2 y3 y4 y5 y6 y7 y8 y9)) ∧ (∀ y0 y1 y2 y3 y4 y5 y6 y7 y8 y9 y10, LeO (spec_l11Read.l1 k y0 y1 y2 y3 y4 y5 y6 y7 y8 y9 y10) (spec_l11Read.l1 (k + 1) y0 y1 y2 y3 y4 y5 y6 y7 y8 y9 y10))
  | 0 => ⟨fun _ _ _ _ _ _ _ r h => by simp [spec_l11Read.j0] at h, fun _ _ _ _ _ _ r h => by simp [spec_l11Read.j1] at h, fun _ _ _ _ _ _ r h => by simp [spec_l11Read.l0] at h, fun _ _ _ _ _ _ _ r h => by simp [spec_l11Read.j3] at h, fun _ _ _ _ _ _ _ _ _ _ _ r h => by simp [spec_l11Read.j4] at h, fun _ _ _ _ _ _ _ _ _ _ r h => by simp [spec_l11Read.j5] at h, fun _ _ _ _ _ _ _ _ _ _ _ r h => by simp [spec_l11Read.l1] at h⟩
  | k + 1 => by
    obtain ⟨ih0, ih1, ih2, ih3, ih4, ih5, ih6⟩ := spec_l11Read.mono_l k
    refine ⟨?_, ?_, ?_, ?_, ?_, ?_, ?_⟩
    · intro y0 y1 y2 y3 y4 y5 y6
      unfold spec_l11Read.j0
      repeat' first
      | (with_reducible exact ih0 _ _ _ _ _ _ _)
      | (with_reducible exact ih1 _ _ _ _ _ _)
      | (with_reducible exact ih2 _ _ _ _ _ _)
      | (with_reducible exact ih3 _ _ _ _ _ _ _)
      | (with_reducible exact ih4 _ _ _ _ _ _ _ _ _ _ _)
      | (with_reducible exact ih5 _ _ _ _ _ _ _ _ _ _)
      | (with_reducible exact ih6 _ _ _ _ _ _ _ _ _ _ _)
      | (with_reducible exact spec_NodesRight.mono _ _)
      | (with_reducible exact spec_l10Reader_num.mono _ _ _ _)
      | (with_reducible exact spec_l10Reader_text.mono _ _ _ _)
      | (with_reducible exact LeO.refl _)
      | (with_reducible exact LeO.none _)
      | (with_reducible refine LeO.ite ?_ ?_)
      | (with_reducible refine LeO.bind ?_ (fun _ => ?_))
      | exact ih0 _ _ _ _ _ _ _
      | exact ih1 _ _ _ _ _ _
      | exact ih2 _ _ _ _ _ _
      | exact ih3 _ _ _ _ _ _ _
      | exact ih4 _ _ _ _ _ _ _ _ _ _ _
      | exact ih5 _ _ _ _ _ _ _ _ _ _
      | exact ih6 _ _ _ _ _ _ _ _ _ _ _
      | exact spec_NodesRight.mono _ _
      | exact spec_l10Reader_num.mono _ _ _ _
      | exact spec_l10Reader_text.mono _ _ _ _
      | exact LeO.none _
      | refine LeO.ite ?_ ?_
      | refine LeO.bind ?_ (fun _ => ?_)
    · intro y0 y1 y2 y3 y4 y5
      unfold spec_l11Read.j1
      repeat' first
      | (with_reducible exact ih0 _ _ _ _ _ _ _)
      | (with_reducible exact ih1 _ _ _ _ _ _)
      | (with_reducible exact ih2 _ _ _ _ _ _)
      | (with_reducible exact ih3 _ _ _ _ _ _ _)
      | (with_reducible exact ih4 _ _ _ _ _ _ _ _ _ _ _)
      | (with_reducible exact ih5 _ _ _ _ _ _ _ _ _ _)
      | (with_reducible exact ih6 _ _ _ _ _ _ _ _ _ _ _)
      | (with_reducible exact spec_NodesRight.mono _ _)
      | (with_reducible exact spec_l10Reader_num.mono _ _ _ _)
      | (with_reducible exact spec_l10Reader_text.mono _ _ _ _)
      | (with_reducible exact LeO.refl _)
      | (with_reducible exact LeO.none _)
      | (with_reducible refine LeO.ite ?_ ?_)
      | (with_reducible refine LeO.bind ?_ (fun _ => ?_))
      | exact ih0 _ _ _ _ _ _ _
      | exact ih1 _ _ _ _ _ _
      | exact ih2 _ _ _ _ _ _
      | exact ih3 _ _ _ _ _ _ _
      | exact ih4 _ _ _ _ _ _ _ _ _ _ _
      | exact ih5 _ _ _ _ _ _ _ _ _ _
      | exact ih6 _ _ _ _ _ _ _ _ _ _ _
      | exact spec_NodesRight.mono _ _
      | exact spec_l10Reader_num.mono _ _ _ _
      | exact spec_l10Reader_text.mono _ _ _ _
      | exact LeO.none _
      | refine LeO.ite ?_ ?_
      | refine LeO.bind ?_ (fun _ => ?_)
    · intro y0 y1 y2 y3 y4 y5
      unfold spec_l11Read.l0
      repeat' first
      | (with_reducible exact ih0 _ _ _ _ _ _ _)
      | (with_reducible exact ih1 _ _ _ _ _ _)
      | (with_reducible exact ih2 _ _ _ _ _ _)
      | (with_reducible exact ih3 _ _ _ _ _ _ _)
      | (with_reducible exact ih4 _ _ _ _ _ _ _ _ _ _ _)
      | (with_reducible exact ih5 _ _ _ _ _ _ _ _ _ _)
      | (with_reducible exact ih6 _ _ _ _ _ _ _ _ _ _ _)
      | (with_reducible exact spec_NodesRight.mono _ _)
      | (with_reducible exact spec_l10Reader_num.mono _ _ _ _)
      | (with_reducible exact spec_l10Reader_text.mono _ _ _ _)
      | (with_reducible exact LeO.refl _)
      | (with_reducible exact LeO.none _)
      | (with_reducible refine LeO.ite ?_ ?_)
      | (with_reducible refine LeO.bind ?_ (fun _ => ?_))
      | exact ih0 _ _ _ _ _ _ _
      | exact ih1 _ _ _ _ _ _
      | exact ih2 _ _ _ _ _ _
      | exact ih3 _ _ _ _ _ _ _
      | exact ih4 _ _ _ _ _ _ _ _ _ _ _
      | exact ih5 _ _ _ _ _ _ _ _ _ _
      | exact ih6 _ _ _ _ _ _ _ _ _ _ _
      | exact spec_NodesRight.mono _ _
      | exact spec_l10Reader_num.mono _ _ _ _
      | exact spec_l10Reader_text.mono _ _ _ _
      | exact LeO.none _
      | refine LeO.ite ?_ ?_
      | refine LeO.bind ?_ (fun _ => ?_)
    · intro y0 y1 y2 y3 y4 y5 y6
      unfold spec_l11Read.j3
      repeat' first
      | (with_reducible exact ih0 _ _ _ _ _ _ _)
      | (with_reducible exact ih1 _ _ _ _ _ _)
      | (with_reducible exact ih2 _ _ _ _ _ _)
      | (with_reducible exact ih3 _ _ _ _ _ _ _)
      | (with_reducible exact ih4 _ _ _ _ _ _ _ _ _ _ _)
      | (with_reducible exact ih5 _ _ _ _ _ _ _ _ _ _)
      | (with_reducible exact ih6 _ _ _ _ _ _ _ _ _ _ _)
      | (with_reducible exact spec_NodesRight.mono _ _)
      | (with_reducible exact spec_l10Reader_num.mono _ _ _ _)
      | (with_reducible exact spec_l10Reader_text.mono _ _ _ _)
      | (with_reducible exact LeO.refl _)
      | (with_reducible exact LeO.none _)
      | (with_reducible refine LeO.ite ?_ ?_)
      | (with_reducible refine LeO.bind ?_ (fun _ => ?_))
      | exact ih0 _ _ _ _ _ _ _
      | exact ih1 _ _ _ _ _ _
      | exact ih2 _ _ _ _ _ _
      | exact ih3 _ _ _ _ _ _ _
      | exact ih4 _ _ _ _ _ _ _ _ _ _ _
      | exact ih5 _ _ _ _ _ _ _ _ _ _
      | exact ih6 _ _ _ _ _ _ _ _ _ _ _
      | exact spec_NodesRight.mono _ _
      | exact spec_l10Reader_num.mono _ _ _ _
      | exact spec_l10Reader_text.mono _ _ _ _
      | exact LeO.none _
      | refine LeO.ite ?_ ?_
      | refine LeO.bind ?_ (fun _ => ?_)
    · intro y0 y1 y2 y3 y4 y5 y6 y7 y8 y9 y10
      unfold spec_l11Read.j4
      repeat' first
      | (with_reducible exact ih0 _ _ _ _ _ _ _)
      | (with_reducible exact ih1 _ _ _ _ _ _)
      | (with_reducible exact ih2 _ _ _ _ _ _)
      | (with_reducible exact ih3 _ _ _ _ _ _ _)
      | (with_reducible exact ih4 _ _ _ _ _ _ _ _ _ _ _)
      | (with_reducible exact ih5 _ _ _ _ _ _ _ _ _ _)
      | (with_reducible exact ih6 _ _ _ _ _ _ _ _ _ _ _)
      | (with_reducible exact spec_NodesRight.mono _ _)
      | (with_reducible exact spec_l10Reader_num.mono _ _ _ _)
      | (with_reducible exact spec_l10Reader_text.mono _ _ _ _)
      | (with_reducible exact LeO.refl _)
      | (with_reducible exact LeO.none _)
      | (with_reducible refine LeO.ite ?_ ?_)
      | (with_reducible refine LeO.bind ?_ (fun _ => ?_))
      | exact ih0 _ _ _ _ _ _ _
      | exact ih1 _ _ _ _ _ _
      | exact ih2 _ _ _ _ _ _
      | exact ih3 _ _ _ _ _ _ _
      | exact ih4 _ _ _ _ _ _ _ _ _ _ _
      | exact ih5 _ _ _ _ _ _ _ _ _ _
      | exact ih6 _ _ _ _ _ _ _ _ _ _ _
      | exact spec_NodesRight.mono _ _
      | exact spec_l10Reader_num.mono _ _ _ _
      | exact spec_l10Reader_text.mono _ _ _ _
      | exact LeO.none _
      | refine LeO.ite ?_ ?_
      | refine LeO.bind ?_ (fun _ => ?_)
    · intro y0 y1 y2 y3 y4 y5 y6 y7 y8 y9
      unfold spec_l11Read.j5
      repeat' first
      | (with_reducible exact ih0 _ _ _ _ _ _ _)
      | (with_reducible exact ih1 _ _ _ _ _ _)
      | (with_reducible exact ih2 _ _ _ _ _ _)
      | (with_reducible exact ih3 _ _ _ _ _ _ _)
      | (with_reducible exact ih4 _ _ _ _ _ _ _ _ _ _ _)
      | (with_reducible exact ih5 _ _ _ _ _ _ _ _ _ _)
      | (with_reducible exact ih6 _ _ _ _ _ _ _ _ _ _ _)
      | (with_reducible exact spec_NodesRight.mono _ _)
      | (with_reducible exact spec_l10Reader_num.mono _ _ _ _)
      | (with_reducible exact spec_l10Reader_text.mono _ _ _ _)
      | (with_reducible exact LeO.refl _)
      | (with_reducible exact LeO.none _)
      | (with_reducible refine LeO.ite ?_ ?_)
      | (with_reducible refine LeO.bind ?_ (fun _ => ?_))
      | exact ih0 _ _ _ _ _ _ _
      | exact ih1 _ _ _ _ _ _
      | exact ih2 _ _ _ _ _ _
      | exact ih3 _ _ _ _ _ _ _
      | exact ih4 _ _ _ _ _ _ _ _ _ _ _
      | exact ih5 _ _ _ _ _ _ _ _ _ _
      | exact ih6 _ _ _ _ _ _ _ _ _ _ _
      | exact spec_NodesRight.mono _ _
      | exact spec_l10Reader_num.mono _ _ _ _
      | exact spec_l10Reader_text.mono _ _ _ _
      | exact LeO.none _
      | refine LeO.ite ?_ ?_
      | refine LeO.bind ?_ (fun _ => ?_)
    · intro y0 y1 y2 y3 y4 y5 y6 y7 y8 y9 y10
      unfold spec_l11Read.l1
      repeat' first
      | (with_reducible exact ih0 _ _ _ _ _ _ _)
      | (with_reducible exact ih1 _ _ _ _ _ _)
      | (with_reducible exact ih2 _ _ _ _ _ _)
      | (with_reducible exact ih3 _ _ _ _ _ _ _)
      | (with_reducible exact ih4 _ _ _ _ _ _ _ _ _ _ _)
      | (with_reducible exact ih5 _ _ _ _ _ _ _ _ _ _)
      | (with_reducible exact ih6 _ _ _ _ _ _ _ _ _ _ _)
      | (with_reducible exact spec_NodesRight.mono _ _)
      | (with_reducible exact spec_l10Reader_num.mono _ _ _ _)
      | (with_reducible exact spec_l10Reader_text.mono _ _ _ _)
      | (with_reducible exact LeO.refl _)
      | (with_reducible exact LeO.none _)
      | (with_reducible refine LeO.ite ?_ ?_)
      | (with_reducible refine LeO.bind ?_ (fun _ => ?_))
      | exact ih0 _ _ _ _ _ _ _
      | exact ih1 _ _ _ _ _ _
      | exact ih2 _ _ _ _ _ _
      | exact ih3 _ _ _ _ _ _ _
      | exact ih4 _ _ _ _ _ _ _ _ _ _ _
      | exact ih5 _ _ _ _ _ _ _ _ _ _
      | exact ih6 _ _ _ _ _ _ _ _ _ _ _
      | exact spec_NodesRight.mono _ _
      | exact spec_l10Reader_num.mono _ _ _ _
      | exact spec_l10Reader_text.mono _ _ _ _
      | exact LeO.none _
      | refine LeO.ite ?_ ?_
      | refine LeO.bind ?_ (fun _ => ?_)
theorem spec_l11Read.mono : ∀ a0 k, LeO (spec_l11Read.f k a0) (spec_l11Read.f (k + 1) a0) := by
  intro a0 k
  obtain ⟨ih0, ih1, ih2, ih3, ih4, ih5, ih6⟩ := spec_l11Read.mono_l k
  unfold spec_l11Read.f
  repeat' first
      | (with_reducible exact ih0 _ _ _ _ _ _ _)
      | (with_reducible exact ih1 _ _ _ _ _ _)
      | (with_reducible exact ih2 _ _ _ _ _ _)
      | (with_reducible exact ih3 _ _ _ _ _ _ _)
      | (with_reducible exact ih4 _ _ _ _ _ _ _ _ _ _ _)
      | (with_reducible exact ih5 _ _ _ _ _ _ _ _ _ _)
      | (with_reducible exact ih6 _ _ _ _ _ _ _ _ _ _ _)
      | (with_reducible exact spec_NodesRight.mono _ _)
      | (with_reducible exact spec_l10Reader_num.mono _ _ _ _)
      | (with_reducible exact spec_l10Reader_text.mono _ _ _ _)
      | (with_reducible exact LeO.refl _)
      | (with_reducible exact LeO.none _)
      | (with_reducible refine LeO.ite ?_ ?_)
      | (with_reducible refine LeO.bind ?_ (fun _ => ?_))
      | exact ih0 _ _ _ _ _ _ _
      | exact ih1 _ _ _ _ _ _
      | exact ih2 _ _ _ _ _ _
      | exact ih3 _ _ _ _ _ _ _
      | exact ih4 _ _ _ _ _ _ _ _ _ _ _
      | exact ih5 _ _ _ _ _ _ _ _ _ _
      | exact ih6 _ _ _ _ _ _ _ _ _ _ _
      | exact spec_NodesRight.mono _ _
      | exact spec_l10Reader_num.mono _ _ _ _
      | exact spec_l10Reader_text.mono _ _ _ _
      | exact LeO.none _
      | refine LeO.ite ?_ ?_
      | refine LeO.bind ?_ (fun _ => ?_)
def spec_l11Read.T18 : Bool × List (List Nat × List Nat) := (true, [([], []), ([0], [0]), ([], []), ([2], [2]), ([3], [3]), ([1, 4, 3], [1, 4]), ([0, 1, 2, 3, 4, 5], []), ([6, 5, 5, 0, 1, 2, 3, 4, 5], [5, 6])])
def spec_l11Read.B18 : List Nat := [0, 1, 0, 4, 12, 31, 63, 127]
theorem spec_l11Read.tab18 : rtab .any (opsOf Try.f55 18) = spec_l11Read.T18 := by kernel_rfl
theorem spec_l11Read.bits18 : waitsOk spec_l11Read.T18.2 spec_l11Read.B18 = true := by kernel_rfl
set_option maxHeartbeats 8000000 in
set_option maxRecDepth 100000 in
theorem spec_l11Read.calls (k : Nat) (a0 : ByteArray) (r1 : List (S74)) (r2 : Bool) (w : World) (h : spec_l11Read.f k a0 = some (r1, r2)) :
    Calls Try.prog 55 #[.string a0] w fun e w' => ∃ v0_ : Value, e = .returned (.tuple #[v0_, .bool r2]) ∧ Kd.S k74 74 w' w.heap.size (fun _ => True) v0_ r1 ∧ Below w.heap.size w w' := by
  have hu128 := Try.underlying128
  have hu74 := Try.underlying74
  have HB := AM (Below.refl w.heap.size w)
  have H : ((some (([] : List (S74)) : List (S74))).bind fun y123 => ((spec_l10Reader_num.f k a0 0 false).bind fun bt126 => (if bt126.1 < 0 then (spec_l11Read.j0 k a0 y123 bt126.1 true bt126.2.1 bt126.2.2.1 bt126.2.2.2) else (spec_l11Read.j0 k a0 y123 bt126.1 (decide (bt126.1 > 20)) bt126.2.1 bt126.2.2.1 bt126.2.2.2)))) = some (r1, r2) := h
  clear h
  obtain ⟨y123, hy123⟩ : ∃ y_ : List (S74), y_ = (([] : List (S74))) := ⟨_, rfl⟩
  replace H : ((spec_l10Reader_num.f k a0 0 false).bind fun bt126 => (if bt126.1 < 0 then (spec_l11Read.j0 k a0 y123 bt126.1 true bt126.2.1 bt126.2.2.1 bt126.2.2.2) else (spec_l11Read.j0 k a0 y123 bt126.1 (decide (bt126.1 > 20)) bt126.2.1 bt126.2.2.1 bt126.2.2.2))) = some (r1, r2) := by first | (rw [hy123]; with_reducible exact H) | (have H2_ := (Option.bind_some _ _).symm.trans H; rw [hy123]; with_reducible exact H2_) | (have H2_ := (Option.bind_some _ _).symm.trans H; with_reducible exact H2_) | with_reducible exact H | (rw [hy123]; exact H) | exact H
  have Ny123 := AM hy123
  clear hy123
  obtain ⟨⟨t126, t127, t128, t129⟩, A2, H⟩ := OB H
  try dsimp only at H
  replace A2 := AM A2
  have HC3 := AM H
  clear H
  go_enter Try.func55, Try.ntmps55
  go_upto_region 4 with (first | ((with_reducible refine gate_dst (N := 12) rfl ?_); (try (refine gate_guard (by rfl) ?_; dsimp only)); refine be_ 12 #[.string a0, .int .i64 0, .bool false] 128 ?_; intro gb122 hg w4 hbox hb; have HI122 := AM ((⟨hbox, (by rw [hg]; exact (below_size bel_) : w.heap.size ≤ gb122)⟩ : IsS128 w w4 gb122 a0 0 false)); replace HB := AM (below_step bel_ hb); clear hb hbox hg) | ((with_reducible refine gate_dst (N := 13) rfl ?_); (try (refine gate_guard (by rfl) ?_; dsimp only)); refine Kd.S_lit k74 _ 74 ?hg (N := 13) ?hd (xs := ([] : List (S74))) (inner := []) (ok := fun _ => True) (okp := fun _ => True) ?hr ?hp (fun _ hk => hk) trivial (Below.refl _ _) (Nat.le_refl _) (by simp) ?_; (case hd => rfl); (case hg => rfl); (case hr => first | (go_simp; done) | (go_simp; rfl)); (case hp => exact (Reps.none _ _)); intro v124 w5 ho6 hb hg_ hnew_; clear hg_ hnew_; (first | rw [← Ny123.out] at ho6 | (simp only [Int.reduceToNat] at ho6; rw [← Ny123.out] at ho6)); have HO125 := AM (Kd.S_lower ho6 (below_size (belg_ (IsS128.ge HI122.out)))); replace HB := AM (below_step (belg_ (IsS128.ge HI122.out)) hb); replace HI122 := AM (IsS128.below is128_ hb); clear hb ho6) | ((with_reducible refine gate_callee (f := 105) rfl ?_); refine gl_ (some 15) Try.func105 #[.pointer (some ⟨gb122, 0, none⟩)] ?_; (with_reducible refine (spec_l10Reader_num.calls k gb122 a0 0 false t126 t127 t128 t129 w _ ?side1 ?side2 A2.out).mono ?_); (case side1 => repeat (first | (with_reducible first | exact HI122.out | apply IsS128.alloc | apply IsS128.drewN | apply IsS128.drew | apply IsS128.set_0 | apply IsS128.set_1 | apply IsS128.set_2) | exact HI122.out)); (case side2 => repeat (first | (with_reducible first | exact HB.out | apply below_alloc | apply pw_below_drewN | apply below_drew1 | refine below_set ?_ (IsS128.ge HI122.out)) | exact HB.out)); rintro e w7 ⟨rfl, hi, hb, hk⟩; refine ⟨_, rfl, ?_⟩; replace HO125 := AM (Kd.S_mono (Kd.S_keep (IsS128.apartS (show IsS128 w _ gb122 a0 0 false from is128_) (by (with_reducible repeat (first | apply Kd.S_alloc | apply Kd.S_drewN | apply Kd.S_drew)); exact HO125.out) (by decide)) hk (fun _ h => h.2)) (fun _ h => h.1)); replace HB := AM hb; replace HI122 := AM hi; (try clear hb); (try clear hb2); (try clear hk); (try clear hi)))
  (try simp only [Act.put, List.setIfInBounds_toArray, List.set_cons_zero, List.set_cons_succ])
  go_cut [21] (fun v21 wc => ∃ (kq : Nat) (x21_2 : Bool), v21 = .bool x21_2 ∧ Aside0 (spec_l11Read.j0 kq a0 y123 t126 x21_2 t127 t128 t129 = some (r1, r2)) ∧ Aside0 (kq ≤ k) ∧ Aside0 (Kd.S k74 74 wc w.heap.size (fun _ => True) v124 y123) ∧ Aside0 (IsS128 w wc gb122 t127 t128 t129) ∧ Aside0 (Below w.heap.size w wc))
  case first =>
    have H := HC3.out
    clear HC3
    by_cases c8 : t126 < 0
    · rw [if_pos c8] at H
      have c8b0 : decide (t126 < 0) = true := decide_eq_true c8
      clear c8
      (first | rw [c8b0] | (simp only [i64_w, i32_w]; rw [c8b0]) | skip)
      have H' := AM H
      clear H
      go_wp2
      go_meet
      case rel => exact ⟨_, (true), (by first | rfl | (simp; done) | (simp [*]; done)), H', ⟨by first | omega | exact Nat.le_refl _⟩, ⟨by (with_reducible repeat (first | apply Kd.S_alloc | apply Kd.S_drewN | apply Kd.S_drew)); exact HO125.out⟩, ⟨is128_⟩, ⟨belg_ (IsS128.ge HI122.out)⟩⟩
    · rw [if_neg c8] at H
      have c8b0 : decide (t126 < 0) = false := decide_eq_false c8
      clear c8
      (first | rw [c8b0] | (simp only [i64_w, i32_w]; rw [c8b0]) | skip)
      have H' := AM H
      clear H
      go_wp2
      go_meet
      case rel => exact ⟨_, (decide (t126 > 20)), (by first | rfl | (simp; done) | (simp [*]; done)), H', ⟨by first | omega | exact Nat.le_refl _⟩, ⟨by (with_reducible repeat (first | apply Kd.S_alloc | apply Kd.S_drewN | apply Kd.S_drew)); exact HO125.out⟩, ⟨is128_⟩, ⟨belg_ (IsS128.ge HI122.out)⟩⟩
  case rest =>
    clear HC3
    try clear c1
    try clear p2
    try clear c5
    try clear c8
    try clear c8b0
    obtain ⟨kq, x21_2, rfl, HA, HJ2, HO_5, HI122, HB⟩ := hcut
    cases kq with
    | zero => exact absurd HA.out (by simp [spec_l11Read.j0])
    | succ kj2 =>
      have H := HA.out
      clear HA
      simp only [spec_l11Read.j0] at H
      have HC9 := AM H
      clear H
      go_upto_if 21 with (fail)
      go_cut [] (fun wc => ∃ (kq : Nat) (x123002_8 : Bool), Aside0 (spec_l11Read.j1 kq a0 y123 t126 t127 t128 x123002_8 = some (r1, r2)) ∧ Aside0 (kq ≤ kj2) ∧ Aside0 (Kd.S k74 74 wc w.heap.size (fun _ => True) v124 y123) ∧ Aside0 (IsS128 w wc gb122 t127 t128 x123002_8) ∧ Aside0 (Below w.heap.size w wc))
      case first =>
        have H := HC9.out
        clear HC9
        by_cases c10 : x21_2 = true
        · subst c10
          rw [if_pos rfl] at H
          have H' := AM H
          clear H
          obtain ⟨HGz11, hgz11⟩ := HI122.out
          have hcz11_0 := cellS128_0 HGz11
          have hcz11_1 := cellS128_1 HGz11
          have hcz11_2 := cellS128_2 HGz11
          have hfz11_0 := blk_frozen HGz11 0
          have hfz11_1 := blk_frozen HGz11 1
          have hfz11_2 := blk_frozen HGz11 2
          clear HGz11 hgz11
          go_wp2
          go_meet
          case rel => exact ⟨_, (true), H', ⟨by have := HJ2.out; first | omega | exact Nat.le_refl _⟩, ⟨by (with_reducible repeat (first | apply Kd.S_alloc | apply Kd.S_drewN | apply Kd.S_drew)); exact Kd.S_mono (Kd.S_far (p := ⟨gb122, 2, none⟩) (IsS128.apartS HI122.out HO_5.out (by decide)) (fun _ hk => hk.2) (.bool true)) (fun _ hk => trivial)⟩, ⟨is128_⟩, ⟨belg_ (IsS128.ge HI122.out)⟩⟩
        · replace c10 := Bool.eq_false_iff.mpr c10
          subst c10
          rw [if_neg (show ¬ (false = true) by decide)] at H
          have H' := AM H
          clear H
          go_wp2
          go_meet
          case rel => exact ⟨_, (t129), H', ⟨by have := HJ2.out; first | omega | exact Nat.le_refl _⟩, ⟨by (with_reducible repeat (first | apply Kd.S_alloc | apply Kd.S_drewN | apply Kd.S_drew)); exact HO_5.out⟩, ⟨is128_⟩, ⟨belg_ (IsS128.ge HI122.out)⟩⟩
      case rest =>
        clear HC9
        try clear c1
        try clear p2
        try clear c5
        try clear c8
        try clear c8b0
        try clear c10
        try clear hcz11_0
        try clear hcz11_1
        try clear hcz11_2
        try clear hfz11_0
        try clear hfz11_1
        try clear hfz11_2
        try clear p2
        obtain ⟨kq, x123002_8, HA, HJ8, HO_5, HI122, HB⟩ := hcut
        cases kq with
        | zero => exact absurd HA.out (by simp [spec_l11Read.j1])
        | succ kj8 =>
          have H := HA.out
          clear HA
          simp only [spec_l11Read.j1] at H
          have H' := AM H
          clear H
          go_wp2
          go_loopg [5, 6] kj8 (fun kq v5 v6 w' => ∃ (x5_3 : List (S74)) (x6_3 : Int) (x123000_3 : ByteArray) (x123001_3 : Int) (x123002_3 : Bool), v6 = .int .i64 x6_3 ∧ Aside0 (spec_l11Read.l0 kq a0 x5_3 x6_3 x123000_3 x123001_3 x123002_3 = some (r1, r2)) ∧ Aside0 (kq ≤ kj8) ∧ Aside0 (Kd.S k74 74 w' w.heap.size (fun _ => True) v5 x5_3) ∧ Aside0 (IsS128 w w' gb122 x123000_3 x123001_3 x123002_3) ∧ Aside0 (Below w.heap.size w w'))
          case atStart => exact ⟨(y123), (t126), (t127), (t128), (x123002_8), (by first | rfl | (simp; done) | (simp [*]; done)), H', ⟨Nat.le_refl _⟩, ⟨by (with_reducible repeat (first | apply Kd.S_alloc | apply Kd.S_drewN | apply Kd.S_drew)); exact HO_5.out⟩, ⟨is128_⟩, ⟨belg_ (IsS128.ge HI122.out)⟩⟩
          case round =>
            clear H'
            try clear c1
            try clear p2
            try clear c5
            try clear c8
            try clear c8b0
            try clear c10
            try clear hcz11_0
            try clear hcz11_1
            try clear hcz11_2
            try clear hfz11_0
            try clear hfz11_1
            try clear hfz11_2
            try clear p2
            obtain ⟨x5_3, x6_3, x123000_3, x123001_3, x123002_3, rfl, HA, HK3, HO_5, HI122, HB⟩ := hrel
            cases gk with
            | zero => exact absurd HA.out (by simp [spec_l11Read.l0])
            | succ k3 =>
              have H := HA.out
              clear HA
              simp only [spec_l11Read.l0] at H
              have HC12 := AM H
              clear H
              go_upto_region 6 with (fail)
              go_cut [33] (fun v33 wc => ∃ (kq : Nat) (x33_11 : Bool), v33 = .bool x33_11 ∧ Aside0 (spec_l11Read.j3 kq a0 x5_3 x6_3 x33_11 x123000_3 x123001_3 x123002_3 = some (r1, r2)) ∧ Aside0 (kq ≤ k3) ∧ Aside0 (Kd.S k74 74 wc w.heap.size (fun _ => True) u5 x5_3) ∧ Aside0 (IsS128 w wc gb122 x123000_3 x123001_3 x123002_3) ∧ Aside0 (Below w.heap.size w wc))
              case first =>
                have H := HC12.out
                clear HC12
                by_cases c13 : x6_3 > 0
                · rw [if_pos c13] at H
                  have c13b0 : decide (0 < x6_3) = true := decide_eq_true c13
                  clear c13
                  (first | rw [c13b0] | (simp only [i64_w, i32_w]; rw [c13b0]) | skip)
                  have H' := AM H
                  clear H
                  obtain ⟨HGz14, hgz14⟩ := HI122.out
                  have hcz14_0 := cellS128_0 HGz14
                  have hcz14_1 := cellS128_1 HGz14
                  have hcz14_2 := cellS128_2 HGz14
                  have hfz14_0 := blk_frozen HGz14 0
                  have hfz14_1 := blk_frozen HGz14 1
                  have hfz14_2 := blk_frozen HGz14 2
                  clear HGz14 hgz14
                  go_wp2
                  go_meet
                  case rel => exact ⟨_, (!x123002_3), (by first | rfl | (simp; done) | (simp [*]; done)), H', ⟨by have := HJ2.out; have := HJ8.out; have := HK3.out; first | omega | exact Nat.le_refl _⟩, ⟨by (with_reducible repeat (first | apply Kd.S_alloc | apply Kd.S_drewN | apply Kd.S_drew)); exact HO_5.out⟩, ⟨is128_⟩, ⟨belg_ (IsS128.ge HI122.out)⟩⟩
                · rw [if_neg c13] at H
                  have c13b0 : decide (0 < x6_3) = false := decide_eq_false c13
                  clear c13
                  (first | rw [c13b0] | (simp only [i64_w, i32_w]; rw [c13b0]) | skip)
                  have H' := AM H
                  clear H
                  go_wp2
                  go_meet
                  case rel => exact ⟨_, (false), (by first | rfl | (simp; done) | (simp [*]; done)), H', ⟨by have := HJ2.out; have := HJ8.out; have := HK3.out; first | omega | exact Nat.le_refl _⟩, ⟨by (with_reducible repeat (first | apply Kd.S_alloc | apply Kd.S_drewN | apply Kd.S_drew)); exact HO_5.out⟩, ⟨is128_⟩, ⟨belg_ (IsS128.ge HI122.out)⟩⟩
              case rest =>
                clear HC12
                try clear c1
                try clear p2
                try clear c5
                try clear c8
                try clear c8b0
                try clear c10
                try clear c13
                try clear c13b0
                try clear hcz11_0
                try clear hcz11_1
                try clear hcz11_2
                try clear hcz14_0
                try clear hcz14_1
                try clear hcz14_2
                try clear hfz11_0
                try clear hfz11_1
                try clear hfz11_2
                try clear hfz14_0
                try clear hfz14_1
                try clear hfz14_2
                try clear p2
                obtain ⟨kq, x33_11, rfl, HA, HJ11, HO_5, HI122, HB⟩ := hcut
                cases kq with
                | zero => exact absurd HA.out (by simp [spec_l11Read.j3])
                | succ kj11 =>
                  have H := HA.out
                  clear HA
                  simp only [spec_l11Read.j3] at H
                  by_cases c15 : x33_11 = true
                  · subst c15
                    rw [if_pos rfl] at H
                    obtain ⟨⟨t132, t133, t134, t135⟩, A16, H⟩ := OB H
                    try dsimp only at H
                    replace A16 := AM A16
                    obtain ⟨⟨t136, t137, t138, t139⟩, A17, H⟩ := OB H
                    try dsimp only at H
                    replace A17 := AM A17
                    obtain ⟨⟨t140, t141, t142, t143⟩, A18, H⟩ := OB H
                    try dsimp only at H
                    replace A18 := AM A18
                    obtain ⟨⟨t144, t145, t146, t147⟩, A19, H⟩ := OB H
                    try dsimp only at H
                    replace A19 := AM A19
                    have HC20 := AM H
                    clear H
                    go_upto_region 14 with (first | ((with_reducible refine gate_dst (N := 7) rfl ?_); (try (refine gate_guard (by rfl) ?_; dsimp only)); refine be_ 7 #[.string (⟨#[]⟩ : ByteArray), .bool false, .int .i64 0, .slice none 0 0] 74 ?_; intro gb131 hg w21 hbox hb; replace HO_5 := AM (Kd.S_below (Kd.S_elderB (by (with_reducible repeat (first | apply Kd.S_alloc | apply Kd.S_drewN | apply Kd.S_drew)); exact HO_5.out) gb131 (Nat.le_of_eq hg.symm)) hb); have BK131 := AM hbox; have GW131 := AM ((by rw [hg]; exact (below_size (belg_ (IsS128.ge HI122.out))) : w.heap.size ≤ gb131)); have GE131 := AM ((by rw [hg]; exact (below_size (belg_ (IsS128.ge HI122.out))) : w.heap.size ≤ gb131)); replace HB := AM (below_step (belg_ (IsS128.ge HI122.out)) hb); have NB122_131 := AM ((by rw [hg]; exact Nat.ne_of_lt (IsS128.lt (show IsS128 w _ gb122 x123000_3 x123001_3 x123002_3 from is128_)) : gb122 ≠ gb131)); have NB131_122 := AM ((by rw [hg]; exact Nat.ne_of_gt (IsS128.lt (show IsS128 w _ gb122 x123000_3 x123001_3 x123002_3 from is128_)) : gb131 ≠ gb122)); replace HI122 := AM (IsS128.below is128_ hb); clear hb hbox hg; have hnb22 := NB131_122.out; have hnc22 := NB122_131.out; have hcz23_0 : w21.cell? ⟨gb131, 0, none⟩ = some (.string (⟨#[]⟩ : ByteArray)) := (blk_cell BK131.out 0).trans rfl; have hcz23_1 : w21.cell? ⟨gb131, 1, none⟩ = some (.bool false) := (blk_cell BK131.out 1).trans rfl; have hcz23_2 : w21.cell? ⟨gb131, 2, none⟩ = some (.int .i64 0) := (blk_cell BK131.out 2).trans rfl; have hcz23_3 : w21.cell? ⟨gb131, 3, none⟩ = some (.slice none 0 0) := (blk_cell BK131.out 3).trans rfl; have hfz23_0 := blk_frozen BK131.out 0; have hfz23_1 := blk_frozen BK131.out 1; have hfz23_2 := blk_frozen BK131.out 2; have hfz23_3 := blk_frozen BK131.out 3) | ((with_reducible refine gate_callee (f := 106) rfl ?_); refine gl_ (some 38) Try.func106 #[.pointer (some ⟨gb122, 0, none⟩)] ?_; (with_reducible refine (spec_l10Reader_text.calls kj11 gb122 x123000_3 x123001_3 x123002_3 t132 t133 t134 t135 w _ ?side1 ?side2 A16.out).mono ?_); (case side1 => repeat (first | (with_reducible first | exact HI122.out | apply IsS128.alloc | apply IsS128.drewN | apply IsS128.drew | apply IsS128.set_0 | apply IsS128.set_1 | apply IsS128.set_2 | refine IsS128.far ?_ NB122_131.out _) | exact HI122.out)); (case side2 => repeat (first | (with_reducible first | exact HB.out | apply below_alloc | apply pw_below_drewN | apply below_drew1 | refine below_set ?_ (IsS128.ge HI122.out) | refine below_set ?_ GE131.out) | exact HB.out)); rintro e w24 ⟨rfl, hi, hb, hk⟩; refine ⟨_, rfl, ?_⟩; replace HO_5 := AM (Kd.S_mono (Kd.S_keep (IsS128.apartS (show IsS128 w _ gb122 x123000_3 x123001_3 x123002_3 from is128_) (by (with_reducible repeat (first | apply Kd.S_alloc | apply Kd.S_drewN | apply Kd.S_drew)); exact (Kd.S_mono (Kd.S_far (p := ⟨gb131, 3, none⟩) (Kd.S_far (p := ⟨gb131, 2, none⟩) (Kd.S_far (p := ⟨gb131, 1, none⟩) (Kd.S_far (p := ⟨gb131, 0, none⟩) (Kd.S_mono HO_5.out (fun k_ hk => (⟨hk, hk.2⟩ : _ ∧ k_ ≠ gb131))) (fun _ hk => hk.2) (.string (⟨#[]⟩ : ByteArray))) (fun _ hk => hk.2) (.bool false)) (fun _ hk => hk.2) (.int .i64 0)) (fun _ hk => hk.2) (.slice none 0 0)) (fun _ h_ => h_.1))) (by decide)) hk (fun _ h => h.2)) (fun _ h => h.1)); replace BK131 := AM (KeepBut.blk hk (g' := gb131) (o := .cells #[.string (⟨#[]⟩ : ByteArray), .bool false, .int .i64 0, .slice none 0 0] 74 (0, 0)) bka_ NB131_122.out (by simp)); replace HB := AM hb; replace HI122 := AM hi; (try clear hb); (try clear hb2); (try clear hk); (try clear hi); have hcz25_0 : w24.cell? ⟨gb131, 0, none⟩ = some (.string (⟨#[]⟩ : ByteArray)) := (blk_cell BK131.out 0).trans rfl; have hcz25_1 : w24.cell? ⟨gb131, 1, none⟩ = some (.bool false) := (blk_cell BK131.out 1).trans rfl; have hcz25_2 : w24.cell? ⟨gb131, 2, none⟩ = some (.int .i64 0) := (blk_cell BK131.out 2).trans rfl; have hcz25_3 : w24.cell? ⟨gb131, 3, none⟩ = some (.slice none 0 0) := (blk_cell BK131.out 3).trans rfl; have hfz25_0 := blk_frozen BK131.out 0; have hfz25_1 := blk_frozen BK131.out 1; have hfz25_2 := blk_frozen BK131.out 2; have hfz25_3 := blk_frozen BK131.out 3) | ((with_reducible refine gate_callee (f := 105) rfl ?_); refine gl_ (some 41) Try.func105 #[.pointer (some ⟨gb122, 0, none⟩)] ?_; (with_reducible refine (spec_l10Reader_num.calls kj11 gb122 t133 t134 t135 t136 t137 t138 t139 w _ ?side1 ?side2 A17.out).mono ?_); (case side1 => repeat (first | (with_reducible first | exact HI122.out | apply IsS128.alloc | apply IsS128.drewN | apply IsS128.drew | apply IsS128.set_0 | apply IsS128.set_1 | apply IsS128.set_2 | refine IsS128.far ?_ NB122_131.out _) | exact HI122.out)); (case side2 => repeat (first | (with_reducible first | exact HB.out | apply below_alloc | apply pw_below_drewN | apply below_drew1 | refine below_set ?_ (IsS128.ge HI122.out) | refine below_set ?_ GE131.out) | exact HB.out)); rintro e w26 ⟨rfl, hi, hb, hk⟩; refine ⟨_, rfl, ?_⟩; replace HO_5 := AM (Kd.S_mono (Kd.S_keep (IsS128.apartS (show IsS128 w _ gb122 t133 t134 t135 from is128_) (by (with_reducible repeat (first | apply Kd.S_alloc | apply Kd.S_drewN | apply Kd.S_drew)); exact (Kd.S_mono (Kd.S_far (p := ⟨gb131, 0, none⟩) (Kd.S_mono HO_5.out (fun k_ hk => (⟨hk, hk.2⟩ : _ ∧ k_ ≠ gb131))) (fun _ hk => hk.2) (.string t132)) (fun _ h_ => h_.1))) (by decide)) hk (fun _ h => h.2)) (fun _ h => h.1)); replace BK131 := AM (KeepBut.blk hk (g' := gb131) (o := .cells #[.string t132, .bool false, .int .i64 0, .slice none 0 0] 74 (0, 0)) bka_ NB131_122.out (by simp)); replace HB := AM hb; replace HI122 := AM hi; (try clear hb); (try clear hb2); (try clear hk); (try clear hi); have hcz27_0 : w26.cell? ⟨gb131, 0, none⟩ = some (.string t132) := (blk_cell BK131.out 0).trans rfl; have hcz27_1 : w26.cell? ⟨gb131, 1, none⟩ = some (.bool false) := (blk_cell BK131.out 1).trans rfl; have hcz27_2 : w26.cell? ⟨gb131, 2, none⟩ = some (.int .i64 0) := (blk_cell BK131.out 2).trans rfl; have hcz27_3 : w26.cell? ⟨gb131, 3, none⟩ = some (.slice none 0 0) := (blk_cell BK131.out 3).trans rfl; have hfz27_0 := blk_frozen BK131.out 0; have hfz27_1 := blk_frozen BK131.out 1; have hfz27_2 := blk_frozen BK131.out 2; have hfz27_3 := blk_frozen BK131.out 3) | ((with_reducible refine gate_callee (f := 105) rfl ?_); refine gl_ (some 46) Try.func105 #[.pointer (some ⟨gb122, 0, none⟩)] ?_; (with_reducible refine (spec_l10Reader_num.calls kj11 gb122 t137 t138 t139 t140 t141 t142 t143 w _ ?side1 ?side2 A18.out).mono ?_); (case side1 => repeat (first | (with_reducible first | exact HI122.out | apply IsS128.alloc | apply IsS128.drewN | apply IsS128.drew | apply IsS128.set_0 | apply IsS128.set_1 | apply IsS128.set_2 | refine IsS128.far ?_ NB122_131.out _) | exact HI122.out)); (case side2 => repeat (first | (with_reducible first | exact HB.out | apply below_alloc | apply pw_below_drewN | apply below_drew1 | refine below_set ?_ (IsS128.ge HI122.out) | refine below_set ?_ GE131.out) | exact HB.out)); rintro e w28 ⟨rfl, hi, hb, hk⟩; refine ⟨_, rfl, ?_⟩; replace HO_5 := AM (Kd.S_mono (Kd.S_keep (IsS128.apartS (show IsS128 w _ gb122 t137 t138 t139 from is128_) (by (with_reducible repeat (first | apply Kd.S_alloc | apply Kd.S_drewN | apply Kd.S_drew)); exact (Kd.S_mono (Kd.S_far (p := ⟨gb131, 1, none⟩) (Kd.S_mono HO_5.out (fun k_ hk => (⟨hk, hk.2⟩ : _ ∧ k_ ≠ gb131))) (fun _ hk => hk.2) (.bool (t136 == 1))) (fun _ h_ => h_.1))) (by decide)) hk (fun _ h => h.2)) (fun _ h => h.1)); replace BK131 := AM (KeepBut.blk hk (g' := gb131) (o := .cells #[.string t132, .bool (t136 == 1), .int .i64 0, .slice none 0 0] 74 (0, 0)) bka_ NB131_122.out (by simp)); replace HB := AM hb; replace HI122 := AM hi; (try clear hb); (try clear hb2); (try clear hk); (try clear hi); have hcz29_0 : w28.cell? ⟨gb131, 0, none⟩ = some (.string t132) := (blk_cell BK131.out 0).trans rfl; have hcz29_1 : w28.cell? ⟨gb131, 1, none⟩ = some (.bool (t136 == 1)) := (blk_cell BK131.out 1).trans rfl; have hcz29_2 : w28.cell? ⟨gb131, 2, none⟩ = some (.int .i64 0) := (blk_cell BK131.out 2).trans rfl; have hcz29_3 : w28.cell? ⟨gb131, 3, none⟩ = some (.slice none 0 0) := (blk_cell BK131.out 3).trans rfl; have hfz29_0 := blk_frozen BK131.out 0; have hfz29_1 := blk_frozen BK131.out 1; have hfz29_2 := blk_frozen BK131.out 2; have hfz29_3 := blk_frozen BK131.out 3) | ((with_reducible refine gate_callee (f := 105) rfl ?_); refine gl_ (some 49) Try.func105 #[.pointer (some ⟨gb122, 0, none⟩)] ?_; (with_reducible refine (spec_l10Reader_num.calls kj11 gb122 t141 t142 t143 t144 t145 t146 t147 w _ ?side1 ?side2 A19.out).mono ?_); (case side1 => repeat (first | (with_reducible first | exact HI122.out | apply IsS128.alloc | apply IsS128.drewN | apply IsS128.drew | apply IsS128.set_0 | apply IsS128.set_1 | apply IsS128.set_2 | refine IsS128.far ?_ NB122_131.out _) | exact HI122.out)); (case side2 => repeat (first | (with_reducible first | exact HB.out | apply below_alloc | apply pw_below_drewN | apply below_drew1 | refine below_set ?_ (IsS128.ge HI122.out) | refine below_set ?_ GE131.out) | exact HB.out)); rintro e w30 ⟨rfl, hi, hb, hk⟩; refine ⟨_, rfl, ?_⟩; replace HO_5 := AM (Kd.S_mono (Kd.S_keep (IsS128.apartS (show IsS128 w _ gb122 t141 t142 t143 from is128_) (by (with_reducible repeat (first | apply Kd.S_alloc | apply Kd.S_drewN | apply Kd.S_drew)); exact (Kd.S_mono (Kd.S_far (p := ⟨gb131, 2, none⟩) (Kd.S_mono HO_5.out (fun k_ hk => (⟨hk, hk.2⟩ : _ ∧ k_ ≠ gb131))) (fun _ hk => hk.2) (.int .i64 t140)) (fun _ h_ => h_.1))) (by decide)) hk (fun _ h => h.2)) (fun _ h => h.1)); replace BK131 := AM (KeepBut.blk hk (g' := gb131) (o := .cells #[.string t132, .bool (t136 == 1), .int .i64 t140, .slice none 0 0] 74 (0, 0)) bka_ NB131_122.out (by simp)); replace HB := AM hb; replace HI122 := AM hi; (try clear hb); (try clear hb2); (try clear hk); (try clear hi)))
                    (try simp only [Act.put, List.setIfInBounds_toArray, List.set_cons_zero, List.set_cons_succ])
                    go_cut [63] (fun v63 wc => ∃ (kq : Nat) (x63_19 : Bool), v63 = .bool x63_19 ∧ Aside0 (spec_l11Read.j4 kq a0 x5_3 x6_3 t144 x63_19 t145 t146 t147 t132 (t136 == 1) t140 = some (r1, r2)) ∧ Aside0 (kq ≤ kj11) ∧ Aside0 (Kd.S k74 74 wc w.heap.size (fun k_ => k_ ≠ gb131) u5 x5_3) ∧ Aside0 (wc.heap[gb131]? = some (.cells #[.string t132, .bool (t136 == 1), .int .i64 t140, (.slice none 0 0)] 74 (0, 0))) ∧ Aside0 (IsS128 w wc gb122 t145 t146 t147) ∧ Aside0 (Below w.heap.size w wc))
                    case first =>
                      have H := HC20.out
                      clear HC20
                      by_cases c31 : t136 < 0
                      · rw [if_pos c31] at H
                        have c31b0 : decide (t136 < 0) = true := decide_eq_true c31
                        clear c31
                        (first | rw [c31b0] | (simp only [i64_w, i32_w]; rw [c31b0]) | skip)
                        have H' := AM H
                        clear H
                        go_wp2
                        go_meet
                        case rel => exact ⟨_, (true), (by first | rfl | (simp; done) | (simp [*]; done)), H', ⟨by have := HJ2.out; have := HJ8.out; have := HK3.out; have := HJ11.out; first | omega | exact Nat.le_refl _⟩, ⟨by (with_reducible repeat (first | apply Kd.S_alloc | apply Kd.S_drewN | apply Kd.S_drew)); exact Kd.S_mono HO_5.out (fun _ hk => hk.2)⟩, ⟨bk_ BK131.out⟩, ⟨is128_⟩, ⟨belg_ (IsS128.ge HI122.out)⟩⟩
                      · rw [if_neg c31] at H
                        have c31b0 : decide (t136 < 0) = false := decide_eq_false c31
                        clear c31
                        (first | rw [c31b0] | (simp only [i64_w, i32_w]; rw [c31b0]) | skip)
                        by_cases c32 : t136 > 1
                        · rw [if_pos c32] at H
                          have c32b0 : decide (1 < t136) = true := decide_eq_true c32
                          clear c32
                          have H' := AM H
                          clear H
                          go_wp2
                          go_meet
                          case rel => exact ⟨_, (true), (by first | rfl | (simp; done) | (simp [*]; done)), H', ⟨by have := HJ2.out; have := HJ8.out; have := HK3.out; have := HJ11.out; first | omega | exact Nat.le_refl _⟩, ⟨by (with_reducible repeat (first | apply Kd.S_alloc | apply Kd.S_drewN | apply Kd.S_drew)); exact Kd.S_mono HO_5.out (fun _ hk => hk.2)⟩, ⟨bk_ BK131.out⟩, ⟨is128_⟩, ⟨belg_ (IsS128.ge HI122.out)⟩⟩
                        · rw [if_neg c32] at H
                          have c32b0 : decide (1 < t136) = false := decide_eq_false c32
                          clear c32
                          by_cases c33 : t144 < 0
                          · rw [if_pos c33] at H
                            have c33b0 : decide (t144 < 0) = true := decide_eq_true c33
                            clear c33
                            have H' := AM H
                            clear H
                            go_wp2
                            go_meet
                            case rel => exact ⟨_, (true), (by first | rfl | (simp; done) | (simp [*]; done)), H', ⟨by have := HJ2.out; have := HJ8.out; have := HK3.out; have := HJ11.out; first | omega | exact Nat.le_refl _⟩, ⟨by (with_reducible repeat (first | apply Kd.S_alloc | apply Kd.S_drewN | apply Kd.S_drew)); exact Kd.S_mono HO_5.out (fun _ hk => hk.2)⟩, ⟨bk_ BK131.out⟩, ⟨is128_⟩, ⟨belg_ (IsS128.ge HI122.out)⟩⟩
                          · rw [if_neg c33] at H
                            have c33b0 : decide (t144 < 0) = false := decide_eq_false c33
                            clear c33
                            have H' := AM H
                            clear H
                            go_wp2
                            go_meet
                            case rel => exact ⟨_, (decide (t144 > 100)), (by first | rfl | (simp; done) | (simp [*]; done)), H', ⟨by have := HJ2.out; have := HJ8.out; have := HK3.out; have := HJ11.out; first | omega | exact Nat.le_refl _⟩, ⟨by (with_reducible repeat (first | apply Kd.S_alloc | apply Kd.S_drewN | apply Kd.S_drew)); exact Kd.S_mono HO_5.out (fun _ hk => hk.2)⟩, ⟨bk_ BK131.out⟩, ⟨is128_⟩, ⟨belg_ (IsS128.ge HI122.out)⟩⟩
                    case rest =>
                      clear HC20
                      try clear c1
                      try clear c2
                      try clear p2
                      try clear c3
                      try clear c5
                      try clear c8
                      try clear c8b0
                      try clear c10
                      try clear c13
                      try clear c13b0
                      try clear c15
                      try clear c22
                      try clear c31
                      try clear c31b0
                      try clear c32
                      try clear c32b0
                      try clear c33
                      try clear c33b0
                      try clear hcz11_0
                      try clear hcz11_1
                      try clear hcz11_2
                      try clear hcz14_0
                      try clear hcz14_1
                      try clear hcz14_2
                      try clear hcz23_0
                      try clear hcz23_1
                      try clear hcz23_2
                      try clear hcz23_3
                      try clear hcz25_0
                      try clear hcz25_1
                      try clear hcz25_2
                      try clear hcz25_3
                      try clear hcz27_0
                      try clear hcz27_1
                      try clear hcz27_2
                      try clear hcz27_3
                      try clear hcz29_0
                      try clear hcz29_1
                      try clear hcz29_2
                      try clear hcz29_3
                      try clear hfz11_0
                      try clear hfz11_1
                      try clear hfz11_2
                      try clear hfz14_0
                      try clear hfz14_1
                      try clear hfz14_2
                      try clear hfz23_0
                      try clear hfz23_1
                      try clear hfz23_2
                      try clear hfz23_3
                      try clear hfz25_0
                      try clear hfz25_1
                      try clear hfz25_2
                      try clear hfz25_3
                      try clear hfz27_0
                      try clear hfz27_1
                      try clear hfz27_2
                      try clear hfz27_3
                      try clear hfz29_0
                      try clear hfz29_1
                      try clear hfz29_2
                      try clear hfz29_3
                      try clear p2
                      obtain ⟨kq, x63_19, rfl, HA, HJ19, HO_5, BK131, HI122, HB⟩ := hcut
                      cases kq with
                      | zero => exact absurd HA.out (by simp [spec_l11Read.j4])
                      | succ kj19 =>
                        have H := HA.out
                        clear HA
                        simp only [spec_l11Read.j4] at H
                        have HC34 := AM H
                        clear H
                        go_upto_if 63 with (fail)
                        go_cut [] (fun wc => ∃ (kq : Nat) (x123002_33 : Bool), Aside0 (spec_l11Read.j5 kq a0 x5_3 x6_3 t144 t145 t146 x123002_33 t132 (t136 == 1) t140 = some (r1, r2)) ∧ Aside0 (kq ≤ kj19) ∧ Aside0 (Kd.S k74 74 wc w.heap.size (fun k_ => k_ ≠ gb131) u5 x5_3) ∧ Aside0 (wc.heap[gb131]? = some (.cells #[.string t132, .bool (t136 == 1), .int .i64 t140, (.slice none 0 0)] 74 (0, 0))) ∧ Aside0 (IsS128 w wc gb122 t145 t146 x123002_33) ∧ Aside0 (Below w.heap.size w wc))
                        case first =>
                          have H := HC34.out
                          clear HC34
                          by_cases c35 : x63_19 = true
                          · subst c35
                            rw [if_pos rfl] at H
                            have H' := AM H
                            clear H
                            obtain ⟨HGz36, hgz36⟩ := HI122.out
                            have hcz36_0 := cellS128_0 HGz36
                            have hcz36_1 := cellS128_1 HGz36
                            have hcz36_2 := cellS128_2 HGz36
                            have hfz36_0 := blk_frozen HGz36 0
                            have hfz36_1 := blk_frozen HGz36 1
                            have hfz36_2 := blk_frozen HGz36 2
                            clear HGz36 hgz36
                            go_wp2
                            go_meet
                            case rel => exact ⟨_, (true), H', ⟨by have := HJ2.out; have := HJ8.out; have := HK3.out; have := HJ11.out; have := HJ19.out; first | omega | exact Nat.le_refl _⟩, ⟨by (with_reducible repeat (first | apply Kd.S_alloc | apply Kd.S_drewN | apply Kd.S_drew)); exact Kd.S_mono (Kd.S_far (p := ⟨gb122, 2, none⟩) (IsS128.apartS HI122.out HO_5.out (by decide)) (fun _ hk => hk.2) (.bool true)) (fun _ hk => hk.1)⟩, ⟨bka_⟩, ⟨is128_⟩, ⟨belg_ (IsS128.ge HI122.out)⟩⟩
                          · replace c35 := Bool.eq_false_iff.mpr c35
                            subst c35
                            rw [if_neg (show ¬ (false = true) by decide)] at H
                            have H' := AM H
                            clear H
                            go_wp2
                            go_meet
                            case rel => exact ⟨_, (t147), H', ⟨by have := HJ2.out; have := HJ8.out; have := HK3.out; have := HJ11.out; have := HJ19.out; first | omega | exact Nat.le_refl _⟩, ⟨by (with_reducible repeat (first | apply Kd.S_alloc | apply Kd.S_drewN | apply Kd.S_drew)); exact HO_5.out⟩, ⟨bk_ BK131.out⟩, ⟨is128_⟩, ⟨belg_ (IsS128.ge HI122.out)⟩⟩
                        case rest =>
                          clear HC34
                          try clear c1
                          try clear c2
                          try clear p2
                          try clear c3
                          try clear c5
                          try clear c8
                          try clear c8b0
                          try clear c10
                          try clear c13
                          try clear c13b0
                          try clear c15
                          try clear c22
                          try clear c31
                          try clear c31b0
                          try clear c32
                          try clear c32b0
                          try clear c33
                          try clear c33b0
                          try clear c35
                          try clear hcz11_0
                          try clear hcz11_1
                          try clear hcz11_2
                          try clear hcz14_0
                          try clear hcz14_1
                          try clear hcz14_2
                          try clear hcz23_0
                          try clear hcz23_1
                          try clear hcz23_2
                          try clear hcz23_3
                          try clear hcz25_0
                          try clear hcz25_1
                          try clear hcz25_2
                          try clear hcz25_3
                          try clear hcz27_0
                          try clear hcz27_1
                          try clear hcz27_2
                          try clear hcz27_3
                          try clear hcz29_0
                          try clear hcz29_1
                          try clear hcz29_2
                          try clear hcz29_3
                          try clear hcz36_0
                          try clear hcz36_1
                          try clear hcz36_2
                          try clear hfz11_0
                          try clear hfz11_1
                          try clear hfz11_2
                          try clear hfz14_0
                          try clear hfz14_1
                          try clear hfz14_2
                          try clear hfz23_0
                          try clear hfz23_1
                          try clear hfz23_2
                          try clear hfz23_3
                          try clear hfz25_0
                          try clear hfz25_1
                          try clear hfz25_2
                          try clear hfz25_3
                          try clear hfz27_0
                          try clear hfz27_1
                          try clear hfz27_2
                          try clear hfz27_3
                          try clear hfz29_0
                          try clear hfz29_1
                          try clear hfz29_2
                          try clear hfz29_3
                          try clear hfz36_0
                          try clear hfz36_1
                          try clear hfz36_2
                          try clear p2
                          obtain ⟨kq, x123002_33, HA, HJ33, HO_5, BK131, HI122, HB⟩ := hcut
                          cases kq with
                          | zero => exact absurd HA.out (by simp [spec_l11Read.j5])
                          | succ kj33 =>
                            have H := HA.out
                            clear HA
                            simp only [spec_l11Read.j5] at H
                            have H' := AM H
                            clear H
                            go_wp2
                            go_loopg [9] kj33 (fun kq v9 w' => ∃ (x9_7 : Int) (x123000_7 : ByteArray) (x123001_7 : Int) (x123002_7 : Bool) (x132003_7 : List ByteArray) (u132003 : Value), v9 = .int .i64 x9_7 ∧ Aside0 (spec_l11Read.l1 kq a0 x5_3 x6_3 x9_7 x123000_7 x123001_7 x123002_7 t132 (t136 == 1) t140 x132003_7 = some (r1, r2)) ∧ Aside0 (kq ≤ kj33) ∧ Aside0 (Kd.S k74 74 w' w.heap.size (fun k_ => some k_ ≠ (u132003 : Value).ownBlock ∧ k_ ≠ gb131) u5 x5_3) ∧ Aside0 (Kd.R Kd.string 9 w' w.heap.size (fun _ => True) u132003 x132003_7) ∧ Aside0 (w'.heap[gb131]? = some (.cells #[.string t132, .bool (t136 == 1), .int .i64 t140, u132003] 74 (0, 0))) ∧ Aside0 (IsS128 w w' gb122 x123000_7 x123001_7 x123002_7) ∧ Aside0 (Below w.heap.size w w'))
                            case atStart => exact ⟨(t144), (t145), (t146), (x123002_33), (([] : List ByteArray)), (.slice none 0 0), (by first | rfl | (simp; done) | (simp [*]; done)), H', ⟨Nat.le_refl _⟩, ⟨by (with_reducible repeat (first | apply Kd.S_alloc | apply Kd.S_drewN | apply Kd.S_drew)); exact Kd.S_mono HO_5.out (fun _ hk => ⟨(by simp [Value.ownBlock]), hk⟩)⟩, ⟨by first | exact Kd.R_nil _ _ _ _ _ | exact Kd.N_nil _ _ _ _ _ | exact Kd.V_nil _ _ _ _ _ | exact Kd.Q_nil _ _ _ _ _ | exact Kd.S_nil _ _ _ _ _⟩, ⟨bk_ BK131.out⟩, ⟨is128_⟩, ⟨belg_ (IsS128.ge HI122.out)⟩⟩
                            case round =>
                              clear H'
                              try clear c1
                              try clear c2
                              try clear p2
                              try clear c3
                              try clear c5
                              try clear c8
                              try clear c8b0
                              try clear c10
                              try clear c13
                              try clear c13b0
                              try clear c15
                              try clear c22
                              try clear c31
                              try clear c31b0
                              try clear c32
                              try clear c32b0
                              try clear c33
                              try clear c33b0
                              try clear c35
                              try clear hcz11_0
                              try clear hcz11_1
                              try clear hcz11_2
                              try clear hcz14_0
                              try clear hcz14_1
                              try clear hcz14_2
                              try clear hcz23_0
                              try clear hcz23_1
                              try clear hcz23_2
                              try clear hcz23_3
                              try clear hcz25_0
                              try clear hcz25_1
                              try clear hcz25_2
                              try clear hcz25_3
                              try clear hcz27_0
                              try clear hcz27_1
                              try clear hcz27_2
                              try clear hcz27_3
                              try clear hcz29_0
                              try clear hcz29_1
                              try clear hcz29_2
                              try clear hcz29_3
                              try clear hcz36_0
                              try clear hcz36_1
                              try clear hcz36_2
                              try clear hfz11_0
                              try clear hfz11_1
                              try clear hfz11_2
                              try clear hfz14_0
                              try clear hfz14_1
                              try clear hfz14_2
                              try clear hfz23_0
                              try clear hfz23_1
                              try clear hfz23_2
                              try clear hfz23_3
                              try clear hfz25_0
                              try clear hfz25_1
                              try clear hfz25_2
                              try clear hfz25_3
                              try clear hfz27_0
                              try clear hfz27_1
                              try clear hfz27_2
                              try clear hfz27_3
                              try clear hfz29_0
                              try clear hfz29_1
                              try clear hfz29_2
                              try clear hfz29_3
                              try clear hfz36_0
                              try clear hfz36_1
                              try clear hfz36_2
                              try clear p2
                              obtain ⟨x9_7, x123000_7, x123001_7, x123002_7, x132003_7, u132003, rfl, HA, HK7, HO_5, HO_132003, BK131, HI122, HB⟩ := hrel
                              cases gk with
                              | zero => exact absurd HA.out (by simp [spec_l11Read.l1])
                              | succ k7 =>
                                have H := HA.out
                                clear HA
                                simp only [spec_l11Read.l1] at H
                                by_cases c37 : x9_7 > 0
                                · rw [if_pos c37] at H
                                  have c37b0 : decide (0 < x9_7) = true := decide_eq_true c37
                                  clear c37
                                  by_cases c38 : x123002_7 = true
                                  · subst c38
                                    rw [if_pos rfl] at H
                                    by_cases c39 : x5_3.length < 2513169434916
                                    · rw [if_pos c39] at H
                                      have LMc39 := AM c39
                                      clear c39
                                      obtain ⟨y148, hy148⟩ : ∃ y_ : List (S74), y_ = (x5_3 ++ [(⟨t132, (t136 == 1), t140, x132003_7⟩ : S74)]) := ⟨_, rfl⟩
                                      replace H : (spec_l11Read.l0 k7 a0 y148 (wrap64 (x6_3 - 1)) x123000_7 x123001_7 true) = some (r1, r2) := by first | (rw [hy148]; with_reducible exact H) | (have H2_ := (Option.bind_some _ _).symm.trans H; rw [hy148]; with_reducible exact H2_) | (have H2_ := (Option.bind_some _ _).symm.trans H; with_reducible exact H2_) | with_reducible exact H | (rw [hy148]; exact H) | exact H
                                      have Ny148 := AM hy148
                                      clear hy148
                                      have H' := AM H
                                      clear H
                                      obtain ⟨HGz40, hgz40⟩ := HI122.out
                                      have hcz40_0 := cellS128_0 HGz40
                                      have hcz40_1 := cellS128_1 HGz40
                                      have hcz40_2 := cellS128_2 HGz40
                                      have hfz40_0 := blk_frozen HGz40 0
                                      have hfz40_1 := blk_frozen HGz40 1
                                      have hfz40_2 := blk_frozen HGz40 2
                                      clear HGz40 hgz40
                                      have hnb41 := NB131_122.out
                                      have hnc41 := NB122_131.out
                                      have hcz42_0 : wr.cell? ⟨gb131, 0, none⟩ = some (.string t132) := (blk_cell BK131.out 0).trans rfl
                                      have hcz42_1 : wr.cell? ⟨gb131, 1, none⟩ = some (.bool (t136 == 1)) := (blk_cell BK131.out 1).trans rfl
                                      have hcz42_2 : wr.cell? ⟨gb131, 2, none⟩ = some (.int .i64 t140) := (blk_cell BK131.out 2).trans rfl
                                      have hcz42_3 : wr.cell? ⟨gb131, 3, none⟩ = some (u132003) := (blk_cell BK131.out 3).trans rfl
                                      have hfz42_0 := blk_frozen BK131.out 0
                                      have hfz42_1 := blk_frozen BK131.out 1
                                      have hfz42_2 := blk_frozen BK131.out 2
                                      have hfz42_3 := blk_frozen BK131.out 3
                                      obtain ⟨Ao44, co44, eo44⟩ := Kd.R_slice HO_132003.out
                                      subst eo44
                                      go_wp2_with (first | ((with_reducible refine gate_builtin (b := .append) (xs := #[.tmp 85, .tmp 87]) rfl ?_); (try (refine gate_guard (by rfl) ?_; dsimp only)); at_builtin; refine Kd.S_append k74 (w0 := w) w.heap.size rfl (.tmp 85) (.tmp 87) 32 74 (.agg #[(.string ⟨#[]⟩), (.bool false), (.int .i64 0), (.slice none 0 0)]) 56 rfl Try.underlying32 info74 rfl (by decide) (by omega) u5 x5_3 (⟨t132, (t136 == 1), t140, x132003_7⟩ : S74) [.string t132, .bool (t136 == 1), .int .i64 t140, .slice Ao44 x132003_7.length co44] (fun k_ => k_ ≠ gb131) (fun k_ => some k_ = (.slice Ao44 x132003_7.length co44 : Value).ownBlock) rfl rfl ?aP (fun k_ hk_ => ((Kd.R_mono (ok' := fun k_ => ((fun k_ => k_ ≠ gb131)) k_ ∧ some k_ ≠ (u5 : Value).ownBlock) (Kd.R_types (Kd.R_apart' (HO_132003.out) (Kd.S_typed HO_5.out) (by decide)) BK131.out (by decide)) (fun k_ hk => ⟨hk.2, hk.1.2⟩))).1 k_ hk_.symm) ?aF ?aO ?aB ?aS ?aL ?_; (case aP => exact k74_mkM _ _ _ (⟨t132, (t136 == 1), t140, x132003_7⟩ : S74) (Kd.R_mono (Kd.R_tight rfl (Kd.R_mono (ok' := fun k_ => ((fun k_ => k_ ≠ gb131)) k_ ∧ some k_ ≠ (u5 : Value).ownBlock) (Kd.R_types (Kd.R_apart' (HO_132003.out) (Kd.S_typed HO_5.out) (by decide)) BK131.out (by decide)) (fun k_ hk => ⟨hk.2, hk.1.2⟩))) (fun _ h_ => h_))); (case aB => exact (belg_ (IsS128.ge HI122.out))); (case aF => exact (fun k_ hk => Kd.freshB (g := gb131) (o := .cells #[.string t132, .bool (t136 == 1), .int .i64 t140, .slice Ao44 x132003_7.length co44] 74 (0, 0)) (bk_ BK131.out) k_ hk)); (case aO => exact (by (with_reducible repeat (first | apply Kd.S_alloc | apply Kd.S_drewN | apply Kd.S_drew)); exact Kd.S_mono HO_5.out (fun k_ hk => ⟨hk.2, fun e_ => hk.1 e_⟩))); (case aS => exact (below_size (belg_ (IsS128.ge HI122.out)))); (case aL => have := LMc39.out; omega); intro v149 w43 ho hb hg hat; rw [← Ny148.out] at ho; have n0_ := AM (blk_grown (g := gb131) (o := .cells #[.string t132, .bool (t136 == 1), .int .i64 t140, .slice Ao44 x132003_7.length co44] 74 (0, 0)) (bk_ BK131.out) hg (Kd.S_away HO_5.out (fun _ hk => hk.2))); have n1_ := AM (IsS128.grown is128_ hg (IsS128.own_neS HI122.out HO_5.out (by decide))); have n2_ := AM hb; have n3_ := AM ho; clear BK131; clear HI122; clear HB; clear HO_5; clear HO_132003; have BK131 := n0_; have HI122 := n1_; have HB := n2_; have HO150 := n3_; clear n0_ n1_ n2_ n3_; clear ho hb hg hat))
                                      go_roundg k7
                                      case measure => have := HJ2.out; have := HJ8.out; have := HK3.out; have := HJ11.out; have := HJ19.out; have := HJ33.out; have := HK7.out; omega
                                      case rel => exact ⟨(y148), (wrap64 (x6_3 - 1)), (x123000_7), (x123001_7), (true), (by first | rfl | (simp; done) | (simp [*]; done)), H', ⟨by have := HJ2.out; have := HJ8.out; have := HK3.out; have := HJ11.out; have := HJ19.out; have := HJ33.out; have := HK7.out; omega⟩, ⟨by (with_reducible repeat (first | apply Kd.S_alloc | apply Kd.S_drewN | apply Kd.S_drew)); exact Kd.S_mono HO150.out (fun _ hk => trivial)⟩, ⟨is128_⟩, ⟨belg_ (IsS128.ge HI122.out)⟩⟩
                                    · rw [if_neg c39] at H
                                      exact absurd H (by simp)
                                  · replace c38 := Bool.eq_false_iff.mpr c38
                                    subst c38
                                    rw [if_neg (show ¬ (false = true) by decide)] at H
                                    obtain ⟨⟨t151, t152, t153, t154⟩, A45, H⟩ := OB H
                                    try dsimp only at H
                                    replace A45 := AM A45
                                    by_cases c46 : x132003_7.length < 8796093022208
                                    · rw [if_pos c46] at H
                                      have LMc46 := AM c46
                                      clear c46
                                      obtain ⟨y155, hy155⟩ : ∃ y_ : List ByteArray, y_ = (x132003_7 ++ [t151]) := ⟨_, rfl⟩
                                      replace H : (spec_l11Read.l1 k7 a0 x5_3 x6_3 (wrap64 (x9_7 - 1)) t152 t153 t154 t132 (t136 == 1) t140 y155) = some (r1, r2) := by first | (rw [hy155]; with_reducible exact H) | (have H2_ := (Option.bind_some _ _).symm.trans H; rw [hy155]; with_reducible exact H2_) | (have H2_ := (Option.bind_some _ _).symm.trans H; with_reducible exact H2_) | with_reducible exact H | (rw [hy155]; exact H) | exact H
                                      have Ny155 := AM hy155
                                      clear hy155
                                      have H' := AM H
                                      clear H
                                      obtain ⟨HGz47, hgz47⟩ := HI122.out
                                      have hcz47_0 := cellS128_0 HGz47
                                      have hcz47_1 := cellS128_1 HGz47
                                      have hcz47_2 := cellS128_2 HGz47
                                      have hfz47_0 := blk_frozen HGz47 0
                                      have hfz47_1 := blk_frozen HGz47 1
                                      have hfz47_2 := blk_frozen HGz47 2
                                      clear HGz47 hgz47
                                      try go_wp2
                                      replace HO_5 := AM (Kd.S_drew HO_5.out)
                                      replace HO_132003 := AM (Kd.R_drew HO_132003.out)
                                      replace BK131 := AM (blk_drew BK131.out)
                                      replace HI122 := AM (IsS128.drew HI122.out)
                                      replace HB := AM (below_drew1 HB.out)
                                      refine start_ (n := 8) (S := fun w' => w'.cell? ⟨gb131, 0, none⟩ = some (.string t132) ∧ w'.cell? ⟨gb131, 1, none⟩ = some (.bool (t136 == 1)) ∧ w'.cell? ⟨gb131, 2, none⟩ = some (.int .i64 t140) ∧ w'.cell? ⟨gb131, 3, none⟩ = some (u132003)) (ds := [7]) #[false, false, false, false, false, false, false, false] (by kernel_rfl) rfl rfl ⟨(blk_cell BK131.out 0).trans rfl, (blk_cell BK131.out 1).trans rfl, (blk_cell BK131.out 2).trans rfl, (blk_cell BK131.out 3).trans rfl⟩ (fun hHeld => ?_); refine with_tabW spec_l11Read.tab18 spec_l11Read.bits18 (fun HT_ HW_ => ?_)
                                      generalize wr.drew = w48 at HO_5 HO_132003 BK131 HI122 HB hHeld ⊢
                                      refine pu_ HT_ 0 (some 78) #[true, false, false, false, false, false, false, false] ?_
                                      refine pu_ HT_ 2 (some 80) #[true, false, true, false, false, false, false, false] ?_
                                      refine ta_ HT_ HW_ 1 (some 79) #[true, true, true, false, false, false, false, false] hHeld ?_
                                      refine on_ HT_ 3 (some 81) #[true, true, true, true, false, false, false, false] (fun K hK => ?_)
                                      refine go1_ Try.func107 #[.pointer (some ⟨gb122, 0, none⟩), .int .i64 32] ?_
                                      with_reducible refine (spec_l10Reader_bytes.calls gb122 x123000_7 x123001_7 false 32 t151 t152 t153 t154 w _ ?side1 ?side2 A45.out).mono ?_
                                      (case side1 => repeat (first | (with_reducible first | exact HI122.out | apply IsS128.alloc | apply IsS128.drewN | apply IsS128.drew | apply IsS128.set_0 | apply IsS128.set_1 | apply IsS128.set_2 | refine IsS128.far ?_ NB122_131.out _) | exact HI122.out))
                                      (case side2 => repeat (first | (with_reducible first | exact HB.out | apply below_alloc | apply pw_below_drewN | apply below_drew1 | refine below_set ?_ (IsS128.ge HI122.out) | refine below_set ?_ GE131.out) | exact HB.out))
                                      rintro e w49 ⟨rfl, hi, hb, hk⟩
                                      refine ⟨_, rfl, ?_⟩
                                      replace HO_5 := AM (Kd.S_mono (Kd.S_keep (IsS128.apartS (show IsS128 w _ gb122 x123000_7 x123001_7 false from is128_) (by (with_reducible repeat (first | apply Kd.S_alloc | apply Kd.S_drewN | apply Kd.S_drew)); exact HO_5.out) (by decide)) hk (fun _ h => h.2)) (fun _ h => h.1))
                                      replace HO_132003 := AM (Kd.R_mono (Kd.R_keep (IsS128.apart (show IsS128 w _ gb122 x123000_7 x123001_7 false from is128_) (ro_ HO_132003.out) (by decide)) hk (fun _ h => h.2)) (fun _ h => h.1))
                                      replace BK131 := AM (KeepBut.blk hk (g' := gb131) (o := .cells #[.string t132, .bool (t136 == 1), .int .i64 t140, u132003] 74 (0, 0)) (bk_ BK131.out) NB131_122.out (by simp))
                                      replace HB := AM hb
                                      replace HI122 := AM hi
                                      (try clear hb)
                                      (try clear hb2)
                                      (try clear hk)
                                      (try clear hi)
                                      refine hK.out _ _ ⟨(blk_cell BK131.out 0).trans rfl, (blk_cell BK131.out 1).trans rfl, (blk_cell BK131.out 2).trans rfl, (blk_cell BK131.out 3).trans rfl⟩ (fun hHeld => ?_)
                                      clear hK K
                                      refine nm_ ?_
                                      refine on_ HT_ 4 (some 82) #[true, true, true, true, true, false, false, false] (fun K hK => ?_)
                                      refine value_ (w1 := ?_) (v := ?_) (by rfl) rfl ?_ ?_
                                      rotate_left 2
                                      · go_simp
                                        constructor
                                        · rfl
                                        · rfl
                                      refine hK.out _ _ ⟨(blk_cell (blk_alloc BK131.out _) 0).trans rfl, (blk_cell (blk_alloc BK131.out _) 1).trans rfl, (blk_cell (blk_alloc BK131.out _) 2).trans rfl, (blk_cell (blk_alloc BK131.out _) 3).trans rfl⟩ (fun hHeld => ?_)
                                      clear hK K
                                      refine nm_ ?_
                                      refine on_ HT_ 5 (some 83) #[true, true, true, true, true, true, false, false] (fun K hK => ?_)
                                      refine Kd.R_append_step Kd.string (w0 := w) w.heap.size (by rfl) (.tmp 79) (.tmp 82) 54 9 (.string ⟨#[]⟩) 16 rfl Try.underlying54 info9 rfl (by decide) (by omega) u132003 x132003_7 t151 [.string t151] (fun _ => True) (fun _ => False) rfl rfl ?aP (fun _ hk => hk.elim) ?aF ?aO ?aB ?aS ?aL ?_
                                      (case aP => exact rfl)
                                      (case aB => exact (belg_ (IsS128.ge HI122.out)))
                                      (case aF => exact (fun _ _ => trivial))
                                      (case aO => exact (ro_ HO_132003.out))
                                      (case aS => exact (below_size (belg_ (IsS128.ge HI122.out))))
                                      (case aL => have := LMc46.out; omega)
                                      intro v156 w50 ho hb hg hat
                                      rw [← Ny155.out] at ho
                                      have n0_ := AM (Kd.S_after (ok := (fun k_ => k_ ≠ gb131)) (by (with_reducible repeat (first | apply Kd.S_alloc | apply Kd.S_drewN | apply Kd.S_drew)); exact Kd.S_mono HO_5.out (fun _ hk => ⟨hk.2, hk.1⟩)) hg hat)
                                      have n1_ := AM (blk_grown (g := gb131) (o := .cells #[.string t132, .bool (t136 == 1), .int .i64 t140, u132003] 74 (0, 0)) (bk_ BK131.out) hg (Kd.R_ne HO_132003.out BK131.out (by decide)))
                                      have n2_ := AM (IsS128.grown is128_ hg (IsS128.own_ne HI122.out HO_132003.out (by decide)))
                                      have n3_ := AM hb
                                      have n4_ := AM ho
                                      clear HO_5
                                      clear BK131
                                      clear HI122
                                      clear HB
                                      clear HO_132003
                                      have HO_5 := n0_
                                      have BK131 := n1_
                                      have HI122 := n2_
                                      have HB := n3_
                                      have HO157 := n4_
                                      clear n0_ n1_ n2_ n3_ n4_
                                      clear ho hb hg hat
                                      obtain ⟨Ao51, co51, eo51⟩ := Kd.R_slice HO157.out
                                      (first | subst eo51 | (injection eo51 with f1_ f2_ f3_; have f4_ := f1_.symm; have f5_ := f3_.symm; clear f1_ f2_ f3_; subst f4_; subst f5_))
                                      refine hK.out _ _ ⟨(blk_cell BK131.out 0).trans rfl, (blk_cell BK131.out 1).trans rfl, (blk_cell BK131.out 2).trans rfl, (blk_cell BK131.out 3).trans rfl⟩ (fun hHeld => ?_)
                                      clear hK K
                                      refine nm_ ?_
                                      refine pu_ HT_ 6 (some 84) #[true, true, true, true, true, true, true, false] ?_
                                      refine last_ (i := 7) (N := none) #[true, true, true, true, true, true, true, true] rfl rfl (one_of HT_.out (by kernel_rfl)) (by decide) (fun K hK => ?_)
                                      have hs52 : w50.cell? ⟨gb131, 3, none⟩ = some (u132003) := (blk_cell BK131.out 3).trans rfl
                                      have hfs52 := blk_frozen BK131.out 3
                                      refine sk_ ?_
                                      refine hK.out _ _ ?_
                                      clear hK K
                                      refine dn_ HT_ ?_
                                      try go_wp2
                                      go_roundg k7
                                      case measure => have := HJ2.out; have := HJ8.out; have := HK3.out; have := HJ11.out; have := HJ19.out; have := HJ33.out; have := HK7.out; omega
                                      case rel => exact ⟨(wrap64 (x9_7 - 1)), (t152), (t153), (t154), (y155), (.slice Ao51 y155.length co51), (by first | rfl | (simp; done) | (simp [*]; done)), H', ⟨by have := HJ2.out; have := HJ8.out; have := HK3.out; have := HJ11.out; have := HJ19.out; have := HJ33.out; have := HK7.out; omega⟩, ⟨by (with_reducible repeat (first | apply Kd.S_alloc | apply Kd.S_drewN | apply Kd.S_drew)); exact Kd.S_mono (Kd.S_far (p := ⟨gb131, 3, none⟩) (Kd.S_mono HO_5.out (fun k_ hk => (⟨hk, hk.1⟩ : _ ∧ k_ ≠ gb131))) (fun _ hk => hk.2) (.slice Ao51 y155.length co51)) (fun _ hk => ⟨hk.1.2, hk.1.1⟩)⟩, ⟨by (with_reducible repeat (first | apply Kd.R_alloc | apply Kd.R_drewN | apply Kd.R_drew)); exact Kd.R_mono (Kd.R_far (p := ⟨gb131, 3, none⟩) (Kd.R_types HO157.out BK131.out (by decide)) (fun _ hk => hk.2) (.slice Ao51 y155.length co51)) (fun _ hk => trivial)⟩, ⟨bka_⟩, ⟨is128_⟩, ⟨belg_ (IsS128.ge HI122.out)⟩⟩
                                    · rw [if_neg c46] at H
                                      exact absurd H (by simp)
                                · rw [if_neg c37] at H
                                  have c37b0 : decide (0 < x9_7) = false := decide_eq_false c37
                                  clear c37
                                  by_cases c53 : x5_3.length < 2513169434916
                                  · rw [if_pos c53] at H
                                    have LMc53 := AM c53
                                    clear c53
                                    obtain ⟨y158, hy158⟩ : ∃ y_ : List (S74), y_ = (x5_3 ++ [(⟨t132, (t136 == 1), t140, x132003_7⟩ : S74)]) := ⟨_, rfl⟩
                                    replace H : (spec_l11Read.l0 k7 a0 y158 (wrap64 (x6_3 - 1)) x123000_7 x123001_7 x123002_7) = some (r1, r2) := by first | (rw [hy158]; with_reducible exact H) | (have H2_ := (Option.bind_some _ _).symm.trans H; rw [hy158]; with_reducible exact H2_) | (have H2_ := (Option.bind_some _ _).symm.trans H; with_reducible exact H2_) | with_reducible exact H | (rw [hy158]; exact H) | exact H
                                    have Ny158 := AM hy158
                                    clear hy158
                                    have H' := AM H
                                    clear H
                                    have hnb54 := NB131_122.out
                                    have hnc54 := NB122_131.out
                                    have hcz55_0 : wr.cell? ⟨gb131, 0, none⟩ = some (.string t132) := (blk_cell BK131.out 0).trans rfl
                                    have hcz55_1 : wr.cell? ⟨gb131, 1, none⟩ = some (.bool (t136 == 1)) := (blk_cell BK131.out 1).trans rfl
                                    have hcz55_2 : wr.cell? ⟨gb131, 2, none⟩ = some (.int .i64 t140) := (blk_cell BK131.out 2).trans rfl
                                    have hcz55_3 : wr.cell? ⟨gb131, 3, none⟩ = some (u132003) := (blk_cell BK131.out 3).trans rfl
                                    have hfz55_0 := blk_frozen BK131.out 0
                                    have hfz55_1 := blk_frozen BK131.out 1
                                    have hfz55_2 := blk_frozen BK131.out 2
                                    have hfz55_3 := blk_frozen BK131.out 3
                                    obtain ⟨Ao57, co57, eo57⟩ := Kd.R_slice HO_132003.out
                                    subst eo57
                                    go_wp2_with (first | ((with_reducible refine gate_builtin (b := .append) (xs := #[.tmp 85, .tmp 87]) rfl ?_); (try (refine gate_guard (by rfl) ?_; dsimp only)); at_builtin; refine Kd.S_append k74 (w0 := w) w.heap.size rfl (.tmp 85) (.tmp 87) 32 74 (.agg #[(.string ⟨#[]⟩), (.bool false), (.int .i64 0), (.slice none 0 0)]) 56 rfl Try.underlying32 info74 rfl (by decide) (by omega) u5 x5_3 (⟨t132, (t136 == 1), t140, x132003_7⟩ : S74) [.string t132, .bool (t136 == 1), .int .i64 t140, .slice Ao57 x132003_7.length co57] (fun k_ => k_ ≠ gb131) (fun k_ => some k_ = (.slice Ao57 x132003_7.length co57 : Value).ownBlock) rfl rfl ?aP (fun k_ hk_ => ((Kd.R_mono (ok' := fun k_ => ((fun k_ => k_ ≠ gb131)) k_ ∧ some k_ ≠ (u5 : Value).ownBlock) (Kd.R_types (Kd.R_apart' (HO_132003.out) (Kd.S_typed HO_5.out) (by decide)) BK131.out (by decide)) (fun k_ hk => ⟨hk.2, hk.1.2⟩))).1 k_ hk_.symm) ?aF ?aO ?aB ?aS ?aL ?_; (case aP => exact k74_mkM _ _ _ (⟨t132, (t136 == 1), t140, x132003_7⟩ : S74) (Kd.R_mono (Kd.R_tight rfl (Kd.R_mono (ok' := fun k_ => ((fun k_ => k_ ≠ gb131)) k_ ∧ some k_ ≠ (u5 : Value).ownBlock) (Kd.R_types (Kd.R_apart' (HO_132003.out) (Kd.S_typed HO_5.out) (by decide)) BK131.out (by decide)) (fun k_ hk => ⟨hk.2, hk.1.2⟩))) (fun _ h_ => h_))); (case aB => exact (belg_ (IsS128.ge HI122.out))); (case aF => exact (fun k_ hk => Kd.freshB (g := gb131) (o := .cells #[.string t132, .bool (t136 == 1), .int .i64 t140, .slice Ao57 x132003_7.length co57] 74 (0, 0)) (bk_ BK131.out) k_ hk)); (case aO => exact (by (with_reducible repeat (first | apply Kd.S_alloc | apply Kd.S_drewN | apply Kd.S_drew)); exact Kd.S_mono HO_5.out (fun k_ hk => ⟨hk.2, fun e_ => hk.1 e_⟩))); (case aS => exact (below_size (belg_ (IsS128.ge HI122.out)))); (case aL => have := LMc53.out; omega); intro v159 w56 ho hb hg hat; rw [← Ny158.out] at ho; have n0_ := AM (blk_grown (g := gb131) (o := .cells #[.string t132, .bool (t136 == 1), .int .i64 t140, .slice Ao57 x132003_7.length co57] 74 (0, 0)) (bk_ BK131.out) hg (Kd.S_away HO_5.out (fun _ hk => hk.2))); have n1_ := AM (IsS128.grown is128_ hg (IsS128.own_neS HI122.out HO_5.out (by decide))); have n2_ := AM hb; have n3_ := AM ho; clear BK131; clear HI122; clear HB; clear HO_5; clear HO_132003; have BK131 := n0_; have HI122 := n1_; have HB := n2_; have HO160 := n3_; clear n0_ n1_ n2_ n3_; clear ho hb hg hat))
                                    go_roundg k7
                                    case measure => have := HJ2.out; have := HJ8.out; have := HK3.out; have := HJ11.out; have := HJ19.out; have := HJ33.out; have := HK7.out; omega
                                    case rel => exact ⟨(y158), (wrap64 (x6_3 - 1)), (x123000_7), (x123001_7), (x123002_7), (by first | rfl | (simp; done) | (simp [*]; done)), H', ⟨by have := HJ2.out; have := HJ8.out; have := HK3.out; have := HJ11.out; have := HJ19.out; have := HJ33.out; have := HK7.out; omega⟩, ⟨by (with_reducible repeat (first | apply Kd.S_alloc | apply Kd.S_drewN | apply Kd.S_drew)); exact Kd.S_mono HO160.out (fun _ hk => trivial)⟩, ⟨is128_⟩, ⟨belg_ (IsS128.ge HI122.out)⟩⟩
                                  · rw [if_neg c53] at H
                                    exact absurd H (by simp)
                  · replace c15 := Bool.eq_false_iff.mpr c15
                    subst c15
                    rw [if_neg (show ¬ (false = true) by decide)] at H
                    by_cases c58 : x123002_3 = true
                    · subst c58
                      rw [if_pos rfl] at H
                      simp only [Option.some.injEq, Prod.mk.injEq] at H
                      obtain ⟨rfl, rfl⟩ := H
                      obtain ⟨HGz59, hgz59⟩ := HI122.out
                      have hcz59_0 := cellS128_0 HGz59
                      have hcz59_1 := cellS128_1 HGz59
                      have hcz59_2 := cellS128_2 HGz59
                      have hfz59_0 := blk_frozen HGz59 0
                      have hfz59_1 := blk_frozen HGz59 1
                      have hfz59_2 := blk_frozen HGz59 2
                      clear HGz59 hgz59
                      go_wp2
                      go_ret2
                      exact ⟨_, ri_, by (with_reducible repeat (first | apply Kd.S_alloc | apply Kd.S_drewN | apply Kd.S_drew)); exact HO_5.out, belg_ (IsS128.ge HI122.out)⟩
                    · replace c58 := Bool.eq_false_iff.mpr c58
                      subst c58
                      rw [if_neg (show ¬ (false = true) by decide)] at H
                      by_cases c60 : x123001_3 = (a0.size : Int)
                      · rw [if_pos c60] at H
                        have c60b0 : (x123001_3 == (a0.size : Int)) = true := beq_iff_eq.mpr c60
                        have c60b1 : (x123001_3 != (a0.size : Int)) = false := bne_eq_false_iff_eq.mpr c60
                        clear c60
                        obtain ⟨t130, A61, H⟩ := OB H
                        try dsimp only at H
                        replace A61 := AM A61
                        simp only [Option.some.injEq, Prod.mk.injEq] at H
                        obtain ⟨rfl, rfl⟩ := H
                        obtain ⟨HGz62, hgz62⟩ := HI122.out
                        have hcz62_0 := cellS128_0 HGz62
                        have hcz62_1 := cellS128_1 HGz62
                        have hcz62_2 := cellS128_2 HGz62
                        have hfz62_0 := blk_frozen HGz62 0
                        have hfz62_1 := blk_frozen HGz62 1
                        have hfz62_2 := blk_frozen HGz62 2
                        clear HGz62 hgz62
                        obtain ⟨Ao63, co63, eo63⟩ := Kd.S_slice HO_5.out
                        subst eo63
                        go_wp2_with (first | (go_at_call 48; (with_reducible refine (spec_NodesRight.calls kj11 _ _ x5_3 t130 _ ?side1 ?side2 A61.out).mono ?_); (case side1 => repeat (first | exact (Kd.S_reads' HO_5.out).2.2 | (with_reducible refine Kd.C_alloc ?_ _) | (with_reducible refine Kd.C_drewN ?_ _) | (with_reducible refine Kd.C_drew ?_))); (case side2 => exact (Kd.S_reads' HO_5.out).2.1); rintro e w64 ⟨rfl, hb⟩; replace HO_5 := AM (Kd.S_below (by (with_reducible repeat (first | apply Kd.S_alloc | apply Kd.S_drewN | apply Kd.S_drew)); exact HO_5.out) hb); replace HB := AM (below_step (belg_ (IsS128.ge HI122.out)) hb); replace HI122 := AM (IsS128.below is128_ hb); (try clear hb); (try clear hb2); (try clear hk); (try clear hi)))
                        go_ret2
                        exact ⟨_, ri_, by (with_reducible repeat (first | apply Kd.S_alloc | apply Kd.S_drewN | apply Kd.S_drew)); exact HO_5.out, belg_ (IsS128.ge HI122.out)⟩
                      · rw [if_neg c60] at H
                        have c60b0 : (x123001_3 == (a0.size : Int)) = false := beq_eq_false_iff_ne.mpr c60
                        have c60b1 : (x123001_3 != (a0.size : Int)) = true := bne_iff_ne.mpr c60
                        simp only [Option.some.injEq, Prod.mk.injEq] at H
                        obtain ⟨rfl, rfl⟩ := H
                        obtain ⟨HGz65, hgz65⟩ := HI122.out
                        have hcz65_0 := cellS128_0 HGz65
                        have hcz65_1 := cellS128_1 HGz65
                        have hcz65_2 := cellS128_2 HGz65
                        have hfz65_0 := blk_frozen HGz65 0
                        have hfz65_1 := blk_frozen HGz65 1
                        have hfz65_2 := blk_frozen HGz65 2
                        clear HGz65 hgz65
                        go_wp2
                        go_ret2
                        exact ⟨_, ri_, by (with_reducible repeat (first | apply Kd.S_alloc | apply Kd.S_drewN | apply Kd.S_drew)); exact HO_5.out, belg_ (IsS128.ge HI122.out)⟩

end Go.Proofs.Ytggbpjfgfenpdaa.PFnExactNodesRead
