-- printed by a program of this session (wip/tools/pp.py) that runs the kit's printer over contracts proved by hand
import Derived.Test.YthdnaliahdohhaaDx0
import Derived.Test.YthdnaliahdohhaaDx2
import Derived.Test.YthdnaliahdohhaaDx3
import Derived.Test.YthdnaliahdohhaaHDcodeCheck
namespace Go.Proofs.Ythdnaliahdohhaa.D
open Go.RowKit Go.Proofs.YthdnaliahdohhaaW.PrintWords Go.Proofs.YthdnaliahdohhaaW.PrintLast Go.Proofs.YthdnaliahdohhaaW.PrintMore
attribute [local go_sem] max2_int min2_int max_two min_two max_three min_three max_four min_four   -- for this text's walks alone
set_option linter.unusedVariables false
set_option linter.unusedSimpArgs false

/-! ### prolixlaw18_CodeSkips: function 5 -/
mutual
def prolixlaw18_CodeSkips.j0 : Nat → Bool → ByteArray → Int → Int → Int → List (S89) → ByteArray → Int → Int → Int → List (S89) → Option (Bool)
  | 0, _, _, _, _, _, _, _, _, _, _, _ => none
  | k + 1, x22, x136000, x136001, x136002, x136003, x136004, x137000, x137001, x137002, x137003, x137004 => if x22 = true then (some true) else ((prolixlaw18_To.f k x136000 x136001 x136002 x136003 x136004).bind fun bt138 => ((prolixlaw18_To.f k x137000 x137001 x137002 x137003 x137004).bind fun bt145 => ((code_Check.f k bt138.1 bt138.2.1 bt138.2.2.1 bt138.2.2.2.1 bt138.2.2.2.2).bind fun t154 => (if t154 = 0 then ((code_Check.f k bt145.1 bt145.2.1 bt145.2.2.1 bt145.2.2.2.1 bt145.2.2.2.2).bind fun t155 => (prolixlaw18_CodeSkips.j1 k (t155 != 0) bt138.1 bt138.2.1 bt138.2.2.1 bt138.2.2.2.1 bt138.2.2.2.2 bt145.1 bt145.2.1 bt145.2.2.1 bt145.2.2.2.1 bt145.2.2.2.2)) else (prolixlaw18_CodeSkips.j1 k true bt138.1 bt138.2.1 bt138.2.2.1 bt138.2.2.2.1 bt138.2.2.2.2 bt145.1 bt145.2.1 bt145.2.2.1 bt145.2.2.2.1 bt145.2.2.2.2)))))
def prolixlaw18_CodeSkips.j1 : Nat → Bool → ByteArray → Int → Int → Int → List (S39) → ByteArray → Int → Int → Int → List (S39) → Option (Bool)
  | 0, _, _, _, _, _, _, _, _, _, _, _ => none
  | k + 1, x34, x153000, x153001, x153002, x153003, x153004, x154000, x154001, x154002, x154003, x154004 => if x34 = true then (some true) else ((some (([] : List (S39)) : List (S39))).bind fun y156 => (if y156.length + x153004.length < 3518437208883 then ((some (y156 ++ x153004 : List (S39))).bind fun y159 => (if y159.length + x154004.length < 3518437208883 then ((some (y159 ++ x154004 : List (S39))).bind fun y162 => ((code_Skip.f k y162 x153003).bind fun t165 => (if t165 = (x153004.length : Int) then ((code_Skip.f k y162 (wrap64 ((x153004.length : Int) + x154003))).bind fun t166 => (prolixlaw18_CodeSkips.j2 k (x153004.length : Int) y162 (t166 != (wrap64 ((x153004.length : Int) + (x154004.length : Int)))) x154000 x154001 x154002 x154003 x154004)) else (prolixlaw18_CodeSkips.j2 k (x153004.length : Int) y162 true x154000 x154001 x154002 x154003 x154004)))) else (none))) else (none)))
def prolixlaw18_CodeSkips.j2 : Nat → Int → List (S39) → Bool → ByteArray → Int → Int → Int → List (S39) → Option (Bool)
  | 0, _, _, _, _, _, _, _, _ => none
  | k + 1, x7, x8, x64, x154000, x154001, x154002, x154003, x154004 => if x64 = true then (none) else (prolixlaw18_CodeSkips.l0 k x7 x8 (x154004.length : Int) 0 x154000 x154001 x154002 x154003 x154004)
def prolixlaw18_CodeSkips.l0 : Nat → Int → List (S39) → Int → Int → ByteArray → Int → Int → Int → List (S39) → Option (Bool)
  | 0, _, _, _, _, _, _, _, _, _ => none
  | k + 1, x7, x8, x67, x68, x154000, x154001, x154002, x154003, x154004 => if x68 < x67 then ((code_Skip.f k x154004 x68).bind fun t167 => (if t167 ≤ x68 then (prolixlaw18_CodeSkips.j4 k x7 x8 x67 x68 true x154000 x154001 x154002 x154003 x154004) else (if t167 > (x154004.length : Int) then (prolixlaw18_CodeSkips.j4 k x7 x8 x67 x68 true x154000 x154001 x154002 x154003 x154004) else ((code_Skip.f k x8 (wrap64 (x7 + x68))).bind fun t168 => (prolixlaw18_CodeSkips.j4 k x7 x8 x67 x68 (t168 != (wrap64 (x7 + t167))) x154000 x154001 x154002 x154003 x154004))))) else (some true)
def prolixlaw18_CodeSkips.j4 : Nat → Int → List (S39) → Int → Int → Bool → ByteArray → Int → Int → Int → List (S39) → Option (Bool)
  | 0, _, _, _, _, _, _, _, _, _, _ => none
  | k + 1, x7, x8, x67, x68, x95, x154000, x154001, x154002, x154003, x154004 => if x95 = true then (none) else (prolixlaw18_CodeSkips.l0 k x7 x8 x67 (wrap64 (x68 + 1)) x154000 x154001 x154002 x154003 x154004)
end
def prolixlaw18_CodeSkips.f (k : Nat) (a0_0 : ByteArray) (a0_1 : Int) (a0_2 : Int) (a0_3 : Int) (l0_4 : List (S89)) (a1_0 : ByteArray) (a1_1 : Int) (a1_2 : Int) (a1_3 : Int) (l1_4 : List (S89)) : Option (Bool) := (prolixlaw18_alive.f k).bind fun t137 => (if t137 = true then (if (l0_4.length : Int) > 500 then (prolixlaw18_CodeSkips.j0 k true a0_0 a0_1 a0_2 a0_3 l0_4 a1_0 a1_1 a1_2 a1_3 l1_4) else (prolixlaw18_CodeSkips.j0 k (decide ((l1_4.length : Int) > 500)) a0_0 a0_1 a0_2 a0_3 l0_4 a1_0 a1_1 a1_2 a1_3 l1_4)) else (none))
theorem prolixlaw18_CodeSkips.mono_l : ∀ k, (∀ y0 y1 y2 y3 y4 y5 y6 y7 y8 y9 y10, LeO (prolixlaw18_CodeSkips.j0 k y0 y1 y2 y3 y4 y5 y6 y7 y8 y9 y10) (prolixlaw18_CodeSkips.j0 (k + 1) y0 y1 y2 y3 y4 y5 y6 y7 y8 y9 y10)) ∧ (∀ y0 y1 y2 y3 y4 y5 y6 y7 y8 y9 y10, LeO (prolixlaw18_CodeSkips.j1 k y0 y1 y2 y3 y4 y5 y6 y7 y8 y9 y10) (prolixlaw18_CodeSkips.j1 (k + 1) y0 y1 y2 y3 y4 y5 y6 y7 y8 y9 y10)) ∧ (∀ y0 y1 y2 y3 y4 y5 y6 y7, LeO (prolixlaw18_CodeSkips.j2 k y0 y1 y2 y3 y4 y5 y6 y7) (prolixlaw18_CodeSkips.j2 (k + 1) y0 y1 y2 y3 y4 y5 y6 y7)) ∧ (∀ y0 y1 y2 y3 y4 y5 y6 y7 y8, LeO (prolixlaw18_CodeSkips.l0 k y0 y1 y2 y3 y4 y5 y6 y7 y8) (prolixlaw18_CodeSkips.l0 (k + 1) y0 y1 y2 y3 y4 y5 y6 y7 y8)) ∧ (∀ y0 y1 y2 y3 y4 y5 y6 y7 y8 y9, LeO (prolixlaw18_CodeSkips.j4 k y0 y1 y2 y3 y4 y5 y6 y7 y8 y9) (prolixlaw18_CodeSkips.j4 (k + 1) y0 y1 y2 y3 y4 y5 y6 y7 y8 y9))
  | 0 => ⟨fun _ _ _ _ _ _ _ _ _ _ _ r h => by simp [prolixlaw18_CodeSkips.j0] at h, fun _ _ _ _ _ _ _ _ _ _ _ r h => by simp [prolixlaw18_CodeSkips.j1] at h, fun _ _ _ _ _ _ _ _ r h => by simp [prolixlaw18_CodeSkips.j2] at h, fun _ _ _ _ _ _ _ _ _ r h => by simp [prolixlaw18_CodeSkips.l0] at h, fun _ _ _ _ _ _ _ _ _ _ r h => by simp [prolixlaw18_CodeSkips.j4] at h⟩
  | k + 1 => by
    obtain ⟨ih0, ih1, ih2, ih3, ih4⟩ := prolixlaw18_CodeSkips.mono_l k
    refine ⟨?_, ?_, ?_, ?_, ?_⟩
    · intro y0 y1 y2 y3 y4 y5 y6 y7 y8 y9 y10
      unfold prolixlaw18_CodeSkips.j0
      repeat' first
      | (with_reducible exact ih0 _ _ _ _ _ _ _ _ _ _ _)
      | (with_reducible exact ih1 _ _ _ _ _ _ _ _ _ _ _)
      | (with_reducible exact ih2 _ _ _ _ _ _ _ _)
      | (with_reducible exact ih3 _ _ _ _ _ _ _ _ _)
      | (with_reducible exact ih4 _ _ _ _ _ _ _ _ _ _)
      | (with_reducible exact code_Check.mono _ _ _ _ _ _)
      | (with_reducible exact code_Skip.mono _ _ _)
      | (with_reducible exact prolixlaw18_To.mono _ _ _ _ _ _)
      | (with_reducible exact prolixlaw18_alive.mono _)
      | (with_reducible exact LeO.refl _)
      | (with_reducible exact LeO.none _)
      | (with_reducible refine LeO.ite ?_ ?_)
      | (with_reducible refine LeO.bind ?_ (fun _ => ?_))
      | exact ih0 _ _ _ _ _ _ _ _ _ _ _
      | exact ih1 _ _ _ _ _ _ _ _ _ _ _
      | exact ih2 _ _ _ _ _ _ _ _
      | exact ih3 _ _ _ _ _ _ _ _ _
      | exact ih4 _ _ _ _ _ _ _ _ _ _
      | exact code_Check.mono _ _ _ _ _ _
      | exact code_Skip.mono _ _ _
      | exact prolixlaw18_To.mono _ _ _ _ _ _
      | exact prolixlaw18_alive.mono _
      | exact LeO.none _
      | refine LeO.ite ?_ ?_
      | refine LeO.bind ?_ (fun _ => ?_)
    · intro y0 y1 y2 y3 y4 y5 y6 y7 y8 y9 y10
      unfold prolixlaw18_CodeSkips.j1
      repeat' first
      | (with_reducible exact ih0 _ _ _ _ _ _ _ _ _ _ _)
      | (with_reducible exact ih1 _ _ _ _ _ _ _ _ _ _ _)
      | (with_reducible exact ih2 _ _ _ _ _ _ _ _)
      | (with_reducible exact ih3 _ _ _ _ _ _ _ _ _)
      | (with_reducible exact ih4 _ _ _ _ _ _ _ _ _ _)
      | (with_reducible exact code_Check.mono _ _ _ _ _ _)
      | (with_reducible exact code_Skip.mono _ _ _)
      | (with_reducible exact prolixlaw18_To.mono _ _ _ _ _ _)
      | (with_reducible exact prolixlaw18_alive.mono _)
      | (with_reducible exact LeO.refl _)
      | (with_reducible exact LeO.none _)
      | (with_reducible refine LeO.ite ?_ ?_)
      | (with_reducible refine LeO.bind ?_ (fun _ => ?_))
      | exact ih0 _ _ _ _ _ _ _ _ _ _ _
      | exact ih1 _ _ _ _ _ _ _ _ _ _ _
      | exact ih2 _ _ _ _ _ _ _ _
      | exact ih3 _ _ _ _ _ _ _ _ _
      | exact ih4 _ _ _ _ _ _ _ _ _ _
      | exact code_Check.mono _ _ _ _ _ _
      | exact code_Skip.mono _ _ _
      | exact prolixlaw18_To.mono _ _ _ _ _ _
      | exact prolixlaw18_alive.mono _
      | exact LeO.none _
      | refine LeO.ite ?_ ?_
      | refine LeO.bind ?_ (fun _ => ?_)
    · intro y0 y1 y2 y3 y4 y5 y6 y7
      unfold prolixlaw18_CodeSkips.j2
      repeat' first
      | (with_reducible exact ih0 _ _ _ _ _ _ _ _ _ _ _)
      | (with_reducible exact ih1 _ _ _ _ _ _ _ _ _ _ _)
      | (with_reducible exact ih2 _ _ _ _ _ _ _ _)
      | (with_reducible exact ih3 _ _ _ _ _ _ _ _ _)
      | (with_reducible exact ih4 _ _ _ _ _ _ _ _ _ _)
      | (with_reducible exact code_Check.mono _ _ _ _ _ _)
      | (with_reducible exact code_Skip.mono _ _ _)
      | (with_reducible exact prolixlaw18_To.mono _ _ _ _ _ _)
      | (with_reducible exact prolixlaw18_alive.mono _)
      | (with_reducible exact LeO.refl _)
      | (with_reducible exact LeO.none _)
      | (with_reducible refine LeO.ite ?_ ?_)
      | (with_reducible refine LeO.bind ?_ (fun _ => ?_))
      | exact ih0 _ _ _ _ _ _ _ _ _ _ _
      | exact ih1 _ _ _ _ _ _ _ _ _ _ _
      | exact ih2 _ _ _ _ _ _ _ _
      | exact ih3 _ _ _ _ _ _ _ _ _
      | exact ih4 _ _ _ _ _ _ _ _ _ _
      | exact code_Check.mono _ _ _ _ _ _
      | exact code_Skip.mono _ _ _
      | exact prolixlaw18_To.mono _ _ _ _ _ _
      | exact prolixlaw18_alive.mono _
      | exact LeO.none _
      | refine LeO.ite ?_ ?_
      | refine LeO.bind ?_ (fun _ => ?_)
    · intro y0 y1 y2 y3 y4 y5 y6 y7 y8
      unfold prolixlaw18_CodeSkips.l0
      repeat' first
      | (with_reducible exact ih0 _ _ _ _ _ _ _ _ _ _ _)
      | (with_reducible exact ih1 _ _ _ _ _ _ _ _ _ _ _)
      | (with_reducible exact ih2 _ _ _ _ _ _ _ _)
      | (with_reducible exact ih3 _ _ _ _ _ _ _ _ _)
      | (with_reducible exact ih4 _ _ _ _ _ _ _ _ _ _)
      | (with_reducible exact code_Check.mono _ _ _ _ _ _)
      | (with_reducible exact code_Skip.mono _ _ _)
      | (with_reducible exact prolixlaw18_To.mono _ _ _ _ _ _)
      | (with_reducible exact prolixlaw18_alive.mono _)
      | (with_reducible exact LeO.refl _)
      | (with_reducible exact LeO.none _)
      | (with_reducible refine LeO.ite ?_ ?_)
      | (with_reducible refine LeO.bind ?_ (fun _ => ?_))
      | exact ih0 _ _ _ _ _ _ _ _ _ _ _
      | exact ih1 _ _ _ _ _ _ _ _ _ _ _
      | exact ih2 _ _ _ _ _ _ _ _
      | exact ih3 _ _ _ _ _ _ _ _ _
      | exact ih4 _ _ _ _ _ _ _ _ _ _
      | exact code_Check.mono _ _ _ _ _ _
      | exact code_Skip.mono _ _ _
      | exact prolixlaw18_To.mono _ _ _ _ _ _
      | exact prolixlaw18_alive.mono _
      | exact LeO.none _
      | refine LeO.ite ?_ ?_
      | refine LeO.bind ?_ (fun _ => ?_)
    · intro y0 y1 y2 y3 y4 y5 y6 y7 y8 y9
      unfold prolixlaw18_CodeSkips.j4
      repeat' first
      | (with_reducible exact ih0 _ _ _ _ _ _ _ _ _ _ _)
      | (with_reducible exact ih1 _ _ _ _ _ _ _ _ _ _ _)
      | (with_reducible exact ih2 _ _ _ _ _ _ _ _)
      | (with_reducible exact ih3 _ _ _ _ _ _ _ _ _)
      | (with_reducible exact ih4 _ _ _ _ _ _ _ _ _ _)
      | (with_reducible exact code_Check.mono _ _ _ _ _ _)
      | (with_reducible exact code_Skip.mono _ _ _)
      | (with_reducible exact prolixlaw18_To.mono _ _ _ _ _ _)
      | (with_reducible exact prolixlaw18_alive.mono _)
      | (with_reducible exact LeO.refl _)
      | (with_reducible exact LeO.none _)
      | (with_reducible refine LeO.ite ?_ ?_)
      | (with_reducible refine LeO.bind ?_ (fun _ => ?_))
      | exact ih0 _ _ _ _ _ _ _ _ _ _ _
      | exact ih1 _ _ _ _ _ _ _ _ _ _ _
      | exact ih2 _ _ _ _ _ _ _ _
      | exact ih3 _ _ _ _ _ _ _ _ _
      | exact ih4 _ _ _ _ _ _ _ _ _ _
      | exact code_Check.mono _ _ _ _ _ _
      | exact code_Skip.mono _ _ _
      | exact prolixlaw18_To.mono _ _ _ _ _ _
      | exact prolixlaw18_alive.mono _
      | exact LeO.none _
      | refine LeO.ite ?_ ?_
      | refine LeO.bind ?_ (fun _ => ?_)
theorem prolixlaw18_CodeSkips.mono : ∀ a0 a1 a2 a3 a4 a5 a6 a7 a8 a9 k, LeO (prolixlaw18_CodeSkips.f k a0 a1 a2 a3 a4 a5 a6 a7 a8 a9) (prolixlaw18_CodeSkips.f (k + 1) a0 a1 a2 a3 a4 a5 a6 a7 a8 a9) := by
  intro a0 a1 a2 a3 a4 a5 a6 a7 a8 a9 k
  obtain ⟨ih0, ih1, ih2, ih3, ih4⟩ := prolixlaw18_CodeSkips.mono_l k
  unfold prolixlaw18_CodeSkips.f
  repeat' first
      | (with_reducible exact ih0 _ _ _ _ _ _ _ _ _ _ _)
      | (with_reducible exact ih1 _ _ _ _ _ _ _ _ _ _ _)
      | (with_reducible exact ih2 _ _ _ _ _ _ _ _)
      | (with_reducible exact ih3 _ _ _ _ _ _ _ _ _)
      | (with_reducible exact ih4 _ _ _ _ _ _ _ _ _ _)
      | (with_reducible exact code_Check.mono _ _ _ _ _ _)
      | (with_reducible exact code_Skip.mono _ _ _)
      | (with_reducible exact prolixlaw18_To.mono _ _ _ _ _ _)
      | (with_reducible exact prolixlaw18_alive.mono _)
      | (with_reducible exact LeO.refl _)
      | (with_reducible exact LeO.none _)
      | (with_reducible refine LeO.ite ?_ ?_)
      | (with_reducible refine LeO.bind ?_ (fun _ => ?_))
      | exact ih0 _ _ _ _ _ _ _ _ _ _ _
      | exact ih1 _ _ _ _ _ _ _ _ _ _ _
      | exact ih2 _ _ _ _ _ _ _ _
      | exact ih3 _ _ _ _ _ _ _ _ _
      | exact ih4 _ _ _ _ _ _ _ _ _ _
      | exact code_Check.mono _ _ _ _ _ _
      | exact code_Skip.mono _ _ _
      | exact prolixlaw18_To.mono _ _ _ _ _ _
      | exact prolixlaw18_alive.mono _
      | exact LeO.none _
      | refine LeO.ite ?_ ?_
      | refine LeO.bind ?_ (fun _ => ?_)
def prolixlaw18_CodeSkips.T5 : Bool × List (List Nat × List Nat) := (true, [([], []), ([0], [0]), ([], []), ([2, 1], [2]), ([], []), ([], []), ([4, 1, 3, 0, 1, 4, 5], [1, 4]), ([5, 3, 6, 0, 1, 2, 3, 4, 5, 6], [3, 5])])
def prolixlaw18_CodeSkips.B5 : List Nat := [0, 1, 0, 7, 0, 0, 63, 127]
theorem prolixlaw18_CodeSkips.tab5 : rtab .any (opsOf Try.f5 5) = prolixlaw18_CodeSkips.T5 := by kernel_rfl
theorem prolixlaw18_CodeSkips.bits5 : waitsOk prolixlaw18_CodeSkips.T5.2 prolixlaw18_CodeSkips.B5 = true := by kernel_rfl
def prolixlaw18_CodeSkips.T9 : Bool × List (List Nat × List Nat) := (true, [([], []), ([], []), ([1], [1]), ([0, 2], [0, 2]), ([], []), ([4], [4]), ([3, 5, 3], [3, 5]), ([6, 6, 0, 1, 2, 3, 4, 5, 6], [6])])
def prolixlaw18_CodeSkips.B9 : List Nat := [0, 0, 2, 7, 0, 16, 63, 127]
theorem prolixlaw18_CodeSkips.tab9 : rtab .any (opsOf Try.f5 9) = prolixlaw18_CodeSkips.T9 := by kernel_rfl
theorem prolixlaw18_CodeSkips.bits9 : waitsOk prolixlaw18_CodeSkips.T9.2 prolixlaw18_CodeSkips.B9 = true := by kernel_rfl
def prolixlaw18_CodeSkips.T10 : Bool × List (List Nat × List Nat) := (true, [([], []), ([], []), ([1], [1]), ([0, 2], [0, 2]), ([], []), ([3, 4], [3, 4]), ([5, 3], [5]), ([6], [6]), ([6], [6]), ([6], [6]), ([9, 6], [6, 9]), ([8, 10, 6], [6, 8, 10]), ([7, 11, 6, 6], [6, 7, 11]), ([6], [6]), ([6], [6]), ([14, 6], [6, 14]), ([15, 6], [6, 15]), ([13, 16, 6], [6, 13, 16]), ([12, 17, 6], [6, 12, 17]), ([6, 18], [6, 18])])
def prolixlaw18_CodeSkips.B10 : List Nat := [0, 0, 2, 7, 0, 31, 63, 127, 127, 127, 639, 1919, 4095, 127, 127, 16511, 49279, 123007, 262143, 524287]
theorem prolixlaw18_CodeSkips.tab10 : rtab .any (opsOf Try.f5 10) = prolixlaw18_CodeSkips.T10 := by kernel_rfl
theorem prolixlaw18_CodeSkips.bits10 : waitsOk prolixlaw18_CodeSkips.T10.2 prolixlaw18_CodeSkips.B10 = true := by kernel_rfl
set_option maxHeartbeats 8000000 in
set_option maxRecDepth 100000 in
theorem prolixlaw18_CodeSkips.calls (k : Nat) (a0_0 : ByteArray) (a0_1 : Int) (a0_2 : Int) (a0_3 : Int) (A0_4 : Option Addr) (c0_4 : Nat) (l0_4 : List (S89)) (a1_0 : ByteArray) (a1_1 : Int) (a1_2 : Int) (a1_3 : Int) (A1_4 : Option Addr) (c1_4 : Nat) (l1_4 : List (S89)) (r : Bool) (w : World) (hr0_4 : Kd.C k89 w A0_4 l0_4.length l0_4) (hc0_4 : l0_4.length ≤ c0_4) (hr1_4 : Kd.C k89 w A1_4 l1_4.length l1_4) (hc1_4 : l1_4.length ≤ c1_4) (h : prolixlaw18_CodeSkips.f k a0_0 a0_1 a0_2 a0_3 l0_4 a1_0 a1_1 a1_2 a1_3 l1_4 = some r) :
    Calls Try.prog 5 #[.agg #[.string a0_0, .int .i64 a0_1, .int .i64 a0_2, .int .i64 a0_3, .slice A0_4 l0_4.length c0_4], .agg #[.string a1_0, .int .i64 a1_1, .int .i64 a1_2, .int .i64 a1_3, .slice A1_4 l1_4.length c1_4]] w fun e w' => e = .returned (.bool r) ∧ Below w.heap.size w w' := by
  have hu24 := Try.underlying24
  have hu28 := Try.underlying28
  have HR0_4 := Aside0.mk hr0_4
  have HC0_4 := Aside0.mk hc0_4
  clear hr0_4 hc0_4
  have HR1_4 := Aside0.mk hr1_4
  have HC1_4 := Aside0.mk hc1_4
  clear hr1_4 hc1_4
  have HB := Aside0.mk (Below.refl w.heap.size w)
  have H : ((prolixlaw18_alive.f k).bind fun t137 => (if t137 = true then (if (l0_4.length : Int) > 500 then (prolixlaw18_CodeSkips.j0 k true a0_0 a0_1 a0_2 a0_3 l0_4 a1_0 a1_1 a1_2 a1_3 l1_4) else (prolixlaw18_CodeSkips.j0 k (decide ((l1_4.length : Int) > 500)) a0_0 a0_1 a0_2 a0_3 l0_4 a1_0 a1_1 a1_2 a1_3 l1_4)) else (none))) = some r := h
  clear h
  replace H := Option.bind_eq_some_iff.mp H
  obtain ⟨t137, A30, H⟩ := H
  replace H : (if t137 = true then (if (l0_4.length : Int) > 500 then (prolixlaw18_CodeSkips.j0 k true a0_0 a0_1 a0_2 a0_3 l0_4 a1_0 a1_1 a1_2 a1_3 l1_4) else (prolixlaw18_CodeSkips.j0 k (decide ((l1_4.length : Int) > 500)) a0_0 a0_1 a0_2 a0_3 l0_4 a1_0 a1_1 a1_2 a1_3 l1_4)) else (none)) = some r := H
  have A3 := Aside0.mk A30
  clear A30
  by_cases c4 : t137 = true
  · subst c4
    have H1 : (if (l0_4.length : Int) > 500 then (prolixlaw18_CodeSkips.j0 k true a0_0 a0_1 a0_2 a0_3 l0_4 a1_0 a1_1 a1_2 a1_3 l1_4) else (prolixlaw18_CodeSkips.j0 k (decide ((l1_4.length : Int) > 500)) a0_0 a0_1 a0_2 a0_3 l0_4 a1_0 a1_1 a1_2 a1_3 l1_4)) = some r := by rw [if_pos rfl] at H; exact H
    clear H
    have H := H1
    clear H1
    have HC5 := Aside0.mk H
    clear H
    go_enter Try.func5, Try.ntmps5
    go_upto_region 3 with (first | ((with_reducible refine gate_dst (N := 2) rfl ?_); (try (refine gate_guard (by rfl) ?_; dsimp only)); refine box_event ?hg (N := 2) ?hd (cs := #[.string a0_0, .int .i64 a0_1, .int .i64 a0_2, .int .i64 a0_3, .slice A0_4 l0_4.length c0_4]) (t := 24) ?hr ?_; (case hd => rfl); (case hg => rfl); (case hr => first | (go_simp; done) | (go_simp; rfl)); intro gb135 hg w6 hbox hb; have n0_ := Aside0.mk (below_step (by repeat (first | (with_reducible first | exact HB.out | apply below_alloc | apply pw_below_drewN | apply below_drew1) | exact HB.out)) hb); have n1_ := Aside0.mk (hbox); have n2_ := Aside0.mk ((by rw [hg]; exact (below_size (by repeat (first | (with_reducible first | exact HB.out | apply below_alloc | apply pw_below_drewN | apply below_drew1) | exact HB.out))) : w.heap.size ≤ gb135)); have n3_ := Aside0.mk ((by rw [hg]; exact (below_size (by repeat (first | (with_reducible first | exact HB.out | apply below_alloc | apply pw_below_drewN | apply below_drew1) | exact HB.out))) : w.heap.size ≤ gb135)); clear HB; have HB := n0_; have BK135 := n1_; have GW135 := n2_; have GE135 := n3_; clear n0_ n1_ n2_ n3_; clear hb hbox hg) | ((with_reducible refine gate_dst (N := 3) rfl ?_); (try (refine gate_guard (by rfl) ?_; dsimp only)); refine box_event ?hg (N := 3) ?hd (cs := #[.string a1_0, .int .i64 a1_1, .int .i64 a1_2, .int .i64 a1_3, .slice A1_4 l1_4.length c1_4]) (t := 24) ?hr ?_; (case hd => rfl); (case hg => rfl); (case hr => first | (go_simp; done) | (go_simp; rfl)); intro gb136 hg w7 hbox hb; have n0_ := Aside0.mk (blk_below (g := gb135) (o := .cells #[.string a0_0, .int .i64 a0_1, .int .i64 a0_2, .int .i64 a0_3, .slice A0_4 l0_4.length c0_4] 24 (0, 0)) (by (with_reducible repeat (first | refine blk_drewN ?_ _ | refine blk_drew ?_ | refine blk_alloc ?_ _)); exact BK135.out) hb); have n1_ := Aside0.mk (below_step (by repeat (first | (with_reducible first | exact HB.out | apply below_alloc | apply pw_below_drewN | apply below_drew1 | refine below_set ?_ GE135.out) | exact HB.out)) hb); have n2_ := Aside0.mk (hbox); have n3_ := Aside0.mk ((by rw [hg]; exact (below_size (by repeat (first | (with_reducible first | exact HB.out | apply below_alloc | apply pw_below_drewN | apply below_drew1 | refine below_set ?_ GE135.out) | exact HB.out))) : w.heap.size ≤ gb136)); have n4_ := Aside0.mk ((by rw [hg]; exact (below_size (by repeat (first | (with_reducible first | exact HB.out | apply below_alloc | apply pw_below_drewN | apply below_drew1 | refine below_set ?_ GE135.out) | exact HB.out))) : w.heap.size ≤ gb136)); have n5_ := Aside0.mk ((by rw [hg]; exact Nat.ne_of_lt (blk_lt (g := gb135) (o := .cells #[.string a0_0, .int .i64 a0_1, .int .i64 a0_2, .int .i64 a0_3, .slice A0_4 l0_4.length c0_4] 24 (0, 0)) (by (with_reducible repeat (first | refine blk_drewN ?_ _ | refine blk_drew ?_ | refine blk_alloc ?_ _)); exact BK135.out)) : gb135 ≠ gb136)); have n6_ := Aside0.mk ((by rw [hg]; exact Nat.ne_of_gt (blk_lt (g := gb135) (o := .cells #[.string a0_0, .int .i64 a0_1, .int .i64 a0_2, .int .i64 a0_3, .slice A0_4 l0_4.length c0_4] 24 (0, 0)) (by (with_reducible repeat (first | refine blk_drewN ?_ _ | refine blk_drew ?_ | refine blk_alloc ?_ _)); exact BK135.out)) : gb136 ≠ gb135)); clear BK135; clear HB; have BK135 := n0_; have HB := n1_; have BK136 := n2_; have GW136 := n3_; have GE136 := n4_; have NB135_136 := n5_; have NB136_135 := n6_; clear n0_ n1_ n2_ n3_ n4_ n5_ n6_; clear hb hbox hg) | ((with_reducible refine gate_callee (f := 15) rfl ?_); refine goesL_ (some 11) rfl rfl Try.func15 (by kernel_rfl) rfl #[] rfl (by (try simp only [List.map_toArray, List.map_cons, List.map_nil]); first | done | rfl | (simp only [List.length_drop, List.length_take]; rfl)) ?_; (with_reducible refine (prolixlaw18_alive.calls k  true _ A3.out).mono ?_); rintro e w8 ⟨rfl, hb⟩; refine ⟨_, rfl, ?_⟩; have n0_ := Aside0.mk (blk_below (g := gb135) (o := .cells #[.string a0_0, .int .i64 a0_1, .int .i64 a0_2, .int .i64 a0_3, .slice A0_4 l0_4.length c0_4] 24 (0, 0)) (by (with_reducible repeat (first | refine blk_drewN ?_ _ | refine blk_drew ?_ | refine blk_alloc ?_ _)); exact BK135.out) hb); have n1_ := Aside0.mk (blk_below (g := gb136) (o := .cells #[.string a1_0, .int .i64 a1_1, .int .i64 a1_2, .int .i64 a1_3, .slice A1_4 l1_4.length c1_4] 24 (0, 0)) (by (with_reducible repeat (first | refine blk_drewN ?_ _ | refine blk_drew ?_ | refine blk_alloc ?_ _)); exact BK136.out) hb); have n2_ := Aside0.mk (below_step (by repeat (first | (with_reducible first | exact HB.out | apply below_alloc | apply pw_below_drewN | apply below_drew1 | refine below_set ?_ GE135.out | refine below_set ?_ GE136.out) | exact HB.out)) hb); clear BK135; clear BK136; clear HB; have BK135 := n0_; have BK136 := n1_; have HB := n2_; clear n0_ n1_ n2_; (try clear hb); (try clear hb2); (try clear hk); (try clear hi)))
    (try simp only [Act.put, List.setIfInBounds_toArray, List.set_cons_zero, List.set_cons_succ])
    go_cut [22] (fun v22 wc => ∃ (kq : Nat) (x22_4 : Bool), v22 = .bool x22_4 ∧ Aside0 (prolixlaw18_CodeSkips.j0 kq x22_4 a0_0 a0_1 a0_2 a0_3 l0_4 a1_0 a1_1 a1_2 a1_3 l1_4 = some r) ∧ Aside0 (kq ≤ k) ∧ Aside0 (wc.heap[gb135]? = some (.cells #[.string a0_0, .int .i64 a0_1, .int .i64 a0_2, .int .i64 a0_3, (.slice A0_4 l0_4.length c0_4)] 24 (0, 0))) ∧ Aside0 (wc.heap[gb136]? = some (.cells #[.string a1_0, .int .i64 a1_1, .int .i64 a1_2, .int .i64 a1_3, (.slice A1_4 l1_4.length c1_4)] 24 (0, 0))) ∧ Aside0 (Below w.heap.size w wc))
    case first =>
      have H := HC5.out
      clear HC5
      by_cases c9 : (l0_4.length : Int) > 500
      · rw [if_pos c9] at H
        have c9b0 : decide (500 < (l0_4.length : Int)) = true := decide_eq_true c9
        have c9b1 : decide (500 < l0_4.length) = true := decide_eq_true (by omega)
        clear c9
        (first | rw [c9b0] | (simp only [i64_w, i32_w]; rw [c9b0]) | skip)
        have H' := Aside0.mk H
        clear H
        have hnb10 := NB135_136.out
        have hnc10 := NB136_135.out
        have hcz11_0 : w8.cell? ⟨gb135, 0, none⟩ = some (.string a0_0) := (blk_cell BK135.out 0).trans rfl
        have hcz11_1 : w8.cell? ⟨gb135, 1, none⟩ = some (.int .i64 a0_1) := (blk_cell BK135.out 1).trans rfl
        have hcz11_2 : w8.cell? ⟨gb135, 2, none⟩ = some (.int .i64 a0_2) := (blk_cell BK135.out 2).trans rfl
        have hcz11_3 : w8.cell? ⟨gb135, 3, none⟩ = some (.int .i64 a0_3) := (blk_cell BK135.out 3).trans rfl
        have hcz11_4 : w8.cell? ⟨gb135, 4, none⟩ = some (.slice A0_4 l0_4.length c0_4) := (blk_cell BK135.out 4).trans rfl
        have hfz11_0 := blk_frozen BK135.out 0
        have hfz11_1 := blk_frozen BK135.out 1
        have hfz11_2 := blk_frozen BK135.out 2
        have hfz11_3 := blk_frozen BK135.out 3
        have hfz11_4 := blk_frozen BK135.out 4
        go_wp2
        go_meet
        case rel => exact ⟨_, (true), (by first | rfl | (simp; done) | (simp [*]; done)), H', ⟨by first | omega | exact Nat.le_refl _⟩, ⟨by (with_reducible repeat (first | refine blk_drewN ?_ _ | refine blk_drew ?_ | refine blk_alloc ?_ _)); exact BK135.out⟩, ⟨by (with_reducible repeat (first | refine blk_drewN ?_ _ | refine blk_drew ?_ | refine blk_alloc ?_ _)); exact BK136.out⟩, ⟨by repeat (first | (with_reducible first | exact HB.out | apply below_alloc | apply pw_below_drewN | apply below_drew1 | refine below_set ?_ GE135.out | refine below_set ?_ GE136.out) | exact HB.out)⟩⟩
      · rw [if_neg c9] at H
        have c9b0 : decide (500 < (l0_4.length : Int)) = false := decide_eq_false c9
        have c9b1 : decide (500 < l0_4.length) = false := decide_eq_false (by omega)
        clear c9
        (first | rw [c9b0] | (simp only [i64_w, i32_w]; rw [c9b0]) | skip)
        have H' := Aside0.mk H
        clear H
        have hnb12 := NB135_136.out
        have hnc12 := NB136_135.out
        have hcz13_0 : w8.cell? ⟨gb135, 0, none⟩ = some (.string a0_0) := (blk_cell BK135.out 0).trans rfl
        have hcz13_1 : w8.cell? ⟨gb135, 1, none⟩ = some (.int .i64 a0_1) := (blk_cell BK135.out 1).trans rfl
        have hcz13_2 : w8.cell? ⟨gb135, 2, none⟩ = some (.int .i64 a0_2) := (blk_cell BK135.out 2).trans rfl
        have hcz13_3 : w8.cell? ⟨gb135, 3, none⟩ = some (.int .i64 a0_3) := (blk_cell BK135.out 3).trans rfl
        have hcz13_4 : w8.cell? ⟨gb135, 4, none⟩ = some (.slice A0_4 l0_4.length c0_4) := (blk_cell BK135.out 4).trans rfl
        have hfz13_0 := blk_frozen BK135.out 0
        have hfz13_1 := blk_frozen BK135.out 1
        have hfz13_2 := blk_frozen BK135.out 2
        have hfz13_3 := blk_frozen BK135.out 3
        have hfz13_4 := blk_frozen BK135.out 4
        have hcz14_0 : w8.cell? ⟨gb136, 0, none⟩ = some (.string a1_0) := (blk_cell BK136.out 0).trans rfl
        have hcz14_1 : w8.cell? ⟨gb136, 1, none⟩ = some (.int .i64 a1_1) := (blk_cell BK136.out 1).trans rfl
        have hcz14_2 : w8.cell? ⟨gb136, 2, none⟩ = some (.int .i64 a1_2) := (blk_cell BK136.out 2).trans rfl
        have hcz14_3 : w8.cell? ⟨gb136, 3, none⟩ = some (.int .i64 a1_3) := (blk_cell BK136.out 3).trans rfl
        have hcz14_4 : w8.cell? ⟨gb136, 4, none⟩ = some (.slice A1_4 l1_4.length c1_4) := (blk_cell BK136.out 4).trans rfl
        have hfz14_0 := blk_frozen BK136.out 0
        have hfz14_1 := blk_frozen BK136.out 1
        have hfz14_2 := blk_frozen BK136.out 2
        have hfz14_3 := blk_frozen BK136.out 3
        have hfz14_4 := blk_frozen BK136.out 4
        go_wp2
        go_meet
        case rel => exact ⟨_, (decide ((l1_4.length : Int) > 500)), (by first | rfl | (simp; done) | (simp [*]; done)), H', ⟨by first | omega | exact Nat.le_refl _⟩, ⟨by (with_reducible repeat (first | refine blk_drewN ?_ _ | refine blk_drew ?_ | refine blk_alloc ?_ _)); exact BK135.out⟩, ⟨by (with_reducible repeat (first | refine blk_drewN ?_ _ | refine blk_drew ?_ | refine blk_alloc ?_ _)); exact BK136.out⟩, ⟨by repeat (first | (with_reducible first | exact HB.out | apply below_alloc | apply pw_below_drewN | apply below_drew1 | refine below_set ?_ GE135.out | refine below_set ?_ GE136.out) | exact HB.out)⟩⟩
    case rest =>
      clear HC5
      try clear c1
      try clear p2
      try clear c4
      try clear c5
      try clear c9
      try clear c9b0
      try clear c9b1
      try clear c10
      try clear c12
      try clear hcz11_0
      try clear hcz11_1
      try clear hcz11_2
      try clear hcz11_3
      try clear hcz11_4
      try clear hcz13_0
      try clear hcz13_1
      try clear hcz13_2
      try clear hcz13_3
      try clear hcz13_4
      try clear hcz14_0
      try clear hcz14_1
      try clear hcz14_2
      try clear hcz14_3
      try clear hcz14_4
      try clear hfz11_0
      try clear hfz11_1
      try clear hfz11_2
      try clear hfz11_3
      try clear hfz11_4
      try clear hfz13_0
      try clear hfz13_1
      try clear hfz13_2
      try clear hfz13_3
      try clear hfz13_4
      try clear hfz14_0
      try clear hfz14_1
      try clear hfz14_2
      try clear hfz14_3
      try clear hfz14_4
      obtain ⟨kq, x22_4, rfl, HA, HJ4, BK135, BK136, HB⟩ := hcut
      cases kq with
      | zero => exact absurd HA.out (by simp [prolixlaw18_CodeSkips.j0])
      | succ kj4 =>
        have H := HA.out
        clear HA
        simp only [prolixlaw18_CodeSkips.j0] at H
        by_cases c15 : x22_4 = true
        · subst c15
          have H1 : (some true) = some r := by rw [if_pos rfl] at H; exact H
          clear H
          have H := H1
          clear H1
          obtain rfl := Option.some.inj H
          go_wp2
          go_ret
          exact ⟨by first | rfl | (simp [errW_none, errW_some] <;> rfl) | (simp [*, errW_none, errW_some] <;> rfl), by repeat (first | (with_reducible first | exact HB.out | apply below_alloc | apply pw_below_drewN | apply below_drew1 | refine below_set ?_ GE135.out | refine below_set ?_ GE136.out) | exact HB.out)⟩
        · replace c15 := Bool.eq_false_iff.mpr c15
          subst c15
          have H1 : ((prolixlaw18_To.f kj4 a0_0 a0_1 a0_2 a0_3 l0_4).bind fun bt138 => ((prolixlaw18_To.f kj4 a1_0 a1_1 a1_2 a1_3 l1_4).bind fun bt145 => ((code_Check.f kj4 bt138.1 bt138.2.1 bt138.2.2.1 bt138.2.2.2.1 bt138.2.2.2.2).bind fun t154 => (if t154 = 0 then ((code_Check.f kj4 bt145.1 bt145.2.1 bt145.2.2.1 bt145.2.2.2.1 bt145.2.2.2.2).bind fun t155 => (prolixlaw18_CodeSkips.j1 kj4 (t155 != 0) bt138.1 bt138.2.1 bt138.2.2.1 bt138.2.2.2.1 bt138.2.2.2.2 bt145.1 bt145.2.1 bt145.2.2.1 bt145.2.2.2.1 bt145.2.2.2.2)) else (prolixlaw18_CodeSkips.j1 kj4 true bt138.1 bt138.2.1 bt138.2.2.1 bt138.2.2.2.1 bt138.2.2.2.2 bt145.1 bt145.2.1 bt145.2.2.1 bt145.2.2.2.1 bt145.2.2.2.2))))) = some r := by rw [if_neg (show ¬ (false = true) by decide)] at H; exact H
          clear H
          have H := H1
          clear H1
          replace H := Option.bind_eq_some_iff.mp H
          obtain ⟨⟨t138, t139, t140, t141, t142⟩, A160, H⟩ := H
          replace H : ((prolixlaw18_To.f kj4 a1_0 a1_1 a1_2 a1_3 l1_4).bind fun bt145 => ((code_Check.f kj4 t138 t139 t140 t141 t142).bind fun t154 => (if t154 = 0 then ((code_Check.f kj4 bt145.1 bt145.2.1 bt145.2.2.1 bt145.2.2.2.1 bt145.2.2.2.2).bind fun t155 => (prolixlaw18_CodeSkips.j1 kj4 (t155 != 0) t138 t139 t140 t141 t142 bt145.1 bt145.2.1 bt145.2.2.1 bt145.2.2.2.1 bt145.2.2.2.2)) else (prolixlaw18_CodeSkips.j1 kj4 true t138 t139 t140 t141 t142 bt145.1 bt145.2.1 bt145.2.2.1 bt145.2.2.2.1 bt145.2.2.2.2)))) = some r := H
          have A16 := Aside0.mk A160
          clear A160
          replace H := Option.bind_eq_some_iff.mp H
          obtain ⟨⟨t145, t146, t147, t148, t149⟩, A170, H⟩ := H
          replace H : ((code_Check.f kj4 t138 t139 t140 t141 t142).bind fun t154 => (if t154 = 0 then ((code_Check.f kj4 t145 t146 t147 t148 t149).bind fun t155 => (prolixlaw18_CodeSkips.j1 kj4 (t155 != 0) t138 t139 t140 t141 t142 t145 t146 t147 t148 t149)) else (prolixlaw18_CodeSkips.j1 kj4 true t138 t139 t140 t141 t142 t145 t146 t147 t148 t149))) = some r := H
          have A17 := Aside0.mk A170
          clear A170
          have HC18 := Aside0.mk H
          clear H
          try go_wp2
          have n0_ := Aside0.mk (blk_drew BK135.out)
          have n1_ := Aside0.mk (blk_drew BK136.out)
          have n2_ := Aside0.mk (below_drew1 HB.out)
          clear BK135
          clear BK136
          clear HB
          have BK135 := n0_
          have BK136 := n1_
          have HB := n2_
          clear n0_ n1_ n2_
          refine start_ (n := 8) (S := fun w' => True) (ds := []) #[false, false, false, false, false, false, false, false] (by kernel_rfl) rfl rfl trivial (fun hHeld => ?_); refine with_tabW prolixlaw18_CodeSkips.tab5 prolixlaw18_CodeSkips.bits5 (fun HT_ HW_ => ?_)
          generalize wc.drew = w19 at BK135 BK136 HB hHeld ⊢
          refine inv_at [0, 1, 2, 3, 4, 5, 6, 7] (fun a0_ b a w' => ∃ (v143 : Value) (v150 : Value) (gb152 : Nat) (gb153 : Nat) (m1_ : Value) (m3_ : Value) (m4_ : Value) (m5_ : Value), a = putSel a0_ b [(0, 23, .agg #[.string a0_0, .int .i64 a0_1, .int .i64 a0_2, .int .i64 a0_3, .slice A0_4 l0_4.length c0_4]), (1, 24, m1_), (2, 25, .agg #[.string a1_0, .int .i64 a1_1, .int .i64 a1_2, .int .i64 a1_3, .slice A1_4 l1_4.length c1_4]), (3, 26, m3_), (4, 5, m4_), (5, 6, m5_)] ∧ (w'.heap[gb135]? = some (.cells #[.string a0_0, .int .i64 a0_1, .int .i64 a0_2, .int .i64 a0_3, .slice A0_4 l0_4.length c0_4] 24 (0, 0))) ∧ (w'.heap[gb136]? = some (.cells #[.string a1_0, .int .i64 a1_1, .int .i64 a1_2, .int .i64 a1_3, .slice A1_4 l1_4.length c1_4] 24 (0, 0))) ∧ (Below w.heap.size w w') ∧ (b 4 = true → b 5 = true → gb153 ≠ gb152) ∧ (b 4 = true → b 5 = true → gb152 ≠ gb153) ∧ (b 1 = true → b 3 = false → Kd.R k39 39 w' w.heap.size (fun _ => True) v143 t142) ∧ (b 3 = true → Kd.R k39 39 w' w.heap.size (fun k_ => some k_ ≠ (v150 : Value).ownBlock) v143 t142) ∧ (b 3 = true → Kd.R k39 39 w' w.heap.size (fun k_ => some k_ ≠ (v143 : Value).ownBlock) v150 t149) ∧ (b 4 = true → b 6 = false → w'.heap[gb152]? = some (.cells #[.string (⟨#[]⟩ : ByteArray), .int .i64 0, .int .i64 0, .int .i64 0, .slice none 0 0] 28 (0, 0))) ∧ (b 4 = true → w.heap.size ≤ gb152) ∧ (b 4 = true → w.heap.size ≤ gb152) ∧ (b 4 = true → gb135 ≠ gb152) ∧ (b 4 = true → gb152 ≠ gb135) ∧ (b 4 = true → gb136 ≠ gb152) ∧ (b 4 = true → gb152 ≠ gb136) ∧ (b 5 = true → b 7 = false → w'.heap[gb153]? = some (.cells #[.string (⟨#[]⟩ : ByteArray), .int .i64 0, .int .i64 0, .int .i64 0, .slice none 0 0] 28 (0, 0))) ∧ (b 5 = true → w.heap.size ≤ gb153) ∧ (b 5 = true → w.heap.size ≤ gb153) ∧ (b 5 = true → gb135 ≠ gb153) ∧ (b 5 = true → gb153 ≠ gb135) ∧ (b 5 = true → gb136 ≠ gb153) ∧ (b 5 = true → gb153 ≠ gb136) ∧ (b 6 = true → w'.heap[gb152]? = some (.cells #[.string t138, .int .i64 t139, .int .i64 t140, .int .i64 t141, v143] 28 (0, 0))) ∧ (b 7 = true → w'.heap[gb153]? = some (.cells #[.string t145, .int .i64 t146, .int .i64 t147, .int .i64 t148, v150] 28 (0, 0))) ∧ (b 1 = true → (m1_ : Value) = .agg #[.string t138, .int .i64 t139, .int .i64 t140, .int .i64 t141, v143]) ∧ (b 3 = true → (m3_ : Value) = .agg #[.string t145, .int .i64 t146, .int .i64 t147, .int .i64 t148, v150]) ∧ (b 4 = true → (m4_ : Value) = .pointer (some ⟨gb152, 0, none⟩)) ∧ (b 5 = true → (m5_ : Value) = .pointer (some ⟨gb153, 0, none⟩))) HT_.out HW_.out (by kernel_rfl) (by kernel_rfl) ?_ ?_ ?_
          · exact ⟨.bool false, .bool false, 0, 0, .bool false, .bool false, .bool false, .bool false, by simp only [putSel, Bool.false_eq_true, if_false], BK135.out, BK136.out, HB.out, fun h_ => absurd h_ (by decide), fun h_ => absurd h_ (by decide), fun h_ => absurd h_ (by decide), fun h_ => absurd h_ (by decide), fun h_ => absurd h_ (by decide), fun h_ => absurd h_ (by decide), fun h_ => absurd h_ (by decide), fun h_ => absurd h_ (by decide), fun h_ => absurd h_ (by decide), fun h_ => absurd h_ (by decide), fun h_ => absurd h_ (by decide), fun h_ => absurd h_ (by decide), fun h_ => absurd h_ (by decide), fun h_ => absurd h_ (by decide), fun h_ => absurd h_ (by decide), fun h_ => absurd h_ (by decide), fun h_ => absurd h_ (by decide), fun h_ => absurd h_ (by decide), fun h_ => absurd h_ (by decide), fun h_ => absurd h_ (by decide), fun h_ => absurd h_ (by decide), fun h_ => absurd h_ (by decide), fun h_ => absurd h_ (by decide), fun h_ => absurd h_ (by decide), fun h_ => absurd h_ (by decide)⟩
          · skip
            clear BK135 BK136 HB
            refine steps_cons ?_ ?_
            · rintro b a w' ⟨v143, v150, gb152, gb153, m1_, m3_, m4_, m5_, ha, Q_BK135, Q_BK136, Q_HB, Q_NB153_152, Q_NB152_153, Q_HO144, Q_HO144_e3, Q_HO151, Q_BK152, Q_GW152, Q_GE152, Q_NB135_152, Q_NB152_135, Q_NB136_152, Q_NB152_136, Q_BK153, Q_GW153, Q_GE153, Q_NB135_153, Q_NB153_135, Q_NB136_153, Q_NB153_136, Q_BK152_e6, Q_BK153_e7, Q_X1_, Q_X3_, Q_X4_, Q_X5_⟩ hb_ hon hoff
              refine ⟨_, rfl, fun K hK => ?_⟩
              have e2 : a.tmps[2]? = some (.pointer (some ⟨gb135, 0, none⟩)) := by rw [ha]; exact (putSel_off rfl).trans rfl
              replace ha := Aside0.mk ha
              have BK135 := Aside0.mk Q_BK135
              have BK136 := Aside0.mk Q_BK136
              have HB := Aside0.mk Q_HB
              have hc0_ : w'.cell? ⟨gb135, 0, none⟩ = some (.string a0_0) := (blk_cell BK135.out 0).trans rfl
              have hc1_ : w'.cell? ⟨gb135, 1, none⟩ = some (.int .i64 a0_1) := (blk_cell BK135.out 1).trans rfl
              have hc2_ : w'.cell? ⟨gb135, 2, none⟩ = some (.int .i64 a0_2) := (blk_cell BK135.out 2).trans rfl
              have hc3_ : w'.cell? ⟨gb135, 3, none⟩ = some (.int .i64 a0_3) := (blk_cell BK135.out 3).trans rfl
              have hc4_ : w'.cell? ⟨gb135, 4, none⟩ = some (.slice A0_4 l0_4.length c0_4) := (blk_cell BK135.out 4).trans rfl
              refine value_ (w1 := w') (v := .agg #[.string a0_0, .int .i64 a0_1, .int .i64 a0_2, .int .i64 a0_3, .slice A0_4 l0_4.length c0_4]) (by rfl) rfl ?_ ?_
              · go_simp
                (try simp only [i64_w])
                try rfl
              refine hK.out _ _ ⟨v143, v150, gb152, gb153, m1_, m3_, m4_, m5_, (by rw [ha.out]; exact putSel_upk 0 hb_ rfl rfl rfl), Q_BK135, Q_BK136, Q_HB, Q_NB153_152, Q_NB152_153, fun h0_ _ => absurd ((hoff 1 (by kernel_rfl)).symm.trans h0_) (by decide), fun h0_ => absurd ((hoff 3 (by kernel_rfl)).symm.trans h0_) (by decide), fun h0_ => absurd ((hoff 3 (by kernel_rfl)).symm.trans h0_) (by decide), Q_BK152, Q_GW152, Q_GE152, Q_NB135_152, Q_NB152_135, Q_NB136_152, Q_NB152_136, Q_BK153, Q_GW153, Q_GE153, Q_NB135_153, Q_NB153_135, Q_NB136_153, Q_NB153_136, fun h0_ => absurd ((hoff 6 (by kernel_rfl)).symm.trans h0_) (by decide), fun h0_ => absurd ((hoff 7 (by kernel_rfl)).symm.trans h0_) (by decide), fun h0_ => absurd ((hoff 1 (by kernel_rfl)).symm.trans h0_) (by decide), fun h0_ => absurd ((hoff 3 (by kernel_rfl)).symm.trans h0_) (by decide), Q_X4_, Q_X5_⟩
            refine steps_cons ?_ ?_
            · rintro b a w' ⟨v143, v150, gb152, gb153, m1_, m3_, m4_, m5_, ha, Q_BK135, Q_BK136, Q_HB, Q_NB153_152, Q_NB152_153, Q_HO144, Q_HO144_e3, Q_HO151, Q_BK152, Q_GW152, Q_GE152, Q_NB135_152, Q_NB152_135, Q_NB136_152, Q_NB152_136, Q_BK153, Q_GW153, Q_GE153, Q_NB135_153, Q_NB153_135, Q_NB136_153, Q_NB153_136, Q_BK152_e6, Q_BK153_e7, Q_X1_, Q_X3_, Q_X4_, Q_X5_⟩ hb_ hon hoff
              refine ⟨_, rfl, fun K hK => ?_⟩
              have e23 : a.tmps[23]? = some (.agg #[.string a0_0, .int .i64 a0_1, .int .i64 a0_2, .int .i64 a0_3, .slice A0_4 l0_4.length c0_4]) := by rw [ha]; exact putSel_on (e := (0, 23, .agg #[.string a0_0, .int .i64 a0_1, .int .i64 a0_2, .int .i64 a0_3, .slice A0_4 l0_4.length c0_4])) 0 rfl rfl (hon 0 (by kernel_rfl)) rfl
              replace ha := Aside0.mk ha
              have BK135 := Aside0.mk Q_BK135
              have BK136 := Aside0.mk Q_BK136
              have HB := Aside0.mk Q_HB
              refine goes_ Try.func16 (by kernel_rfl) rfl #[.agg #[.string a0_0, .int .i64 a0_1, .int .i64 a0_2, .int .i64 a0_3, .slice A0_4 l0_4.length c0_4]] (by rfl) rfl rfl (by first | (simp only [List.map_toArray, List.map_cons, List.map_nil, Act.eval, Array.getD_eq_getD_getElem?, Option.getD_some, e23]; done) | (simp only [List.map_toArray, List.map_cons, List.map_nil, Act.eval, Array.getD_eq_getD_getElem?, Option.getD_some, e23]; rfl)) ?_
              with_reducible refine (prolixlaw18_To.calls kj4 a0_0 a0_1 a0_2 a0_3 _ _ l0_4 t138 t139 t140 t141 t142 _ ?side1 ?side2 A16.out).mono ?_
              (case side1 => repeat (first | exact (Kd.C_below HR0_4.out HB.out) | (with_reducible refine Kd.C_alloc ?_ _) | (with_reducible refine Kd.C_drewN ?_ _) | (with_reducible refine Kd.C_drew ?_)))
              (case side2 => exact HC0_4.out)
              rintro e w20 ⟨v143, rfl, ho0, hb⟩
              refine ⟨_, rfl, ?_⟩
              have n0_ := Aside0.mk (Kd.R_lower ho0 (below_size (by repeat (first | (with_reducible first | exact HB.out | apply below_alloc | apply pw_below_drewN | apply below_drew1 | refine below_set ?_ GE135.out | refine below_set ?_ GE136.out) | exact HB.out))))
              have n1_ := Aside0.mk (blk_below (g := gb135) (o := .cells #[.string a0_0, .int .i64 a0_1, .int .i64 a0_2, .int .i64 a0_3, .slice A0_4 l0_4.length c0_4] 24 (0, 0)) (by (with_reducible repeat (first | refine blk_drewN ?_ _ | refine blk_drew ?_ | refine blk_alloc ?_ _)); exact BK135.out) hb)
              have n2_ := Aside0.mk (blk_below (g := gb136) (o := .cells #[.string a1_0, .int .i64 a1_1, .int .i64 a1_2, .int .i64 a1_3, .slice A1_4 l1_4.length c1_4] 24 (0, 0)) (by (with_reducible repeat (first | refine blk_drewN ?_ _ | refine blk_drew ?_ | refine blk_alloc ?_ _)); exact BK136.out) hb)
              have n3_ := Aside0.mk (below_step (by repeat (first | (with_reducible first | exact HB.out | apply below_alloc | apply pw_below_drewN | apply below_drew1 | refine below_set ?_ GE135.out | refine below_set ?_ GE136.out) | exact HB.out)) hb)
              have z_BK152 := fun (h0_ : b 4 = true) (h1_ : b 6 = false) => (show w20.heap[gb152]? = some (.cells #[.string (⟨#[]⟩ : ByteArray), .int .i64 0, .int .i64 0, .int .i64 0, .slice none 0 0] 28 (0, 0)) from by first | exact (blk_below (g := gb152) (o := .cells #[.string (⟨#[]⟩ : ByteArray), .int .i64 0, .int .i64 0, .int .i64 0, .slice none 0 0] 28 (0, 0)) (by (with_reducible repeat (first | refine blk_drewN ?_ _ | refine blk_drew ?_ | refine blk_alloc ?_ _)); exact (Q_BK152 h0_ h1_)) hb))
              have z_BK153 := fun (h0_ : b 5 = true) (h1_ : b 7 = false) => (show w20.heap[gb153]? = some (.cells #[.string (⟨#[]⟩ : ByteArray), .int .i64 0, .int .i64 0, .int .i64 0, .slice none 0 0] 28 (0, 0)) from by first | exact (blk_below (g := gb153) (o := .cells #[.string (⟨#[]⟩ : ByteArray), .int .i64 0, .int .i64 0, .int .i64 0, .slice none 0 0] 28 (0, 0)) (by (with_reducible repeat (first | refine blk_drewN ?_ _ | refine blk_drew ?_ | refine blk_alloc ?_ _)); exact (Q_BK153 h0_ h1_)) hb))
              clear BK135
              clear BK136
              clear HB
              have HO144 := n0_
              have BK135 := n1_
              have BK136 := n2_
              have HB := n3_
              clear n0_ n1_ n2_ n3_
              (try clear hb)
              (try clear hb2)
              (try clear hk)
              (try clear hi)
              (try clear ho0)
              refine hK.out _ _ ⟨v143, v150, gb152, gb153, (.agg #[.string t138, .int .i64 t139, .int .i64 t140, .int .i64 t141, v143]), m3_, m4_, m5_, (by rw [ha.out]; exact putSel_upk 1 hb_ rfl rfl rfl), (by (with_reducible repeat (first | refine blk_drewN ?_ _ | refine blk_drew ?_ | refine blk_alloc ?_ _)); exact BK135.out), (by (with_reducible repeat (first | refine blk_drewN ?_ _ | refine blk_drew ?_ | refine blk_alloc ?_ _)); exact BK136.out), (by repeat (first | (with_reducible first | exact HB.out | apply below_alloc | apply pw_below_drewN | apply below_drew1 | refine below_set ?_ GE135.out | refine below_set ?_ GE136.out) | exact HB.out)), Q_NB153_152, Q_NB152_153, fun _ _ => (by (with_reducible repeat (first | apply Kd.R_alloc | apply Kd.R_drewN | apply Kd.R_drew)); exact HO144.out), fun h0_ => absurd ((hoff 3 (by kernel_rfl)).symm.trans h0_) (by decide), fun h0_ => absurd ((hoff 3 (by kernel_rfl)).symm.trans h0_) (by decide), z_BK152, Q_GW152, Q_GE152, Q_NB135_152, Q_NB152_135, Q_NB136_152, Q_NB152_136, z_BK153, Q_GW153, Q_GE153, Q_NB135_153, Q_NB153_135, Q_NB136_153, Q_NB153_136, fun h0_ => absurd ((hoff 6 (by kernel_rfl)).symm.trans h0_) (by decide), fun h0_ => absurd ((hoff 7 (by kernel_rfl)).symm.trans h0_) (by decide), fun _ => rfl, fun h0_ => absurd ((hoff 3 (by kernel_rfl)).symm.trans h0_) (by decide), Q_X4_, Q_X5_⟩
            refine steps_cons ?_ ?_
            · rintro b a w' ⟨v143, v150, gb152, gb153, m1_, m3_, m4_, m5_, ha, Q_BK135, Q_BK136, Q_HB, Q_NB153_152, Q_NB152_153, Q_HO144, Q_HO144_e3, Q_HO151, Q_BK152, Q_GW152, Q_GE152, Q_NB135_152, Q_NB152_135, Q_NB136_152, Q_NB152_136, Q_BK153, Q_GW153, Q_GE153, Q_NB135_153, Q_NB153_135, Q_NB136_153, Q_NB153_136, Q_BK152_e6, Q_BK153_e7, Q_X1_, Q_X3_, Q_X4_, Q_X5_⟩ hb_ hon hoff
              refine ⟨_, rfl, fun K hK => ?_⟩
              have e3 : a.tmps[3]? = some (.pointer (some ⟨gb136, 0, none⟩)) := by rw [ha]; exact (putSel_off rfl).trans rfl
              replace ha := Aside0.mk ha
              have BK135 := Aside0.mk Q_BK135
              have BK136 := Aside0.mk Q_BK136
              have HB := Aside0.mk Q_HB
              have hc0_ : w'.cell? ⟨gb136, 0, none⟩ = some (.string a1_0) := (blk_cell BK136.out 0).trans rfl
              have hc1_ : w'.cell? ⟨gb136, 1, none⟩ = some (.int .i64 a1_1) := (blk_cell BK136.out 1).trans rfl
              have hc2_ : w'.cell? ⟨gb136, 2, none⟩ = some (.int .i64 a1_2) := (blk_cell BK136.out 2).trans rfl
              have hc3_ : w'.cell? ⟨gb136, 3, none⟩ = some (.int .i64 a1_3) := (blk_cell BK136.out 3).trans rfl
              have hc4_ : w'.cell? ⟨gb136, 4, none⟩ = some (.slice A1_4 l1_4.length c1_4) := (blk_cell BK136.out 4).trans rfl
              refine value_ (w1 := w') (v := .agg #[.string a1_0, .int .i64 a1_1, .int .i64 a1_2, .int .i64 a1_3, .slice A1_4 l1_4.length c1_4]) (by rfl) rfl ?_ ?_
              · go_simp
                (try simp only [i64_w])
                try rfl
              refine hK.out _ _ ⟨v143, v150, gb152, gb153, m1_, m3_, m4_, m5_, (by rw [ha.out]; exact putSel_upk 2 hb_ rfl rfl rfl), Q_BK135, Q_BK136, Q_HB, Q_NB153_152, Q_NB152_153, Q_HO144, fun h0_ => absurd ((hoff 3 (by kernel_rfl)).symm.trans h0_) (by decide), fun h0_ => absurd ((hoff 3 (by kernel_rfl)).symm.trans h0_) (by decide), Q_BK152, Q_GW152, Q_GE152, Q_NB135_152, Q_NB152_135, Q_NB136_152, Q_NB152_136, Q_BK153, Q_GW153, Q_GE153, Q_NB135_153, Q_NB153_135, Q_NB136_153, Q_NB153_136, fun h0_ => absurd ((hoff 6 (by kernel_rfl)).symm.trans h0_) (by decide), fun h0_ => absurd ((hoff 7 (by kernel_rfl)).symm.trans h0_) (by decide), Q_X1_, fun h0_ => absurd ((hoff 3 (by kernel_rfl)).symm.trans h0_) (by decide), Q_X4_, Q_X5_⟩
            refine steps_cons ?_ ?_
            · rintro b a w' ⟨v143, v150, gb152, gb153, m1_, m3_, m4_, m5_, ha, Q_BK135, Q_BK136, Q_HB, Q_NB153_152, Q_NB152_153, Q_HO144, Q_HO144_e3, Q_HO151, Q_BK152, Q_GW152, Q_GE152, Q_NB135_152, Q_NB152_135, Q_NB136_152, Q_NB152_136, Q_BK153, Q_GW153, Q_GE153, Q_NB135_153, Q_NB153_135, Q_NB136_153, Q_NB153_136, Q_BK152_e6, Q_BK153_e7, Q_X1_, Q_X3_, Q_X4_, Q_X5_⟩ hb_ hon hoff
              refine ⟨_, rfl, fun K hK => ?_⟩
              have e25 : a.tmps[25]? = some (.agg #[.string a1_0, .int .i64 a1_1, .int .i64 a1_2, .int .i64 a1_3, .slice A1_4 l1_4.length c1_4]) := by rw [ha]; exact putSel_on (e := (2, 25, .agg #[.string a1_0, .int .i64 a1_1, .int .i64 a1_2, .int .i64 a1_3, .slice A1_4 l1_4.length c1_4])) 2 rfl rfl (hon 2 (by kernel_rfl)) rfl
              replace ha := Aside0.mk ha
              have BK135 := Aside0.mk Q_BK135
              have BK136 := Aside0.mk Q_BK136
              have HB := Aside0.mk Q_HB
              have HO144 := Aside0.mk (Q_HO144 (hon 1 (by kernel_rfl)) hb_)
              refine goes_ Try.func16 (by kernel_rfl) rfl #[.agg #[.string a1_0, .int .i64 a1_1, .int .i64 a1_2, .int .i64 a1_3, .slice A1_4 l1_4.length c1_4]] (by rfl) rfl rfl (by first | (simp only [List.map_toArray, List.map_cons, List.map_nil, Act.eval, Array.getD_eq_getD_getElem?, Option.getD_some, e25]; done) | (simp only [List.map_toArray, List.map_cons, List.map_nil, Act.eval, Array.getD_eq_getD_getElem?, Option.getD_some, e25]; rfl)) ?_
              with_reducible refine (prolixlaw18_To.calls kj4 a1_0 a1_1 a1_2 a1_3 _ _ l1_4 t145 t146 t147 t148 t149 _ ?side1 ?side2 A17.out).mono ?_
              (case side1 => repeat (first | exact (Kd.C_below HR1_4.out HB.out) | (with_reducible refine Kd.C_alloc ?_ _) | (with_reducible refine Kd.C_drewN ?_ _) | (with_reducible refine Kd.C_drew ?_)))
              (case side2 => exact HC1_4.out)
              rintro e w22 ⟨v150, rfl, ho0, hb⟩
              refine ⟨_, rfl, ?_⟩
              have n0_ := Aside0.mk (Kd.R_elder' (by (with_reducible repeat (first | apply Kd.R_alloc | apply Kd.R_drewN | apply Kd.R_drew)); exact HO144.out) (Kd.R_base ho0) hb)
              have n1_ := Aside0.mk (Kd.R_lower (Kd.R_new' ho0 (Kd.R_lt (by (with_reducible repeat (first | apply Kd.R_alloc | apply Kd.R_drewN | apply Kd.R_drew)); exact HO144.out))) (below_size (by repeat (first | (with_reducible first | exact HB.out | apply below_alloc | apply pw_below_drewN | apply below_drew1 | refine below_set ?_ GE135.out | refine below_set ?_ GE136.out) | exact HB.out))))
              have n2_ := Aside0.mk (blk_below (g := gb135) (o := .cells #[.string a0_0, .int .i64 a0_1, .int .i64 a0_2, .int .i64 a0_3, .slice A0_4 l0_4.length c0_4] 24 (0, 0)) (by (with_reducible repeat (first | refine blk_drewN ?_ _ | refine blk_drew ?_ | refine blk_alloc ?_ _)); exact BK135.out) hb)
              have n3_ := Aside0.mk (blk_below (g := gb136) (o := .cells #[.string a1_0, .int .i64 a1_1, .int .i64 a1_2, .int .i64 a1_3, .slice A1_4 l1_4.length c1_4] 24 (0, 0)) (by (with_reducible repeat (first | refine blk_drewN ?_ _ | refine blk_drew ?_ | refine blk_alloc ?_ _)); exact BK136.out) hb)
              have n4_ := Aside0.mk (below_step (by repeat (first | (with_reducible first | exact HB.out | apply below_alloc | apply pw_below_drewN | apply below_drew1 | refine below_set ?_ GE135.out | refine below_set ?_ GE136.out) | exact HB.out)) hb)
              have z_BK152 := fun (h0_ : b 4 = true) (h1_ : b 6 = false) => (show w22.heap[gb152]? = some (.cells #[.string (⟨#[]⟩ : ByteArray), .int .i64 0, .int .i64 0, .int .i64 0, .slice none 0 0] 28 (0, 0)) from by first | exact (blk_below (g := gb152) (o := .cells #[.string (⟨#[]⟩ : ByteArray), .int .i64 0, .int .i64 0, .int .i64 0, .slice none 0 0] 28 (0, 0)) (by (with_reducible repeat (first | refine blk_drewN ?_ _ | refine blk_drew ?_ | refine blk_alloc ?_ _)); exact (Q_BK152 h0_ h1_)) hb))
              have z_BK153 := fun (h0_ : b 5 = true) (h1_ : b 7 = false) => (show w22.heap[gb153]? = some (.cells #[.string (⟨#[]⟩ : ByteArray), .int .i64 0, .int .i64 0, .int .i64 0, .slice none 0 0] 28 (0, 0)) from by first | exact (blk_below (g := gb153) (o := .cells #[.string (⟨#[]⟩ : ByteArray), .int .i64 0, .int .i64 0, .int .i64 0, .slice none 0 0] 28 (0, 0)) (by (with_reducible repeat (first | refine blk_drewN ?_ _ | refine blk_drew ?_ | refine blk_alloc ?_ _)); exact (Q_BK153 h0_ h1_)) hb))
              clear HO144
              clear BK135
              clear BK136
              clear HB
              have HO144 := n0_
              have HO151 := n1_
              have BK135 := n2_
              have BK136 := n3_
              have HB := n4_
              clear n0_ n1_ n2_ n3_ n4_
              (try clear hb)
              (try clear hb2)
              (try clear hk)
              (try clear hi)
              (try clear ho0)
              refine hK.out _ _ ⟨v143, v150, gb152, gb153, m1_, (.agg #[.string t145, .int .i64 t146, .int .i64 t147, .int .i64 t148, v150]), m4_, m5_, (by rw [ha.out]; exact putSel_upk 3 hb_ rfl rfl rfl), (by (with_reducible repeat (first | refine blk_drewN ?_ _ | refine blk_drew ?_ | refine blk_alloc ?_ _)); exact BK135.out), (by (with_reducible repeat (first | refine blk_drewN ?_ _ | refine blk_drew ?_ | refine blk_alloc ?_ _)); exact BK136.out), (by repeat (first | (with_reducible first | exact HB.out | apply below_alloc | apply pw_below_drewN | apply below_drew1 | refine below_set ?_ GE135.out | refine below_set ?_ GE136.out) | exact HB.out)), Q_NB153_152, Q_NB152_153, fun _ h1_ => absurd ((up_self b 3).symm.trans h1_) (by decide), fun _ => (by (with_reducible repeat (first | apply Kd.R_alloc | apply Kd.R_drewN | apply Kd.R_drew)); exact Kd.R_mono HO144.out (fun _ hk => hk.2)), fun _ => (by (with_reducible repeat (first | apply Kd.R_alloc | apply Kd.R_drewN | apply Kd.R_drew)); exact Kd.R_mono HO151.out (fun _ hk => hk.2)), z_BK152, Q_GW152, Q_GE152, Q_NB135_152, Q_NB152_135, Q_NB136_152, Q_NB152_136, z_BK153, Q_GW153, Q_GE153, Q_NB135_153, Q_NB153_135, Q_NB136_153, Q_NB153_136, fun h0_ => absurd ((hoff 6 (by kernel_rfl)).symm.trans h0_) (by decide), fun h0_ => absurd ((hoff 7 (by kernel_rfl)).symm.trans h0_) (by decide), Q_X1_, fun _ => rfl, Q_X4_, Q_X5_⟩
            refine steps_cons ?_ ?_
            · rintro b a w' ⟨v143, v150, gb152, gb153, m1_, m3_, m4_, m5_, ha, Q_BK135, Q_BK136, Q_HB, Q_NB153_152, Q_NB152_153, Q_HO144, Q_HO144_e3, Q_HO151, Q_BK152, Q_GW152, Q_GE152, Q_NB135_152, Q_NB152_135, Q_NB136_152, Q_NB152_136, Q_BK153, Q_GW153, Q_GE153, Q_NB135_153, Q_NB153_135, Q_NB136_153, Q_NB153_136, Q_BK152_e6, Q_BK153_e7, Q_X1_, Q_X3_, Q_X4_, Q_X5_⟩ hb_ hon hoff
              refine ⟨_, rfl, fun K hK => ?_⟩
              replace ha := Aside0.mk ha
              have BK135 := Aside0.mk Q_BK135
              have BK136 := Aside0.mk Q_BK136
              have HB := Aside0.mk Q_HB
              refine box_step ?hg (N := 5) ?hd (cs := #[.string (⟨#[]⟩ : ByteArray), .int .i64 0, .int .i64 0, .int .i64 0, .slice none 0 0]) (t := 28) ?hr ?_; (case hd => rfl); (case hg => rfl); (case hr => first | (go_simp; done) | (go_simp; rfl))
              intro gb152 hg w20 hbox hb
              have n0_ := Aside0.mk (blk_below (g := gb135) (o := .cells #[.string a0_0, .int .i64 a0_1, .int .i64 a0_2, .int .i64 a0_3, .slice A0_4 l0_4.length c0_4] 24 (0, 0)) (by (with_reducible repeat (first | refine blk_drewN ?_ _ | refine blk_drew ?_ | refine blk_alloc ?_ _)); exact BK135.out) hb)
              have n1_ := Aside0.mk (blk_below (g := gb136) (o := .cells #[.string a1_0, .int .i64 a1_1, .int .i64 a1_2, .int .i64 a1_3, .slice A1_4 l1_4.length c1_4] 24 (0, 0)) (by (with_reducible repeat (first | refine blk_drewN ?_ _ | refine blk_drew ?_ | refine blk_alloc ?_ _)); exact BK136.out) hb)
              have n2_ := Aside0.mk (below_step (by repeat (first | (with_reducible first | exact HB.out | apply below_alloc | apply pw_below_drewN | apply below_drew1 | refine below_set ?_ GE135.out | refine below_set ?_ GE136.out) | exact HB.out)) hb)
              have n3_ := Aside0.mk (hbox)
              have n4_ := Aside0.mk ((by rw [hg]; exact (below_size (by repeat (first | (with_reducible first | exact HB.out | apply below_alloc | apply pw_below_drewN | apply below_drew1 | refine below_set ?_ GE135.out | refine below_set ?_ GE136.out) | exact HB.out))) : w.heap.size ≤ gb152))
              have n5_ := Aside0.mk ((by rw [hg]; exact (below_size (by repeat (first | (with_reducible first | exact HB.out | apply below_alloc | apply pw_below_drewN | apply below_drew1 | refine below_set ?_ GE135.out | refine below_set ?_ GE136.out) | exact HB.out))) : w.heap.size ≤ gb152))
              have n6_ := Aside0.mk ((by rw [hg]; exact Nat.ne_of_lt (blk_lt (g := gb135) (o := .cells #[.string a0_0, .int .i64 a0_1, .int .i64 a0_2, .int .i64 a0_3, .slice A0_4 l0_4.length c0_4] 24 (0, 0)) (by (with_reducible repeat (first | refine blk_drewN ?_ _ | refine blk_drew ?_ | refine blk_alloc ?_ _)); exact BK135.out)) : gb135 ≠ gb152))
              have n7_ := Aside0.mk ((by rw [hg]; exact Nat.ne_of_gt (blk_lt (g := gb135) (o := .cells #[.string a0_0, .int .i64 a0_1, .int .i64 a0_2, .int .i64 a0_3, .slice A0_4 l0_4.length c0_4] 24 (0, 0)) (by (with_reducible repeat (first | refine blk_drewN ?_ _ | refine blk_drew ?_ | refine blk_alloc ?_ _)); exact BK135.out)) : gb152 ≠ gb135))
              have n8_ := Aside0.mk ((by rw [hg]; exact Nat.ne_of_lt (blk_lt (g := gb136) (o := .cells #[.string a1_0, .int .i64 a1_1, .int .i64 a1_2, .int .i64 a1_3, .slice A1_4 l1_4.length c1_4] 24 (0, 0)) (by (with_reducible repeat (first | refine blk_drewN ?_ _ | refine blk_drew ?_ | refine blk_alloc ?_ _)); exact BK136.out)) : gb136 ≠ gb152))
              have n9_ := Aside0.mk ((by rw [hg]; exact Nat.ne_of_gt (blk_lt (g := gb136) (o := .cells #[.string a1_0, .int .i64 a1_1, .int .i64 a1_2, .int .i64 a1_3, .slice A1_4 l1_4.length c1_4] 24 (0, 0)) (by (with_reducible repeat (first | refine blk_drewN ?_ _ | refine blk_drew ?_ | refine blk_alloc ?_ _)); exact BK136.out)) : gb152 ≠ gb136))
              have z_NB153_152 := fun (h0_ : up b 4 4 = true) (h1_ : up b 4 5 = true) => (show gb153 ≠ gb152 from ((by rw [hg]; exact Nat.ne_of_lt (blk_lt (g := gb153) (o := .cells #[.string (⟨#[]⟩ : ByteArray), .int .i64 0, .int .i64 0, .int .i64 0, .slice none 0 0] 28 (0, 0)) (by (with_reducible repeat (first | refine blk_drewN ?_ _ | refine blk_drew ?_ | refine blk_alloc ?_ _)); exact (Q_BK153 h1_ (hoff 7 (by kernel_rfl))))) : gb153 ≠ gb152)))
              have z_NB152_153 := fun (h0_ : up b 4 4 = true) (h1_ : up b 4 5 = true) => (show gb152 ≠ gb153 from ((by rw [hg]; exact Nat.ne_of_gt (blk_lt (g := gb153) (o := .cells #[.string (⟨#[]⟩ : ByteArray), .int .i64 0, .int .i64 0, .int .i64 0, .slice none 0 0] 28 (0, 0)) (by (with_reducible repeat (first | refine blk_drewN ?_ _ | refine blk_drew ?_ | refine blk_alloc ?_ _)); exact (Q_BK153 h1_ (hoff 7 (by kernel_rfl))))) : gb152 ≠ gb153)))
              have z_HO144 := fun (h0_ : b 1 = true) (h1_ : b 3 = false) => (show Kd.R k39 39 w20 w.heap.size (fun _ => True) v143 t142 from by first | exact (Kd.R_below (by (with_reducible repeat (first | apply Kd.R_alloc | apply Kd.R_drewN | apply Kd.R_drew)); exact (Q_HO144 h0_ h1_)) hb) | exact Kd.R_mono (Kd.R_below (by (with_reducible repeat (first | apply Kd.R_alloc | apply Kd.R_drewN | apply Kd.R_drew)); exact (Q_HO144 h0_ h1_)) hb) (fun _ h_ => by first | trivial | exact h_ | exact h_.1))
              have z_HO144_e3 := fun (h0_ : b 3 = true) => (show Kd.R k39 39 w20 w.heap.size (fun k_ => some k_ ≠ (v150 : Value).ownBlock) v143 t142 from by first | exact (Kd.R_below (by (with_reducible repeat (first | apply Kd.R_alloc | apply Kd.R_drewN | apply Kd.R_drew)); exact (Q_HO144_e3 h0_)) hb) | exact Kd.R_mono (Kd.R_below (by (with_reducible repeat (first | apply Kd.R_alloc | apply Kd.R_drewN | apply Kd.R_drew)); exact (Q_HO144_e3 h0_)) hb) (fun _ h_ => by first | trivial | exact h_ | exact h_.1))
              have z_HO151 := fun (h0_ : b 3 = true) => (show Kd.R k39 39 w20 w.heap.size (fun k_ => some k_ ≠ (v143 : Value).ownBlock) v150 t149 from by first | exact (Kd.R_below (by (with_reducible repeat (first | apply Kd.R_alloc | apply Kd.R_drewN | apply Kd.R_drew)); exact (Q_HO151 h0_)) hb) | exact Kd.R_mono (Kd.R_below (by (with_reducible repeat (first | apply Kd.R_alloc | apply Kd.R_drewN | apply Kd.R_drew)); exact (Q_HO151 h0_)) hb) (fun _ h_ => by first | trivial | exact h_ | exact h_.1))
              have z_BK153 := fun (h0_ : b 5 = true) (h1_ : b 7 = false) => (show w20.heap[gb153]? = some (.cells #[.string (⟨#[]⟩ : ByteArray), .int .i64 0, .int .i64 0, .int .i64 0, .slice none 0 0] 28 (0, 0)) from by first | exact (blk_below (g := gb153) (o := .cells #[.string (⟨#[]⟩ : ByteArray), .int .i64 0, .int .i64 0, .int .i64 0, .slice none 0 0] 28 (0, 0)) (by (with_reducible repeat (first | refine blk_drewN ?_ _ | refine blk_drew ?_ | refine blk_alloc ?_ _)); exact (Q_BK153 h0_ h1_)) hb))
              clear BK135
              clear BK136
              clear HB
              have BK135 := n0_
              have BK136 := n1_
              have HB := n2_
              have BK152 := n3_
              have GW152 := n4_
              have GE152 := n5_
              have NB135_152 := n6_
              have NB152_135 := n7_
              have NB136_152 := n8_
              have NB152_136 := n9_
              clear n0_ n1_ n2_ n3_ n4_ n5_ n6_ n7_ n8_ n9_
              clear hb hbox hg
              refine hK.out _ _ ⟨v143, v150, gb152, gb153, m1_, m3_, (.pointer (some ⟨gb152, 0, none⟩)), m5_, (by rw [ha.out]; exact putSel_upk 4 hb_ rfl rfl rfl), (by (with_reducible repeat (first | refine blk_drewN ?_ _ | refine blk_drew ?_ | refine blk_alloc ?_ _)); exact BK135.out), (by (with_reducible repeat (first | refine blk_drewN ?_ _ | refine blk_drew ?_ | refine blk_alloc ?_ _)); exact BK136.out), (by repeat (first | (with_reducible first | exact HB.out | apply below_alloc | apply pw_below_drewN | apply below_drew1 | refine below_set ?_ GE135.out | refine below_set ?_ GE136.out | refine below_set ?_ GE152.out) | exact HB.out)), z_NB153_152, z_NB152_153, z_HO144, z_HO144_e3, z_HO151, fun _ _ => (by (with_reducible repeat (first | refine blk_drewN ?_ _ | refine blk_drew ?_ | refine blk_alloc ?_ _)); exact BK152.out), fun _ => GW152.out, fun _ => GE152.out, fun _ => NB135_152.out, fun _ => NB152_135.out, fun _ => NB136_152.out, fun _ => NB152_136.out, z_BK153, Q_GW153, Q_GE153, Q_NB135_153, Q_NB153_135, Q_NB136_153, Q_NB153_136, fun h0_ => absurd ((hoff 6 (by kernel_rfl)).symm.trans h0_) (by decide), fun h0_ => absurd ((hoff 7 (by kernel_rfl)).symm.trans h0_) (by decide), Q_X1_, Q_X3_, fun _ => rfl, Q_X5_⟩
            refine steps_cons ?_ ?_
            · rintro b a w' ⟨v143, v150, gb152, gb153, m1_, m3_, m4_, m5_, ha, Q_BK135, Q_BK136, Q_HB, Q_NB153_152, Q_NB152_153, Q_HO144, Q_HO144_e3, Q_HO151, Q_BK152, Q_GW152, Q_GE152, Q_NB135_152, Q_NB152_135, Q_NB136_152, Q_NB152_136, Q_BK153, Q_GW153, Q_GE153, Q_NB135_153, Q_NB153_135, Q_NB136_153, Q_NB153_136, Q_BK152_e6, Q_BK153_e7, Q_X1_, Q_X3_, Q_X4_, Q_X5_⟩ hb_ hon hoff
              refine ⟨_, rfl, fun K hK => ?_⟩
              replace ha := Aside0.mk ha
              have BK135 := Aside0.mk Q_BK135
              have BK136 := Aside0.mk Q_BK136
              have HB := Aside0.mk Q_HB
              refine box_step ?hg (N := 6) ?hd (cs := #[.string (⟨#[]⟩ : ByteArray), .int .i64 0, .int .i64 0, .int .i64 0, .slice none 0 0]) (t := 28) ?hr ?_; (case hd => rfl); (case hg => rfl); (case hr => first | (go_simp; done) | (go_simp; rfl))
              intro gb153 hg w20 hbox hb
              have n0_ := Aside0.mk (blk_below (g := gb135) (o := .cells #[.string a0_0, .int .i64 a0_1, .int .i64 a0_2, .int .i64 a0_3, .slice A0_4 l0_4.length c0_4] 24 (0, 0)) (by (with_reducible repeat (first | refine blk_drewN ?_ _ | refine blk_drew ?_ | refine blk_alloc ?_ _)); exact BK135.out) hb)
              have n1_ := Aside0.mk (blk_below (g := gb136) (o := .cells #[.string a1_0, .int .i64 a1_1, .int .i64 a1_2, .int .i64 a1_3, .slice A1_4 l1_4.length c1_4] 24 (0, 0)) (by (with_reducible repeat (first | refine blk_drewN ?_ _ | refine blk_drew ?_ | refine blk_alloc ?_ _)); exact BK136.out) hb)
              have n2_ := Aside0.mk (below_step (by repeat (first | (with_reducible first | exact HB.out | apply below_alloc | apply pw_below_drewN | apply below_drew1 | refine below_set ?_ GE135.out | refine below_set ?_ GE136.out) | exact HB.out)) hb)
              have n3_ := Aside0.mk (hbox)
              have n4_ := Aside0.mk ((by rw [hg]; exact (below_size (by repeat (first | (with_reducible first | exact HB.out | apply below_alloc | apply pw_below_drewN | apply below_drew1 | refine below_set ?_ GE135.out | refine below_set ?_ GE136.out) | exact HB.out))) : w.heap.size ≤ gb153))
              have n5_ := Aside0.mk ((by rw [hg]; exact (below_size (by repeat (first | (with_reducible first | exact HB.out | apply below_alloc | apply pw_below_drewN | apply below_drew1 | refine below_set ?_ GE135.out | refine below_set ?_ GE136.out) | exact HB.out))) : w.heap.size ≤ gb153))
              have n6_ := Aside0.mk ((by rw [hg]; exact Nat.ne_of_lt (blk_lt (g := gb135) (o := .cells #[.string a0_0, .int .i64 a0_1, .int .i64 a0_2, .int .i64 a0_3, .slice A0_4 l0_4.length c0_4] 24 (0, 0)) (by (with_reducible repeat (first | refine blk_drewN ?_ _ | refine blk_drew ?_ | refine blk_alloc ?_ _)); exact BK135.out)) : gb135 ≠ gb153))
              have n7_ := Aside0.mk ((by rw [hg]; exact Nat.ne_of_gt (blk_lt (g := gb135) (o := .cells #[.string a0_0, .int .i64 a0_1, .int .i64 a0_2, .int .i64 a0_3, .slice A0_4 l0_4.length c0_4] 24 (0, 0)) (by (with_reducible repeat (first | refine blk_drewN ?_ _ | refine blk_drew ?_ | refine blk_alloc ?_ _)); exact BK135.out)) : gb153 ≠ gb135))
              have n8_ := Aside0.mk ((by rw [hg]; exact Nat.ne_of_lt (blk_lt (g := gb136) (o := .cells #[.string a1_0, .int .i64 a1_1, .int .i64 a1_2, .int .i64 a1_3, .slice A1_4 l1_4.length c1_4] 24 (0, 0)) (by (with_reducible repeat (first | refine blk_drewN ?_ _ | refine blk_drew ?_ | refine blk_alloc ?_ _)); exact BK136.out)) : gb136 ≠ gb153))
              have n9_ := Aside0.mk ((by rw [hg]; exact Nat.ne_of_gt (blk_lt (g := gb136) (o := .cells #[.string a1_0, .int .i64 a1_1, .int .i64 a1_2, .int .i64 a1_3, .slice A1_4 l1_4.length c1_4] 24 (0, 0)) (by (with_reducible repeat (first | refine blk_drewN ?_ _ | refine blk_drew ?_ | refine blk_alloc ?_ _)); exact BK136.out)) : gb153 ≠ gb136))
              have z_NB153_152 := fun (h0_ : up b 5 4 = true) (h1_ : up b 5 5 = true) => (show gb153 ≠ gb152 from ((by rw [hg]; exact Nat.ne_of_gt (blk_lt (g := gb152) (o := .cells #[.string (⟨#[]⟩ : ByteArray), .int .i64 0, .int .i64 0, .int .i64 0, .slice none 0 0] 28 (0, 0)) (by (with_reducible repeat (first | refine blk_drewN ?_ _ | refine blk_drew ?_ | refine blk_alloc ?_ _)); exact (Q_BK152 h0_ (hoff 6 (by kernel_rfl))))) : gb153 ≠ gb152)))
              have z_NB152_153 := fun (h0_ : up b 5 4 = true) (h1_ : up b 5 5 = true) => (show gb152 ≠ gb153 from ((by rw [hg]; exact Nat.ne_of_lt (blk_lt (g := gb152) (o := .cells #[.string (⟨#[]⟩ : ByteArray), .int .i64 0, .int .i64 0, .int .i64 0, .slice none 0 0] 28 (0, 0)) (by (with_reducible repeat (first | refine blk_drewN ?_ _ | refine blk_drew ?_ | refine blk_alloc ?_ _)); exact (Q_BK152 h0_ (hoff 6 (by kernel_rfl))))) : gb152 ≠ gb153)))
              have z_HO144 := fun (h0_ : b 1 = true) (h1_ : b 3 = false) => (show Kd.R k39 39 w20 w.heap.size (fun _ => True) v143 t142 from by first | exact (Kd.R_below (by (with_reducible repeat (first | apply Kd.R_alloc | apply Kd.R_drewN | apply Kd.R_drew)); exact (Q_HO144 h0_ h1_)) hb) | exact Kd.R_mono (Kd.R_below (by (with_reducible repeat (first | apply Kd.R_alloc | apply Kd.R_drewN | apply Kd.R_drew)); exact (Q_HO144 h0_ h1_)) hb) (fun _ h_ => by first | trivial | exact h_ | exact h_.1))
              have z_HO144_e3 := fun (h0_ : b 3 = true) => (show Kd.R k39 39 w20 w.heap.size (fun k_ => some k_ ≠ (v150 : Value).ownBlock) v143 t142 from by first | exact (Kd.R_below (by (with_reducible repeat (first | apply Kd.R_alloc | apply Kd.R_drewN | apply Kd.R_drew)); exact (Q_HO144_e3 h0_)) hb) | exact Kd.R_mono (Kd.R_below (by (with_reducible repeat (first | apply Kd.R_alloc | apply Kd.R_drewN | apply Kd.R_drew)); exact (Q_HO144_e3 h0_)) hb) (fun _ h_ => by first | trivial | exact h_ | exact h_.1))
              have z_HO151 := fun (h0_ : b 3 = true) => (show Kd.R k39 39 w20 w.heap.size (fun k_ => some k_ ≠ (v143 : Value).ownBlock) v150 t149 from by first | exact (Kd.R_below (by (with_reducible repeat (first | apply Kd.R_alloc | apply Kd.R_drewN | apply Kd.R_drew)); exact (Q_HO151 h0_)) hb) | exact Kd.R_mono (Kd.R_below (by (with_reducible repeat (first | apply Kd.R_alloc | apply Kd.R_drewN | apply Kd.R_drew)); exact (Q_HO151 h0_)) hb) (fun _ h_ => by first | trivial | exact h_ | exact h_.1))
              have z_BK152 := fun (h0_ : b 4 = true) (h1_ : b 6 = false) => (show w20.heap[gb152]? = some (.cells #[.string (⟨#[]⟩ : ByteArray), .int .i64 0, .int .i64 0, .int .i64 0, .slice none 0 0] 28 (0, 0)) from by first | exact (blk_below (g := gb152) (o := .cells #[.string (⟨#[]⟩ : ByteArray), .int .i64 0, .int .i64 0, .int .i64 0, .slice none 0 0] 28 (0, 0)) (by (with_reducible repeat (first | refine blk_drewN ?_ _ | refine blk_drew ?_ | refine blk_alloc ?_ _)); exact (Q_BK152 h0_ h1_)) hb))
              clear BK135
              clear BK136
              clear HB
              have BK135 := n0_
              have BK136 := n1_
              have HB := n2_
              have BK153 := n3_
              have GW153 := n4_
              have GE153 := n5_
              have NB135_153 := n6_
              have NB153_135 := n7_
              have NB136_153 := n8_
              have NB153_136 := n9_
              clear n0_ n1_ n2_ n3_ n4_ n5_ n6_ n7_ n8_ n9_
              clear hb hbox hg
              refine hK.out _ _ ⟨v143, v150, gb152, gb153, m1_, m3_, m4_, (.pointer (some ⟨gb153, 0, none⟩)), (by rw [ha.out]; exact putSel_upk 5 hb_ rfl rfl rfl), (by (with_reducible repeat (first | refine blk_drewN ?_ _ | refine blk_drew ?_ | refine blk_alloc ?_ _)); exact BK135.out), (by (with_reducible repeat (first | refine blk_drewN ?_ _ | refine blk_drew ?_ | refine blk_alloc ?_ _)); exact BK136.out), (by repeat (first | (with_reducible first | exact HB.out | apply below_alloc | apply pw_below_drewN | apply below_drew1 | refine below_set ?_ GE135.out | refine below_set ?_ GE136.out | refine below_set ?_ GE153.out) | exact HB.out)), z_NB153_152, z_NB152_153, z_HO144, z_HO144_e3, z_HO151, z_BK152, Q_GW152, Q_GE152, Q_NB135_152, Q_NB152_135, Q_NB136_152, Q_NB152_136, fun _ _ => (by (with_reducible repeat (first | refine blk_drewN ?_ _ | refine blk_drew ?_ | refine blk_alloc ?_ _)); exact BK153.out), fun _ => GW153.out, fun _ => GE153.out, fun _ => NB135_153.out, fun _ => NB153_135.out, fun _ => NB136_153.out, fun _ => NB153_136.out, fun h0_ => absurd ((hoff 6 (by kernel_rfl)).symm.trans h0_) (by decide), fun h0_ => absurd ((hoff 7 (by kernel_rfl)).symm.trans h0_) (by decide), Q_X1_, Q_X3_, Q_X4_, fun _ => rfl⟩
            refine steps_cons ?_ ?_
            · rintro b a w' ⟨v143, v150, gb152, gb153, m1_, m3_, m4_, m5_, ha, Q_BK135, Q_BK136, Q_HB, Q_NB153_152, Q_NB152_153, Q_HO144, Q_HO144_e3, Q_HO151, Q_BK152, Q_GW152, Q_GE152, Q_NB135_152, Q_NB152_135, Q_NB136_152, Q_NB152_136, Q_BK153, Q_GW153, Q_GE153, Q_NB135_153, Q_NB153_135, Q_NB136_153, Q_NB153_136, Q_BK152_e6, Q_BK153_e7, Q_X1_, Q_X3_, Q_X4_, Q_X5_⟩ hb_ hon hoff
              refine ⟨_, rfl, fun K hK => ?_⟩
              have e5 : a.tmps[5]? = some (m4_) := by rw [ha]; exact putSel_on (e := (4, 5, m4_)) 4 rfl rfl (hon 4 (by kernel_rfl)) rfl
              rw [Q_X4_ (hon 4 (by kernel_rfl))] at e5
              have e24 : a.tmps[24]? = some (m1_) := by rw [ha]; exact putSel_on (e := (1, 24, m1_)) 1 rfl rfl (hon 1 (by kernel_rfl)) rfl
              rw [Q_X1_ (hon 1 (by kernel_rfl))] at e24
              replace ha := Aside0.mk ha
              have BK135 := Aside0.mk Q_BK135
              have BK136 := Aside0.mk Q_BK136
              have HB := Aside0.mk Q_HB
              have NB153_152 := Aside0.mk (Q_NB153_152 (hon 4 (by kernel_rfl)) (hon 5 (by kernel_rfl)))
              have NB152_153 := Aside0.mk (Q_NB152_153 (hon 4 (by kernel_rfl)) (hon 5 (by kernel_rfl)))
              have HO144 := Aside0.mk (Q_HO144_e3 (hon 3 (by kernel_rfl)))
              have HO151 := Aside0.mk (Q_HO151 (hon 3 (by kernel_rfl)))
              have BK152 := Aside0.mk (Q_BK152 (hon 4 (by kernel_rfl)) hb_)
              have GW152 := Aside0.mk (Q_GW152 (hon 4 (by kernel_rfl)))
              have GE152 := Aside0.mk (Q_GE152 (hon 4 (by kernel_rfl)))
              have NB135_152 := Aside0.mk (Q_NB135_152 (hon 4 (by kernel_rfl)))
              have NB152_135 := Aside0.mk (Q_NB152_135 (hon 4 (by kernel_rfl)))
              have NB136_152 := Aside0.mk (Q_NB136_152 (hon 4 (by kernel_rfl)))
              have NB152_136 := Aside0.mk (Q_NB152_136 (hon 4 (by kernel_rfl)))
              have BK153 := Aside0.mk (Q_BK153 (hon 5 (by kernel_rfl)) (hoff 7 (by kernel_rfl)))
              have GW153 := Aside0.mk (Q_GW153 (hon 5 (by kernel_rfl)))
              have GE153 := Aside0.mk (Q_GE153 (hon 5 (by kernel_rfl)))
              have NB135_153 := Aside0.mk (Q_NB135_153 (hon 5 (by kernel_rfl)))
              have NB153_135 := Aside0.mk (Q_NB153_135 (hon 5 (by kernel_rfl)))
              have NB136_153 := Aside0.mk (Q_NB136_153 (hon 5 (by kernel_rfl)))
              have NB153_136 := Aside0.mk (Q_NB153_136 (hon 5 (by kernel_rfl)))
              obtain ⟨Ao29, co29, eo29⟩ := Kd.R_slice HO144.out
              (first | subst eo29 | (injection eo29 with f1_ f2_ f3_; have f4_ := f1_.symm; have f5_ := f3_.symm; clear f1_ f2_ f3_; subst f4_; subst f5_))
              have hs25 : w'.cell? ⟨gb152, 0, none⟩ = some (.string (⟨#[]⟩ : ByteArray)) := (blk_cell BK152.out 0).trans rfl
              have hfs25 := blk_frozen BK152.out 0
              have hns25_0 := NB135_152.out
              have hns25_1 := NB136_152.out
              have hns25_3 := NB153_152.out
              have hms25_0 := NB152_135.out
              have hms25_1 := NB152_136.out
              have hms25_3 := NB152_153.out
              have hs26 : w'.cell? ⟨gb152, 1, none⟩ = some (.int .i64 0) := (blk_cell BK152.out 1).trans rfl
              have hfs26 := blk_frozen BK152.out 1
              have hns26_0 := NB135_152.out
              have hns26_1 := NB136_152.out
              have hns26_3 := NB153_152.out
              have hms26_0 := NB152_135.out
              have hms26_1 := NB152_136.out
              have hms26_3 := NB152_153.out
              have hs27 : w'.cell? ⟨gb152, 2, none⟩ = some (.int .i64 0) := (blk_cell BK152.out 2).trans rfl
              have hfs27 := blk_frozen BK152.out 2
              have hns27_0 := NB135_152.out
              have hns27_1 := NB136_152.out
              have hns27_3 := NB153_152.out
              have hms27_0 := NB152_135.out
              have hms27_1 := NB152_136.out
              have hms27_3 := NB152_153.out
              have hs28 : w'.cell? ⟨gb152, 3, none⟩ = some (.int .i64 0) := (blk_cell BK152.out 3).trans rfl
              have hfs28 := blk_frozen BK152.out 3
              have hns28_0 := NB135_152.out
              have hns28_1 := NB136_152.out
              have hns28_3 := NB153_152.out
              have hms28_0 := NB152_135.out
              have hms28_1 := NB152_136.out
              have hms28_3 := NB152_153.out
              have hs30 : w'.cell? ⟨gb152, 4, none⟩ = some (.slice none 0 0) := (blk_cell BK152.out 4).trans rfl
              have hfs30 := blk_frozen BK152.out 4
              have hns30_0 := NB135_152.out
              have hns30_1 := NB136_152.out
              have hns30_3 := NB153_152.out
              have hms30_0 := NB152_135.out
              have hms30_1 := NB152_136.out
              have hms30_3 := NB152_153.out
              refine skip_ (w1 := ?_) (by rfl) rfl ?_ ?_
              rotate_left
              · go_simp
                rfl
              refine hK.out _ _ ⟨.slice Ao29 t142.length co29, v150, gb152, gb153, m1_, m3_, m4_, m5_, (by rw [ha.out]; exact putSel_none (v := undef) rfl), (by (with_reducible repeat (first | refine blk_drewN ?_ _ | refine blk_drew ?_ | refine blk_alloc ?_ _)); refine blk_far ?_ NB135_152.out _; (with_reducible repeat (first | refine blk_drewN ?_ _ | refine blk_drew ?_ | refine blk_alloc ?_ _)); refine blk_far ?_ NB135_152.out _; (with_reducible repeat (first | refine blk_drewN ?_ _ | refine blk_drew ?_ | refine blk_alloc ?_ _)); refine blk_far ?_ NB135_152.out _; (with_reducible repeat (first | refine blk_drewN ?_ _ | refine blk_drew ?_ | refine blk_alloc ?_ _)); refine blk_far ?_ NB135_152.out _; (with_reducible repeat (first | refine blk_drewN ?_ _ | refine blk_drew ?_ | refine blk_alloc ?_ _)); refine blk_far ?_ NB135_152.out _; (with_reducible repeat (first | refine blk_drewN ?_ _ | refine blk_drew ?_ | refine blk_alloc ?_ _)); exact BK135.out), (by (with_reducible repeat (first | refine blk_drewN ?_ _ | refine blk_drew ?_ | refine blk_alloc ?_ _)); refine blk_far ?_ NB136_152.out _; (with_reducible repeat (first | refine blk_drewN ?_ _ | refine blk_drew ?_ | refine blk_alloc ?_ _)); refine blk_far ?_ NB136_152.out _; (with_reducible repeat (first | refine blk_drewN ?_ _ | refine blk_drew ?_ | refine blk_alloc ?_ _)); refine blk_far ?_ NB136_152.out _; (with_reducible repeat (first | refine blk_drewN ?_ _ | refine blk_drew ?_ | refine blk_alloc ?_ _)); refine blk_far ?_ NB136_152.out _; (with_reducible repeat (first | refine blk_drewN ?_ _ | refine blk_drew ?_ | refine blk_alloc ?_ _)); refine blk_far ?_ NB136_152.out _; (with_reducible repeat (first | refine blk_drewN ?_ _ | refine blk_drew ?_ | refine blk_alloc ?_ _)); exact BK136.out), (by repeat (first | (with_reducible first | exact HB.out | apply below_alloc | apply pw_below_drewN | apply below_drew1 | refine below_set ?_ GE135.out | refine below_set ?_ GE136.out | refine below_set ?_ GE152.out | refine below_set ?_ GE153.out) | exact HB.out)), fun _ _ => NB153_152.out, fun _ _ => NB152_153.out, fun _ h1_ => absurd ((hon 3 (by kernel_rfl)).symm.trans h1_) (by decide), fun _ => (by (with_reducible repeat (first | apply Kd.R_alloc | apply Kd.R_drewN | apply Kd.R_drew)); exact Kd.R_mono (Kd.R_far (p := ⟨gb152, 4, none⟩) (Kd.R_far (p := ⟨gb152, 3, none⟩) (Kd.R_far (p := ⟨gb152, 2, none⟩) (Kd.R_far (p := ⟨gb152, 1, none⟩) (Kd.R_far (p := ⟨gb152, 0, none⟩) (Kd.R_types HO144.out BK152.out (by decide)) (fun _ hk => hk.2) (.string t138)) (fun _ hk => hk.2) (.int .i64 t139)) (fun _ hk => hk.2) (.int .i64 t140)) (fun _ hk => hk.2) (.int .i64 t141)) (fun _ hk => hk.2) (.slice Ao29 t142.length co29)) (fun _ hk => hk.1)), fun _ => (by (with_reducible repeat (first | apply Kd.R_alloc | apply Kd.R_drewN | apply Kd.R_drew)); exact Kd.R_mono (Kd.R_far (p := ⟨gb152, 4, none⟩) (Kd.R_far (p := ⟨gb152, 3, none⟩) (Kd.R_far (p := ⟨gb152, 2, none⟩) (Kd.R_far (p := ⟨gb152, 1, none⟩) (Kd.R_far (p := ⟨gb152, 0, none⟩) (Kd.R_types HO151.out BK152.out (by decide)) (fun _ hk => hk.2) (.string t138)) (fun _ hk => hk.2) (.int .i64 t139)) (fun _ hk => hk.2) (.int .i64 t140)) (fun _ hk => hk.2) (.int .i64 t141)) (fun _ hk => hk.2) (.slice Ao29 t142.length co29)) (fun _ hk => hk.1)), fun _ h1_ => absurd ((up_self b 6).symm.trans h1_) (by decide), fun _ => GW152.out, fun _ => GE152.out, fun _ => NB135_152.out, fun _ => NB152_135.out, fun _ => NB136_152.out, fun _ => NB152_136.out, fun _ _ => (by (with_reducible repeat (first | refine blk_drewN ?_ _ | refine blk_drew ?_ | refine blk_alloc ?_ _)); refine blk_far ?_ NB153_152.out _; (with_reducible repeat (first | refine blk_drewN ?_ _ | refine blk_drew ?_ | refine blk_alloc ?_ _)); refine blk_far ?_ NB153_152.out _; (with_reducible repeat (first | refine blk_drewN ?_ _ | refine blk_drew ?_ | refine blk_alloc ?_ _)); refine blk_far ?_ NB153_152.out _; (with_reducible repeat (first | refine blk_drewN ?_ _ | refine blk_drew ?_ | refine blk_alloc ?_ _)); refine blk_far ?_ NB153_152.out _; (with_reducible repeat (first | refine blk_drewN ?_ _ | refine blk_drew ?_ | refine blk_alloc ?_ _)); refine blk_far ?_ NB153_152.out _; (with_reducible repeat (first | refine blk_drewN ?_ _ | refine blk_drew ?_ | refine blk_alloc ?_ _)); exact BK153.out), fun _ => GW153.out, fun _ => GE153.out, fun _ => NB135_153.out, fun _ => NB153_135.out, fun _ => NB136_153.out, fun _ => NB153_136.out, fun _ => (by (with_reducible repeat (first | refine blk_drewN ?_ _ | refine blk_drew ?_ | refine blk_alloc ?_ _)); refine blk_put (cs := #[.string t138, .int .i64 t139, .int .i64 t140, .int .i64 t141, .slice none 0 0]) ?_ 4 _ rfl; (with_reducible repeat (first | refine blk_drewN ?_ _ | refine blk_drew ?_ | refine blk_alloc ?_ _)); refine blk_put (cs := #[.string t138, .int .i64 t139, .int .i64 t140, .int .i64 0, .slice none 0 0]) ?_ 3 _ rfl; (with_reducible repeat (first | refine blk_drewN ?_ _ | refine blk_drew ?_ | refine blk_alloc ?_ _)); refine blk_put (cs := #[.string t138, .int .i64 t139, .int .i64 0, .int .i64 0, .slice none 0 0]) ?_ 2 _ rfl; (with_reducible repeat (first | refine blk_drewN ?_ _ | refine blk_drew ?_ | refine blk_alloc ?_ _)); refine blk_put (cs := #[.string t138, .int .i64 0, .int .i64 0, .int .i64 0, .slice none 0 0]) ?_ 1 _ rfl; (with_reducible repeat (first | refine blk_drewN ?_ _ | refine blk_drew ?_ | refine blk_alloc ?_ _)); refine blk_put (cs := #[.string (⟨#[]⟩ : ByteArray), .int .i64 0, .int .i64 0, .int .i64 0, .slice none 0 0]) ?_ 0 _ rfl; (with_reducible repeat (first | refine blk_drewN ?_ _ | refine blk_drew ?_ | refine blk_alloc ?_ _)); exact BK152.out), fun h0_ => absurd ((hoff 7 (by kernel_rfl)).symm.trans h0_) (by decide), Q_X1_, Q_X3_, Q_X4_, Q_X5_⟩
            refine steps_cons ?_ ?_
            · rintro b a w' ⟨v143, v150, gb152, gb153, m1_, m3_, m4_, m5_, ha, Q_BK135, Q_BK136, Q_HB, Q_NB153_152, Q_NB152_153, Q_HO144, Q_HO144_e3, Q_HO151, Q_BK152, Q_GW152, Q_GE152, Q_NB135_152, Q_NB152_135, Q_NB136_152, Q_NB152_136, Q_BK153, Q_GW153, Q_GE153, Q_NB135_153, Q_NB153_135, Q_NB136_153, Q_NB153_136, Q_BK152_e6, Q_BK153_e7, Q_X1_, Q_X3_, Q_X4_, Q_X5_⟩ hb_ hon hoff
              refine ⟨_, rfl, fun K hK => ?_⟩
              have e6 : a.tmps[6]? = some (m5_) := by rw [ha]; exact putSel_on (e := (5, 6, m5_)) 5 rfl rfl (hon 5 (by kernel_rfl)) rfl
              rw [Q_X5_ (hon 5 (by kernel_rfl))] at e6
              have e26 : a.tmps[26]? = some (m3_) := by rw [ha]; exact putSel_on (e := (3, 26, m3_)) 3 rfl rfl (hon 3 (by kernel_rfl)) rfl
              rw [Q_X3_ (hon 3 (by kernel_rfl))] at e26
              replace ha := Aside0.mk ha
              have BK135 := Aside0.mk Q_BK135
              have BK136 := Aside0.mk Q_BK136
              have HB := Aside0.mk Q_HB
              have NB153_152 := Aside0.mk (Q_NB153_152 (hon 4 (by kernel_rfl)) (hon 5 (by kernel_rfl)))
              have NB152_153 := Aside0.mk (Q_NB152_153 (hon 4 (by kernel_rfl)) (hon 5 (by kernel_rfl)))
              have HO144 := Aside0.mk (Q_HO144_e3 (hon 3 (by kernel_rfl)))
              have HO151 := Aside0.mk (Q_HO151 (hon 3 (by kernel_rfl)))
              have GW152 := Aside0.mk (Q_GW152 (hon 4 (by kernel_rfl)))
              have GE152 := Aside0.mk (Q_GE152 (hon 4 (by kernel_rfl)))
              have NB135_152 := Aside0.mk (Q_NB135_152 (hon 4 (by kernel_rfl)))
              have NB152_135 := Aside0.mk (Q_NB152_135 (hon 4 (by kernel_rfl)))
              have NB136_152 := Aside0.mk (Q_NB136_152 (hon 4 (by kernel_rfl)))
              have NB152_136 := Aside0.mk (Q_NB152_136 (hon 4 (by kernel_rfl)))
              have BK153 := Aside0.mk (Q_BK153 (hon 5 (by kernel_rfl)) hb_)
              have GW153 := Aside0.mk (Q_GW153 (hon 5 (by kernel_rfl)))
              have GE153 := Aside0.mk (Q_GE153 (hon 5 (by kernel_rfl)))
              have NB135_153 := Aside0.mk (Q_NB135_153 (hon 5 (by kernel_rfl)))
              have NB153_135 := Aside0.mk (Q_NB153_135 (hon 5 (by kernel_rfl)))
              have NB136_153 := Aside0.mk (Q_NB136_153 (hon 5 (by kernel_rfl)))
              have NB153_136 := Aside0.mk (Q_NB153_136 (hon 5 (by kernel_rfl)))
              have BK152 := Aside0.mk (Q_BK152_e6 (hon 6 (by kernel_rfl)))
              obtain ⟨Ao35, co35, eo35⟩ := Kd.R_slice HO151.out
              (first | subst eo35 | (injection eo35 with f1_ f2_ f3_; have f4_ := f1_.symm; have f5_ := f3_.symm; clear f1_ f2_ f3_; subst f4_; subst f5_))
              have hs31 : w'.cell? ⟨gb153, 0, none⟩ = some (.string (⟨#[]⟩ : ByteArray)) := (blk_cell BK153.out 0).trans rfl
              have hfs31 := blk_frozen BK153.out 0
              have hns31_0 := NB135_153.out
              have hns31_1 := NB136_153.out
              have hns31_2 := NB152_153.out
              have hms31_0 := NB153_135.out
              have hms31_1 := NB153_136.out
              have hms31_2 := NB153_152.out
              have hs32 : w'.cell? ⟨gb153, 1, none⟩ = some (.int .i64 0) := (blk_cell BK153.out 1).trans rfl
              have hfs32 := blk_frozen BK153.out 1
              have hns32_0 := NB135_153.out
              have hns32_1 := NB136_153.out
              have hns32_2 := NB152_153.out
              have hms32_0 := NB153_135.out
              have hms32_1 := NB153_136.out
              have hms32_2 := NB153_152.out
              have hs33 : w'.cell? ⟨gb153, 2, none⟩ = some (.int .i64 0) := (blk_cell BK153.out 2).trans rfl
              have hfs33 := blk_frozen BK153.out 2
              have hns33_0 := NB135_153.out
              have hns33_1 := NB136_153.out
              have hns33_2 := NB152_153.out
              have hms33_0 := NB153_135.out
              have hms33_1 := NB153_136.out
              have hms33_2 := NB153_152.out
              have hs34 : w'.cell? ⟨gb153, 3, none⟩ = some (.int .i64 0) := (blk_cell BK153.out 3).trans rfl
              have hfs34 := blk_frozen BK153.out 3
              have hns34_0 := NB135_153.out
              have hns34_1 := NB136_153.out
              have hns34_2 := NB152_153.out
              have hms34_0 := NB153_135.out
              have hms34_1 := NB153_136.out
              have hms34_2 := NB153_152.out
              have hs36 : w'.cell? ⟨gb153, 4, none⟩ = some (.slice none 0 0) := (blk_cell BK153.out 4).trans rfl
              have hfs36 := blk_frozen BK153.out 4
              have hns36_0 := NB135_153.out
              have hns36_1 := NB136_153.out
              have hns36_2 := NB152_153.out
              have hms36_0 := NB153_135.out
              have hms36_1 := NB153_136.out
              have hms36_2 := NB153_152.out
              refine skip_ (w1 := ?_) (by rfl) rfl ?_ ?_
              rotate_left
              · go_simp
                rfl
              refine hK.out _ _ ⟨v143, .slice Ao35 t149.length co35, gb152, gb153, m1_, m3_, m4_, m5_, (by rw [ha.out]; exact putSel_none (v := undef) rfl), (by (with_reducible repeat (first | refine blk_drewN ?_ _ | refine blk_drew ?_ | refine blk_alloc ?_ _)); refine blk_far ?_ NB135_153.out _; (with_reducible repeat (first | refine blk_drewN ?_ _ | refine blk_drew ?_ | refine blk_alloc ?_ _)); refine blk_far ?_ NB135_153.out _; (with_reducible repeat (first | refine blk_drewN ?_ _ | refine blk_drew ?_ | refine blk_alloc ?_ _)); refine blk_far ?_ NB135_153.out _; (with_reducible repeat (first | refine blk_drewN ?_ _ | refine blk_drew ?_ | refine blk_alloc ?_ _)); refine blk_far ?_ NB135_153.out _; (with_reducible repeat (first | refine blk_drewN ?_ _ | refine blk_drew ?_ | refine blk_alloc ?_ _)); refine blk_far ?_ NB135_153.out _; (with_reducible repeat (first | refine blk_drewN ?_ _ | refine blk_drew ?_ | refine blk_alloc ?_ _)); exact BK135.out), (by (with_reducible repeat (first | refine blk_drewN ?_ _ | refine blk_drew ?_ | refine blk_alloc ?_ _)); refine blk_far ?_ NB136_153.out _; (with_reducible repeat (first | refine blk_drewN ?_ _ | refine blk_drew ?_ | refine blk_alloc ?_ _)); refine blk_far ?_ NB136_153.out _; (with_reducible repeat (first | refine blk_drewN ?_ _ | refine blk_drew ?_ | refine blk_alloc ?_ _)); refine blk_far ?_ NB136_153.out _; (with_reducible repeat (first | refine blk_drewN ?_ _ | refine blk_drew ?_ | refine blk_alloc ?_ _)); refine blk_far ?_ NB136_153.out _; (with_reducible repeat (first | refine blk_drewN ?_ _ | refine blk_drew ?_ | refine blk_alloc ?_ _)); refine blk_far ?_ NB136_153.out _; (with_reducible repeat (first | refine blk_drewN ?_ _ | refine blk_drew ?_ | refine blk_alloc ?_ _)); exact BK136.out), (by repeat (first | (with_reducible first | exact HB.out | apply below_alloc | apply pw_below_drewN | apply below_drew1 | refine below_set ?_ GE135.out | refine below_set ?_ GE136.out | refine below_set ?_ GE152.out | refine below_set ?_ GE153.out) | exact HB.out)), fun _ _ => NB153_152.out, fun _ _ => NB152_153.out, fun _ h1_ => absurd ((hon 3 (by kernel_rfl)).symm.trans h1_) (by decide), fun _ => (by (with_reducible repeat (first | apply Kd.R_alloc | apply Kd.R_drewN | apply Kd.R_drew)); exact Kd.R_mono (Kd.R_far (p := ⟨gb153, 4, none⟩) (Kd.R_far (p := ⟨gb153, 3, none⟩) (Kd.R_far (p := ⟨gb153, 2, none⟩) (Kd.R_far (p := ⟨gb153, 1, none⟩) (Kd.R_far (p := ⟨gb153, 0, none⟩) (Kd.R_types HO144.out BK153.out (by decide)) (fun _ hk => hk.2) (.string t145)) (fun _ hk => hk.2) (.int .i64 t146)) (fun _ hk => hk.2) (.int .i64 t147)) (fun _ hk => hk.2) (.int .i64 t148)) (fun _ hk => hk.2) (.slice Ao35 t149.length co35)) (fun _ hk => hk.1)), fun _ => (by (with_reducible repeat (first | apply Kd.R_alloc | apply Kd.R_drewN | apply Kd.R_drew)); exact Kd.R_mono (Kd.R_far (p := ⟨gb153, 4, none⟩) (Kd.R_far (p := ⟨gb153, 3, none⟩) (Kd.R_far (p := ⟨gb153, 2, none⟩) (Kd.R_far (p := ⟨gb153, 1, none⟩) (Kd.R_far (p := ⟨gb153, 0, none⟩) (Kd.R_types HO151.out BK153.out (by decide)) (fun _ hk => hk.2) (.string t145)) (fun _ hk => hk.2) (.int .i64 t146)) (fun _ hk => hk.2) (.int .i64 t147)) (fun _ hk => hk.2) (.int .i64 t148)) (fun _ hk => hk.2) (.slice Ao35 t149.length co35)) (fun _ hk => hk.1)), fun _ h1_ => absurd ((hon 6 (by kernel_rfl)).symm.trans h1_) (by decide), fun _ => GW152.out, fun _ => GE152.out, fun _ => NB135_152.out, fun _ => NB152_135.out, fun _ => NB136_152.out, fun _ => NB152_136.out, fun _ h1_ => absurd ((up_self b 7).symm.trans h1_) (by decide), fun _ => GW153.out, fun _ => GE153.out, fun _ => NB135_153.out, fun _ => NB153_135.out, fun _ => NB136_153.out, fun _ => NB153_136.out, fun _ => (by (with_reducible repeat (first | refine blk_drewN ?_ _ | refine blk_drew ?_ | refine blk_alloc ?_ _)); refine blk_far ?_ NB152_153.out _; (with_reducible repeat (first | refine blk_drewN ?_ _ | refine blk_drew ?_ | refine blk_alloc ?_ _)); refine blk_far ?_ NB152_153.out _; (with_reducible repeat (first | refine blk_drewN ?_ _ | refine blk_drew ?_ | refine blk_alloc ?_ _)); refine blk_far ?_ NB152_153.out _; (with_reducible repeat (first | refine blk_drewN ?_ _ | refine blk_drew ?_ | refine blk_alloc ?_ _)); refine blk_far ?_ NB152_153.out _; (with_reducible repeat (first | refine blk_drewN ?_ _ | refine blk_drew ?_ | refine blk_alloc ?_ _)); refine blk_far ?_ NB152_153.out _; (with_reducible repeat (first | refine blk_drewN ?_ _ | refine blk_drew ?_ | refine blk_alloc ?_ _)); exact BK152.out), fun _ => (by (with_reducible repeat (first | refine blk_drewN ?_ _ | refine blk_drew ?_ | refine blk_alloc ?_ _)); refine blk_put (cs := #[.string t145, .int .i64 t146, .int .i64 t147, .int .i64 t148, .slice none 0 0]) ?_ 4 _ rfl; (with_reducible repeat (first | refine blk_drewN ?_ _ | refine blk_drew ?_ | refine blk_alloc ?_ _)); refine blk_put (cs := #[.string t145, .int .i64 t146, .int .i64 t147, .int .i64 0, .slice none 0 0]) ?_ 3 _ rfl; (with_reducible repeat (first | refine blk_drewN ?_ _ | refine blk_drew ?_ | refine blk_alloc ?_ _)); refine blk_put (cs := #[.string t145, .int .i64 t146, .int .i64 0, .int .i64 0, .slice none 0 0]) ?_ 2 _ rfl; (with_reducible repeat (first | refine blk_drewN ?_ _ | refine blk_drew ?_ | refine blk_alloc ?_ _)); refine blk_put (cs := #[.string t145, .int .i64 0, .int .i64 0, .int .i64 0, .slice none 0 0]) ?_ 1 _ rfl; (with_reducible repeat (first | refine blk_drewN ?_ _ | refine blk_drew ?_ | refine blk_alloc ?_ _)); refine blk_put (cs := #[.string (⟨#[]⟩ : ByteArray), .int .i64 0, .int .i64 0, .int .i64 0, .slice none 0 0]) ?_ 0 _ rfl; (with_reducible repeat (first | refine blk_drewN ?_ _ | refine blk_drew ?_ | refine blk_alloc ?_ _)); exact BK153.out), Q_X1_, Q_X3_, Q_X4_, Q_X5_⟩
            exact steps_nil
          rintro b a w36 hall ⟨v143, v150, gb152, gb153, m1_, m3_, m4_, m5_, ha, Q_BK135, Q_BK136, Q_HB, Q_NB153_152, Q_NB152_153, Q_HO144, Q_HO144_e3, Q_HO151, Q_BK152, Q_GW152, Q_GE152, Q_NB135_152, Q_NB152_135, Q_NB136_152, Q_NB152_136, Q_BK153, Q_GW153, Q_GE153, Q_NB135_153, Q_NB153_135, Q_NB136_153, Q_NB153_136, Q_BK152_e6, Q_BK153_e7, Q_X1_, Q_X3_, Q_X4_, Q_X5_⟩
          clear BK135 BK136 HB
          have hb0_ := hall 0 (by kernel_rfl)
          have hb1_ := hall 1 (by kernel_rfl)
          have hb2_ := hall 2 (by kernel_rfl)
          have hb3_ := hall 3 (by kernel_rfl)
          have hb4_ := hall 4 (by kernel_rfl)
          have hb5_ := hall 5 (by kernel_rfl)
          have hb6_ := hall 6 (by kernel_rfl)
          have hb7_ := hall 7 (by kernel_rfl)
          subst ha
          obtain rfl := Q_X1_ hb1_
          obtain rfl := Q_X3_ hb3_
          obtain rfl := Q_X4_ hb4_
          obtain rfl := Q_X5_ hb5_
          simp only [putSel, hb0_, hb1_, hb2_, hb3_, hb4_, hb5_, hb6_, hb7_, if_true, Act.put, List.setIfInBounds_toArray, List.set_cons_zero, List.set_cons_succ]
          have BK135 := Aside0.mk Q_BK135
          clear Q_BK135
          have BK136 := Aside0.mk Q_BK136
          clear Q_BK136
          have HB := Aside0.mk Q_HB
          clear Q_HB
          have NB153_152 := Aside0.mk (Q_NB153_152 hb4_ hb5_)
          clear Q_NB153_152
          have NB152_153 := Aside0.mk (Q_NB152_153 hb4_ hb5_)
          clear Q_NB152_153
          clear Q_HO144
          have HO144 := Aside0.mk (Q_HO144_e3 hb3_)
          clear Q_HO144_e3
          have HO151 := Aside0.mk (Q_HO151 hb3_)
          clear Q_HO151
          clear Q_BK152
          have GW152 := Aside0.mk (Q_GW152 hb4_)
          clear Q_GW152
          have GE152 := Aside0.mk (Q_GE152 hb4_)
          clear Q_GE152
          have NB135_152 := Aside0.mk (Q_NB135_152 hb4_)
          clear Q_NB135_152
          have NB152_135 := Aside0.mk (Q_NB152_135 hb4_)
          clear Q_NB152_135
          have NB136_152 := Aside0.mk (Q_NB136_152 hb4_)
          clear Q_NB136_152
          have NB152_136 := Aside0.mk (Q_NB152_136 hb4_)
          clear Q_NB152_136
          clear Q_BK153
          have GW153 := Aside0.mk (Q_GW153 hb5_)
          clear Q_GW153
          have GE153 := Aside0.mk (Q_GE153 hb5_)
          clear Q_GE153
          have NB135_153 := Aside0.mk (Q_NB135_153 hb5_)
          clear Q_NB135_153
          have NB153_135 := Aside0.mk (Q_NB153_135 hb5_)
          clear Q_NB153_135
          have NB136_153 := Aside0.mk (Q_NB136_153 hb5_)
          clear Q_NB136_153
          have NB153_136 := Aside0.mk (Q_NB153_136 hb5_)
          clear Q_NB153_136
          have BK152 := Aside0.mk (Q_BK152_e6 hb6_)
          clear Q_BK152_e6
          have BK153 := Aside0.mk (Q_BK153_e7 hb7_)
          clear Q_BK153_e7
          clear hall hb0_ hb1_ hb2_ hb3_ hb4_ hb5_ hb6_ hb7_
          go_upto_region 6 with (fail)
          go_cut [34] (fun v34 wc => ∃ (kq : Nat) (x34_17 : Bool), v34 = .bool x34_17 ∧ Aside0 (prolixlaw18_CodeSkips.j1 kq x34_17 t138 t139 t140 t141 t142 t145 t146 t147 t148 t149 = some r) ∧ Aside0 (kq ≤ kj4) ∧ Aside0 (Kd.R k39 39 wc w.heap.size (fun k_ => some k_ ≠ (v150 : Value).ownBlock) v143 t142) ∧ Aside0 (Kd.R k39 39 wc w.heap.size (fun k_ => some k_ ≠ (v143 : Value).ownBlock) v150 t149) ∧ Aside0 (wc.heap[gb135]? = some (.cells #[.string a0_0, .int .i64 a0_1, .int .i64 a0_2, .int .i64 a0_3, (.slice A0_4 l0_4.length c0_4)] 24 (0, 0))) ∧ Aside0 (wc.heap[gb136]? = some (.cells #[.string a1_0, .int .i64 a1_1, .int .i64 a1_2, .int .i64 a1_3, (.slice A1_4 l1_4.length c1_4)] 24 (0, 0))) ∧ Aside0 (wc.heap[gb152]? = some (.cells #[.string t138, .int .i64 t139, .int .i64 t140, .int .i64 t141, v143] 28 (0, 0))) ∧ Aside0 (wc.heap[gb153]? = some (.cells #[.string t145, .int .i64 t146, .int .i64 t147, .int .i64 t148, v150] 28 (0, 0))) ∧ Aside0 (Below w.heap.size w wc))
          case first =>
            have H := HC18.out
            clear HC18
            replace H := Option.bind_eq_some_iff.mp H
            obtain ⟨t154, A370, H⟩ := H
            replace H : (if t154 = 0 then ((code_Check.f kj4 t145 t146 t147 t148 t149).bind fun t155 => (prolixlaw18_CodeSkips.j1 kj4 (t155 != 0) t138 t139 t140 t141 t142 t145 t146 t147 t148 t149)) else (prolixlaw18_CodeSkips.j1 kj4 true t138 t139 t140 t141 t142 t145 t146 t147 t148 t149)) = some r := H
            have A37 := Aside0.mk A370
            clear A370
            by_cases c38 : t154 = 0
            · rw [if_pos c38] at H
              have c38b0 : (t154 == 0) = true := beq_iff_eq.mpr c38
              have c38b1 : (t154 != 0) = false := bne_eq_false_iff_eq.mpr c38
              clear c38
              (first | rw [c38b0] | (simp only [i64_w, i32_w]; rw [c38b0]) | skip)
              replace H := Option.bind_eq_some_iff.mp H
              obtain ⟨t155, A390, H⟩ := H
              replace H : (prolixlaw18_CodeSkips.j1 kj4 (t155 != 0) t138 t139 t140 t141 t142 t145 t146 t147 t148 t149) = some r := H
              have A39 := Aside0.mk A390
              clear A390
              have H' := Aside0.mk H
              clear H
              have hnb40 := NB152_135.out
              have hnc40 := NB135_152.out
              have hnb41 := NB152_136.out
              have hnc41 := NB136_152.out
              have hnb42 := NB152_153.out
              have hnc42 := NB153_152.out
              have hcz43_0 : w36.cell? ⟨gb152, 0, none⟩ = some (.string t138) := (blk_cell BK152.out 0).trans rfl
              have hcz43_1 : w36.cell? ⟨gb152, 1, none⟩ = some (.int .i64 t139) := (blk_cell BK152.out 1).trans rfl
              have hcz43_2 : w36.cell? ⟨gb152, 2, none⟩ = some (.int .i64 t140) := (blk_cell BK152.out 2).trans rfl
              have hcz43_3 : w36.cell? ⟨gb152, 3, none⟩ = some (.int .i64 t141) := (blk_cell BK152.out 3).trans rfl
              have hcz43_4 : w36.cell? ⟨gb152, 4, none⟩ = some (v143) := (blk_cell BK152.out 4).trans rfl
              have hfz43_0 := blk_frozen BK152.out 0
              have hfz43_1 := blk_frozen BK152.out 1
              have hfz43_2 := blk_frozen BK152.out 2
              have hfz43_3 := blk_frozen BK152.out 3
              have hfz43_4 := blk_frozen BK152.out 4
              obtain ⟨Ao44, co44, eo44⟩ := Kd.R_slice HO144.out
              subst eo44
              go_wp2_with (first | ((with_reducible refine gate_callee (f := 17) rfl ?_); refine goesL_ (some 28) rfl rfl Try.func17 (by kernel_rfl) rfl #[.agg #[.string t138, .int .i64 t139, .int .i64 t140, .int .i64 t141, .slice Ao44 t142.length co44]] rfl (by (try simp only [List.map_toArray, List.map_cons, List.map_nil]); first | done | rfl | (simp only [List.length_drop, List.length_take]; rfl)) ?_; (with_reducible refine (code_Check.calls kj4 t138 t139 t140 t141 _ _ t142 t154 _ ?side1 ?side2 A37.out).mono ?_); (case side1 => repeat (first | exact (Kd.R_reads' HO144.out).2.2 | (with_reducible refine Kd.C_alloc ?_ _) | (with_reducible refine Kd.C_drewN ?_ _) | (with_reducible refine Kd.C_drew ?_))); (case side2 => exact (Kd.R_reads' HO144.out).2.1); rintro e w45 ⟨rfl, hb⟩; refine ⟨_, rfl, ?_⟩; have n0_ := Aside0.mk (Kd.R_below (by (with_reducible repeat (first | apply Kd.R_alloc | apply Kd.R_drewN | apply Kd.R_drew)); exact HO144.out) hb); have n1_ := Aside0.mk (Kd.R_below (by (with_reducible repeat (first | apply Kd.R_alloc | apply Kd.R_drewN | apply Kd.R_drew)); exact HO151.out) hb); have n2_ := Aside0.mk (blk_below (g := gb135) (o := .cells #[.string a0_0, .int .i64 a0_1, .int .i64 a0_2, .int .i64 a0_3, .slice A0_4 l0_4.length c0_4] 24 (0, 0)) (by (with_reducible repeat (first | refine blk_drewN ?_ _ | refine blk_drew ?_ | refine blk_alloc ?_ _)); exact BK135.out) hb); have n3_ := Aside0.mk (blk_below (g := gb136) (o := .cells #[.string a1_0, .int .i64 a1_1, .int .i64 a1_2, .int .i64 a1_3, .slice A1_4 l1_4.length c1_4] 24 (0, 0)) (by (with_reducible repeat (first | refine blk_drewN ?_ _ | refine blk_drew ?_ | refine blk_alloc ?_ _)); exact BK136.out) hb); have n4_ := Aside0.mk (blk_below (g := gb152) (o := .cells #[.string t138, .int .i64 t139, .int .i64 t140, .int .i64 t141, .slice Ao44 t142.length co44] 28 (0, 0)) (by (with_reducible repeat (first | refine blk_drewN ?_ _ | refine blk_drew ?_ | refine blk_alloc ?_ _)); exact BK152.out) hb); have n5_ := Aside0.mk (blk_below (g := gb153) (o := .cells #[.string t145, .int .i64 t146, .int .i64 t147, .int .i64 t148, v150] 28 (0, 0)) (by (with_reducible repeat (first | refine blk_drewN ?_ _ | refine blk_drew ?_ | refine blk_alloc ?_ _)); exact BK153.out) hb); have n6_ := Aside0.mk (below_step (by repeat (first | (with_reducible first | exact HB.out | apply below_alloc | apply pw_below_drewN | apply below_drew1 | refine below_set ?_ GE135.out | refine below_set ?_ GE136.out | refine below_set ?_ GE152.out | refine below_set ?_ GE153.out) | exact HB.out)) hb); clear HO144; clear HO151; clear BK135; clear BK136; clear BK152; clear BK153; clear HB; have HO144 := n0_; have HO151 := n1_; have BK135 := n2_; have BK136 := n3_; have BK152 := n4_; have BK153 := n5_; have HB := n6_; clear n0_ n1_ n2_ n3_ n4_ n5_ n6_; (try clear hb); (try clear hb2); (try clear hk); (try clear hi); have hnb46 := NB153_135.out; have hnc46 := NB135_153.out; have hnb47 := NB153_136.out; have hnc47 := NB136_153.out; have hcz48_0 : w45.cell? ⟨gb153, 0, none⟩ = some (.string t145) := (blk_cell BK153.out 0).trans rfl; have hcz48_1 : w45.cell? ⟨gb153, 1, none⟩ = some (.int .i64 t146) := (blk_cell BK153.out 1).trans rfl; have hcz48_2 : w45.cell? ⟨gb153, 2, none⟩ = some (.int .i64 t147) := (blk_cell BK153.out 2).trans rfl; have hcz48_3 : w45.cell? ⟨gb153, 3, none⟩ = some (.int .i64 t148) := (blk_cell BK153.out 3).trans rfl; have hcz48_4 : w45.cell? ⟨gb153, 4, none⟩ = some (v150) := (blk_cell BK153.out 4).trans rfl; have hfz48_0 := blk_frozen BK153.out 0; have hfz48_1 := blk_frozen BK153.out 1; have hfz48_2 := blk_frozen BK153.out 2; have hfz48_3 := blk_frozen BK153.out 3; have hfz48_4 := blk_frozen BK153.out 4; obtain ⟨Ao49, co49, eo49⟩ := Kd.R_slice HO151.out; subst eo49) | (go_at_call 17; (with_reducible refine (code_Check.calls kj4 t145 t146 t147 t148 _ _ t149 t155 _ ?side1 ?side2 A39.out).mono ?_); (case side1 => repeat (first | exact (Kd.R_reads' HO151.out).2.2 | (with_reducible refine Kd.C_alloc ?_ _) | (with_reducible refine Kd.C_drewN ?_ _) | (with_reducible refine Kd.C_drew ?_))); (case side2 => exact (Kd.R_reads' HO151.out).2.1); rintro e w50 ⟨rfl, hb⟩; have n0_ := Aside0.mk (Kd.R_below (by (with_reducible repeat (first | apply Kd.R_alloc | apply Kd.R_drewN | apply Kd.R_drew)); exact HO144.out) hb); have n1_ := Aside0.mk (Kd.R_below (by (with_reducible repeat (first | apply Kd.R_alloc | apply Kd.R_drewN | apply Kd.R_drew)); exact HO151.out) hb); have n2_ := Aside0.mk (blk_below (g := gb135) (o := .cells #[.string a0_0, .int .i64 a0_1, .int .i64 a0_2, .int .i64 a0_3, .slice A0_4 l0_4.length c0_4] 24 (0, 0)) (by (with_reducible repeat (first | refine blk_drewN ?_ _ | refine blk_drew ?_ | refine blk_alloc ?_ _)); exact BK135.out) hb); have n3_ := Aside0.mk (blk_below (g := gb136) (o := .cells #[.string a1_0, .int .i64 a1_1, .int .i64 a1_2, .int .i64 a1_3, .slice A1_4 l1_4.length c1_4] 24 (0, 0)) (by (with_reducible repeat (first | refine blk_drewN ?_ _ | refine blk_drew ?_ | refine blk_alloc ?_ _)); exact BK136.out) hb); have n4_ := Aside0.mk (blk_below (g := gb152) (o := .cells #[.string t138, .int .i64 t139, .int .i64 t140, .int .i64 t141, .slice Ao44 t142.length co44] 28 (0, 0)) (by (with_reducible repeat (first | refine blk_drewN ?_ _ | refine blk_drew ?_ | refine blk_alloc ?_ _)); exact BK152.out) hb); have n5_ := Aside0.mk (blk_below (g := gb153) (o := .cells #[.string t145, .int .i64 t146, .int .i64 t147, .int .i64 t148, .slice Ao49 t149.length co49] 28 (0, 0)) (by (with_reducible repeat (first | refine blk_drewN ?_ _ | refine blk_drew ?_ | refine blk_alloc ?_ _)); exact BK153.out) hb); have n6_ := Aside0.mk (below_step (by repeat (first | (with_reducible first | exact HB.out | apply below_alloc | apply pw_below_drewN | apply below_drew1 | refine below_set ?_ GE135.out | refine below_set ?_ GE136.out | refine below_set ?_ GE152.out | refine below_set ?_ GE153.out) | exact HB.out)) hb); clear HO144; clear HO151; clear BK135; clear BK136; clear BK152; clear BK153; clear HB; have HO144 := n0_; have HO151 := n1_; have BK135 := n2_; have BK136 := n3_; have BK152 := n4_; have BK153 := n5_; have HB := n6_; clear n0_ n1_ n2_ n3_ n4_ n5_ n6_; (try clear hb); (try clear hb2); (try clear hk); (try clear hi)))
              go_meet
              case rel => exact ⟨_, ((t155 != 0)), (by first | rfl | (simp; done) | (simp [*]; done)), H', ⟨by have := HJ4.out; first | omega | exact Nat.le_refl _⟩, ⟨by (with_reducible repeat (first | apply Kd.R_alloc | apply Kd.R_drewN | apply Kd.R_drew)); exact HO144.out⟩, ⟨by (with_reducible repeat (first | apply Kd.R_alloc | apply Kd.R_drewN | apply Kd.R_drew)); exact HO151.out⟩, ⟨by (with_reducible repeat (first | refine blk_drewN ?_ _ | refine blk_drew ?_ | refine blk_alloc ?_ _)); exact BK135.out⟩, ⟨by (with_reducible repeat (first | refine blk_drewN ?_ _ | refine blk_drew ?_ | refine blk_alloc ?_ _)); exact BK136.out⟩, ⟨by (with_reducible repeat (first | refine blk_drewN ?_ _ | refine blk_drew ?_ | refine blk_alloc ?_ _)); exact BK152.out⟩, ⟨by (with_reducible repeat (first | refine blk_drewN ?_ _ | refine blk_drew ?_ | refine blk_alloc ?_ _)); exact BK153.out⟩, ⟨by repeat (first | (with_reducible first | exact HB.out | apply below_alloc | apply pw_below_drewN | apply below_drew1 | refine below_set ?_ GE135.out | refine below_set ?_ GE136.out | refine below_set ?_ GE152.out | refine below_set ?_ GE153.out) | exact HB.out)⟩⟩
            · rw [if_neg c38] at H
              have c38b0 : (t154 == 0) = false := beq_eq_false_iff_ne.mpr c38
              have c38b1 : (t154 != 0) = true := bne_iff_ne.mpr c38
              (first | rw [c38b0] | (simp only [i64_w, i32_w]; rw [c38b0]) | skip)
              have H' := Aside0.mk H
              clear H
              have hnb51 := NB152_135.out
              have hnc51 := NB135_152.out
              have hnb52 := NB152_136.out
              have hnc52 := NB136_152.out
              have hnb53 := NB152_153.out
              have hnc53 := NB153_152.out
              have hcz54_0 : w36.cell? ⟨gb152, 0, none⟩ = some (.string t138) := (blk_cell BK152.out 0).trans rfl
              have hcz54_1 : w36.cell? ⟨gb152, 1, none⟩ = some (.int .i64 t139) := (blk_cell BK152.out 1).trans rfl
              have hcz54_2 : w36.cell? ⟨gb152, 2, none⟩ = some (.int .i64 t140) := (blk_cell BK152.out 2).trans rfl
              have hcz54_3 : w36.cell? ⟨gb152, 3, none⟩ = some (.int .i64 t141) := (blk_cell BK152.out 3).trans rfl
              have hcz54_4 : w36.cell? ⟨gb152, 4, none⟩ = some (v143) := (blk_cell BK152.out 4).trans rfl
              have hfz54_0 := blk_frozen BK152.out 0
              have hfz54_1 := blk_frozen BK152.out 1
              have hfz54_2 := blk_frozen BK152.out 2
              have hfz54_3 := blk_frozen BK152.out 3
              have hfz54_4 := blk_frozen BK152.out 4
              obtain ⟨Ao55, co55, eo55⟩ := Kd.R_slice HO144.out
              subst eo55
              go_wp2_with (first | ((with_reducible refine gate_callee (f := 17) rfl ?_); refine goesL_ (some 28) rfl rfl Try.func17 (by kernel_rfl) rfl #[.agg #[.string t138, .int .i64 t139, .int .i64 t140, .int .i64 t141, .slice Ao55 t142.length co55]] rfl (by (try simp only [List.map_toArray, List.map_cons, List.map_nil]); first | done | rfl | (simp only [List.length_drop, List.length_take]; rfl)) ?_; (with_reducible refine (code_Check.calls kj4 t138 t139 t140 t141 _ _ t142 t154 _ ?side1 ?side2 A37.out).mono ?_); (case side1 => repeat (first | exact (Kd.R_reads' HO144.out).2.2 | (with_reducible refine Kd.C_alloc ?_ _) | (with_reducible refine Kd.C_drewN ?_ _) | (with_reducible refine Kd.C_drew ?_))); (case side2 => exact (Kd.R_reads' HO144.out).2.1); rintro e w56 ⟨rfl, hb⟩; refine ⟨_, rfl, ?_⟩; have n0_ := Aside0.mk (Kd.R_below (by (with_reducible repeat (first | apply Kd.R_alloc | apply Kd.R_drewN | apply Kd.R_drew)); exact HO144.out) hb); have n1_ := Aside0.mk (Kd.R_below (by (with_reducible repeat (first | apply Kd.R_alloc | apply Kd.R_drewN | apply Kd.R_drew)); exact HO151.out) hb); have n2_ := Aside0.mk (blk_below (g := gb135) (o := .cells #[.string a0_0, .int .i64 a0_1, .int .i64 a0_2, .int .i64 a0_3, .slice A0_4 l0_4.length c0_4] 24 (0, 0)) (by (with_reducible repeat (first | refine blk_drewN ?_ _ | refine blk_drew ?_ | refine blk_alloc ?_ _)); exact BK135.out) hb); have n3_ := Aside0.mk (blk_below (g := gb136) (o := .cells #[.string a1_0, .int .i64 a1_1, .int .i64 a1_2, .int .i64 a1_3, .slice A1_4 l1_4.length c1_4] 24 (0, 0)) (by (with_reducible repeat (first | refine blk_drewN ?_ _ | refine blk_drew ?_ | refine blk_alloc ?_ _)); exact BK136.out) hb); have n4_ := Aside0.mk (blk_below (g := gb152) (o := .cells #[.string t138, .int .i64 t139, .int .i64 t140, .int .i64 t141, .slice Ao55 t142.length co55] 28 (0, 0)) (by (with_reducible repeat (first | refine blk_drewN ?_ _ | refine blk_drew ?_ | refine blk_alloc ?_ _)); exact BK152.out) hb); have n5_ := Aside0.mk (blk_below (g := gb153) (o := .cells #[.string t145, .int .i64 t146, .int .i64 t147, .int .i64 t148, v150] 28 (0, 0)) (by (with_reducible repeat (first | refine blk_drewN ?_ _ | refine blk_drew ?_ | refine blk_alloc ?_ _)); exact BK153.out) hb); have n6_ := Aside0.mk (below_step (by repeat (first | (with_reducible first | exact HB.out | apply below_alloc | apply pw_below_drewN | apply below_drew1 | refine below_set ?_ GE135.out | refine below_set ?_ GE136.out | refine below_set ?_ GE152.out | refine below_set ?_ GE153.out) | exact HB.out)) hb); clear HO144; clear HO151; clear BK135; clear BK136; clear BK152; clear BK153; clear HB; have HO144 := n0_; have HO151 := n1_; have BK135 := n2_; have BK136 := n3_; have BK152 := n4_; have BK153 := n5_; have HB := n6_; clear n0_ n1_ n2_ n3_ n4_ n5_ n6_; (try clear hb); (try clear hb2); (try clear hk); (try clear hi)))
              go_meet
              case rel => exact ⟨_, (true), (by first | rfl | (simp; done) | (simp [*]; done)), H', ⟨by have := HJ4.out; first | omega | exact Nat.le_refl _⟩, ⟨by (with_reducible repeat (first | apply Kd.R_alloc | apply Kd.R_drewN | apply Kd.R_drew)); exact HO144.out⟩, ⟨by (with_reducible repeat (first | apply Kd.R_alloc | apply Kd.R_drewN | apply Kd.R_drew)); exact HO151.out⟩, ⟨by (with_reducible repeat (first | refine blk_drewN ?_ _ | refine blk_drew ?_ | refine blk_alloc ?_ _)); exact BK135.out⟩, ⟨by (with_reducible repeat (first | refine blk_drewN ?_ _ | refine blk_drew ?_ | refine blk_alloc ?_ _)); exact BK136.out⟩, ⟨by (with_reducible repeat (first | refine blk_drewN ?_ _ | refine blk_drew ?_ | refine blk_alloc ?_ _)); exact BK152.out⟩, ⟨by (with_reducible repeat (first | refine blk_drewN ?_ _ | refine blk_drew ?_ | refine blk_alloc ?_ _)); exact BK153.out⟩, ⟨by repeat (first | (with_reducible first | exact HB.out | apply below_alloc | apply pw_below_drewN | apply below_drew1 | refine below_set ?_ GE135.out | refine below_set ?_ GE136.out | refine below_set ?_ GE152.out | refine below_set ?_ GE153.out) | exact HB.out)⟩⟩
          case rest =>
            clear HC18
            try clear c1
            try clear c2
            try clear p2
            try clear c3
            try clear c4
            try clear c5
            try clear c9
            try clear c9b0
            try clear c9b1
            try clear c10
            try clear c12
            try clear c15
            try clear c16
            try clear c17
            try clear c38
            try clear c38b0
            try clear c38b1
            try clear c40
            try clear c41
            try clear c42
            try clear c46
            try clear c47
            try clear c51
            try clear c52
            try clear c53
            try clear hcz11_0
            try clear hcz11_1
            try clear hcz11_2
            try clear hcz11_3
            try clear hcz11_4
            try clear hcz13_0
            try clear hcz13_1
            try clear hcz13_2
            try clear hcz13_3
            try clear hcz13_4
            try clear hcz14_0
            try clear hcz14_1
            try clear hcz14_2
            try clear hcz14_3
            try clear hcz14_4
            try clear hcz43_0
            try clear hcz43_1
            try clear hcz43_2
            try clear hcz43_3
            try clear hcz43_4
            try clear hcz48_0
            try clear hcz48_1
            try clear hcz48_2
            try clear hcz48_3
            try clear hcz48_4
            try clear hcz54_0
            try clear hcz54_1
            try clear hcz54_2
            try clear hcz54_3
            try clear hcz54_4
            try clear hfz11_0
            try clear hfz11_1
            try clear hfz11_2
            try clear hfz11_3
            try clear hfz11_4
            try clear hfz13_0
            try clear hfz13_1
            try clear hfz13_2
            try clear hfz13_3
            try clear hfz13_4
            try clear hfz14_0
            try clear hfz14_1
            try clear hfz14_2
            try clear hfz14_3
            try clear hfz14_4
            try clear hfz43_0
            try clear hfz43_1
            try clear hfz43_2
            try clear hfz43_3
            try clear hfz43_4
            try clear hfz48_0
            try clear hfz48_1
            try clear hfz48_2
            try clear hfz48_3
            try clear hfz48_4
            try clear hfz54_0
            try clear hfz54_1
            try clear hfz54_2
            try clear hfz54_3
            try clear hfz54_4
            try clear p2
            obtain ⟨kq, x34_17, rfl, HA, HJ17, HO_153004, HO_154004, BK135, BK136, BK152, BK153, HB⟩ := hcut
            cases kq with
            | zero => exact absurd HA.out (by simp [prolixlaw18_CodeSkips.j1])
            | succ kj17 =>
              have H := HA.out
              clear HA
              simp only [prolixlaw18_CodeSkips.j1] at H
              by_cases c57 : x34_17 = true
              · subst c57
                have H1 : (some true) = some r := by rw [if_pos rfl] at H; exact H
                clear H
                have H := H1
                clear H1
                obtain rfl := Option.some.inj H
                go_wp2
                go_ret
                exact ⟨by first | rfl | (simp [errW_none, errW_some] <;> rfl) | (simp [*, errW_none, errW_some] <;> rfl), by repeat (first | (with_reducible first | exact HB.out | apply below_alloc | apply pw_below_drewN | apply below_drew1 | refine below_set ?_ GE135.out | refine below_set ?_ GE136.out | refine below_set ?_ GE152.out | refine below_set ?_ GE153.out) | exact HB.out)⟩
              · replace c57 := Bool.eq_false_iff.mpr c57
                subst c57
                have H1 : ((some (([] : List (S39)) : List (S39))).bind fun y156 => (if y156.length + t142.length < 3518437208883 then ((some (y156 ++ t142 : List (S39))).bind fun y159 => (if y159.length + t149.length < 3518437208883 then ((some (y159 ++ t149 : List (S39))).bind fun y162 => ((code_Skip.f kj17 y162 t141).bind fun t165 => (if t165 = (t142.length : Int) then ((code_Skip.f kj17 y162 (wrap64 ((t142.length : Int) + t148))).bind fun t166 => (prolixlaw18_CodeSkips.j2 kj17 (t142.length : Int) y162 (t166 != (wrap64 ((t142.length : Int) + (t149.length : Int)))) t145 t146 t147 t148 t149)) else (prolixlaw18_CodeSkips.j2 kj17 (t142.length : Int) y162 true t145 t146 t147 t148 t149)))) else (none))) else (none))) = some r := by rw [if_neg (show ¬ (false = true) by decide)] at H; exact H
                clear H
                have H := H1
                clear H1
                obtain ⟨y156, hy156⟩ : ∃ y_ : List (S39), y_ = (([] : List (S39))) := ⟨_, rfl⟩
                replace H : (if y156.length + t142.length < 3518437208883 then ((some (y156 ++ t142 : List (S39))).bind fun y159 => (if y159.length + t149.length < 3518437208883 then ((some (y159 ++ t149 : List (S39))).bind fun y162 => ((code_Skip.f kj17 y162 t141).bind fun t165 => (if t165 = (t142.length : Int) then ((code_Skip.f kj17 y162 (wrap64 ((t142.length : Int) + t148))).bind fun t166 => (prolixlaw18_CodeSkips.j2 kj17 (t142.length : Int) y162 (t166 != (wrap64 ((t142.length : Int) + (t149.length : Int)))) t145 t146 t147 t148 t149)) else (prolixlaw18_CodeSkips.j2 kj17 (t142.length : Int) y162 true t145 t146 t147 t148 t149)))) else (none))) else (none)) = some r := by first | (rw [hy156]; with_reducible exact H) | (have H2_ := (Option.bind_some _ _).symm.trans H; rw [hy156]; with_reducible exact H2_) | (have H2_ := (Option.bind_some _ _).symm.trans H; with_reducible exact H2_) | with_reducible exact H | (rw [hy156]; exact H) | exact H
                have Ny156 := Aside0.mk hy156
                clear hy156
                by_cases c58 : y156.length + t142.length < 3518437208883
                · rw [if_pos c58] at H
                  have LMc58 := Aside0.mk c58
                  clear c58
                  obtain ⟨y159, hy159⟩ : ∃ y_ : List (S39), y_ = (y156 ++ t142) := ⟨_, rfl⟩
                  replace H : (if y159.length + t149.length < 3518437208883 then ((some (y159 ++ t149 : List (S39))).bind fun y162 => ((code_Skip.f kj17 y162 t141).bind fun t165 => (if t165 = (t142.length : Int) then ((code_Skip.f kj17 y162 (wrap64 ((t142.length : Int) + t148))).bind fun t166 => (prolixlaw18_CodeSkips.j2 kj17 (t142.length : Int) y162 (t166 != (wrap64 ((t142.length : Int) + (t149.length : Int)))) t145 t146 t147 t148 t149)) else (prolixlaw18_CodeSkips.j2 kj17 (t142.length : Int) y162 true t145 t146 t147 t148 t149)))) else (none)) = some r := by first | (rw [hy159]; with_reducible exact H) | (have H2_ := (Option.bind_some _ _).symm.trans H; rw [hy159]; with_reducible exact H2_) | (have H2_ := (Option.bind_some _ _).symm.trans H; with_reducible exact H2_) | with_reducible exact H | (rw [hy159]; exact H) | exact H
                  have Ny159 := Aside0.mk hy159
                  clear hy159
                  by_cases c59 : y159.length + t149.length < 3518437208883
                  · rw [if_pos c59] at H
                    have LMc59 := Aside0.mk c59
                    clear c59
                    obtain ⟨y162, hy162⟩ : ∃ y_ : List (S39), y_ = (y159 ++ t149) := ⟨_, rfl⟩
                    replace H : ((code_Skip.f kj17 y162 t141).bind fun t165 => (if t165 = (t142.length : Int) then ((code_Skip.f kj17 y162 (wrap64 ((t142.length : Int) + t148))).bind fun t166 => (prolixlaw18_CodeSkips.j2 kj17 (t142.length : Int) y162 (t166 != (wrap64 ((t142.length : Int) + (t149.length : Int)))) t145 t146 t147 t148 t149)) else (prolixlaw18_CodeSkips.j2 kj17 (t142.length : Int) y162 true t145 t146 t147 t148 t149))) = some r := by first | (rw [hy162]; with_reducible exact H) | (have H2_ := (Option.bind_some _ _).symm.trans H; rw [hy162]; with_reducible exact H2_) | (have H2_ := (Option.bind_some _ _).symm.trans H; with_reducible exact H2_) | with_reducible exact H | (rw [hy162]; exact H) | exact H
                    have Ny162 := Aside0.mk hy162
                    clear hy162
                    have HC60 := Aside0.mk H
                    clear H
                    have hnb61 := NB152_135.out
                    have hnc61 := NB135_152.out
                    have hnb62 := NB152_136.out
                    have hnc62 := NB136_152.out
                    have hnb63 := NB152_153.out
                    have hnc63 := NB153_152.out
                    have hcz64_0 : wc.cell? ⟨gb152, 0, none⟩ = some (.string t138) := (blk_cell BK152.out 0).trans rfl
                    have hcz64_1 : wc.cell? ⟨gb152, 1, none⟩ = some (.int .i64 t139) := (blk_cell BK152.out 1).trans rfl
                    have hcz64_2 : wc.cell? ⟨gb152, 2, none⟩ = some (.int .i64 t140) := (blk_cell BK152.out 2).trans rfl
                    have hcz64_3 : wc.cell? ⟨gb152, 3, none⟩ = some (.int .i64 t141) := (blk_cell BK152.out 3).trans rfl
                    have hcz64_4 : wc.cell? ⟨gb152, 4, none⟩ = some (v143) := (blk_cell BK152.out 4).trans rfl
                    have hfz64_0 := blk_frozen BK152.out 0
                    have hfz64_1 := blk_frozen BK152.out 1
                    have hfz64_2 := blk_frozen BK152.out 2
                    have hfz64_3 := blk_frozen BK152.out 3
                    have hfz64_4 := blk_frozen BK152.out 4
                    obtain ⟨Ao65, co65, eo65⟩ := Kd.R_slice HO_153004.out
                    subst eo65
                    try go_wp2
                    have n0_ := Aside0.mk (Kd.R_drew HO_153004.out)
                    have n1_ := Aside0.mk (Kd.R_drew HO_154004.out)
                    have n2_ := Aside0.mk (blk_drew BK135.out)
                    have n3_ := Aside0.mk (blk_drew BK136.out)
                    have n4_ := Aside0.mk (blk_drew BK152.out)
                    have n5_ := Aside0.mk (blk_drew BK153.out)
                    have n6_ := Aside0.mk (below_drew1 HB.out)
                    clear HO_153004
                    clear HO_154004
                    clear BK135
                    clear BK136
                    clear BK152
                    clear BK153
                    clear HB
                    have HO_153004 := n0_
                    have HO_154004 := n1_
                    have BK135 := n2_
                    have BK136 := n3_
                    have BK152 := n4_
                    have BK153 := n5_
                    have HB := n6_
                    clear n0_ n1_ n2_ n3_ n4_ n5_ n6_
                    refine start_ (n := 8) (S := fun w' => w'.cell? ⟨gb152, 0, none⟩ = some (.string t138) ∧ w'.cell? ⟨gb152, 1, none⟩ = some (.int .i64 t139) ∧ w'.cell? ⟨gb152, 2, none⟩ = some (.int .i64 t140) ∧ w'.cell? ⟨gb152, 3, none⟩ = some (.int .i64 t141) ∧ w'.cell? ⟨gb152, 4, none⟩ = some (.slice Ao65 t142.length co65) ∧ w'.cell? ⟨gb153, 0, none⟩ = some (.string t145) ∧ w'.cell? ⟨gb153, 1, none⟩ = some (.int .i64 t146) ∧ w'.cell? ⟨gb153, 2, none⟩ = some (.int .i64 t147) ∧ w'.cell? ⟨gb153, 3, none⟩ = some (.int .i64 t148) ∧ w'.cell? ⟨gb153, 4, none⟩ = some (v150)) (ds := []) #[false, false, false, false, false, false, false, false] (by kernel_rfl) rfl rfl ⟨(blk_cell BK152.out 0).trans rfl, (blk_cell BK152.out 1).trans rfl, (blk_cell BK152.out 2).trans rfl, (blk_cell BK152.out 3).trans rfl, (blk_cell BK152.out 4).trans rfl, (blk_cell BK153.out 0).trans rfl, (blk_cell BK153.out 1).trans rfl, (blk_cell BK153.out 2).trans rfl, (blk_cell BK153.out 3).trans rfl, (blk_cell BK153.out 4).trans rfl⟩ (fun hHeld => ?_); refine with_tabW prolixlaw18_CodeSkips.tab9 prolixlaw18_CodeSkips.bits9 (fun HT_ HW_ => ?_)
                    generalize wc.drew = w66 at HO_153004 HO_154004 BK135 BK136 BK152 BK153 HB hHeld ⊢
                    refine pure_ (i := 1) (N := some 39) (v := ?_) (a' := ?_) #[false, true, false, false, false, false, false, false] rfl rfl (any_of HT_.out (by kernel_rfl)) (fun _ _ _ h => h) (Or.inl ⟨by rfl, ?_⟩) ?_ ?_
                    rotate_left
                    · intro w'
                      go_simp
                      with_reducible rfl
                    rotate_left
                    · simp only [Act.put, List.setIfInBounds_toArray, List.set_cons_zero, List.set_cons_succ, i64_w, i32_w]
                      rfl
                    refine pure_ (i := 4) (N := some 42) (v := ?_) (a' := ?_) #[false, true, false, false, true, false, false, false] rfl rfl (any_of HT_.out (by kernel_rfl)) (fun _ _ _ h => h) (Or.inl ⟨by rfl, ?_⟩) ?_ ?_
                    rotate_left
                    · intro w'
                      go_simp
                      with_reducible rfl
                    rotate_left
                    · simp only [Act.put, List.setIfInBounds_toArray, List.set_cons_zero, List.set_cons_succ, i64_w, i32_w]
                      rfl
                    refine take_ (i := 2) (N := some 40) (v := ?_) (a' := ?_) #[false, true, true, false, true, false, false, false] rfl rfl (take_ofW HT_.out HW_.out (by kernel_rfl)) (fun _ _ _ h => h) (Or.inl ⟨by rfl, ?_⟩) hHeld ?_ ?_
                    rotate_left
                    · rintro w' ⟨s0, s1, s2, s3, s4, s5, s6, s7, s8, s9⟩
                      go_simp
                      with_reducible rfl
                    rotate_left
                    · simp only [Act.put, List.setIfInBounds_toArray, List.set_cons_zero, List.set_cons_succ, i64_w, i32_w]
                      rfl
                    refine take_ (i := 5) (N := some 43) (v := ?_) (a' := ?_) #[false, true, true, false, true, true, false, false] rfl rfl (take_ofW HT_.out HW_.out (by kernel_rfl)) (fun _ _ _ h => h) (Or.inl ⟨by rfl, ?_⟩) hHeld ?_ ?_
                    rotate_left
                    · rintro w' ⟨s0, s1, s2, s3, s4, s5, s6, s7, s8, s9⟩
                      go_simp
                      with_reducible rfl
                    rotate_left
                    · simp only [Act.put, List.setIfInBounds_toArray, List.set_cons_zero, List.set_cons_succ, i64_w, i32_w]
                      rfl
                    refine one_ (i := 0) (N := some 38) #[true, true, true, false, true, true, false, false] rfl rfl (one_of HT_.out (by kernel_rfl)) (by decide) (fun K hK => ?_)
                    refine Kd.R_lit_step k39 _ 39 ?hg (N := 38) ?hd (xs := ([] : List (S39))) (inner := []) (ok := fun _ => True) (okp := fun _ => True) ?hr ?hp (fun _ hk => hk) trivial (Below.refl _ _) (Nat.le_refl _) (by simp) ?_; (case hd => rfl); (case hg => rfl); (case hr => first | (go_simp; done) | (go_simp; rfl)); (case hp => exact (Reps.none _ _))
                    intro v157 w67 ho68 hb hg_ hnew_
                    clear hg_ hnew_
                    (first | rw [← Ny156.out] at ho68 | (simp only [Int.reduceToNat] at ho68; rw [← Ny156.out] at ho68))
                    have n0_ := Aside0.mk (Kd.R_elder' (by (with_reducible repeat (first | apply Kd.R_alloc | apply Kd.R_drewN | apply Kd.R_drew)); exact HO_153004.out) (Kd.R_base ho68) hb)
                    have n1_ := Aside0.mk (Kd.R_elder' (by (with_reducible repeat (first | apply Kd.R_alloc | apply Kd.R_drewN | apply Kd.R_drew)); exact HO_154004.out) (Kd.R_base ho68) hb)
                    have n2_ := Aside0.mk (Kd.R_lower (Kd.R_new' (Kd.R_new' ho68 (Kd.R_lt (by (with_reducible repeat (first | apply Kd.R_alloc | apply Kd.R_drewN | apply Kd.R_drew)); exact HO_153004.out))) (Kd.R_lt (by (with_reducible repeat (first | apply Kd.R_alloc | apply Kd.R_drewN | apply Kd.R_drew)); exact HO_154004.out))) (below_size (by repeat (first | (with_reducible first | exact HB.out | apply below_alloc | apply pw_below_drewN | apply below_drew1 | refine below_set ?_ GE135.out | refine below_set ?_ GE136.out | refine below_set ?_ GE152.out | refine below_set ?_ GE153.out) | exact HB.out))))
                    have n3_ := Aside0.mk (blk_below (g := gb135) (o := .cells #[.string a0_0, .int .i64 a0_1, .int .i64 a0_2, .int .i64 a0_3, .slice A0_4 l0_4.length c0_4] 24 (0, 0)) (by (with_reducible repeat (first | refine blk_drewN ?_ _ | refine blk_drew ?_ | refine blk_alloc ?_ _)); exact BK135.out) hb)
                    have n4_ := Aside0.mk (blk_below (g := gb136) (o := .cells #[.string a1_0, .int .i64 a1_1, .int .i64 a1_2, .int .i64 a1_3, .slice A1_4 l1_4.length c1_4] 24 (0, 0)) (by (with_reducible repeat (first | refine blk_drewN ?_ _ | refine blk_drew ?_ | refine blk_alloc ?_ _)); exact BK136.out) hb)
                    have n5_ := Aside0.mk (blk_below (g := gb152) (o := .cells #[.string t138, .int .i64 t139, .int .i64 t140, .int .i64 t141, .slice Ao65 t142.length co65] 28 (0, 0)) (by (with_reducible repeat (first | refine blk_drewN ?_ _ | refine blk_drew ?_ | refine blk_alloc ?_ _)); exact BK152.out) hb)
                    have n6_ := Aside0.mk (blk_below (g := gb153) (o := .cells #[.string t145, .int .i64 t146, .int .i64 t147, .int .i64 t148, v150] 28 (0, 0)) (by (with_reducible repeat (first | refine blk_drewN ?_ _ | refine blk_drew ?_ | refine blk_alloc ?_ _)); exact BK153.out) hb)
                    have n7_ := Aside0.mk (below_step (by repeat (first | (with_reducible first | exact HB.out | apply below_alloc | apply pw_below_drewN | apply below_drew1 | refine below_set ?_ GE135.out | refine below_set ?_ GE136.out | refine below_set ?_ GE152.out | refine below_set ?_ GE153.out) | exact HB.out)) hb)
                    clear HO_153004
                    clear HO_154004
                    clear BK135
                    clear BK136
                    clear BK152
                    clear BK153
                    clear HB
                    have HO_153004 := n0_
                    have HO_154004 := n1_
                    have HO158 := n2_
                    have BK135 := n3_
                    have BK136 := n4_
                    have BK152 := n5_
                    have BK153 := n6_
                    have HB := n7_
                    clear n0_ n1_ n2_ n3_ n4_ n5_ n6_ n7_
                    clear hb ho68
                    refine hK.out _ _ ⟨(blk_cell BK152.out 0).trans rfl, (blk_cell BK152.out 1).trans rfl, (blk_cell BK152.out 2).trans rfl, (blk_cell BK152.out 3).trans rfl, (blk_cell BK152.out 4).trans rfl, (blk_cell BK153.out 0).trans rfl, (blk_cell BK153.out 1).trans rfl, (blk_cell BK153.out 2).trans rfl, (blk_cell BK153.out 3).trans rfl, (blk_cell BK153.out 4).trans rfl⟩ (fun hHeld => ?_)
                    clear hK K
                    refine norm_ (a' := ?_) ?_ ?_
                    rotate_left
                    · show Act.put _ (some 38) _ = _
                      simp only [Act.put, List.setIfInBounds_toArray, List.set_cons_zero, List.set_cons_succ, i64_w, i32_w]
                      rfl
                    refine one_ (i := 3) (N := some 41) #[true, true, true, true, true, true, false, false] rfl rfl (one_of HT_.out (by kernel_rfl)) (by decide) (fun K hK => ?_)
                    refine Kd.R_append_rows_step k39 (w0 := w) w.heap.size (by rfl) (.tmp 38) (.tmp 40) 26 39 (.agg #[(.int .i64 0), (.int .i64 0), (.int .i64 0), (.string ⟨#[]⟩)]) 40 rfl Try.underlying26 info39 rfl (by decide) (by omega) v157 y156 t142 _ _ _ (fun k_ => some k_ ≠ (.slice Ao65 t142.length co65 : Value).ownBlock ∧ some k_ ≠ (v150 : Value).ownBlock) (fun _ => False) rfl rfl ?aO ?aR (fun _ _ h => h) (fun _ h => h.elim) ?aF ?aB ?aS ?aL ?_
                    (case aR => repeat (first | exact (Kd.R_reads' HO_153004.out).2.2 | (with_reducible refine Kd.C_alloc ?_ _) | (with_reducible refine Kd.C_drewN ?_ _) | (with_reducible refine Kd.C_drew ?_)))
                    (case aB => exact (by repeat (first | (with_reducible first | exact HB.out | apply below_alloc | apply pw_below_drewN | apply below_drew1 | refine below_set ?_ GE135.out | refine below_set ?_ GE136.out | refine below_set ?_ GE152.out | refine below_set ?_ GE153.out) | exact HB.out)))
                    (case aF => exact (fun k_ hk => ⟨Kd.fresh' (Kd.R_lt (by (with_reducible repeat (first | apply Kd.R_alloc | apply Kd.R_drewN | apply Kd.R_drew)); exact HO_153004.out)) k_ hk, Kd.fresh' (Kd.R_lt (by (with_reducible repeat (first | apply Kd.R_alloc | apply Kd.R_drewN | apply Kd.R_drew)); exact HO_154004.out)) k_ hk⟩))
                    (case aO => exact (by (with_reducible repeat (first | apply Kd.R_alloc | apply Kd.R_drewN | apply Kd.R_drew)); exact Kd.R_mono HO158.out (fun _ hk => by first | exact ⟨hk.1.2, hk.2⟩ | (simp only [own_len] at hk ⊢; exact ⟨hk.1.2, hk.2⟩))))
                    (case aS => exact (below_size (by repeat (first | (with_reducible first | exact HB.out | apply below_alloc | apply pw_below_drewN | apply below_drew1 | refine below_set ?_ GE135.out | refine below_set ?_ GE136.out | refine below_set ?_ GE152.out | refine below_set ?_ GE153.out) | exact HB.out))))
                    (case aL => have := LMc58.out; omega)
                    intro v160 w69 ho hb hg hat
                    rw [← Ny159.out] at ho
                    have n0_ := Aside0.mk (Kd.R_after (ok := (fun k_ => some k_ ≠ (v150 : Value).ownBlock)) (by (with_reducible repeat (first | apply Kd.R_alloc | apply Kd.R_drewN | apply Kd.R_drew)); exact HO_153004.out) hg hat)
                    have n1_ := Aside0.mk (Kd.R_after (ok := (fun k_ => some k_ ≠ (.slice Ao65 t142.length co65 : Value).ownBlock)) (by (with_reducible repeat (first | apply Kd.R_alloc | apply Kd.R_drewN | apply Kd.R_drew)); exact HO_154004.out) hg hat)
                    have n2_ := Aside0.mk (blk_grown (g := gb135) (o := .cells #[.string a0_0, .int .i64 a0_1, .int .i64 a0_2, .int .i64 a0_3, .slice A0_4 l0_4.length c0_4] 24 (0, 0)) (by (with_reducible repeat (first | refine blk_drewN ?_ _ | refine blk_drew ?_ | refine blk_alloc ?_ _)); exact BK135.out) hg (Kd.R_ne HO158.out BK135.out (by decide)))
                    have n3_ := Aside0.mk (blk_grown (g := gb136) (o := .cells #[.string a1_0, .int .i64 a1_1, .int .i64 a1_2, .int .i64 a1_3, .slice A1_4 l1_4.length c1_4] 24 (0, 0)) (by (with_reducible repeat (first | refine blk_drewN ?_ _ | refine blk_drew ?_ | refine blk_alloc ?_ _)); exact BK136.out) hg (Kd.R_ne HO158.out BK136.out (by decide)))
                    have n4_ := Aside0.mk (blk_grown (g := gb152) (o := .cells #[.string t138, .int .i64 t139, .int .i64 t140, .int .i64 t141, .slice Ao65 t142.length co65] 28 (0, 0)) (by (with_reducible repeat (first | refine blk_drewN ?_ _ | refine blk_drew ?_ | refine blk_alloc ?_ _)); exact BK152.out) hg (Kd.R_ne HO158.out BK152.out (by decide)))
                    have n5_ := Aside0.mk (blk_grown (g := gb153) (o := .cells #[.string t145, .int .i64 t146, .int .i64 t147, .int .i64 t148, v150] 28 (0, 0)) (by (with_reducible repeat (first | refine blk_drewN ?_ _ | refine blk_drew ?_ | refine blk_alloc ?_ _)); exact BK153.out) hg (Kd.R_ne HO158.out BK153.out (by decide)))
                    have n6_ := Aside0.mk (hb)
                    have n7_ := Aside0.mk (ho)
                    clear HO_153004
                    clear HO_154004
                    clear BK135
                    clear BK136
                    clear BK152
                    clear BK153
                    clear HB
                    clear HO158
                    have HO_153004 := n0_
                    have HO_154004 := n1_
                    have BK135 := n2_
                    have BK136 := n3_
                    have BK152 := n4_
                    have BK153 := n5_
                    have HB := n6_
                    have HO161 := n7_
                    clear n0_ n1_ n2_ n3_ n4_ n5_ n6_ n7_
                    clear ho hb hg hat
                    obtain ⟨Ao71, co71, eo71⟩ := Kd.R_slice HO_154004.out
                    (first | subst eo71 | (injection eo71 with f1_ f2_ f3_; have f4_ := f1_.symm; have f5_ := f3_.symm; clear f1_ f2_ f3_; subst f4_; subst f5_))
                    refine hK.out _ _ ⟨(blk_cell BK152.out 0).trans rfl, (blk_cell BK152.out 1).trans rfl, (blk_cell BK152.out 2).trans rfl, (blk_cell BK152.out 3).trans rfl, (blk_cell BK152.out 4).trans rfl, (blk_cell BK153.out 0).trans rfl, (blk_cell BK153.out 1).trans rfl, (blk_cell BK153.out 2).trans rfl, (blk_cell BK153.out 3).trans rfl, (blk_cell BK153.out 4).trans rfl⟩ (fun hHeld => ?_)
                    clear hK K
                    refine norm_ (a' := ?_) ?_ ?_
                    rotate_left
                    · show Act.put _ (some 41) _ = _
                      simp only [Act.put, List.setIfInBounds_toArray, List.set_cons_zero, List.set_cons_succ, i64_w, i32_w]
                      rfl
                    refine one_ (i := 6) (N := some 44) #[true, true, true, true, true, true, true, false] rfl rfl (one_of HT_.out (by kernel_rfl)) (by decide) (fun K hK => ?_)
                    refine Kd.R_append_rows_step k39 (w0 := w) w.heap.size (by rfl) (.tmp 41) (.tmp 43) 26 39 (.agg #[(.int .i64 0), (.int .i64 0), (.int .i64 0), (.string ⟨#[]⟩)]) 40 rfl Try.underlying26 info39 rfl (by decide) (by omega) v160 y159 t149 _ _ _ (fun k_ => some k_ ≠ (.slice Ao65 t142.length co65 : Value).ownBlock ∧ some k_ ≠ (.slice Ao71 t149.length co71 : Value).ownBlock) (fun _ => False) rfl rfl ?aO ?aR (fun _ _ h => h) (fun _ h => h.elim) ?aF ?aB ?aS ?aL ?_
                    (case aR => repeat (first | exact (Kd.R_reads' HO_154004.out).2.2 | (with_reducible refine Kd.C_alloc ?_ _) | (with_reducible refine Kd.C_drewN ?_ _) | (with_reducible refine Kd.C_drew ?_)))
                    (case aB => exact (by repeat (first | (with_reducible first | exact HB.out | apply below_alloc | apply pw_below_drewN | apply below_drew1 | refine below_set ?_ GE135.out | refine below_set ?_ GE136.out | refine below_set ?_ GE152.out | refine below_set ?_ GE153.out) | exact HB.out)))
                    (case aF => exact (fun k_ hk => ⟨Kd.fresh' (Kd.R_lt (by (with_reducible repeat (first | apply Kd.R_alloc | apply Kd.R_drewN | apply Kd.R_drew)); exact HO_153004.out)) k_ hk, Kd.fresh' (Kd.R_lt (by (with_reducible repeat (first | apply Kd.R_alloc | apply Kd.R_drewN | apply Kd.R_drew)); exact HO_154004.out)) k_ hk⟩))
                    (case aO => exact (by (with_reducible repeat (first | apply Kd.R_alloc | apply Kd.R_drewN | apply Kd.R_drew)); exact HO161.out))
                    (case aS => exact (below_size (by repeat (first | (with_reducible first | exact HB.out | apply below_alloc | apply pw_below_drewN | apply below_drew1 | refine below_set ?_ GE135.out | refine below_set ?_ GE136.out | refine below_set ?_ GE152.out | refine below_set ?_ GE153.out) | exact HB.out))))
                    (case aL => have := LMc59.out; omega)
                    intro v163 w70 ho hb hg hat
                    rw [← Ny162.out] at ho
                    have n0_ := Aside0.mk (Kd.R_after (ok := (fun k_ => some k_ ≠ (.slice Ao71 t149.length co71 : Value).ownBlock)) (by (with_reducible repeat (first | apply Kd.R_alloc | apply Kd.R_drewN | apply Kd.R_drew)); exact HO_153004.out) hg hat)
                    have n1_ := Aside0.mk (Kd.R_after (ok := (fun k_ => some k_ ≠ (.slice Ao65 t142.length co65 : Value).ownBlock)) (by (with_reducible repeat (first | apply Kd.R_alloc | apply Kd.R_drewN | apply Kd.R_drew)); exact HO_154004.out) hg hat)
                    have n2_ := Aside0.mk (blk_grown (g := gb135) (o := .cells #[.string a0_0, .int .i64 a0_1, .int .i64 a0_2, .int .i64 a0_3, .slice A0_4 l0_4.length c0_4] 24 (0, 0)) (by (with_reducible repeat (first | refine blk_drewN ?_ _ | refine blk_drew ?_ | refine blk_alloc ?_ _)); exact BK135.out) hg (Kd.R_ne HO161.out BK135.out (by decide)))
                    have n3_ := Aside0.mk (blk_grown (g := gb136) (o := .cells #[.string a1_0, .int .i64 a1_1, .int .i64 a1_2, .int .i64 a1_3, .slice A1_4 l1_4.length c1_4] 24 (0, 0)) (by (with_reducible repeat (first | refine blk_drewN ?_ _ | refine blk_drew ?_ | refine blk_alloc ?_ _)); exact BK136.out) hg (Kd.R_ne HO161.out BK136.out (by decide)))
                    have n4_ := Aside0.mk (blk_grown (g := gb152) (o := .cells #[.string t138, .int .i64 t139, .int .i64 t140, .int .i64 t141, .slice Ao65 t142.length co65] 28 (0, 0)) (by (with_reducible repeat (first | refine blk_drewN ?_ _ | refine blk_drew ?_ | refine blk_alloc ?_ _)); exact BK152.out) hg (Kd.R_ne HO161.out BK152.out (by decide)))
                    have n5_ := Aside0.mk (blk_grown (g := gb153) (o := .cells #[.string t145, .int .i64 t146, .int .i64 t147, .int .i64 t148, .slice Ao71 t149.length co71] 28 (0, 0)) (by (with_reducible repeat (first | refine blk_drewN ?_ _ | refine blk_drew ?_ | refine blk_alloc ?_ _)); exact BK153.out) hg (Kd.R_ne HO161.out BK153.out (by decide)))
                    have n6_ := Aside0.mk (hb)
                    have n7_ := Aside0.mk (ho)
                    clear HO_153004
                    clear HO_154004
                    clear BK135
                    clear BK136
                    clear BK152
                    clear BK153
                    clear HB
                    clear HO161
                    have HO_153004 := n0_
                    have HO_154004 := n1_
                    have BK135 := n2_
                    have BK136 := n3_
                    have BK152 := n4_
                    have BK153 := n5_
                    have HB := n6_
                    have HO164 := n7_
                    clear n0_ n1_ n2_ n3_ n4_ n5_ n6_ n7_
                    clear ho hb hg hat
                    refine hK.out _ _ ⟨(blk_cell BK152.out 0).trans rfl, (blk_cell BK152.out 1).trans rfl, (blk_cell BK152.out 2).trans rfl, (blk_cell BK152.out 3).trans rfl, (blk_cell BK152.out 4).trans rfl, (blk_cell BK153.out 0).trans rfl, (blk_cell BK153.out 1).trans rfl, (blk_cell BK153.out 2).trans rfl, (blk_cell BK153.out 3).trans rfl, (blk_cell BK153.out 4).trans rfl⟩ (fun hHeld => ?_)
                    clear hK K
                    refine norm_ (a' := ?_) ?_ ?_
                    rotate_left
                    · show Act.put _ (some 44) _ = _
                      simp only [Act.put, List.setIfInBounds_toArray, List.set_cons_zero, List.set_cons_succ, i64_w, i32_w]
                      rfl
                    refine pure_ (i := 7) (N := some 8) (v := ?_) (a' := ?_) #[true, true, true, true, true, true, true, true] rfl rfl (any_of HT_.out (by kernel_rfl)) (fun _ _ _ h => h) (Or.inl ⟨by rfl, ?_⟩) ?_ ?_
                    rotate_left
                    · intro w'
                      go_simp
                      with_reducible rfl
                    rotate_left
                    · simp only [Act.put, List.setIfInBounds_toArray, List.set_cons_zero, List.set_cons_succ, i64_w, i32_w]
                      rfl
                    refine done_ (done_of HT_.out (by kernel_rfl)) ?_
                    go_upto_region 10 with (fail)
                    go_cut [64] (fun v64 wc => ∃ (kq : Nat) (x64_59 : Bool), v64 = .bool x64_59 ∧ Aside0 (prolixlaw18_CodeSkips.j2 kq (t142.length : Int) y162 x64_59 t145 t146 t147 t148 t149 = some r) ∧ Aside0 (kq ≤ kj17) ∧ Aside0 (Kd.R k39 39 wc w.heap.size (fun k_ => some k_ ≠ ((.slice Ao65 t142.length co65) : Value).ownBlock ∧ some k_ ≠ ((.slice Ao71 t149.length co71) : Value).ownBlock) v163 y162) ∧ Aside0 (Kd.R k39 39 wc w.heap.size (fun k_ => some k_ ≠ (v163 : Value).ownBlock ∧ some k_ ≠ ((.slice Ao71 t149.length co71) : Value).ownBlock) (.slice Ao65 t142.length co65) t142) ∧ Aside0 (Kd.R k39 39 wc w.heap.size (fun k_ => some k_ ≠ (v163 : Value).ownBlock ∧ some k_ ≠ ((.slice Ao65 t142.length co65) : Value).ownBlock) (.slice Ao71 t149.length co71) t149) ∧ Aside0 (wc.heap[gb135]? = some (.cells #[.string a0_0, .int .i64 a0_1, .int .i64 a0_2, .int .i64 a0_3, (.slice A0_4 l0_4.length c0_4)] 24 (0, 0))) ∧ Aside0 (wc.heap[gb136]? = some (.cells #[.string a1_0, .int .i64 a1_1, .int .i64 a1_2, .int .i64 a1_3, (.slice A1_4 l1_4.length c1_4)] 24 (0, 0))) ∧ Aside0 (wc.heap[gb152]? = some (.cells #[.string t138, .int .i64 t139, .int .i64 t140, .int .i64 t141, (.slice Ao65 t142.length co65)] 28 (0, 0))) ∧ Aside0 (wc.heap[gb153]? = some (.cells #[.string t145, .int .i64 t146, .int .i64 t147, .int .i64 t148, (.slice Ao71 t149.length co71)] 28 (0, 0))) ∧ Aside0 (Below w.heap.size w wc))
                    case first =>
                      have H := HC60.out
                      clear HC60
                      replace H := Option.bind_eq_some_iff.mp H
                      obtain ⟨t165, A720, H⟩ := H
                      replace H : (if t165 = (t142.length : Int) then ((code_Skip.f kj17 y162 (wrap64 ((t142.length : Int) + t148))).bind fun t166 => (prolixlaw18_CodeSkips.j2 kj17 (t142.length : Int) y162 (t166 != (wrap64 ((t142.length : Int) + (t149.length : Int)))) t145 t146 t147 t148 t149)) else (prolixlaw18_CodeSkips.j2 kj17 (t142.length : Int) y162 true t145 t146 t147 t148 t149)) = some r := H
                      have A72 := Aside0.mk A720
                      clear A720
                      by_cases c73 : t165 = (t142.length : Int)
                      · rw [if_pos c73] at H
                        have c73b0 : (t165 == (t142.length : Int)) = true := beq_iff_eq.mpr c73
                        have c73b1 : (t165 != (t142.length : Int)) = false := bne_eq_false_iff_eq.mpr c73
                        clear c73
                        (first | rw [c73b0] | (simp only [i64_w, i32_w]; rw [c73b0]) | skip)
                        replace H := Option.bind_eq_some_iff.mp H
                        obtain ⟨t166, A740, H⟩ := H
                        replace H : (prolixlaw18_CodeSkips.j2 kj17 (t142.length : Int) y162 (t166 != (wrap64 ((t142.length : Int) + (t149.length : Int)))) t145 t146 t147 t148 t149) = some r := H
                        have A74 := Aside0.mk A740
                        clear A740
                        have H' := Aside0.mk H
                        clear H
                        try go_wp2
                        have n0_ := Aside0.mk (Kd.R_drew HO_153004.out)
                        have n1_ := Aside0.mk (Kd.R_drew HO_154004.out)
                        have n2_ := Aside0.mk (Kd.R_drew HO164.out)
                        have n3_ := Aside0.mk (blk_drew BK135.out)
                        have n4_ := Aside0.mk (blk_drew BK136.out)
                        have n5_ := Aside0.mk (blk_drew BK152.out)
                        have n6_ := Aside0.mk (blk_drew BK153.out)
                        have n7_ := Aside0.mk (below_drew1 HB.out)
                        clear HO_153004
                        clear HO_154004
                        clear HO164
                        clear BK135
                        clear BK136
                        clear BK152
                        clear BK153
                        clear HB
                        have HO_153004 := n0_
                        have HO_154004 := n1_
                        have HO164 := n2_
                        have BK135 := n3_
                        have BK136 := n4_
                        have BK152 := n5_
                        have BK153 := n6_
                        have HB := n7_
                        clear n0_ n1_ n2_ n3_ n4_ n5_ n6_ n7_
                        obtain ⟨Ao76, co76, eo76⟩ := Kd.R_slice HO164.out
                        (first | subst eo76 | (injection eo76 with f1_ f2_ f3_; have f4_ := f1_.symm; have f5_ := f3_.symm; clear f1_ f2_ f3_; subst f4_; subst f5_))
                        refine start_ (n := 20) (S := fun w' => w'.cell? ⟨gb152, 0, none⟩ = some (.string t138) ∧ w'.cell? ⟨gb152, 1, none⟩ = some (.int .i64 t139) ∧ w'.cell? ⟨gb152, 2, none⟩ = some (.int .i64 t140) ∧ w'.cell? ⟨gb152, 3, none⟩ = some (.int .i64 t141) ∧ w'.cell? ⟨gb152, 4, none⟩ = some (.slice Ao65 t142.length co65) ∧ w'.cell? ⟨gb153, 0, none⟩ = some (.string t145) ∧ w'.cell? ⟨gb153, 1, none⟩ = some (.int .i64 t146) ∧ w'.cell? ⟨gb153, 2, none⟩ = some (.int .i64 t147) ∧ w'.cell? ⟨gb153, 3, none⟩ = some (.int .i64 t148) ∧ w'.cell? ⟨gb153, 4, none⟩ = some (.slice Ao71 t149.length co71)) (ds := []) #[false, false, false, false, false, false, false, false, false, false, false, false, false, false, false, false, false, false, false, false] (by kernel_rfl) rfl rfl ⟨(blk_cell BK152.out 0).trans rfl, (blk_cell BK152.out 1).trans rfl, (blk_cell BK152.out 2).trans rfl, (blk_cell BK152.out 3).trans rfl, (blk_cell BK152.out 4).trans rfl, (blk_cell BK153.out 0).trans rfl, (blk_cell BK153.out 1).trans rfl, (blk_cell BK153.out 2).trans rfl, (blk_cell BK153.out 3).trans rfl, (blk_cell BK153.out 4).trans rfl⟩ (fun hHeld => ?_); refine with_tabW prolixlaw18_CodeSkips.tab10 prolixlaw18_CodeSkips.bits10 (fun HT_ HW_ => ?_)
                        generalize w70.drew = w75 at HO_153004 HO_154004 HO164 BK135 BK136 BK152 BK153 HB hHeld ⊢
                        refine pure_ (i := 0) (N := some 45) (v := ?_) (a' := ?_) #[true, false, false, false, false, false, false, false, false, false, false, false, false, false, false, false, false, false, false, false] rfl rfl (any_of HT_.out (by kernel_rfl)) (fun _ _ _ h => h) (Or.inl ⟨by rfl, ?_⟩) ?_ ?_
                        rotate_left
                        · intro w'
                          go_simp
                          with_reducible rfl
                        rotate_left
                        · simp only [Act.put, List.setIfInBounds_toArray, List.set_cons_zero, List.set_cons_succ, i64_w, i32_w]
                          rfl
                        refine pure_ (i := 1) (N := some 46) (v := ?_) (a' := ?_) #[true, true, false, false, false, false, false, false, false, false, false, false, false, false, false, false, false, false, false, false] rfl rfl (any_of HT_.out (by kernel_rfl)) (fun _ _ _ h => h) (Or.inl ⟨by rfl, ?_⟩) ?_ ?_
                        rotate_left
                        · intro w'
                          go_simp
                          with_reducible rfl
                        rotate_left
                        · simp only [Act.put, List.setIfInBounds_toArray, List.set_cons_zero, List.set_cons_succ, i64_w, i32_w]
                          rfl
                        refine pure_ (i := 4) (N := some 49) (v := ?_) (a' := ?_) #[true, true, false, false, true, false, false, false, false, false, false, false, false, false, false, false, false, false, false, false] rfl rfl (any_of HT_.out (by kernel_rfl)) (fun _ _ _ h => h) (Or.inl ⟨by rfl, ?_⟩) ?_ ?_
                        rotate_left
                        · intro w'
                          go_simp
                          with_reducible rfl
                        rotate_left
                        · simp only [Act.put, List.setIfInBounds_toArray, List.set_cons_zero, List.set_cons_succ, i64_w, i32_w]
                          rfl
                        refine take_ (i := 2) (N := some 47) (v := ?_) (a' := ?_) #[true, true, true, false, true, false, false, false, false, false, false, false, false, false, false, false, false, false, false, false] rfl rfl (take_ofW HT_.out HW_.out (by kernel_rfl)) (fun _ _ _ h => h) (Or.inl ⟨by rfl, ?_⟩) hHeld ?_ ?_
                        rotate_left
                        · rintro w' ⟨s0, s1, s2, s3, s4, s5, s6, s7, s8, s9⟩
                          go_simp
                          with_reducible rfl
                        rotate_left
                        · simp only [Act.put, List.setIfInBounds_toArray, List.set_cons_zero, List.set_cons_succ, i64_w, i32_w]
                          rfl
                        refine one_ (i := 3) (N := some 48) #[true, true, true, true, true, false, false, false, false, false, false, false, false, false, false, false, false, false, false, false] rfl rfl (one_of HT_.out (by kernel_rfl)) (by decide) (fun K hK => ?_)
                        refine goes_ Try.func19 (by kernel_rfl) rfl #[.slice Ao76 y162.length co76, .int .i64 t141] (by rfl) rfl rfl (by (try simp only [List.map_toArray, List.map_cons, List.map_nil]); first | done | rfl | (simp only [List.length_drop, List.length_take]; rfl)) ?_
                        with_reducible refine (code_Skip.calls kj17 _ _ y162 t141 t165 _ ?side1 ?side2 A72.out).mono ?_
                        (case side1 => repeat (first | exact (Kd.R_reads' HO164.out).2.2 | (with_reducible refine Kd.C_alloc ?_ _) | (with_reducible refine Kd.C_drewN ?_ _) | (with_reducible refine Kd.C_drew ?_)))
                        (case side2 => exact (Kd.R_reads' HO164.out).2.1)
                        rintro e w77 ⟨rfl, hb⟩
                        refine ⟨_, rfl, ?_⟩
                        have n0_ := Aside0.mk (Kd.R_below (by (with_reducible repeat (first | apply Kd.R_alloc | apply Kd.R_drewN | apply Kd.R_drew)); exact HO_153004.out) hb)
                        have n1_ := Aside0.mk (Kd.R_below (by (with_reducible repeat (first | apply Kd.R_alloc | apply Kd.R_drewN | apply Kd.R_drew)); exact HO_154004.out) hb)
                        have n2_ := Aside0.mk (Kd.R_below (by (with_reducible repeat (first | apply Kd.R_alloc | apply Kd.R_drewN | apply Kd.R_drew)); exact HO164.out) hb)
                        have n3_ := Aside0.mk (blk_below (g := gb135) (o := .cells #[.string a0_0, .int .i64 a0_1, .int .i64 a0_2, .int .i64 a0_3, .slice A0_4 l0_4.length c0_4] 24 (0, 0)) (by (with_reducible repeat (first | refine blk_drewN ?_ _ | refine blk_drew ?_ | refine blk_alloc ?_ _)); exact BK135.out) hb)
                        have n4_ := Aside0.mk (blk_below (g := gb136) (o := .cells #[.string a1_0, .int .i64 a1_1, .int .i64 a1_2, .int .i64 a1_3, .slice A1_4 l1_4.length c1_4] 24 (0, 0)) (by (with_reducible repeat (first | refine blk_drewN ?_ _ | refine blk_drew ?_ | refine blk_alloc ?_ _)); exact BK136.out) hb)
                        have n5_ := Aside0.mk (blk_below (g := gb152) (o := .cells #[.string t138, .int .i64 t139, .int .i64 t140, .int .i64 t141, .slice Ao65 t142.length co65] 28 (0, 0)) (by (with_reducible repeat (first | refine blk_drewN ?_ _ | refine blk_drew ?_ | refine blk_alloc ?_ _)); exact BK152.out) hb)
                        have n6_ := Aside0.mk (blk_below (g := gb153) (o := .cells #[.string t145, .int .i64 t146, .int .i64 t147, .int .i64 t148, .slice Ao71 t149.length co71] 28 (0, 0)) (by (with_reducible repeat (first | refine blk_drewN ?_ _ | refine blk_drew ?_ | refine blk_alloc ?_ _)); exact BK153.out) hb)
                        have n7_ := Aside0.mk (below_step (by repeat (first | (with_reducible first | exact HB.out | apply below_alloc | apply pw_below_drewN | apply below_drew1 | refine below_set ?_ GE135.out | refine below_set ?_ GE136.out | refine below_set ?_ GE152.out | refine below_set ?_ GE153.out) | exact HB.out)) hb)
                        clear HO_153004
                        clear HO_154004
                        clear HO164
                        clear BK135
                        clear BK136
                        clear BK152
                        clear BK153
                        clear HB
                        have HO_153004 := n0_
                        have HO_154004 := n1_
                        have HO164 := n2_
                        have BK135 := n3_
                        have BK136 := n4_
                        have BK152 := n5_
                        have BK153 := n6_
                        have HB := n7_
                        clear n0_ n1_ n2_ n3_ n4_ n5_ n6_ n7_
                        (try clear hb)
                        (try clear hb2)
                        (try clear hk)
                        (try clear hi)
                        refine hK.out _ _ ⟨(blk_cell BK152.out 0).trans rfl, (blk_cell BK152.out 1).trans rfl, (blk_cell BK152.out 2).trans rfl, (blk_cell BK152.out 3).trans rfl, (blk_cell BK152.out 4).trans rfl, (blk_cell BK153.out 0).trans rfl, (blk_cell BK153.out 1).trans rfl, (blk_cell BK153.out 2).trans rfl, (blk_cell BK153.out 3).trans rfl, (blk_cell BK153.out 4).trans rfl⟩ (fun hHeld => ?_)
                        clear hK K
                        refine norm_ (a' := ?_) ?_ ?_
                        rotate_left
                        · show Act.put _ (some 48) _ = _
                          simp only [Act.put, List.setIfInBounds_toArray, List.set_cons_zero, List.set_cons_succ, i64_w, i32_w]
                          rfl
                        refine pure_ (i := 5) (N := some 50) (v := ?_) (a' := ?_) #[true, true, true, true, true, true, false, false, false, false, false, false, false, false, false, false, false, false, false, false] rfl rfl (any_of HT_.out (by kernel_rfl)) (fun _ _ _ h => h) (Or.inl ⟨by rfl, ?_⟩) ?_ ?_
                        rotate_left
                        · intro w'
                          go_simp
                          with_reducible rfl
                        rotate_left
                        · simp only [Act.put, List.setIfInBounds_toArray, List.set_cons_zero, List.set_cons_succ, i64_w, i32_w]
                          rfl
                        refine pure_ (i := 6) (N := some 51) (v := ?_) (a' := ?_) #[true, true, true, true, true, true, true, false, false, false, false, false, false, false, false, false, false, false, false, false] rfl rfl (any_of HT_.out (by kernel_rfl)) (fun _ _ _ h => h) (Or.inl ⟨by rfl, ?_⟩) ?_ ?_
                        rotate_left
                        · intro w'
                          go_simp
                          with_reducible rfl
                        rotate_left
                        · simp only [Act.put, List.setIfInBounds_toArray, List.set_cons_zero, List.set_cons_succ, i64_w, i32_w]
                          rfl
                        refine pure_ (i := 7) (N := some 52) (v := ?_) (a' := ?_) #[true, true, true, true, true, true, true, true, false, false, false, false, false, false, false, false, false, false, false, false] rfl rfl (any_of HT_.out (by kernel_rfl)) (fun _ _ _ h => h) (Or.inl ⟨by rfl, ?_⟩) ?_ ?_
                        rotate_left
                        · intro w'
                          go_simp
                          with_reducible rfl
                        rotate_left
                        · simp only [Act.put, List.setIfInBounds_toArray, List.set_cons_zero, List.set_cons_succ, i64_w, i32_w]
                          rfl
                        refine pure_ (i := 8) (N := some 53) (v := ?_) (a' := ?_) #[true, true, true, true, true, true, true, true, true, false, false, false, false, false, false, false, false, false, false, false] rfl rfl (any_of HT_.out (by kernel_rfl)) (fun _ _ _ h => h) (Or.inl ⟨by rfl, ?_⟩) ?_ ?_
                        rotate_left
                        · intro w'
                          go_simp
                          with_reducible rfl
                        rotate_left
                        · simp only [Act.put, List.setIfInBounds_toArray, List.set_cons_zero, List.set_cons_succ, i64_w, i32_w]
                          rfl
                        refine pure_ (i := 9) (N := some 54) (v := ?_) (a' := ?_) #[true, true, true, true, true, true, true, true, true, true, false, false, false, false, false, false, false, false, false, false] rfl rfl (any_of HT_.out (by kernel_rfl)) (fun _ _ _ h => h) (Or.inl ⟨by rfl, ?_⟩) ?_ ?_
                        rotate_left
                        · intro w'
                          go_simp
                          with_reducible rfl
                        rotate_left
                        · simp only [Act.put, List.setIfInBounds_toArray, List.set_cons_zero, List.set_cons_succ, i64_w, i32_w]
                          rfl
                        refine pure_ (i := 13) (N := some 58) (v := ?_) (a' := ?_) #[true, true, true, true, true, true, true, true, true, true, false, false, false, true, false, false, false, false, false, false] rfl rfl (any_of HT_.out (by kernel_rfl)) (fun _ _ _ h => h) (Or.inl ⟨by rfl, ?_⟩) ?_ ?_
                        rotate_left
                        · intro w'
                          go_simp
                          with_reducible rfl
                        rotate_left
                        · simp only [Act.put, List.setIfInBounds_toArray, List.set_cons_zero, List.set_cons_succ, i64_w, i32_w]
                          rfl
                        refine pure_ (i := 14) (N := some 59) (v := ?_) (a' := ?_) #[true, true, true, true, true, true, true, true, true, true, false, false, false, true, true, false, false, false, false, false] rfl rfl (any_of HT_.out (by kernel_rfl)) (fun _ _ _ h => h) (Or.inl ⟨by rfl, ?_⟩) ?_ ?_
                        rotate_left
                        · intro w'
                          go_simp
                          with_reducible rfl
                        rotate_left
                        · simp only [Act.put, List.setIfInBounds_toArray, List.set_cons_zero, List.set_cons_succ, i64_w, i32_w]
                          rfl
                        refine take_ (i := 10) (N := some 55) (v := ?_) (a' := ?_) #[true, true, true, true, true, true, true, true, true, true, true, false, false, true, true, false, false, false, false, false] rfl rfl (take_ofW HT_.out HW_.out (by kernel_rfl)) (fun _ _ _ h => h) (Or.inl ⟨by rfl, ?_⟩) hHeld ?_ ?_
                        rotate_left
                        · rintro w' ⟨s0, s1, s2, s3, s4, s5, s6, s7, s8, s9⟩
                          go_simp
                          with_reducible rfl
                        rotate_left
                        · simp only [Act.put, List.setIfInBounds_toArray, List.set_cons_zero, List.set_cons_succ, i64_w, i32_w]
                          rfl
                        refine pure_ (i := 11) (N := some 56) (v := ?_) (a' := ?_) #[true, true, true, true, true, true, true, true, true, true, true, true, false, true, true, false, false, false, false, false] rfl rfl (any_of HT_.out (by kernel_rfl)) (fun _ _ _ h => h) (Or.inl ⟨by rfl, ?_⟩) ?_ ?_
                        rotate_left
                        · intro w'
                          go_simp
                          with_reducible rfl
                        rotate_left
                        · simp only [Act.put, List.setIfInBounds_toArray, List.set_cons_zero, List.set_cons_succ, i64_w, i32_w]
                          rfl
                        refine take_ (i := 15) (N := some 60) (v := ?_) (a' := ?_) #[true, true, true, true, true, true, true, true, true, true, true, true, false, true, true, true, false, false, false, false] rfl rfl (take_ofW HT_.out HW_.out (by kernel_rfl)) (fun _ _ _ h => h) (Or.inl ⟨by rfl, ?_⟩) hHeld ?_ ?_
                        rotate_left
                        · rintro w' ⟨s0, s1, s2, s3, s4, s5, s6, s7, s8, s9⟩
                          go_simp
                          with_reducible rfl
                        rotate_left
                        · simp only [Act.put, List.setIfInBounds_toArray, List.set_cons_zero, List.set_cons_succ, i64_w, i32_w]
                          rfl
                        refine pure_ (i := 16) (N := some 61) (v := ?_) (a' := ?_) #[true, true, true, true, true, true, true, true, true, true, true, true, false, true, true, true, true, false, false, false] rfl rfl (any_of HT_.out (by kernel_rfl)) (fun _ _ _ h => h) (Or.inl ⟨by rfl, ?_⟩) ?_ ?_
                        rotate_left
                        · intro w'
                          go_simp
                          with_reducible rfl
                        rotate_left
                        · simp only [Act.put, List.setIfInBounds_toArray, List.set_cons_zero, List.set_cons_succ, i64_w, i32_w]
                          rfl
                        refine pure_ (i := 17) (N := some 62) (v := ?_) (a' := ?_) #[true, true, true, true, true, true, true, true, true, true, true, true, false, true, true, true, true, true, false, false] rfl rfl (any_of HT_.out (by kernel_rfl)) (fun _ _ _ h => h) (Or.inl ⟨by rfl, ?_⟩) ?_ ?_
                        rotate_left
                        · intro w'
                          go_simp
                          with_reducible rfl
                        rotate_left
                        · simp only [Act.put, List.setIfInBounds_toArray, List.set_cons_zero, List.set_cons_succ, i64_w, i32_w]
                          rfl
                        refine one_ (i := 12) (N := some 57) #[true, true, true, true, true, true, true, true, true, true, true, true, true, true, true, true, true, true, false, false] rfl rfl (one_of HT_.out (by kernel_rfl)) (by decide) (fun K hK => ?_)
                        refine goes_ Try.func19 (by kernel_rfl) rfl #[.slice Ao76 y162.length co76, .int .i64 (wrap64 ((t142.length : Int) + t148))] (by rfl) rfl rfl (by (try simp only [List.map_toArray, List.map_cons, List.map_nil]); first | done | rfl | (simp only [List.length_drop, List.length_take]; rfl)) ?_
                        with_reducible refine (code_Skip.calls kj17 _ _ y162 (wrap64 ((t142.length : Int) + t148)) t166 _ ?side1 ?side2 A74.out).mono ?_
                        (case side1 => repeat (first | exact (Kd.R_reads' HO164.out).2.2 | (with_reducible refine Kd.C_alloc ?_ _) | (with_reducible refine Kd.C_drewN ?_ _) | (with_reducible refine Kd.C_drew ?_)))
                        (case side2 => exact (Kd.R_reads' HO164.out).2.1)
                        rintro e w78 ⟨rfl, hb⟩
                        refine ⟨_, rfl, ?_⟩
                        have n0_ := Aside0.mk (Kd.R_below (by (with_reducible repeat (first | apply Kd.R_alloc | apply Kd.R_drewN | apply Kd.R_drew)); exact HO_153004.out) hb)
                        have n1_ := Aside0.mk (Kd.R_below (by (with_reducible repeat (first | apply Kd.R_alloc | apply Kd.R_drewN | apply Kd.R_drew)); exact HO_154004.out) hb)
                        have n2_ := Aside0.mk (Kd.R_below (by (with_reducible repeat (first | apply Kd.R_alloc | apply Kd.R_drewN | apply Kd.R_drew)); exact HO164.out) hb)
                        have n3_ := Aside0.mk (blk_below (g := gb135) (o := .cells #[.string a0_0, .int .i64 a0_1, .int .i64 a0_2, .int .i64 a0_3, .slice A0_4 l0_4.length c0_4] 24 (0, 0)) (by (with_reducible repeat (first | refine blk_drewN ?_ _ | refine blk_drew ?_ | refine blk_alloc ?_ _)); exact BK135.out) hb)
                        have n4_ := Aside0.mk (blk_below (g := gb136) (o := .cells #[.string a1_0, .int .i64 a1_1, .int .i64 a1_2, .int .i64 a1_3, .slice A1_4 l1_4.length c1_4] 24 (0, 0)) (by (with_reducible repeat (first | refine blk_drewN ?_ _ | refine blk_drew ?_ | refine blk_alloc ?_ _)); exact BK136.out) hb)
                        have n5_ := Aside0.mk (blk_below (g := gb152) (o := .cells #[.string t138, .int .i64 t139, .int .i64 t140, .int .i64 t141, .slice Ao65 t142.length co65] 28 (0, 0)) (by (with_reducible repeat (first | refine blk_drewN ?_ _ | refine blk_drew ?_ | refine blk_alloc ?_ _)); exact BK152.out) hb)
                        have n6_ := Aside0.mk (blk_below (g := gb153) (o := .cells #[.string t145, .int .i64 t146, .int .i64 t147, .int .i64 t148, .slice Ao71 t149.length co71] 28 (0, 0)) (by (with_reducible repeat (first | refine blk_drewN ?_ _ | refine blk_drew ?_ | refine blk_alloc ?_ _)); exact BK153.out) hb)
                        have n7_ := Aside0.mk (below_step (by repeat (first | (with_reducible first | exact HB.out | apply below_alloc | apply pw_below_drewN | apply below_drew1 | refine below_set ?_ GE135.out | refine below_set ?_ GE136.out | refine below_set ?_ GE152.out | refine below_set ?_ GE153.out) | exact HB.out)) hb)
                        clear HO_153004
                        clear HO_154004
                        clear HO164
                        clear BK135
                        clear BK136
                        clear BK152
                        clear BK153
                        clear HB
                        have HO_153004 := n0_
                        have HO_154004 := n1_
                        have HO164 := n2_
                        have BK135 := n3_
                        have BK136 := n4_
                        have BK152 := n5_
                        have BK153 := n6_
                        have HB := n7_
                        clear n0_ n1_ n2_ n3_ n4_ n5_ n6_ n7_
                        (try clear hb)
                        (try clear hb2)
                        (try clear hk)
                        (try clear hi)
                        refine hK.out _ _ ⟨(blk_cell BK152.out 0).trans rfl, (blk_cell BK152.out 1).trans rfl, (blk_cell BK152.out 2).trans rfl, (blk_cell BK152.out 3).trans rfl, (blk_cell BK152.out 4).trans rfl, (blk_cell BK153.out 0).trans rfl, (blk_cell BK153.out 1).trans rfl, (blk_cell BK153.out 2).trans rfl, (blk_cell BK153.out 3).trans rfl, (blk_cell BK153.out 4).trans rfl⟩ (fun hHeld => ?_)
                        clear hK K
                        refine norm_ (a' := ?_) ?_ ?_
                        rotate_left
                        · show Act.put _ (some 57) _ = _
                          simp only [Act.put, List.setIfInBounds_toArray, List.set_cons_zero, List.set_cons_succ, i64_w, i32_w]
                          rfl
                        refine pure_ (i := 18) (N := some 63) (v := ?_) (a' := ?_) #[true, true, true, true, true, true, true, true, true, true, true, true, true, true, true, true, true, true, true, false] rfl rfl (any_of HT_.out (by kernel_rfl)) (fun _ _ _ h => h) (Or.inl ⟨by rfl, ?_⟩) ?_ ?_
                        rotate_left
                        · intro w'
                          go_simp
                          with_reducible rfl
                        rotate_left
                        · simp only [Act.put, List.setIfInBounds_toArray, List.set_cons_zero, List.set_cons_succ, i64_w, i32_w]
                          rfl
                        refine pure_ (i := 19) (N := some 64) (v := ?_) (a' := ?_) #[true, true, true, true, true, true, true, true, true, true, true, true, true, true, true, true, true, true, true, true] rfl rfl (any_of HT_.out (by kernel_rfl)) (fun _ _ _ h => h) (Or.inl ⟨by rfl, ?_⟩) ?_ ?_
                        rotate_left
                        · intro w'
                          go_simp
                          with_reducible rfl
                        rotate_left
                        · simp only [Act.put, List.setIfInBounds_toArray, List.set_cons_zero, List.set_cons_succ, i64_w, i32_w]
                          rfl
                        refine done_ (done_of HT_.out (by kernel_rfl)) ?_
                        try go_wp2
                        go_meet
                        case rel => exact ⟨_, ((t166 != (wrap64 ((t142.length : Int) + (t149.length : Int))))), (by first | rfl | (simp; done) | (simp [*]; done)), H', ⟨by have := HJ4.out; have := HJ17.out; first | omega | exact Nat.le_refl _⟩, ⟨by (with_reducible repeat (first | apply Kd.R_alloc | apply Kd.R_drewN | apply Kd.R_drew)); exact HO164.out⟩, ⟨by (with_reducible repeat (first | apply Kd.R_alloc | apply Kd.R_drewN | apply Kd.R_drew)); exact Kd.R_mono HO_153004.out (fun _ hk => by first | exact ⟨hk.2, hk.1⟩ | (simp only [own_len] at hk ⊢; exact ⟨hk.2, hk.1⟩))⟩, ⟨by (with_reducible repeat (first | apply Kd.R_alloc | apply Kd.R_drewN | apply Kd.R_drew)); exact Kd.R_mono HO_154004.out (fun _ hk => by first | exact ⟨hk.2, hk.1⟩ | (simp only [own_len] at hk ⊢; exact ⟨hk.2, hk.1⟩))⟩, ⟨by (with_reducible repeat (first | refine blk_drewN ?_ _ | refine blk_drew ?_ | refine blk_alloc ?_ _)); exact BK135.out⟩, ⟨by (with_reducible repeat (first | refine blk_drewN ?_ _ | refine blk_drew ?_ | refine blk_alloc ?_ _)); exact BK136.out⟩, ⟨by (with_reducible repeat (first | refine blk_drewN ?_ _ | refine blk_drew ?_ | refine blk_alloc ?_ _)); exact BK152.out⟩, ⟨by (with_reducible repeat (first | refine blk_drewN ?_ _ | refine blk_drew ?_ | refine blk_alloc ?_ _)); exact BK153.out⟩, ⟨by repeat (first | (with_reducible first | exact HB.out | apply below_alloc | apply pw_below_drewN | apply below_drew1 | refine below_set ?_ GE135.out | refine below_set ?_ GE136.out | refine below_set ?_ GE152.out | refine below_set ?_ GE153.out) | exact HB.out)⟩⟩
                      · rw [if_neg c73] at H
                        have c73b0 : (t165 == (t142.length : Int)) = false := beq_eq_false_iff_ne.mpr c73
                        have c73b1 : (t165 != (t142.length : Int)) = true := bne_iff_ne.mpr c73
                        (first | rw [c73b0] | (simp only [i64_w, i32_w]; rw [c73b0]) | skip)
                        have H' := Aside0.mk H
                        clear H
                        try go_wp2
                        have n0_ := Aside0.mk (Kd.R_drew HO_153004.out)
                        have n1_ := Aside0.mk (Kd.R_drew HO_154004.out)
                        have n2_ := Aside0.mk (Kd.R_drew HO164.out)
                        have n3_ := Aside0.mk (blk_drew BK135.out)
                        have n4_ := Aside0.mk (blk_drew BK136.out)
                        have n5_ := Aside0.mk (blk_drew BK152.out)
                        have n6_ := Aside0.mk (blk_drew BK153.out)
                        have n7_ := Aside0.mk (below_drew1 HB.out)
                        clear HO_153004
                        clear HO_154004
                        clear HO164
                        clear BK135
                        clear BK136
                        clear BK152
                        clear BK153
                        clear HB
                        have HO_153004 := n0_
                        have HO_154004 := n1_
                        have HO164 := n2_
                        have BK135 := n3_
                        have BK136 := n4_
                        have BK152 := n5_
                        have BK153 := n6_
                        have HB := n7_
                        clear n0_ n1_ n2_ n3_ n4_ n5_ n6_ n7_
                        obtain ⟨Ao80, co80, eo80⟩ := Kd.R_slice HO164.out
                        (first | subst eo80 | (injection eo80 with f1_ f2_ f3_; have f4_ := f1_.symm; have f5_ := f3_.symm; clear f1_ f2_ f3_; subst f4_; subst f5_))
                        refine start_ (n := 20) (S := fun w' => w'.cell? ⟨gb152, 0, none⟩ = some (.string t138) ∧ w'.cell? ⟨gb152, 1, none⟩ = some (.int .i64 t139) ∧ w'.cell? ⟨gb152, 2, none⟩ = some (.int .i64 t140) ∧ w'.cell? ⟨gb152, 3, none⟩ = some (.int .i64 t141) ∧ w'.cell? ⟨gb152, 4, none⟩ = some (.slice Ao65 t142.length co65)) (ds := []) #[false, false, false, false, false, false, false, false, false, false, false, false, false, false, false, false, false, false, false, false] (by kernel_rfl) rfl rfl ⟨(blk_cell BK152.out 0).trans rfl, (blk_cell BK152.out 1).trans rfl, (blk_cell BK152.out 2).trans rfl, (blk_cell BK152.out 3).trans rfl, (blk_cell BK152.out 4).trans rfl⟩ (fun hHeld => ?_); refine with_tabW prolixlaw18_CodeSkips.tab10 prolixlaw18_CodeSkips.bits10 (fun HT_ HW_ => ?_)
                        generalize w70.drew = w79 at HO_153004 HO_154004 HO164 BK135 BK136 BK152 BK153 HB hHeld ⊢
                        refine pure_ (i := 0) (N := some 45) (v := ?_) (a' := ?_) #[true, false, false, false, false, false, false, false, false, false, false, false, false, false, false, false, false, false, false, false] rfl rfl (any_of HT_.out (by kernel_rfl)) (fun _ _ _ h => h) (Or.inl ⟨by rfl, ?_⟩) ?_ ?_
                        rotate_left
                        · intro w'
                          go_simp
                          with_reducible rfl
                        rotate_left
                        · simp only [Act.put, List.setIfInBounds_toArray, List.set_cons_zero, List.set_cons_succ, i64_w, i32_w]
                          rfl
                        refine pure_ (i := 1) (N := some 46) (v := ?_) (a' := ?_) #[true, true, false, false, false, false, false, false, false, false, false, false, false, false, false, false, false, false, false, false] rfl rfl (any_of HT_.out (by kernel_rfl)) (fun _ _ _ h => h) (Or.inl ⟨by rfl, ?_⟩) ?_ ?_
                        rotate_left
                        · intro w'
                          go_simp
                          with_reducible rfl
                        rotate_left
                        · simp only [Act.put, List.setIfInBounds_toArray, List.set_cons_zero, List.set_cons_succ, i64_w, i32_w]
                          rfl
                        refine pure_ (i := 4) (N := some 49) (v := ?_) (a' := ?_) #[true, true, false, false, true, false, false, false, false, false, false, false, false, false, false, false, false, false, false, false] rfl rfl (any_of HT_.out (by kernel_rfl)) (fun _ _ _ h => h) (Or.inl ⟨by rfl, ?_⟩) ?_ ?_
                        rotate_left
                        · intro w'
                          go_simp
                          with_reducible rfl
                        rotate_left
                        · simp only [Act.put, List.setIfInBounds_toArray, List.set_cons_zero, List.set_cons_succ, i64_w, i32_w]
                          rfl
                        refine take_ (i := 2) (N := some 47) (v := ?_) (a' := ?_) #[true, true, true, false, true, false, false, false, false, false, false, false, false, false, false, false, false, false, false, false] rfl rfl (take_ofW HT_.out HW_.out (by kernel_rfl)) (fun _ _ _ h => h) (Or.inl ⟨by rfl, ?_⟩) hHeld ?_ ?_
                        rotate_left
                        · rintro w' ⟨s0, s1, s2, s3, s4⟩
                          go_simp
                          with_reducible rfl
                        rotate_left
                        · simp only [Act.put, List.setIfInBounds_toArray, List.set_cons_zero, List.set_cons_succ, i64_w, i32_w]
                          rfl
                        refine one_ (i := 3) (N := some 48) #[true, true, true, true, true, false, false, false, false, false, false, false, false, false, false, false, false, false, false, false] rfl rfl (one_of HT_.out (by kernel_rfl)) (by decide) (fun K hK => ?_)
                        refine goes_ Try.func19 (by kernel_rfl) rfl #[.slice Ao80 y162.length co80, .int .i64 t141] (by rfl) rfl rfl (by (try simp only [List.map_toArray, List.map_cons, List.map_nil]); first | done | rfl | (simp only [List.length_drop, List.length_take]; rfl)) ?_
                        with_reducible refine (code_Skip.calls kj17 _ _ y162 t141 t165 _ ?side1 ?side2 A72.out).mono ?_
                        (case side1 => repeat (first | exact (Kd.R_reads' HO164.out).2.2 | (with_reducible refine Kd.C_alloc ?_ _) | (with_reducible refine Kd.C_drewN ?_ _) | (with_reducible refine Kd.C_drew ?_)))
                        (case side2 => exact (Kd.R_reads' HO164.out).2.1)
                        rintro e w81 ⟨rfl, hb⟩
                        refine ⟨_, rfl, ?_⟩
                        have n0_ := Aside0.mk (Kd.R_below (by (with_reducible repeat (first | apply Kd.R_alloc | apply Kd.R_drewN | apply Kd.R_drew)); exact HO_153004.out) hb)
                        have n1_ := Aside0.mk (Kd.R_below (by (with_reducible repeat (first | apply Kd.R_alloc | apply Kd.R_drewN | apply Kd.R_drew)); exact HO_154004.out) hb)
                        have n2_ := Aside0.mk (Kd.R_below (by (with_reducible repeat (first | apply Kd.R_alloc | apply Kd.R_drewN | apply Kd.R_drew)); exact HO164.out) hb)
                        have n3_ := Aside0.mk (blk_below (g := gb135) (o := .cells #[.string a0_0, .int .i64 a0_1, .int .i64 a0_2, .int .i64 a0_3, .slice A0_4 l0_4.length c0_4] 24 (0, 0)) (by (with_reducible repeat (first | refine blk_drewN ?_ _ | refine blk_drew ?_ | refine blk_alloc ?_ _)); exact BK135.out) hb)
                        have n4_ := Aside0.mk (blk_below (g := gb136) (o := .cells #[.string a1_0, .int .i64 a1_1, .int .i64 a1_2, .int .i64 a1_3, .slice A1_4 l1_4.length c1_4] 24 (0, 0)) (by (with_reducible repeat (first | refine blk_drewN ?_ _ | refine blk_drew ?_ | refine blk_alloc ?_ _)); exact BK136.out) hb)
                        have n5_ := Aside0.mk (blk_below (g := gb152) (o := .cells #[.string t138, .int .i64 t139, .int .i64 t140, .int .i64 t141, .slice Ao65 t142.length co65] 28 (0, 0)) (by (with_reducible repeat (first | refine blk_drewN ?_ _ | refine blk_drew ?_ | refine blk_alloc ?_ _)); exact BK152.out) hb)
                        have n6_ := Aside0.mk (blk_below (g := gb153) (o := .cells #[.string t145, .int .i64 t146, .int .i64 t147, .int .i64 t148, .slice Ao71 t149.length co71] 28 (0, 0)) (by (with_reducible repeat (first | refine blk_drewN ?_ _ | refine blk_drew ?_ | refine blk_alloc ?_ _)); exact BK153.out) hb)
                        have n7_ := Aside0.mk (below_step (by repeat (first | (with_reducible first | exact HB.out | apply below_alloc | apply pw_below_drewN | apply below_drew1 | refine below_set ?_ GE135.out | refine below_set ?_ GE136.out | refine below_set ?_ GE152.out | refine below_set ?_ GE153.out) | exact HB.out)) hb)
                        clear HO_153004
                        clear HO_154004
                        clear HO164
                        clear BK135
                        clear BK136
                        clear BK152
                        clear BK153
                        clear HB
                        have HO_153004 := n0_
                        have HO_154004 := n1_
                        have HO164 := n2_
                        have BK135 := n3_
                        have BK136 := n4_
                        have BK152 := n5_
                        have BK153 := n6_
                        have HB := n7_
                        clear n0_ n1_ n2_ n3_ n4_ n5_ n6_ n7_
                        (try clear hb)
                        (try clear hb2)
                        (try clear hk)
                        (try clear hi)
                        refine hK.out _ _ ⟨(blk_cell BK152.out 0).trans rfl, (blk_cell BK152.out 1).trans rfl, (blk_cell BK152.out 2).trans rfl, (blk_cell BK152.out 3).trans rfl, (blk_cell BK152.out 4).trans rfl⟩ (fun hHeld => ?_)
                        clear hK K
                        refine norm_ (a' := ?_) ?_ ?_
                        rotate_left
                        · show Act.put _ (some 48) _ = _
                          simp only [Act.put, List.setIfInBounds_toArray, List.set_cons_zero, List.set_cons_succ, i64_w, i32_w]
                          rfl
                        refine pure_ (i := 5) (N := some 50) (v := ?_) (a' := ?_) #[true, true, true, true, true, true, false, false, false, false, false, false, false, false, false, false, false, false, false, false] rfl rfl (any_of HT_.out (by kernel_rfl)) (fun _ _ _ h => h) (Or.inl ⟨by rfl, ?_⟩) ?_ ?_
                        rotate_left
                        · intro w'
                          go_simp
                          with_reducible rfl
                        rotate_left
                        · simp only [Act.put, List.setIfInBounds_toArray, List.set_cons_zero, List.set_cons_succ, i64_w, i32_w]
                          rfl
                        refine pure_ (i := 6) (N := some 51) (v := ?_) (a' := ?_) #[true, true, true, true, true, true, true, false, false, false, false, false, false, false, false, false, false, false, false, false] rfl rfl (any_of HT_.out (by kernel_rfl)) (fun _ _ _ h => h) (Or.inl ⟨by rfl, ?_⟩) ?_ ?_
                        rotate_left
                        · intro w'
                          go_simp
                          with_reducible rfl
                        rotate_left
                        · simp only [Act.put, List.setIfInBounds_toArray, List.set_cons_zero, List.set_cons_succ, i64_w, i32_w]
                          rfl
                        refine pure_ (i := 7) (N := some 52) (v := undef) (a' := ?_) #[true, true, true, true, true, true, true, true, false, false, false, false, false, false, false, false, false, false, false, false] rfl rfl (any_of HT_.out (by kernel_rfl)) (fun _ _ _ h => h) (Or.inr ⟨by rfl, rfl⟩) ?_ ?_
                        rotate_left
                        · simp only [Act.put, List.setIfInBounds_toArray, List.set_cons_zero, List.set_cons_succ, i64_w, i32_w]
                          rfl
                        refine pure_ (i := 8) (N := some 53) (v := undef) (a' := ?_) #[true, true, true, true, true, true, true, true, true, false, false, false, false, false, false, false, false, false, false, false] rfl rfl (any_of HT_.out (by kernel_rfl)) (fun _ _ _ h => h) (Or.inr ⟨by rfl, rfl⟩) ?_ ?_
                        rotate_left
                        · simp only [Act.put, List.setIfInBounds_toArray, List.set_cons_zero, List.set_cons_succ, i64_w, i32_w]
                          rfl
                        refine pure_ (i := 9) (N := some 54) (v := undef) (a' := ?_) #[true, true, true, true, true, true, true, true, true, true, false, false, false, false, false, false, false, false, false, false] rfl rfl (any_of HT_.out (by kernel_rfl)) (fun _ _ _ h => h) (Or.inr ⟨by rfl, rfl⟩) ?_ ?_
                        rotate_left
                        · simp only [Act.put, List.setIfInBounds_toArray, List.set_cons_zero, List.set_cons_succ, i64_w, i32_w]
                          rfl
                        refine pure_ (i := 10) (N := some 55) (v := undef) (a' := ?_) #[true, true, true, true, true, true, true, true, true, true, true, false, false, false, false, false, false, false, false, false] rfl rfl (any_of HT_.out (by kernel_rfl)) (fun _ _ _ h => h) (Or.inr ⟨by rfl, rfl⟩) ?_ ?_
                        rotate_left
                        · simp only [Act.put, List.setIfInBounds_toArray, List.set_cons_zero, List.set_cons_succ, i64_w, i32_w]
                          rfl
                        refine pure_ (i := 11) (N := some 56) (v := undef) (a' := ?_) #[true, true, true, true, true, true, true, true, true, true, true, true, false, false, false, false, false, false, false, false] rfl rfl (any_of HT_.out (by kernel_rfl)) (fun _ _ _ h => h) (Or.inr ⟨by rfl, rfl⟩) ?_ ?_
                        rotate_left
                        · simp only [Act.put, List.setIfInBounds_toArray, List.set_cons_zero, List.set_cons_succ, i64_w, i32_w]
                          rfl
                        refine pure_ (i := 12) (N := some 57) (v := undef) (a' := ?_) #[true, true, true, true, true, true, true, true, true, true, true, true, true, false, false, false, false, false, false, false] rfl rfl (any_of HT_.out (by kernel_rfl)) (fun _ _ _ h => h) (Or.inr ⟨by rfl, rfl⟩) ?_ ?_
                        rotate_left
                        · simp only [Act.put, List.setIfInBounds_toArray, List.set_cons_zero, List.set_cons_succ, i64_w, i32_w]
                          rfl
                        refine pure_ (i := 13) (N := some 58) (v := undef) (a' := ?_) #[true, true, true, true, true, true, true, true, true, true, true, true, true, true, false, false, false, false, false, false] rfl rfl (any_of HT_.out (by kernel_rfl)) (fun _ _ _ h => h) (Or.inr ⟨by rfl, rfl⟩) ?_ ?_
                        rotate_left
                        · simp only [Act.put, List.setIfInBounds_toArray, List.set_cons_zero, List.set_cons_succ, i64_w, i32_w]
                          rfl
                        refine pure_ (i := 14) (N := some 59) (v := undef) (a' := ?_) #[true, true, true, true, true, true, true, true, true, true, true, true, true, true, true, false, false, false, false, false] rfl rfl (any_of HT_.out (by kernel_rfl)) (fun _ _ _ h => h) (Or.inr ⟨by rfl, rfl⟩) ?_ ?_
                        rotate_left
                        · simp only [Act.put, List.setIfInBounds_toArray, List.set_cons_zero, List.set_cons_succ, i64_w, i32_w]
                          rfl
                        refine pure_ (i := 15) (N := some 60) (v := undef) (a' := ?_) #[true, true, true, true, true, true, true, true, true, true, true, true, true, true, true, true, false, false, false, false] rfl rfl (any_of HT_.out (by kernel_rfl)) (fun _ _ _ h => h) (Or.inr ⟨by rfl, rfl⟩) ?_ ?_
                        rotate_left
                        · simp only [Act.put, List.setIfInBounds_toArray, List.set_cons_zero, List.set_cons_succ, i64_w, i32_w]
                          rfl
                        refine pure_ (i := 16) (N := some 61) (v := undef) (a' := ?_) #[true, true, true, true, true, true, true, true, true, true, true, true, true, true, true, true, true, false, false, false] rfl rfl (any_of HT_.out (by kernel_rfl)) (fun _ _ _ h => h) (Or.inr ⟨by rfl, rfl⟩) ?_ ?_
                        rotate_left
                        · simp only [Act.put, List.setIfInBounds_toArray, List.set_cons_zero, List.set_cons_succ, i64_w, i32_w]
                          rfl
                        refine pure_ (i := 17) (N := some 62) (v := undef) (a' := ?_) #[true, true, true, true, true, true, true, true, true, true, true, true, true, true, true, true, true, true, false, false] rfl rfl (any_of HT_.out (by kernel_rfl)) (fun _ _ _ h => h) (Or.inr ⟨by rfl, rfl⟩) ?_ ?_
                        rotate_left
                        · simp only [Act.put, List.setIfInBounds_toArray, List.set_cons_zero, List.set_cons_succ, i64_w, i32_w]
                          rfl
                        refine pure_ (i := 18) (N := some 63) (v := undef) (a' := ?_) #[true, true, true, true, true, true, true, true, true, true, true, true, true, true, true, true, true, true, true, false] rfl rfl (any_of HT_.out (by kernel_rfl)) (fun _ _ _ h => h) (Or.inr ⟨by rfl, rfl⟩) ?_ ?_
                        rotate_left
                        · simp only [Act.put, List.setIfInBounds_toArray, List.set_cons_zero, List.set_cons_succ, i64_w, i32_w]
                          rfl
                        refine pure_ (i := 19) (N := some 64) (v := ?_) (a' := ?_) #[true, true, true, true, true, true, true, true, true, true, true, true, true, true, true, true, true, true, true, true] rfl rfl (any_of HT_.out (by kernel_rfl)) (fun _ _ _ h => h) (Or.inl ⟨by rfl, ?_⟩) ?_ ?_
                        rotate_left
                        · intro w'
                          go_simp
                          with_reducible rfl
                        rotate_left
                        · simp only [Act.put, List.setIfInBounds_toArray, List.set_cons_zero, List.set_cons_succ, i64_w, i32_w]
                          rfl
                        refine done_ (done_of HT_.out (by kernel_rfl)) ?_
                        try go_wp2
                        go_meet
                        case rel => exact ⟨_, (true), (by first | rfl | (simp; done) | (simp [*]; done)), H', ⟨by have := HJ4.out; have := HJ17.out; first | omega | exact Nat.le_refl _⟩, ⟨by (with_reducible repeat (first | apply Kd.R_alloc | apply Kd.R_drewN | apply Kd.R_drew)); exact HO164.out⟩, ⟨by (with_reducible repeat (first | apply Kd.R_alloc | apply Kd.R_drewN | apply Kd.R_drew)); exact Kd.R_mono HO_153004.out (fun _ hk => by first | exact ⟨hk.2, hk.1⟩ | (simp only [own_len] at hk ⊢; exact ⟨hk.2, hk.1⟩))⟩, ⟨by (with_reducible repeat (first | apply Kd.R_alloc | apply Kd.R_drewN | apply Kd.R_drew)); exact Kd.R_mono HO_154004.out (fun _ hk => by first | exact ⟨hk.2, hk.1⟩ | (simp only [own_len] at hk ⊢; exact ⟨hk.2, hk.1⟩))⟩, ⟨by (with_reducible repeat (first | refine blk_drewN ?_ _ | refine blk_drew ?_ | refine blk_alloc ?_ _)); exact BK135.out⟩, ⟨by (with_reducible repeat (first | refine blk_drewN ?_ _ | refine blk_drew ?_ | refine blk_alloc ?_ _)); exact BK136.out⟩, ⟨by (with_reducible repeat (first | refine blk_drewN ?_ _ | refine blk_drew ?_ | refine blk_alloc ?_ _)); exact BK152.out⟩, ⟨by (with_reducible repeat (first | refine blk_drewN ?_ _ | refine blk_drew ?_ | refine blk_alloc ?_ _)); exact BK153.out⟩, ⟨by repeat (first | (with_reducible first | exact HB.out | apply below_alloc | apply pw_below_drewN | apply below_drew1 | refine below_set ?_ GE135.out | refine below_set ?_ GE136.out | refine below_set ?_ GE152.out | refine below_set ?_ GE153.out) | exact HB.out)⟩⟩
                    case rest =>
                      clear HC60
                      try clear c1
                      try clear p2
                      try clear c5
                      try clear p6
                      try clear c7
                      try clear c19
                      try clear c58
                      try clear c59
                      try clear p64
                      try clear c73
                      try clear c73b0
                      try clear c73b1
                      obtain ⟨kq, x64_59, rfl, HA, HJ59, HO_8, HO_153004, HO_154004, BK135, BK136, BK152, BK153, HB⟩ := hcut
                      cases kq with
                      | zero => exact absurd HA.out (by simp [prolixlaw18_CodeSkips.j2])
                      | succ kj59 =>
                        have H := HA.out
                        clear HA
                        simp only [prolixlaw18_CodeSkips.j2] at H
                        by_cases c82 : x64_59 = true
                        · subst c82
                          have H1 : (none) = some r := by rw [if_pos rfl] at H; exact H
                          clear H
                          have H := H1
                          clear H1
                          exact absurd H (by simp)
                        · replace c82 := Bool.eq_false_iff.mpr c82
                          subst c82
                          have H1 : (prolixlaw18_CodeSkips.l0 kj59 (t142.length : Int) y162 (t149.length : Int) 0 t145 t146 t147 t148 t149) = some r := by rw [if_neg (show ¬ (false = true) by decide)] at H; exact H
                          clear H
                          have H := H1
                          clear H1
                          have H' := Aside0.mk H
                          clear H
                          have hnb83 := NB153_135.out
                          have hnc83 := NB135_153.out
                          have hnb84 := NB153_136.out
                          have hnc84 := NB136_153.out
                          have hnb85 := NB153_152.out
                          have hnc85 := NB152_153.out
                          have hcz86_0 : wc.cell? ⟨gb153, 0, none⟩ = some (.string t145) := (blk_cell BK153.out 0).trans rfl
                          have hcz86_1 : wc.cell? ⟨gb153, 1, none⟩ = some (.int .i64 t146) := (blk_cell BK153.out 1).trans rfl
                          have hcz86_2 : wc.cell? ⟨gb153, 2, none⟩ = some (.int .i64 t147) := (blk_cell BK153.out 2).trans rfl
                          have hcz86_3 : wc.cell? ⟨gb153, 3, none⟩ = some (.int .i64 t148) := (blk_cell BK153.out 3).trans rfl
                          have hcz86_4 : wc.cell? ⟨gb153, 4, none⟩ = some (.slice Ao71 t149.length co71) := (blk_cell BK153.out 4).trans rfl
                          have hfz86_0 := blk_frozen BK153.out 0
                          have hfz86_1 := blk_frozen BK153.out 1
                          have hfz86_2 := blk_frozen BK153.out 2
                          have hfz86_3 := blk_frozen BK153.out 3
                          have hfz86_4 := blk_frozen BK153.out 4
                          go_wp2
                          go_loopg [68] kj59 (fun kq v68 w' => ∃ (x68_4 : Int), v68 = .int .i64 x68_4 ∧ Aside0 (prolixlaw18_CodeSkips.l0 kq (t142.length : Int) y162 (t149.length : Int) x68_4 t145 t146 t147 t148 t149 = some r) ∧ Aside0 (kq ≤ kj59) ∧ Aside0 (Kd.R k39 39 w' w.heap.size (fun k_ => some k_ ≠ ((.slice Ao65 t142.length co65) : Value).ownBlock ∧ some k_ ≠ ((.slice Ao71 t149.length co71) : Value).ownBlock) v163 y162) ∧ Aside0 (Kd.R k39 39 w' w.heap.size (fun k_ => some k_ ≠ (v163 : Value).ownBlock ∧ some k_ ≠ ((.slice Ao71 t149.length co71) : Value).ownBlock) (.slice Ao65 t142.length co65) t142) ∧ Aside0 (Kd.R k39 39 w' w.heap.size (fun k_ => some k_ ≠ (v163 : Value).ownBlock ∧ some k_ ≠ ((.slice Ao65 t142.length co65) : Value).ownBlock) (.slice Ao71 t149.length co71) t149) ∧ Aside0 (w'.heap[gb135]? = some (.cells #[.string a0_0, .int .i64 a0_1, .int .i64 a0_2, .int .i64 a0_3, (.slice A0_4 l0_4.length c0_4)] 24 (0, 0))) ∧ Aside0 (w'.heap[gb136]? = some (.cells #[.string a1_0, .int .i64 a1_1, .int .i64 a1_2, .int .i64 a1_3, (.slice A1_4 l1_4.length c1_4)] 24 (0, 0))) ∧ Aside0 (w'.heap[gb152]? = some (.cells #[.string t138, .int .i64 t139, .int .i64 t140, .int .i64 t141, (.slice Ao65 t142.length co65)] 28 (0, 0))) ∧ Aside0 (w'.heap[gb153]? = some (.cells #[.string t145, .int .i64 t146, .int .i64 t147, .int .i64 t148, (.slice Ao71 t149.length co71)] 28 (0, 0))) ∧ Aside0 (Below w.heap.size w w'))
                          case atStart => exact ⟨(0), (by first | rfl | (simp; done) | (simp [*]; done)), H', ⟨Nat.le_refl _⟩, ⟨by (with_reducible repeat (first | apply Kd.R_alloc | apply Kd.R_drewN | apply Kd.R_drew)); exact HO_8.out⟩, ⟨by (with_reducible repeat (first | apply Kd.R_alloc | apply Kd.R_drewN | apply Kd.R_drew)); exact HO_153004.out⟩, ⟨by (with_reducible repeat (first | apply Kd.R_alloc | apply Kd.R_drewN | apply Kd.R_drew)); exact HO_154004.out⟩, ⟨by (with_reducible repeat (first | refine blk_drewN ?_ _ | refine blk_drew ?_ | refine blk_alloc ?_ _)); exact BK135.out⟩, ⟨by (with_reducible repeat (first | refine blk_drewN ?_ _ | refine blk_drew ?_ | refine blk_alloc ?_ _)); exact BK136.out⟩, ⟨by (with_reducible repeat (first | refine blk_drewN ?_ _ | refine blk_drew ?_ | refine blk_alloc ?_ _)); exact BK152.out⟩, ⟨by (with_reducible repeat (first | refine blk_drewN ?_ _ | refine blk_drew ?_ | refine blk_alloc ?_ _)); exact BK153.out⟩, ⟨by repeat (first | (with_reducible first | exact HB.out | apply below_alloc | apply pw_below_drewN | apply below_drew1 | refine below_set ?_ GE135.out | refine below_set ?_ GE136.out | refine below_set ?_ GE152.out | refine below_set ?_ GE153.out) | exact HB.out)⟩⟩
                          case round =>
                            clear H'
                            try clear c1
                            try clear p2
                            try clear c5
                            try clear p6
                            try clear c7
                            try clear c8
                            try clear c19
                            try clear c58
                            try clear c59
                            try clear p64
                            try clear c73
                            try clear c73b0
                            try clear c73b1
                            try clear c82
                            try clear c83
                            try clear c84
                            try clear c85
                            try clear hcz86_0
                            try clear hcz86_1
                            try clear hcz86_2
                            try clear hcz86_3
                            try clear hcz86_4
                            try clear hfz86_0
                            try clear hfz86_1
                            try clear hfz86_2
                            try clear hfz86_3
                            try clear hfz86_4
                            try clear p2
                            try clear p6
                            try clear p64
                            obtain ⟨x68_4, rfl, HA, HK4, HO_8, HO_153004, HO_154004, BK135, BK136, BK152, BK153, HB⟩ := hrel
                            cases gk with
                            | zero => exact absurd HA.out (by simp [prolixlaw18_CodeSkips.l0])
                            | succ k4 =>
                              have H := HA.out
                              clear HA
                              simp only [prolixlaw18_CodeSkips.l0] at H
                              by_cases c87 : x68_4 < (t149.length : Int)
                              · rw [if_pos c87] at H
                                have c87b0 : decide (x68_4 < (t149.length : Int)) = true := decide_eq_true c87
                                clear c87
                                replace H := Option.bind_eq_some_iff.mp H
                                obtain ⟨t167, A880, H⟩ := H
                                replace H : (if t167 ≤ x68_4 then (prolixlaw18_CodeSkips.j4 k4 (t142.length : Int) y162 (t149.length : Int) x68_4 true t145 t146 t147 t148 t149) else (if t167 > (t149.length : Int) then (prolixlaw18_CodeSkips.j4 k4 (t142.length : Int) y162 (t149.length : Int) x68_4 true t145 t146 t147 t148 t149) else ((code_Skip.f k4 y162 (wrap64 ((t142.length : Int) + x68_4))).bind fun t168 => (prolixlaw18_CodeSkips.j4 k4 (t142.length : Int) y162 (t149.length : Int) x68_4 (t168 != (wrap64 ((t142.length : Int) + t167))) t145 t146 t147 t148 t149)))) = some r := H
                                have A88 := Aside0.mk A880
                                clear A880
                                have HC89 := Aside0.mk H
                                clear H
                                have hnb90 := NB153_135.out
                                have hnc90 := NB135_153.out
                                have hnb91 := NB153_136.out
                                have hnc91 := NB136_153.out
                                have hnb92 := NB153_152.out
                                have hnc92 := NB152_153.out
                                have hcz93_0 : wr.cell? ⟨gb153, 0, none⟩ = some (.string t145) := (blk_cell BK153.out 0).trans rfl
                                have hcz93_1 : wr.cell? ⟨gb153, 1, none⟩ = some (.int .i64 t146) := (blk_cell BK153.out 1).trans rfl
                                have hcz93_2 : wr.cell? ⟨gb153, 2, none⟩ = some (.int .i64 t147) := (blk_cell BK153.out 2).trans rfl
                                have hcz93_3 : wr.cell? ⟨gb153, 3, none⟩ = some (.int .i64 t148) := (blk_cell BK153.out 3).trans rfl
                                have hcz93_4 : wr.cell? ⟨gb153, 4, none⟩ = some (.slice Ao71 t149.length co71) := (blk_cell BK153.out 4).trans rfl
                                have hfz93_0 := blk_frozen BK153.out 0
                                have hfz93_1 := blk_frozen BK153.out 1
                                have hfz93_2 := blk_frozen BK153.out 2
                                have hfz93_3 := blk_frozen BK153.out 3
                                have hfz93_4 := blk_frozen BK153.out 4
                                go_upto_region 16 with (first | ((with_reducible refine gate_callee (f := 19) rfl ?_); refine goesL_ (some 74) rfl rfl Try.func19 (by kernel_rfl) rfl #[.slice Ao71 t149.length co71, .int .i64 x68_4] rfl (by (try simp only [List.map_toArray, List.map_cons, List.map_nil]); first | done | rfl | (simp only [List.length_drop, List.length_take]; rfl)) ?_; (with_reducible refine (code_Skip.calls k4 _ _ t149 x68_4 t167 _ ?side1 ?side2 A88.out).mono ?_); (case side1 => repeat (first | exact (Kd.R_reads' HO_154004.out).2.2 | (with_reducible refine Kd.C_alloc ?_ _) | (with_reducible refine Kd.C_drewN ?_ _) | (with_reducible refine Kd.C_drew ?_))); (case side2 => exact (Kd.R_reads' HO_154004.out).2.1); rintro e w94 ⟨rfl, hb⟩; refine ⟨_, rfl, ?_⟩; have n0_ := Aside0.mk (Kd.R_below (by (with_reducible repeat (first | apply Kd.R_alloc | apply Kd.R_drewN | apply Kd.R_drew)); exact HO_8.out) hb); have n1_ := Aside0.mk (Kd.R_below (by (with_reducible repeat (first | apply Kd.R_alloc | apply Kd.R_drewN | apply Kd.R_drew)); exact HO_153004.out) hb); have n2_ := Aside0.mk (Kd.R_below (by (with_reducible repeat (first | apply Kd.R_alloc | apply Kd.R_drewN | apply Kd.R_drew)); exact HO_154004.out) hb); have n3_ := Aside0.mk (blk_below (g := gb135) (o := .cells #[.string a0_0, .int .i64 a0_1, .int .i64 a0_2, .int .i64 a0_3, .slice A0_4 l0_4.length c0_4] 24 (0, 0)) (by (with_reducible repeat (first | refine blk_drewN ?_ _ | refine blk_drew ?_ | refine blk_alloc ?_ _)); exact BK135.out) hb); have n4_ := Aside0.mk (blk_below (g := gb136) (o := .cells #[.string a1_0, .int .i64 a1_1, .int .i64 a1_2, .int .i64 a1_3, .slice A1_4 l1_4.length c1_4] 24 (0, 0)) (by (with_reducible repeat (first | refine blk_drewN ?_ _ | refine blk_drew ?_ | refine blk_alloc ?_ _)); exact BK136.out) hb); have n5_ := Aside0.mk (blk_below (g := gb152) (o := .cells #[.string t138, .int .i64 t139, .int .i64 t140, .int .i64 t141, .slice Ao65 t142.length co65] 28 (0, 0)) (by (with_reducible repeat (first | refine blk_drewN ?_ _ | refine blk_drew ?_ | refine blk_alloc ?_ _)); exact BK152.out) hb); have n6_ := Aside0.mk (blk_below (g := gb153) (o := .cells #[.string t145, .int .i64 t146, .int .i64 t147, .int .i64 t148, .slice Ao71 t149.length co71] 28 (0, 0)) (by (with_reducible repeat (first | refine blk_drewN ?_ _ | refine blk_drew ?_ | refine blk_alloc ?_ _)); exact BK153.out) hb); have n7_ := Aside0.mk (below_step (by repeat (first | (with_reducible first | exact HB.out | apply below_alloc | apply pw_below_drewN | apply below_drew1 | refine below_set ?_ GE135.out | refine below_set ?_ GE136.out | refine below_set ?_ GE152.out | refine below_set ?_ GE153.out) | exact HB.out)) hb); clear HO_8; clear HO_153004; clear HO_154004; clear BK135; clear BK136; clear BK152; clear BK153; clear HB; have HO_8 := n0_; have HO_153004 := n1_; have HO_154004 := n2_; have BK135 := n3_; have BK136 := n4_; have BK152 := n5_; have BK153 := n6_; have HB := n7_; clear n0_ n1_ n2_ n3_ n4_ n5_ n6_ n7_; (try clear hb); (try clear hb2); (try clear hk); (try clear hi)))
                                (try simp only [Act.put, List.setIfInBounds_toArray, List.set_cons_zero, List.set_cons_succ])
                                go_cut [95] (fun v95 wc => ∃ (kq : Nat) (x95_88 : Bool), v95 = .bool x95_88 ∧ Aside0 (prolixlaw18_CodeSkips.j4 kq (t142.length : Int) y162 (t149.length : Int) x68_4 x95_88 t145 t146 t147 t148 t149 = some r) ∧ Aside0 (kq ≤ k4) ∧ Aside0 (Kd.R k39 39 wc w.heap.size (fun k_ => some k_ ≠ ((.slice Ao65 t142.length co65) : Value).ownBlock ∧ some k_ ≠ ((.slice Ao71 t149.length co71) : Value).ownBlock) v163 y162) ∧ Aside0 (Kd.R k39 39 wc w.heap.size (fun k_ => some k_ ≠ (v163 : Value).ownBlock ∧ some k_ ≠ ((.slice Ao71 t149.length co71) : Value).ownBlock) (.slice Ao65 t142.length co65) t142) ∧ Aside0 (Kd.R k39 39 wc w.heap.size (fun k_ => some k_ ≠ (v163 : Value).ownBlock ∧ some k_ ≠ ((.slice Ao65 t142.length co65) : Value).ownBlock) (.slice Ao71 t149.length co71) t149) ∧ Aside0 (wc.heap[gb135]? = some (.cells #[.string a0_0, .int .i64 a0_1, .int .i64 a0_2, .int .i64 a0_3, (.slice A0_4 l0_4.length c0_4)] 24 (0, 0))) ∧ Aside0 (wc.heap[gb136]? = some (.cells #[.string a1_0, .int .i64 a1_1, .int .i64 a1_2, .int .i64 a1_3, (.slice A1_4 l1_4.length c1_4)] 24 (0, 0))) ∧ Aside0 (wc.heap[gb152]? = some (.cells #[.string t138, .int .i64 t139, .int .i64 t140, .int .i64 t141, (.slice Ao65 t142.length co65)] 28 (0, 0))) ∧ Aside0 (wc.heap[gb153]? = some (.cells #[.string t145, .int .i64 t146, .int .i64 t147, .int .i64 t148, (.slice Ao71 t149.length co71)] 28 (0, 0))) ∧ Aside0 (Below w.heap.size w wc))
                                case first =>
                                  have H := HC89.out
                                  clear HC89
                                  by_cases c95 : t167 ≤ x68_4
                                  · rw [if_pos c95] at H
                                    have c95b0 : decide (t167 ≤ x68_4) = true := decide_eq_true c95
                                    clear c95
                                    (first | rw [c95b0] | (simp only [i64_w, i32_w]; rw [c95b0]) | skip)
                                    have H' := Aside0.mk H
                                    clear H
                                    go_wp2
                                    go_meet
                                    case rel => exact ⟨_, (true), (by first | rfl | (simp; done) | (simp [*]; done)), H', ⟨by have := HJ4.out; have := HJ17.out; have := HJ59.out; have := HK4.out; first | omega | exact Nat.le_refl _⟩, ⟨by (with_reducible repeat (first | apply Kd.R_alloc | apply Kd.R_drewN | apply Kd.R_drew)); exact HO_8.out⟩, ⟨by (with_reducible repeat (first | apply Kd.R_alloc | apply Kd.R_drewN | apply Kd.R_drew)); exact HO_153004.out⟩, ⟨by (with_reducible repeat (first | apply Kd.R_alloc | apply Kd.R_drewN | apply Kd.R_drew)); exact HO_154004.out⟩, ⟨by (with_reducible repeat (first | refine blk_drewN ?_ _ | refine blk_drew ?_ | refine blk_alloc ?_ _)); exact BK135.out⟩, ⟨by (with_reducible repeat (first | refine blk_drewN ?_ _ | refine blk_drew ?_ | refine blk_alloc ?_ _)); exact BK136.out⟩, ⟨by (with_reducible repeat (first | refine blk_drewN ?_ _ | refine blk_drew ?_ | refine blk_alloc ?_ _)); exact BK152.out⟩, ⟨by (with_reducible repeat (first | refine blk_drewN ?_ _ | refine blk_drew ?_ | refine blk_alloc ?_ _)); exact BK153.out⟩, ⟨by repeat (first | (with_reducible first | exact HB.out | apply below_alloc | apply pw_below_drewN | apply below_drew1 | refine below_set ?_ GE135.out | refine below_set ?_ GE136.out | refine below_set ?_ GE152.out | refine below_set ?_ GE153.out) | exact HB.out)⟩⟩
                                  · rw [if_neg c95] at H
                                    have c95b0 : decide (t167 ≤ x68_4) = false := decide_eq_false c95
                                    clear c95
                                    (first | rw [c95b0] | (simp only [i64_w, i32_w]; rw [c95b0]) | skip)
                                    by_cases c96 : t167 > (t149.length : Int)
                                    · rw [if_pos c96] at H
                                      have c96b0 : decide ((t149.length : Int) < t167) = true := decide_eq_true c96
                                      clear c96
                                      have H' := Aside0.mk H
                                      clear H
                                      have hnb97 := NB153_135.out
                                      have hnc97 := NB135_153.out
                                      have hnb98 := NB153_136.out
                                      have hnc98 := NB136_153.out
                                      have hnb99 := NB153_152.out
                                      have hnc99 := NB152_153.out
                                      have hcz100_0 : w94.cell? ⟨gb153, 0, none⟩ = some (.string t145) := (blk_cell BK153.out 0).trans rfl
                                      have hcz100_1 : w94.cell? ⟨gb153, 1, none⟩ = some (.int .i64 t146) := (blk_cell BK153.out 1).trans rfl
                                      have hcz100_2 : w94.cell? ⟨gb153, 2, none⟩ = some (.int .i64 t147) := (blk_cell BK153.out 2).trans rfl
                                      have hcz100_3 : w94.cell? ⟨gb153, 3, none⟩ = some (.int .i64 t148) := (blk_cell BK153.out 3).trans rfl
                                      have hcz100_4 : w94.cell? ⟨gb153, 4, none⟩ = some (.slice Ao71 t149.length co71) := (blk_cell BK153.out 4).trans rfl
                                      have hfz100_0 := blk_frozen BK153.out 0
                                      have hfz100_1 := blk_frozen BK153.out 1
                                      have hfz100_2 := blk_frozen BK153.out 2
                                      have hfz100_3 := blk_frozen BK153.out 3
                                      have hfz100_4 := blk_frozen BK153.out 4
                                      go_wp2
                                      go_meet
                                      case rel => exact ⟨_, (true), (by first | rfl | (simp; done) | (simp [*]; done)), H', ⟨by have := HJ4.out; have := HJ17.out; have := HJ59.out; have := HK4.out; first | omega | exact Nat.le_refl _⟩, ⟨by (with_reducible repeat (first | apply Kd.R_alloc | apply Kd.R_drewN | apply Kd.R_drew)); exact HO_8.out⟩, ⟨by (with_reducible repeat (first | apply Kd.R_alloc | apply Kd.R_drewN | apply Kd.R_drew)); exact HO_153004.out⟩, ⟨by (with_reducible repeat (first | apply Kd.R_alloc | apply Kd.R_drewN | apply Kd.R_drew)); exact HO_154004.out⟩, ⟨by (with_reducible repeat (first | refine blk_drewN ?_ _ | refine blk_drew ?_ | refine blk_alloc ?_ _)); exact BK135.out⟩, ⟨by (with_reducible repeat (first | refine blk_drewN ?_ _ | refine blk_drew ?_ | refine blk_alloc ?_ _)); exact BK136.out⟩, ⟨by (with_reducible repeat (first | refine blk_drewN ?_ _ | refine blk_drew ?_ | refine blk_alloc ?_ _)); exact BK152.out⟩, ⟨by (with_reducible repeat (first | refine blk_drewN ?_ _ | refine blk_drew ?_ | refine blk_alloc ?_ _)); exact BK153.out⟩, ⟨by repeat (first | (with_reducible first | exact HB.out | apply below_alloc | apply pw_below_drewN | apply below_drew1 | refine below_set ?_ GE135.out | refine below_set ?_ GE136.out | refine below_set ?_ GE152.out | refine below_set ?_ GE153.out) | exact HB.out)⟩⟩
                                    · rw [if_neg c96] at H
                                      have c96b0 : decide ((t149.length : Int) < t167) = false := decide_eq_false c96
                                      clear c96
                                      replace H := Option.bind_eq_some_iff.mp H
                                      obtain ⟨t168, A1010, H⟩ := H
                                      replace H : (prolixlaw18_CodeSkips.j4 k4 (t142.length : Int) y162 (t149.length : Int) x68_4 (t168 != (wrap64 ((t142.length : Int) + t167))) t145 t146 t147 t148 t149) = some r := H
                                      have A101 := Aside0.mk A1010
                                      clear A1010
                                      have H' := Aside0.mk H
                                      clear H
                                      have hnb102 := NB153_135.out
                                      have hnc102 := NB135_153.out
                                      have hnb103 := NB153_136.out
                                      have hnc103 := NB136_153.out
                                      have hnb104 := NB153_152.out
                                      have hnc104 := NB152_153.out
                                      have hcz105_0 : w94.cell? ⟨gb153, 0, none⟩ = some (.string t145) := (blk_cell BK153.out 0).trans rfl
                                      have hcz105_1 : w94.cell? ⟨gb153, 1, none⟩ = some (.int .i64 t146) := (blk_cell BK153.out 1).trans rfl
                                      have hcz105_2 : w94.cell? ⟨gb153, 2, none⟩ = some (.int .i64 t147) := (blk_cell BK153.out 2).trans rfl
                                      have hcz105_3 : w94.cell? ⟨gb153, 3, none⟩ = some (.int .i64 t148) := (blk_cell BK153.out 3).trans rfl
                                      have hcz105_4 : w94.cell? ⟨gb153, 4, none⟩ = some (.slice Ao71 t149.length co71) := (blk_cell BK153.out 4).trans rfl
                                      have hfz105_0 := blk_frozen BK153.out 0
                                      have hfz105_1 := blk_frozen BK153.out 1
                                      have hfz105_2 := blk_frozen BK153.out 2
                                      have hfz105_3 := blk_frozen BK153.out 3
                                      have hfz105_4 := blk_frozen BK153.out 4
                                      obtain ⟨Ao106, co106, eo106⟩ := Kd.R_slice HO_8.out
                                      subst eo106
                                      go_wp2_with (first | (go_at_call 19; (with_reducible refine (code_Skip.calls k4 _ _ y162 (wrap64 ((t142.length : Int) + x68_4)) t168 _ ?side1 ?side2 A101.out).mono ?_); (case side1 => repeat (first | exact (Kd.R_reads' HO_8.out).2.2 | (with_reducible refine Kd.C_alloc ?_ _) | (with_reducible refine Kd.C_drewN ?_ _) | (with_reducible refine Kd.C_drew ?_))); (case side2 => exact (Kd.R_reads' HO_8.out).2.1); rintro e w107 ⟨rfl, hb⟩; have n0_ := Aside0.mk (Kd.R_below (by (with_reducible repeat (first | apply Kd.R_alloc | apply Kd.R_drewN | apply Kd.R_drew)); exact HO_8.out) hb); have n1_ := Aside0.mk (Kd.R_below (by (with_reducible repeat (first | apply Kd.R_alloc | apply Kd.R_drewN | apply Kd.R_drew)); exact HO_153004.out) hb); have n2_ := Aside0.mk (Kd.R_below (by (with_reducible repeat (first | apply Kd.R_alloc | apply Kd.R_drewN | apply Kd.R_drew)); exact HO_154004.out) hb); have n3_ := Aside0.mk (blk_below (g := gb135) (o := .cells #[.string a0_0, .int .i64 a0_1, .int .i64 a0_2, .int .i64 a0_3, .slice A0_4 l0_4.length c0_4] 24 (0, 0)) (by (with_reducible repeat (first | refine blk_drewN ?_ _ | refine blk_drew ?_ | refine blk_alloc ?_ _)); exact BK135.out) hb); have n4_ := Aside0.mk (blk_below (g := gb136) (o := .cells #[.string a1_0, .int .i64 a1_1, .int .i64 a1_2, .int .i64 a1_3, .slice A1_4 l1_4.length c1_4] 24 (0, 0)) (by (with_reducible repeat (first | refine blk_drewN ?_ _ | refine blk_drew ?_ | refine blk_alloc ?_ _)); exact BK136.out) hb); have n5_ := Aside0.mk (blk_below (g := gb152) (o := .cells #[.string t138, .int .i64 t139, .int .i64 t140, .int .i64 t141, .slice Ao65 t142.length co65] 28 (0, 0)) (by (with_reducible repeat (first | refine blk_drewN ?_ _ | refine blk_drew ?_ | refine blk_alloc ?_ _)); exact BK152.out) hb); have n6_ := Aside0.mk (blk_below (g := gb153) (o := .cells #[.string t145, .int .i64 t146, .int .i64 t147, .int .i64 t148, .slice Ao71 t149.length co71] 28 (0, 0)) (by (with_reducible repeat (first | refine blk_drewN ?_ _ | refine blk_drew ?_ | refine blk_alloc ?_ _)); exact BK153.out) hb); have n7_ := Aside0.mk (below_step (by repeat (first | (with_reducible first | exact HB.out | apply below_alloc | apply pw_below_drewN | apply below_drew1 | refine below_set ?_ GE135.out | refine below_set ?_ GE136.out | refine below_set ?_ GE152.out | refine below_set ?_ GE153.out) | exact HB.out)) hb); clear HO_8; clear HO_153004; clear HO_154004; clear BK135; clear BK136; clear BK152; clear BK153; clear HB; have HO_8 := n0_; have HO_153004 := n1_; have HO_154004 := n2_; have BK135 := n3_; have BK136 := n4_; have BK152 := n5_; have BK153 := n6_; have HB := n7_; clear n0_ n1_ n2_ n3_ n4_ n5_ n6_ n7_; (try clear hb); (try clear hb2); (try clear hk); (try clear hi)))
                                      go_meet
                                      case rel => exact ⟨_, ((t168 != (wrap64 ((t142.length : Int) + t167)))), (by first | rfl | (simp; done) | (simp [*]; done)), H', ⟨by have := HJ4.out; have := HJ17.out; have := HJ59.out; have := HK4.out; first | omega | exact Nat.le_refl _⟩, ⟨by (with_reducible repeat (first | apply Kd.R_alloc | apply Kd.R_drewN | apply Kd.R_drew)); exact HO_8.out⟩, ⟨by (with_reducible repeat (first | apply Kd.R_alloc | apply Kd.R_drewN | apply Kd.R_drew)); exact HO_153004.out⟩, ⟨by (with_reducible repeat (first | apply Kd.R_alloc | apply Kd.R_drewN | apply Kd.R_drew)); exact HO_154004.out⟩, ⟨by (with_reducible repeat (first | refine blk_drewN ?_ _ | refine blk_drew ?_ | refine blk_alloc ?_ _)); exact BK135.out⟩, ⟨by (with_reducible repeat (first | refine blk_drewN ?_ _ | refine blk_drew ?_ | refine blk_alloc ?_ _)); exact BK136.out⟩, ⟨by (with_reducible repeat (first | refine blk_drewN ?_ _ | refine blk_drew ?_ | refine blk_alloc ?_ _)); exact BK152.out⟩, ⟨by (with_reducible repeat (first | refine blk_drewN ?_ _ | refine blk_drew ?_ | refine blk_alloc ?_ _)); exact BK153.out⟩, ⟨by repeat (first | (with_reducible first | exact HB.out | apply below_alloc | apply pw_below_drewN | apply below_drew1 | refine below_set ?_ GE135.out | refine below_set ?_ GE136.out | refine below_set ?_ GE152.out | refine below_set ?_ GE153.out) | exact HB.out)⟩⟩
                                case rest =>
                                  clear HC89
                                  try clear c1
                                  try clear p2
                                  try clear c5
                                  try clear p6
                                  try clear c7
                                  try clear c8
                                  try clear c9
                                  try clear c10
                                  try clear c19
                                  try clear c58
                                  try clear c59
                                  try clear p64
                                  try clear c73
                                  try clear c73b0
                                  try clear c73b1
                                  try clear c82
                                  try clear c83
                                  try clear c84
                                  try clear c85
                                  try clear c87
                                  try clear c87b0
                                  try clear c90
                                  try clear c91
                                  try clear c92
                                  try clear c95
                                  try clear c95b0
                                  try clear c96
                                  try clear c96b0
                                  try clear c97
                                  try clear c98
                                  try clear c99
                                  try clear c102
                                  try clear c103
                                  try clear c104
                                  try clear hcz100_0
                                  try clear hcz100_1
                                  try clear hcz100_2
                                  try clear hcz100_3
                                  try clear hcz100_4
                                  try clear hcz105_0
                                  try clear hcz105_1
                                  try clear hcz105_2
                                  try clear hcz105_3
                                  try clear hcz105_4
                                  try clear hcz86_0
                                  try clear hcz86_1
                                  try clear hcz86_2
                                  try clear hcz86_3
                                  try clear hcz86_4
                                  try clear hcz93_0
                                  try clear hcz93_1
                                  try clear hcz93_2
                                  try clear hcz93_3
                                  try clear hcz93_4
                                  try clear hfz100_0
                                  try clear hfz100_1
                                  try clear hfz100_2
                                  try clear hfz100_3
                                  try clear hfz100_4
                                  try clear hfz105_0
                                  try clear hfz105_1
                                  try clear hfz105_2
                                  try clear hfz105_3
                                  try clear hfz105_4
                                  try clear hfz86_0
                                  try clear hfz86_1
                                  try clear hfz86_2
                                  try clear hfz86_3
                                  try clear hfz86_4
                                  try clear hfz93_0
                                  try clear hfz93_1
                                  try clear hfz93_2
                                  try clear hfz93_3
                                  try clear hfz93_4
                                  try clear p2
                                  try clear p6
                                  try clear p64
                                  obtain ⟨kq, x95_88, rfl, HA, HJ88, HO_8, HO_153004, HO_154004, BK135, BK136, BK152, BK153, HB⟩ := hcut
                                  cases kq with
                                  | zero => exact absurd HA.out (by simp [prolixlaw18_CodeSkips.j4])
                                  | succ kj88 =>
                                    have H := HA.out
                                    clear HA
                                    simp only [prolixlaw18_CodeSkips.j4] at H
                                    by_cases c108 : x95_88 = true
                                    · subst c108
                                      have H1 : (none) = some r := by rw [if_pos rfl] at H; exact H
                                      clear H
                                      have H := H1
                                      clear H1
                                      exact absurd H (by simp)
                                    · replace c108 := Bool.eq_false_iff.mpr c108
                                      subst c108
                                      have H1 : (prolixlaw18_CodeSkips.l0 kj88 (t142.length : Int) y162 (t149.length : Int) (wrap64 (x68_4 + 1)) t145 t146 t147 t148 t149) = some r := by rw [if_neg (show ¬ (false = true) by decide)] at H; exact H
                                      clear H
                                      have H := H1
                                      clear H1
                                      have H' := Aside0.mk H
                                      clear H
                                      go_wp2
                                      go_roundg kj88
                                      case measure => have := HJ4.out; have := HJ17.out; have := HJ59.out; have := HK4.out; have := HJ88.out; omega
                                      case rel => exact ⟨(wrap64 (x68_4 + 1)), (by first | rfl | (simp; done) | (simp [*]; done)), H', ⟨by have := HJ4.out; have := HJ17.out; have := HJ59.out; have := HK4.out; have := HJ88.out; omega⟩, ⟨by (with_reducible repeat (first | apply Kd.R_alloc | apply Kd.R_drewN | apply Kd.R_drew)); exact HO_8.out⟩, ⟨by (with_reducible repeat (first | apply Kd.R_alloc | apply Kd.R_drewN | apply Kd.R_drew)); exact HO_153004.out⟩, ⟨by (with_reducible repeat (first | apply Kd.R_alloc | apply Kd.R_drewN | apply Kd.R_drew)); exact HO_154004.out⟩, ⟨by (with_reducible repeat (first | refine blk_drewN ?_ _ | refine blk_drew ?_ | refine blk_alloc ?_ _)); exact BK135.out⟩, ⟨by (with_reducible repeat (first | refine blk_drewN ?_ _ | refine blk_drew ?_ | refine blk_alloc ?_ _)); exact BK136.out⟩, ⟨by (with_reducible repeat (first | refine blk_drewN ?_ _ | refine blk_drew ?_ | refine blk_alloc ?_ _)); exact BK152.out⟩, ⟨by (with_reducible repeat (first | refine blk_drewN ?_ _ | refine blk_drew ?_ | refine blk_alloc ?_ _)); exact BK153.out⟩, ⟨by repeat (first | (with_reducible first | exact HB.out | apply below_alloc | apply pw_below_drewN | apply below_drew1 | refine below_set ?_ GE135.out | refine below_set ?_ GE136.out | refine below_set ?_ GE152.out | refine below_set ?_ GE153.out) | exact HB.out)⟩⟩
                              · rw [if_neg c87] at H
                                have c87b0 : decide (x68_4 < (t149.length : Int)) = false := decide_eq_false c87
                                clear c87
                                obtain rfl := Option.some.inj H
                                go_wp2
                                go_ret
                                exact ⟨by first | rfl | (simp [errW_none, errW_some] <;> rfl) | (simp [*, errW_none, errW_some] <;> rfl), by repeat (first | (with_reducible first | exact HB.out | apply below_alloc | apply pw_below_drewN | apply below_drew1 | refine below_set ?_ GE135.out | refine below_set ?_ GE136.out | refine below_set ?_ GE152.out | refine below_set ?_ GE153.out) | exact HB.out)⟩
                  · rw [if_neg c59] at H
                    exact absurd H (by simp)
                · rw [if_neg c58] at H
                  exact absurd H (by simp)
  · replace c4 := Bool.eq_false_iff.mpr c4
    subst c4
    have H1 : (none) = some r := by rw [if_neg (show ¬ (false = true) by decide)] at H; exact H
    clear H
    have H := H1
    clear H1
    exact absurd H (by simp)

end Go.Proofs.Ythdnaliahdohhaa.D
