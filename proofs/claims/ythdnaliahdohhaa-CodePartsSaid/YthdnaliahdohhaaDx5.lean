-- printed by a program of this session (wip/tools/pp.py) that runs the kit's printer over contracts proved by hand
import Derived.Test.YthdnaliahdohhaaDx0
import Derived.Test.YthdnaliahdohhaaDx2
import Derived.Test.YthdnaliahdohhaaDx3
import Derived.Test.YthdnaliahdohhaaHDcodeCheck
namespace Go.Proofs.Ythdnaliahdohhaa.D
open Go.RowKit Go.Proofs.YthdnaliahdohhaaW.PrintWords Go.Proofs.YthdnaliahdohhaaW.PrintLast Go.Proofs.YthdnaliahdohhaaW.PrintMore
attribute [local go_sem] max2_int min2_int max_two min_two max_three min_three max_four min_four   -- for this text's walks alone
set_option linter.unusedVariables false
set_option linter.unusedSimpArgs false

/-! ### prolixlaw18_CodeParts: function 4 -/
mutual
def prolixlaw18_CodeParts.l0 : Nat → Int → Int → ByteArray → Int → Int → Int → List (S89) → ByteArray → Int → Int → Int → List (S39) → Option (Bool)
  | 0, _, _, _, _, _, _, _, _, _, _, _, _ => none
  | k + 1, x6, x7, x170000, x170001, x170002, x170003, x170004, x179000, x179001, x179002, x179003, x179004 => if x6 < (x179004.length : Int) then ((code_Skip.f k x179004 x6).bind fun t180 => (if (wrap64 (x7 + 1)) = x179001 then (if t180 = x179003 then (prolixlaw18_CodeParts.j1 k t180 (wrap64 (x7 + 1)) (decide (t180 < 0)) x170000 x170001 x170002 x170003 x170004 x179000 x179001 x179002 x179003 x179004) else (prolixlaw18_CodeParts.j1 k t180 (wrap64 (x7 + 1)) true x170000 x170001 x170002 x170003 x170004 x179000 x179001 x179002 x179003 x179004)) else (prolixlaw18_CodeParts.j1 k t180 (wrap64 (x7 + 1)) (decide (t180 < 0)) x170000 x170001 x170002 x170003 x170004 x179000 x179001 x179002 x179003 x179004))) else (if x7 = (wrap64 (x179001 + 1)) then (prolixlaw18_CodeParts.j2 k (x6 != (x179004.length : Int)) x170000 x170001 x170002 x170003 x170004) else (prolixlaw18_CodeParts.j2 k true x170000 x170001 x170002 x170003 x170004))
def prolixlaw18_CodeParts.j1 : Nat → Int → Int → Bool → ByteArray → Int → Int → Int → List (S89) → ByteArray → Int → Int → Int → List (S39) → Option (Bool)
  | 0, _, _, _, _, _, _, _, _, _, _, _, _, _ => none
  | k + 1, x6, x7, x46, x170000, x170001, x170002, x170003, x170004, x179000, x179001, x179002, x179003, x179004 => if x46 = true then (none) else (prolixlaw18_CodeParts.l0 k x6 x7 x170000 x170001 x170002 x170003 x170004 x179000 x179001 x179002 x179003 x179004)
def prolixlaw18_CodeParts.j2 : Nat → Bool → ByteArray → Int → Int → Int → List (S89) → Option (Bool)
  | 0, _, _, _, _, _, _ => none
  | k + 1, x58, x170000, x170001, x170002, x170003, x170004 => if x58 = true then (none) else ((prolixlaw18_To.f k x170000 x170001 x170002 x170003 x170004).bind fun bt181 => ((prolixlaw18_To.f k x170000 x170001 x170002 x170003 x170004).bind fun bt188 => ((prolixlaw18_To.f k x170000 x170001 x170002 x170003 x170004).bind fun bt195 => (if 0 ≤ (wrap64 ((bt181.2.2.2.2.length : Int) - 1)) then (if (wrap64 ((bt181.2.2.2.2.length : Int) - 1)) ≤ (bt181.2.2.2.2.length : Int) then (if bt188.2.2.2.2.length < 3518437208883 then ((code_Check.f k bt181.1 bt181.2.1 bt181.2.2.1 bt181.2.2.2.1 (bt181.2.2.2.2.take ((wrap64 ((bt181.2.2.2.2.length : Int) - 1)) : Int).toNat)).bind fun t211 => (if t211 = 2 then ((code_Check.f k bt188.1 bt188.2.1 bt188.2.2.1 bt188.2.2.2.1 (bt188.2.2.2.2 ++ [(⟨5, 0, 0, (⟨#[]⟩ : ByteArray)⟩ : S39)])).bind fun t212 => (if t212 = 2 then ((code_Check.f k bt195.1 bt195.2.1 (wrap64 (bt195.2.2.1 + 1)) bt195.2.2.2.1 bt195.2.2.2.2).bind fun t213 => (some (t213 == 2))) else (none))) else (none))) else (none)) else (none)) else (none)))))
end
def prolixlaw18_CodeParts.f (k : Nat) (a0_0 : ByteArray) (a0_1 : Int) (a0_2 : Int) (a0_3 : Int) (l0_4 : List (S89)) (a1 : Int) : Option (Bool) := (prolixlaw18_alive.f k).bind fun t170 => (if t170 = true then (if (l0_4.length : Int) > 2000 then (some true) else ((prolixlaw18_To.f k a0_0 a0_1 a0_2 a0_3 l0_4).bind fun bt171 => ((code_Check.f k bt171.1 bt171.2.1 bt171.2.2.1 bt171.2.2.2.1 bt171.2.2.2.2).bind fun t179 => (if t179 = 0 then (prolixlaw18_CodeParts.l0 k 0 0 a0_0 a0_1 a0_2 a0_3 l0_4 bt171.1 bt171.2.1 bt171.2.2.1 bt171.2.2.2.1 bt171.2.2.2.2) else (some true))))) else (none))
theorem prolixlaw18_CodeParts.mono_l : ∀ k, (∀ y0 y1 y2 y3 y4 y5 y6 y7 y8 y9 y10 y11, LeO (prolixlaw18_CodeParts.l0 k y0 y1 y2 y3 y4 y5 y6 y7 y8 y9 y10 y11) (prolixlaw18_CodeParts.l0 (k + 1) y0 y1 y2 y3 y4 y5 y6 y7 y8 y9 y10 y11)) ∧ (∀ y0 y1 y2 y3 y4 y5 y6 y7 y8 y9 y10 y11 y12, LeO (prolixlaw18_CodeParts.j1 k y0 y1 y2 y3 y4 y5 y6 y7 y8 y9 y10 y11 y12) (prolixlaw18_CodeParts.j1 (k + 1) y0 y1 y2 y3 y4 y5 y6 y7 y8 y9 y10 y11 y12)) ∧ (∀ y0 y1 y2 y3 y4 y5, LeO (prolixlaw18_CodeParts.j2 k y0 y1 y2 y3 y4 y5) (prolixlaw18_CodeParts.j2 (k + 1) y0 y1 y2 y3 y4 y5))
  | 0 => ⟨fun _ _ _ _ _ _ _ _ _ _ _ _ r h => by simp [prolixlaw18_CodeParts.l0] at h, fun _ _ _ _ _ _ _ _ _ _ _ _ _ r h => by simp [prolixlaw18_CodeParts.j1] at h, fun _ _ _ _ _ _ r h => by simp [prolixlaw18_CodeParts.j2] at h⟩
  | k + 1 => by
    obtain ⟨ih0, ih1, ih2⟩ := prolixlaw18_CodeParts.mono_l k
    refine ⟨?_, ?_, ?_⟩
    · intro y0 y1 y2 y3 y4 y5 y6 y7 y8 y9 y10 y11
      unfold prolixlaw18_CodeParts.l0
      repeat' first
      | (with_reducible exact ih0 _ _ _ _ _ _ _ _ _ _ _ _)
      | (with_reducible exact ih1 _ _ _ _ _ _ _ _ _ _ _ _ _)
      | (with_reducible exact ih2 _ _ _ _ _ _)
      | (with_reducible exact code_Check.mono _ _ _ _ _ _)
      | (with_reducible exact code_Skip.mono _ _ _)
      | (with_reducible exact prolixlaw18_To.mono _ _ _ _ _ _)
      | (with_reducible exact prolixlaw18_alive.mono _)
      | (with_reducible exact LeO.refl _)
      | (with_reducible exact LeO.none _)
      | (with_reducible refine LeO.ite ?_ ?_)
      | (with_reducible refine LeO.bind ?_ (fun _ => ?_))
      | exact ih0 _ _ _ _ _ _ _ _ _ _ _ _
      | exact ih1 _ _ _ _ _ _ _ _ _ _ _ _ _
      | exact ih2 _ _ _ _ _ _
      | exact code_Check.mono _ _ _ _ _ _
      | exact code_Skip.mono _ _ _
      | exact prolixlaw18_To.mono _ _ _ _ _ _
      | exact prolixlaw18_alive.mono _
      | exact LeO.none _
      | refine LeO.ite ?_ ?_
      | refine LeO.bind ?_ (fun _ => ?_)
    · intro y0 y1 y2 y3 y4 y5 y6 y7 y8 y9 y10 y11 y12
      unfold prolixlaw18_CodeParts.j1
      repeat' first
      | (with_reducible exact ih0 _ _ _ _ _ _ _ _ _ _ _ _)
      | (with_reducible exact ih1 _ _ _ _ _ _ _ _ _ _ _ _ _)
      | (with_reducible exact ih2 _ _ _ _ _ _)
      | (with_reducible exact code_Check.mono _ _ _ _ _ _)
      | (with_reducible exact code_Skip.mono _ _ _)
      | (with_reducible exact prolixlaw18_To.mono _ _ _ _ _ _)
      | (with_reducible exact prolixlaw18_alive.mono _)
      | (with_reducible exact LeO.refl _)
      | (with_reducible exact LeO.none _)
      | (with_reducible refine LeO.ite ?_ ?_)
      | (with_reducible refine LeO.bind ?_ (fun _ => ?_))
      | exact ih0 _ _ _ _ _ _ _ _ _ _ _ _
      | exact ih1 _ _ _ _ _ _ _ _ _ _ _ _ _
      | exact ih2 _ _ _ _ _ _
      | exact code_Check.mono _ _ _ _ _ _
      | exact code_Skip.mono _ _ _
      | exact prolixlaw18_To.mono _ _ _ _ _ _
      | exact prolixlaw18_alive.mono _
      | exact LeO.none _
      | refine LeO.ite ?_ ?_
      | refine LeO.bind ?_ (fun _ => ?_)
    · intro y0 y1 y2 y3 y4 y5
      unfold prolixlaw18_CodeParts.j2
      repeat' first
      | (with_reducible exact ih0 _ _ _ _ _ _ _ _ _ _ _ _)
      | (with_reducible exact ih1 _ _ _ _ _ _ _ _ _ _ _ _ _)
      | (with_reducible exact ih2 _ _ _ _ _ _)
      | (with_reducible exact code_Check.mono _ _ _ _ _ _)
      | (with_reducible exact code_Skip.mono _ _ _)
      | (with_reducible exact prolixlaw18_To.mono _ _ _ _ _ _)
      | (with_reducible exact prolixlaw18_alive.mono _)
      | (with_reducible exact LeO.refl _)
      | (with_reducible exact LeO.none _)
      | (with_reducible refine LeO.ite ?_ ?_)
      | (with_reducible refine LeO.bind ?_ (fun _ => ?_))
      | exact ih0 _ _ _ _ _ _ _ _ _ _ _ _
      | exact ih1 _ _ _ _ _ _ _ _ _ _ _ _ _
      | exact ih2 _ _ _ _ _ _
      | exact code_Check.mono _ _ _ _ _ _
      | exact code_Skip.mono _ _ _
      | exact prolixlaw18_To.mono _ _ _ _ _ _
      | exact prolixlaw18_alive.mono _
      | exact LeO.none _
      | refine LeO.ite ?_ ?_
      | refine LeO.bind ?_ (fun _ => ?_)
theorem prolixlaw18_CodeParts.mono : ∀ a0 a1 a2 a3 a4 a5 k, LeO (prolixlaw18_CodeParts.f k a0 a1 a2 a3 a4 a5) (prolixlaw18_CodeParts.f (k + 1) a0 a1 a2 a3 a4 a5) := by
  intro a0 a1 a2 a3 a4 a5 k
  obtain ⟨ih0, ih1, ih2⟩ := prolixlaw18_CodeParts.mono_l k
  unfold prolixlaw18_CodeParts.f
  repeat' first
      | (with_reducible exact ih0 _ _ _ _ _ _ _ _ _ _ _ _)
      | (with_reducible exact ih1 _ _ _ _ _ _ _ _ _ _ _ _ _)
      | (with_reducible exact ih2 _ _ _ _ _ _)
      | (with_reducible exact code_Check.mono _ _ _ _ _ _)
      | (with_reducible exact code_Skip.mono _ _ _)
      | (with_reducible exact prolixlaw18_To.mono _ _ _ _ _ _)
      | (with_reducible exact prolixlaw18_alive.mono _)
      | (with_reducible exact LeO.refl _)
      | (with_reducible exact LeO.none _)
      | (with_reducible refine LeO.ite ?_ ?_)
      | (with_reducible refine LeO.bind ?_ (fun _ => ?_))
      | exact ih0 _ _ _ _ _ _ _ _ _ _ _ _
      | exact ih1 _ _ _ _ _ _ _ _ _ _ _ _ _
      | exact ih2 _ _ _ _ _ _
      | exact code_Check.mono _ _ _ _ _ _
      | exact code_Skip.mono _ _ _
      | exact prolixlaw18_To.mono _ _ _ _ _ _
      | exact prolixlaw18_alive.mono _
      | exact LeO.none _
      | refine LeO.ite ?_ ?_
      | refine LeO.bind ?_ (fun _ => ?_)
def prolixlaw18_CodeParts.T16 : Bool × List (List Nat × List Nat) := (true, [([], []), ([0], [0]), ([], []), ([2, 1], [2]), ([], []), ([4, 3], [4]), ([], []), ([], []), ([], []), ([6, 1, 5, 0, 1, 6, 7, 8], [1, 6]), ([7, 3, 9, 0, 1, 2, 3, 6, 7, 8, 9], [3, 7]), ([8, 5, 10, 0, 1, 2, 3, 4, 5, 6, 7, 8, 9, 10], [5, 8])])
def prolixlaw18_CodeParts.B16 : List Nat := [0, 1, 0, 7, 0, 31, 0, 0, 0, 511, 1023, 2047]
theorem prolixlaw18_CodeParts.tab16 : rtab .any (opsOf Try.f4 16) = prolixlaw18_CodeParts.T16 := by kernel_rfl
theorem prolixlaw18_CodeParts.bits16 : waitsOk prolixlaw18_CodeParts.T16.2 prolixlaw18_CodeParts.B16 = true := by kernel_rfl
set_option maxHeartbeats 8000000 in
set_option maxRecDepth 100000 in
theorem prolixlaw18_CodeParts.calls (k : Nat) (a0_0 : ByteArray) (a0_1 : Int) (a0_2 : Int) (a0_3 : Int) (A0_4 : Option Addr) (c0_4 : Nat) (l0_4 : List (S89)) (a1 : Int) (r : Bool) (w : World) (hr0_4 : Kd.C k89 w A0_4 l0_4.length l0_4) (hc0_4 : l0_4.length ≤ c0_4) (h : prolixlaw18_CodeParts.f k a0_0 a0_1 a0_2 a0_3 l0_4 a1 = some r) :
    Calls Try.prog 4 #[.agg #[.string a0_0, .int .i64 a0_1, .int .i64 a0_2, .int .i64 a0_3, .slice A0_4 l0_4.length c0_4], .int .u8 a1] w fun e w' => e = .returned (.bool r) ∧ Below w.heap.size w w' := by
  have hu24 := Try.underlying24
  have hu28 := Try.underlying28
  have hu39 := Try.underlying39
  have HR0_4 := Aside0.mk hr0_4
  have HC0_4 := Aside0.mk hc0_4
  clear hr0_4 hc0_4
  have HB := Aside0.mk (Below.refl w.heap.size w)
  have H : ((prolixlaw18_alive.f k).bind fun t170 => (if t170 = true then (if (l0_4.length : Int) > 2000 then (some true) else ((prolixlaw18_To.f k a0_0 a0_1 a0_2 a0_3 l0_4).bind fun bt171 => ((code_Check.f k bt171.1 bt171.2.1 bt171.2.2.1 bt171.2.2.2.1 bt171.2.2.2.2).bind fun t179 => (if t179 = 0 then (prolixlaw18_CodeParts.l0 k 0 0 a0_0 a0_1 a0_2 a0_3 l0_4 bt171.1 bt171.2.1 bt171.2.2.1 bt171.2.2.2.1 bt171.2.2.2.2) else (some true))))) else (none))) = some r := h
  clear h
  replace H := Option.bind_eq_some_iff.mp H
  obtain ⟨t170, A30, H⟩ := H
  replace H : (if t170 = true then (if (l0_4.length : Int) > 2000 then (some true) else ((prolixlaw18_To.f k a0_0 a0_1 a0_2 a0_3 l0_4).bind fun bt171 => ((code_Check.f k bt171.1 bt171.2.1 bt171.2.2.1 bt171.2.2.2.1 bt171.2.2.2.2).bind fun t179 => (if t179 = 0 then (prolixlaw18_CodeParts.l0 k 0 0 a0_0 a0_1 a0_2 a0_3 l0_4 bt171.1 bt171.2.1 bt171.2.2.1 bt171.2.2.2.1 bt171.2.2.2.2) else (some true))))) else (none)) = some r := H
  have A3 := Aside0.mk A30
  clear A30
  by_cases c4 : t170 = true
  · subst c4
    have H1 : (if (l0_4.length : Int) > 2000 then (some true) else ((prolixlaw18_To.f k a0_0 a0_1 a0_2 a0_3 l0_4).bind fun bt171 => ((code_Check.f k bt171.1 bt171.2.1 bt171.2.2.1 bt171.2.2.2.1 bt171.2.2.2.2).bind fun t179 => (if t179 = 0 then (prolixlaw18_CodeParts.l0 k 0 0 a0_0 a0_1 a0_2 a0_3 l0_4 bt171.1 bt171.2.1 bt171.2.2.1 bt171.2.2.2.1 bt171.2.2.2.2) else (some true))))) = some r := by rw [if_pos rfl] at H; exact H
    clear H
    have H := H1
    clear H1
    by_cases c5 : (l0_4.length : Int) > 2000
    · rw [if_pos c5] at H
      have c5b0 : decide (2000 < (l0_4.length : Int)) = true := decide_eq_true c5
      have c5b1 : decide (2000 < l0_4.length) = true := decide_eq_true (by omega)
      clear c5
      obtain rfl := Option.some.inj H
      go_enter Try.func4, Try.ntmps4
      go_wp2_with (first | ((with_reducible refine gate_dst (N := 2) rfl ?_); (try (refine gate_guard (by rfl) ?_; dsimp only)); refine box_event ?hg (N := 2) ?hd (cs := #[.string a0_0, .int .i64 a0_1, .int .i64 a0_2, .int .i64 a0_3, .slice A0_4 l0_4.length c0_4]) (t := 24) ?hr ?_; (case hd => rfl); (case hg => rfl); (case hr => first | (go_simp; done) | (go_simp; rfl)); intro gb169 hg w6 hbox hb; have n0_ := Aside0.mk (below_step (by repeat (first | (with_reducible first | exact HB.out | apply below_alloc | apply pw_below_drewN | apply below_drew1) | exact HB.out)) hb); have n1_ := Aside0.mk (hbox); have n2_ := Aside0.mk ((by rw [hg]; exact (below_size (by repeat (first | (with_reducible first | exact HB.out | apply below_alloc | apply pw_below_drewN | apply below_drew1) | exact HB.out))) : w.heap.size ≤ gb169)); have n3_ := Aside0.mk ((by rw [hg]; exact (below_size (by repeat (first | (with_reducible first | exact HB.out | apply below_alloc | apply pw_below_drewN | apply below_drew1) | exact HB.out))) : w.heap.size ≤ gb169)); clear HB; have HB := n0_; have BK169 := n1_; have GW169 := n2_; have GE169 := n3_; clear n0_ n1_ n2_ n3_; clear hb hbox hg) | ((with_reducible refine gate_callee (f := 15) rfl ?_); refine goesL_ (some 11) rfl rfl Try.func15 (by kernel_rfl) rfl #[] rfl (by (try simp only [List.map_toArray, List.map_cons, List.map_nil]); first | done | rfl | (simp only [List.length_drop, List.length_take]; rfl)) ?_; (with_reducible refine (prolixlaw18_alive.calls k  true _ A3.out).mono ?_); rintro e w7 ⟨rfl, hb⟩; refine ⟨_, rfl, ?_⟩; have n0_ := Aside0.mk (blk_below (g := gb169) (o := .cells #[.string a0_0, .int .i64 a0_1, .int .i64 a0_2, .int .i64 a0_3, .slice A0_4 l0_4.length c0_4] 24 (0, 0)) (by (with_reducible repeat (first | refine blk_drewN ?_ _ | refine blk_drew ?_ | refine blk_alloc ?_ _)); exact BK169.out) hb); have n1_ := Aside0.mk (below_step (by repeat (first | (with_reducible first | exact HB.out | apply below_alloc | apply pw_below_drewN | apply below_drew1 | refine below_set ?_ GE169.out) | exact HB.out)) hb); clear BK169; clear HB; have BK169 := n0_; have HB := n1_; clear n0_ n1_; (try clear hb); (try clear hb2); (try clear hk); (try clear hi); have hcz8_0 : w7.cell? ⟨gb169, 0, none⟩ = some (.string a0_0) := (blk_cell BK169.out 0).trans rfl; have hcz8_1 : w7.cell? ⟨gb169, 1, none⟩ = some (.int .i64 a0_1) := (blk_cell BK169.out 1).trans rfl; have hcz8_2 : w7.cell? ⟨gb169, 2, none⟩ = some (.int .i64 a0_2) := (blk_cell BK169.out 2).trans rfl; have hcz8_3 : w7.cell? ⟨gb169, 3, none⟩ = some (.int .i64 a0_3) := (blk_cell BK169.out 3).trans rfl; have hcz8_4 : w7.cell? ⟨gb169, 4, none⟩ = some (.slice A0_4 l0_4.length c0_4) := (blk_cell BK169.out 4).trans rfl; have hfz8_0 := blk_frozen BK169.out 0; have hfz8_1 := blk_frozen BK169.out 1; have hfz8_2 := blk_frozen BK169.out 2; have hfz8_3 := blk_frozen BK169.out 3; have hfz8_4 := blk_frozen BK169.out 4))
      go_ret
      exact ⟨by first | rfl | (simp [errW_none, errW_some] <;> rfl) | (simp [*, errW_none, errW_some] <;> rfl), by repeat (first | (with_reducible first | exact HB.out | apply below_alloc | apply pw_below_drewN | apply below_drew1 | refine below_set ?_ GE169.out) | exact HB.out)⟩
    · rw [if_neg c5] at H
      have c5b0 : decide (2000 < (l0_4.length : Int)) = false := decide_eq_false c5
      have c5b1 : decide (2000 < l0_4.length) = false := decide_eq_false (by omega)
      clear c5
      replace H := Option.bind_eq_some_iff.mp H
      obtain ⟨⟨t171, t172, t173, t174, t175⟩, A90, H⟩ := H
      replace H : ((code_Check.f k t171 t172 t173 t174 t175).bind fun t179 => (if t179 = 0 then (prolixlaw18_CodeParts.l0 k 0 0 a0_0 a0_1 a0_2 a0_3 l0_4 t171 t172 t173 t174 t175) else (some true))) = some r := H
      have A9 := Aside0.mk A90
      clear A90
      replace H := Option.bind_eq_some_iff.mp H
      obtain ⟨t179, A100, H⟩ := H
      replace H : (if t179 = 0 then (prolixlaw18_CodeParts.l0 k 0 0 a0_0 a0_1 a0_2 a0_3 l0_4 t171 t172 t173 t174 t175) else (some true)) = some r := H
      have A10 := Aside0.mk A100
      clear A100
      by_cases c11 : t179 = 0
      · rw [if_pos c11] at H
        have c11b0 : (t179 == 0) = true := beq_iff_eq.mpr c11
        have c11b1 : (t179 != 0) = false := bne_eq_false_iff_eq.mpr c11
        clear c11
        have H' := Aside0.mk H
        clear H
        go_enter Try.func4, Try.ntmps4
        go_wp2_with (first | ((with_reducible refine gate_dst (N := 2) rfl ?_); (try (refine gate_guard (by rfl) ?_; dsimp only)); refine box_event ?hg (N := 2) ?hd (cs := #[.string a0_0, .int .i64 a0_1, .int .i64 a0_2, .int .i64 a0_3, .slice A0_4 l0_4.length c0_4]) (t := 24) ?hr ?_; (case hd => rfl); (case hg => rfl); (case hr => first | (go_simp; done) | (go_simp; rfl)); intro gb169 hg w12 hbox hb; have n0_ := Aside0.mk (below_step (by repeat (first | (with_reducible first | exact HB.out | apply below_alloc | apply pw_below_drewN | apply below_drew1) | exact HB.out)) hb); have n1_ := Aside0.mk (hbox); have n2_ := Aside0.mk ((by rw [hg]; exact (below_size (by repeat (first | (with_reducible first | exact HB.out | apply below_alloc | apply pw_below_drewN | apply below_drew1) | exact HB.out))) : w.heap.size ≤ gb169)); have n3_ := Aside0.mk ((by rw [hg]; exact (below_size (by repeat (first | (with_reducible first | exact HB.out | apply below_alloc | apply pw_below_drewN | apply below_drew1) | exact HB.out))) : w.heap.size ≤ gb169)); clear HB; have HB := n0_; have BK169 := n1_; have GW169 := n2_; have GE169 := n3_; clear n0_ n1_ n2_ n3_; clear hb hbox hg) | ((with_reducible refine gate_callee (f := 15) rfl ?_); refine goesL_ (some 11) rfl rfl Try.func15 (by kernel_rfl) rfl #[] rfl (by (try simp only [List.map_toArray, List.map_cons, List.map_nil]); first | done | rfl | (simp only [List.length_drop, List.length_take]; rfl)) ?_; (with_reducible refine (prolixlaw18_alive.calls k  true _ A3.out).mono ?_); rintro e w13 ⟨rfl, hb⟩; refine ⟨_, rfl, ?_⟩; have n0_ := Aside0.mk (blk_below (g := gb169) (o := .cells #[.string a0_0, .int .i64 a0_1, .int .i64 a0_2, .int .i64 a0_3, .slice A0_4 l0_4.length c0_4] 24 (0, 0)) (by (with_reducible repeat (first | refine blk_drewN ?_ _ | refine blk_drew ?_ | refine blk_alloc ?_ _)); exact BK169.out) hb); have n1_ := Aside0.mk (below_step (by repeat (first | (with_reducible first | exact HB.out | apply below_alloc | apply pw_below_drewN | apply below_drew1 | refine below_set ?_ GE169.out) | exact HB.out)) hb); clear BK169; clear HB; have BK169 := n0_; have HB := n1_; clear n0_ n1_; (try clear hb); (try clear hb2); (try clear hk); (try clear hi); have hcz14_0 : w13.cell? ⟨gb169, 0, none⟩ = some (.string a0_0) := (blk_cell BK169.out 0).trans rfl; have hcz14_1 : w13.cell? ⟨gb169, 1, none⟩ = some (.int .i64 a0_1) := (blk_cell BK169.out 1).trans rfl; have hcz14_2 : w13.cell? ⟨gb169, 2, none⟩ = some (.int .i64 a0_2) := (blk_cell BK169.out 2).trans rfl; have hcz14_3 : w13.cell? ⟨gb169, 3, none⟩ = some (.int .i64 a0_3) := (blk_cell BK169.out 3).trans rfl; have hcz14_4 : w13.cell? ⟨gb169, 4, none⟩ = some (.slice A0_4 l0_4.length c0_4) := (blk_cell BK169.out 4).trans rfl; have hfz14_0 := blk_frozen BK169.out 0; have hfz14_1 := blk_frozen BK169.out 1; have hfz14_2 := blk_frozen BK169.out 2; have hfz14_3 := blk_frozen BK169.out 3; have hfz14_4 := blk_frozen BK169.out 4) | ((with_reducible refine gate_callee (f := 16) rfl ?_); refine goesL_ (some 18) rfl rfl Try.func16 (by kernel_rfl) rfl #[.agg #[.string a0_0, .int .i64 a0_1, .int .i64 a0_2, .int .i64 a0_3, .slice A0_4 l0_4.length c0_4]] rfl (by (try simp only [List.map_toArray, List.map_cons, List.map_nil]); first | done | rfl | (simp only [List.length_drop, List.length_take]; rfl)) ?_; (with_reducible refine (prolixlaw18_To.calls k a0_0 a0_1 a0_2 a0_3 _ _ l0_4 t171 t172 t173 t174 t175 _ ?side1 ?side2 A9.out).mono ?_); (case side1 => repeat (first | exact (Kd.C_below HR0_4.out HB.out) | (with_reducible refine Kd.C_alloc ?_ _) | (with_reducible refine Kd.C_drewN ?_ _) | (with_reducible refine Kd.C_drew ?_))); (case side2 => exact HC0_4.out); rintro e w15 ⟨v176, rfl, ho0, hb⟩; refine ⟨_, rfl, ?_⟩; have n0_ := Aside0.mk (Kd.R_lower ho0 (below_size (by repeat (first | (with_reducible first | exact HB.out | apply below_alloc | apply pw_below_drewN | apply below_drew1 | refine below_set ?_ GE169.out) | exact HB.out)))); have n1_ := Aside0.mk (blk_below (g := gb169) (o := .cells #[.string a0_0, .int .i64 a0_1, .int .i64 a0_2, .int .i64 a0_3, .slice A0_4 l0_4.length c0_4] 24 (0, 0)) (by (with_reducible repeat (first | refine blk_drewN ?_ _ | refine blk_drew ?_ | refine blk_alloc ?_ _)); exact BK169.out) hb); have n2_ := Aside0.mk (below_step (by repeat (first | (with_reducible first | exact HB.out | apply below_alloc | apply pw_below_drewN | apply below_drew1 | refine below_set ?_ GE169.out) | exact HB.out)) hb); clear BK169; clear HB; have HO177 := n0_; have BK169 := n1_; have HB := n2_; clear n0_ n1_ n2_; (try clear hb); (try clear hb2); (try clear hk); (try clear hi); (try clear ho0)) | ((with_reducible refine gate_dst (N := 5) rfl ?_); (try (refine gate_guard (by rfl) ?_; dsimp only)); refine box_event ?hg (N := 5) ?hd (cs := #[.string (⟨#[]⟩ : ByteArray), .int .i64 0, .int .i64 0, .int .i64 0, .slice none 0 0]) (t := 28) ?hr ?_; (case hd => rfl); (case hg => rfl); (case hr => first | (go_simp; done) | (go_simp; rfl)); intro gb178 hg w16 hbox hb; have n0_ := Aside0.mk (Kd.R_below (by (with_reducible repeat (first | apply Kd.R_alloc | apply Kd.R_drewN | apply Kd.R_drew)); exact HO177.out) hb); have n1_ := Aside0.mk (blk_below (g := gb169) (o := .cells #[.string a0_0, .int .i64 a0_1, .int .i64 a0_2, .int .i64 a0_3, .slice A0_4 l0_4.length c0_4] 24 (0, 0)) (by (with_reducible repeat (first | refine blk_drewN ?_ _ | refine blk_drew ?_ | refine blk_alloc ?_ _)); exact BK169.out) hb); have n2_ := Aside0.mk (below_step (by repeat (first | (with_reducible first | exact HB.out | apply below_alloc | apply pw_below_drewN | apply below_drew1 | refine below_set ?_ GE169.out) | exact HB.out)) hb); have n3_ := Aside0.mk (hbox); have n4_ := Aside0.mk ((by rw [hg]; exact (below_size (by repeat (first | (with_reducible first | exact HB.out | apply below_alloc | apply pw_below_drewN | apply below_drew1 | refine below_set ?_ GE169.out) | exact HB.out))) : w.heap.size ≤ gb178)); have n5_ := Aside0.mk ((by rw [hg]; exact (below_size (by repeat (first | (with_reducible first | exact HB.out | apply below_alloc | apply pw_below_drewN | apply below_drew1 | refine below_set ?_ GE169.out) | exact HB.out))) : w.heap.size ≤ gb178)); have n6_ := Aside0.mk ((by rw [hg]; exact Nat.ne_of_lt (blk_lt (g := gb169) (o := .cells #[.string a0_0, .int .i64 a0_1, .int .i64 a0_2, .int .i64 a0_3, .slice A0_4 l0_4.length c0_4] 24 (0, 0)) (by (with_reducible repeat (first | refine blk_drewN ?_ _ | refine blk_drew ?_ | refine blk_alloc ?_ _)); exact BK169.out)) : gb169 ≠ gb178)); have n7_ := Aside0.mk ((by rw [hg]; exact Nat.ne_of_gt (blk_lt (g := gb169) (o := .cells #[.string a0_0, .int .i64 a0_1, .int .i64 a0_2, .int .i64 a0_3, .slice A0_4 l0_4.length c0_4] 24 (0, 0)) (by (with_reducible repeat (first | refine blk_drewN ?_ _ | refine blk_drew ?_ | refine blk_alloc ?_ _)); exact BK169.out)) : gb178 ≠ gb169)); clear HO177; clear BK169; clear HB; have HO177 := n0_; have BK169 := n1_; have HB := n2_; have BK178 := n3_; have GW178 := n4_; have GE178 := n5_; have NB169_178 := n6_; have NB178_169 := n7_; clear n0_ n1_ n2_ n3_ n4_ n5_ n6_ n7_; clear hb hbox hg; have hnb17 := NB178_169.out; have hnc17 := NB169_178.out; have hcz18_0 : w16.cell? ⟨gb178, 0, none⟩ = some (.string (⟨#[]⟩ : ByteArray)) := (blk_cell BK178.out 0).trans rfl; have hcz18_1 : w16.cell? ⟨gb178, 1, none⟩ = some (.int .i64 0) := (blk_cell BK178.out 1).trans rfl; have hcz18_2 : w16.cell? ⟨gb178, 2, none⟩ = some (.int .i64 0) := (blk_cell BK178.out 2).trans rfl; have hcz18_3 : w16.cell? ⟨gb178, 3, none⟩ = some (.int .i64 0) := (blk_cell BK178.out 3).trans rfl; have hcz18_4 : w16.cell? ⟨gb178, 4, none⟩ = some (.slice none 0 0) := (blk_cell BK178.out 4).trans rfl; have hfz18_0 := blk_frozen BK178.out 0; have hfz18_1 := blk_frozen BK178.out 1; have hfz18_2 := blk_frozen BK178.out 2; have hfz18_3 := blk_frozen BK178.out 3; have hfz18_4 := blk_frozen BK178.out 4; obtain ⟨Ao19, co19, eo19⟩ := Kd.R_slice HO177.out; subst eo19) | ((with_reducible refine gate_callee (f := 17) rfl ?_); refine goesL_ (some 20) rfl rfl Try.func17 (by kernel_rfl) rfl #[.agg #[.string t171, .int .i64 t172, .int .i64 t173, .int .i64 t174, .slice Ao19 t175.length co19]] rfl (by (try simp only [List.map_toArray, List.map_cons, List.map_nil]); first | done | rfl | (simp only [List.length_drop, List.length_take]; rfl)) ?_; (with_reducible refine (code_Check.calls k t171 t172 t173 t174 _ _ t175 t179 _ ?side1 ?side2 A10.out).mono ?_); (case side1 => refine (Kd.R_reads' (e := 39) (base := w.heap.size) (ok := fun k_ => True) (n := t175.length) (c := co19) ?_).2.2; exact (by (with_reducible repeat (first | apply Kd.R_alloc | apply Kd.R_drewN | apply Kd.R_drew)); exact (Kd.R_mono (Kd.R_far (p := ⟨gb178, 4, none⟩) (Kd.R_far (p := ⟨gb178, 3, none⟩) (Kd.R_far (p := ⟨gb178, 2, none⟩) (Kd.R_far (p := ⟨gb178, 1, none⟩) (Kd.R_far (p := ⟨gb178, 0, none⟩) (Kd.R_types HO177.out BK178.out (by decide)) (fun _ hk => hk.2) (.string t171)) (fun _ hk => hk.2) (.int .i64 t172)) (fun _ hk => hk.2) (.int .i64 t173)) (fun _ hk => hk.2) (.int .i64 t174)) (fun _ hk => hk.2) (.slice Ao19 t175.length co19)) (fun _ h_ => h_.1)))); (case side2 => exact (Kd.R_reads' HO177.out).2.1); rintro e w20 ⟨rfl, hb⟩; refine ⟨_, rfl, ?_⟩; have n0_ := Aside0.mk (Kd.R_below (by (with_reducible repeat (first | apply Kd.R_alloc | apply Kd.R_drewN | apply Kd.R_drew)); exact (Kd.R_mono (Kd.R_far (p := ⟨gb178, 4, none⟩) (Kd.R_far (p := ⟨gb178, 3, none⟩) (Kd.R_far (p := ⟨gb178, 2, none⟩) (Kd.R_far (p := ⟨gb178, 1, none⟩) (Kd.R_far (p := ⟨gb178, 0, none⟩) (Kd.R_types HO177.out BK178.out (by decide)) (fun _ hk => hk.2) (.string t171)) (fun _ hk => hk.2) (.int .i64 t172)) (fun _ hk => hk.2) (.int .i64 t173)) (fun _ hk => hk.2) (.int .i64 t174)) (fun _ hk => hk.2) (.slice Ao19 t175.length co19)) (fun _ h_ => h_.1))) hb); have n1_ := Aside0.mk (blk_below (g := gb169) (o := .cells #[.string a0_0, .int .i64 a0_1, .int .i64 a0_2, .int .i64 a0_3, .slice A0_4 l0_4.length c0_4] 24 (0, 0)) (by (with_reducible repeat (first | refine blk_drewN ?_ _ | refine blk_drew ?_ | refine blk_alloc ?_ _)); refine blk_far ?_ NB169_178.out _; (with_reducible repeat (first | refine blk_drewN ?_ _ | refine blk_drew ?_ | refine blk_alloc ?_ _)); refine blk_far ?_ NB169_178.out _; (with_reducible repeat (first | refine blk_drewN ?_ _ | refine blk_drew ?_ | refine blk_alloc ?_ _)); refine blk_far ?_ NB169_178.out _; (with_reducible repeat (first | refine blk_drewN ?_ _ | refine blk_drew ?_ | refine blk_alloc ?_ _)); refine blk_far ?_ NB169_178.out _; (with_reducible repeat (first | refine blk_drewN ?_ _ | refine blk_drew ?_ | refine blk_alloc ?_ _)); refine blk_far ?_ NB169_178.out _; (with_reducible repeat (first | refine blk_drewN ?_ _ | refine blk_drew ?_ | refine blk_alloc ?_ _)); exact BK169.out) hb); have n2_ := Aside0.mk (blk_below (g := gb178) (o := .cells #[.string t171, .int .i64 t172, .int .i64 t173, .int .i64 t174, .slice Ao19 t175.length co19] 28 (0, 0)) (by (with_reducible repeat (first | refine blk_drewN ?_ _ | refine blk_drew ?_ | refine blk_alloc ?_ _)); refine blk_put (cs := #[.string t171, .int .i64 t172, .int .i64 t173, .int .i64 t174, .slice none 0 0]) ?_ 4 _ rfl; (with_reducible repeat (first | refine blk_drewN ?_ _ | refine blk_drew ?_ | refine blk_alloc ?_ _)); refine blk_put (cs := #[.string t171, .int .i64 t172, .int .i64 t173, .int .i64 0, .slice none 0 0]) ?_ 3 _ rfl; (with_reducible repeat (first | refine blk_drewN ?_ _ | refine blk_drew ?_ | refine blk_alloc ?_ _)); refine blk_put (cs := #[.string t171, .int .i64 t172, .int .i64 0, .int .i64 0, .slice none 0 0]) ?_ 2 _ rfl; (with_reducible repeat (first | refine blk_drewN ?_ _ | refine blk_drew ?_ | refine blk_alloc ?_ _)); refine blk_put (cs := #[.string t171, .int .i64 0, .int .i64 0, .int .i64 0, .slice none 0 0]) ?_ 1 _ rfl; (with_reducible repeat (first | refine blk_drewN ?_ _ | refine blk_drew ?_ | refine blk_alloc ?_ _)); refine blk_put (cs := #[.string (⟨#[]⟩ : ByteArray), .int .i64 0, .int .i64 0, .int .i64 0, .slice none 0 0]) ?_ 0 _ rfl; (with_reducible repeat (first | refine blk_drewN ?_ _ | refine blk_drew ?_ | refine blk_alloc ?_ _)); exact BK178.out) hb); have n3_ := Aside0.mk (below_step (by repeat (first | (with_reducible first | exact HB.out | apply below_alloc | apply pw_below_drewN | apply below_drew1 | refine below_set ?_ GE169.out | refine below_set ?_ GE178.out) | exact HB.out)) hb); clear HO177; clear BK169; clear BK178; clear HB; have HO177 := n0_; have BK169 := n1_; have BK178 := n2_; have HB := n3_; clear n0_ n1_ n2_ n3_; (try clear hb); (try clear hb2); (try clear hk); (try clear hi)))
        go_loopg [6, 7] k (fun kq v6 v7 w' => ∃ (x6_1 : Int) (x7_1 : Int), v6 = .int .i64 x6_1 ∧ v7 = .int .i64 x7_1 ∧ Aside0 (prolixlaw18_CodeParts.l0 kq x6_1 x7_1 a0_0 a0_1 a0_2 a0_3 l0_4 t171 t172 t173 t174 t175 = some r) ∧ Aside0 (kq ≤ k) ∧ Aside0 (Kd.R k39 39 w' w.heap.size (fun _ => True) (.slice Ao19 t175.length co19) t175) ∧ Aside0 (w'.heap[gb169]? = some (.cells #[.string a0_0, .int .i64 a0_1, .int .i64 a0_2, .int .i64 a0_3, (.slice A0_4 l0_4.length c0_4)] 24 (0, 0))) ∧ Aside0 (w'.heap[gb178]? = some (.cells #[.string t171, .int .i64 t172, .int .i64 t173, .int .i64 t174, (.slice Ao19 t175.length co19)] 28 (0, 0))) ∧ Aside0 (Below w.heap.size w w'))
        case atStart => exact ⟨(0), (0), (by first | rfl | (simp; done) | (simp [*]; done)), (by first | rfl | (simp; done) | (simp [*]; done)), H', ⟨Nat.le_refl _⟩, ⟨by (with_reducible repeat (first | apply Kd.R_alloc | apply Kd.R_drewN | apply Kd.R_drew)); exact HO177.out⟩, ⟨by (with_reducible repeat (first | refine blk_drewN ?_ _ | refine blk_drew ?_ | refine blk_alloc ?_ _)); exact BK169.out⟩, ⟨by (with_reducible repeat (first | refine blk_drewN ?_ _ | refine blk_drew ?_ | refine blk_alloc ?_ _)); exact BK178.out⟩, ⟨by repeat (first | (with_reducible first | exact HB.out | apply below_alloc | apply pw_below_drewN | apply below_drew1 | refine below_set ?_ GE169.out | refine below_set ?_ GE178.out) | exact HB.out)⟩⟩
        case round =>
          clear H'
          try clear c1
          try clear p2
          try clear c4
          try clear c5
          try clear c5b0
          try clear c5b1
          try clear c11
          try clear c11b0
          try clear c11b1
          try clear c15
          try clear c16
          try clear c17
          try clear hcz14_0
          try clear hcz14_1
          try clear hcz14_2
          try clear hcz14_3
          try clear hcz14_4
          try clear hcz18_0
          try clear hcz18_1
          try clear hcz18_2
          try clear hcz18_3
          try clear hcz18_4
          try clear hcz8_0
          try clear hcz8_1
          try clear hcz8_2
          try clear hcz8_3
          try clear hcz8_4
          try clear hfz14_0
          try clear hfz14_1
          try clear hfz14_2
          try clear hfz14_3
          try clear hfz14_4
          try clear hfz18_0
          try clear hfz18_1
          try clear hfz18_2
          try clear hfz18_3
          try clear hfz18_4
          try clear hfz8_0
          try clear hfz8_1
          try clear hfz8_2
          try clear hfz8_3
          try clear hfz8_4
          obtain ⟨x6_1, x7_1, rfl, rfl, HA, HK1, HO_179004, BK169, BK178, HB⟩ := hrel
          cases gk with
          | zero => exact absurd HA.out (by simp [prolixlaw18_CodeParts.l0])
          | succ k1 =>
            have H := HA.out
            clear HA
            simp only [prolixlaw18_CodeParts.l0] at H
            by_cases c21 : x6_1 < (t175.length : Int)
            · rw [if_pos c21] at H
              have c21b0 : decide (x6_1 < (t175.length : Int)) = true := decide_eq_true c21
              clear c21
              replace H := Option.bind_eq_some_iff.mp H
              obtain ⟨t180, A220, H⟩ := H
              replace H : (if (wrap64 (x7_1 + 1)) = t172 then (if t180 = t174 then (prolixlaw18_CodeParts.j1 k1 t180 (wrap64 (x7_1 + 1)) (decide (t180 < 0)) a0_0 a0_1 a0_2 a0_3 l0_4 t171 t172 t173 t174 t175) else (prolixlaw18_CodeParts.j1 k1 t180 (wrap64 (x7_1 + 1)) true a0_0 a0_1 a0_2 a0_3 l0_4 t171 t172 t173 t174 t175)) else (prolixlaw18_CodeParts.j1 k1 t180 (wrap64 (x7_1 + 1)) (decide (t180 < 0)) a0_0 a0_1 a0_2 a0_3 l0_4 t171 t172 t173 t174 t175)) = some r := H
              have A22 := Aside0.mk A220
              clear A220
              have HC23 := Aside0.mk H
              clear H
              have hnb24 := NB178_169.out
              have hnc24 := NB169_178.out
              have hcz25_0 : wr.cell? ⟨gb178, 0, none⟩ = some (.string t171) := (blk_cell BK178.out 0).trans rfl
              have hcz25_1 : wr.cell? ⟨gb178, 1, none⟩ = some (.int .i64 t172) := (blk_cell BK178.out 1).trans rfl
              have hcz25_2 : wr.cell? ⟨gb178, 2, none⟩ = some (.int .i64 t173) := (blk_cell BK178.out 2).trans rfl
              have hcz25_3 : wr.cell? ⟨gb178, 3, none⟩ = some (.int .i64 t174) := (blk_cell BK178.out 3).trans rfl
              have hcz25_4 : wr.cell? ⟨gb178, 4, none⟩ = some (.slice Ao19 t175.length co19) := (blk_cell BK178.out 4).trans rfl
              have hfz25_0 := blk_frozen BK178.out 0
              have hfz25_1 := blk_frozen BK178.out 1
              have hfz25_2 := blk_frozen BK178.out 2
              have hfz25_3 := blk_frozen BK178.out 3
              have hfz25_4 := blk_frozen BK178.out 4
              go_upto_region 12 with (first | ((with_reducible refine gate_callee (f := 19) rfl ?_); refine goesL_ (some 30) rfl rfl Try.func19 (by kernel_rfl) rfl #[.slice Ao19 t175.length co19, .int .i64 x6_1] rfl (by (try simp only [List.map_toArray, List.map_cons, List.map_nil]); first | done | rfl | (simp only [List.length_drop, List.length_take]; rfl)) ?_; (with_reducible refine (code_Skip.calls k1 _ _ t175 x6_1 t180 _ ?side1 ?side2 A22.out).mono ?_); (case side1 => repeat (first | exact (Kd.R_reads' HO_179004.out).2.2 | (with_reducible refine Kd.C_alloc ?_ _) | (with_reducible refine Kd.C_drewN ?_ _) | (with_reducible refine Kd.C_drew ?_))); (case side2 => exact (Kd.R_reads' HO_179004.out).2.1); rintro e w26 ⟨rfl, hb⟩; refine ⟨_, rfl, ?_⟩; have n0_ := Aside0.mk (Kd.R_below (by (with_reducible repeat (first | apply Kd.R_alloc | apply Kd.R_drewN | apply Kd.R_drew)); exact HO_179004.out) hb); have n1_ := Aside0.mk (blk_below (g := gb169) (o := .cells #[.string a0_0, .int .i64 a0_1, .int .i64 a0_2, .int .i64 a0_3, .slice A0_4 l0_4.length c0_4] 24 (0, 0)) (by (with_reducible repeat (first | refine blk_drewN ?_ _ | refine blk_drew ?_ | refine blk_alloc ?_ _)); exact BK169.out) hb); have n2_ := Aside0.mk (blk_below (g := gb178) (o := .cells #[.string t171, .int .i64 t172, .int .i64 t173, .int .i64 t174, .slice Ao19 t175.length co19] 28 (0, 0)) (by (with_reducible repeat (first | refine blk_drewN ?_ _ | refine blk_drew ?_ | refine blk_alloc ?_ _)); exact BK178.out) hb); have n3_ := Aside0.mk (below_step (by repeat (first | (with_reducible first | exact HB.out | apply below_alloc | apply pw_below_drewN | apply below_drew1 | refine below_set ?_ GE169.out | refine below_set ?_ GE178.out) | exact HB.out)) hb); clear HO_179004; clear BK169; clear BK178; clear HB; have HO_179004 := n0_; have BK169 := n1_; have BK178 := n2_; have HB := n3_; clear n0_ n1_ n2_ n3_; (try clear hb); (try clear hb2); (try clear hk); (try clear hi)))
              (try simp only [Act.put, List.setIfInBounds_toArray, List.set_cons_zero, List.set_cons_succ])
              go_cut [46] (fun v46 wc => ∃ (kq : Nat) (x46_22 : Bool), v46 = .bool x46_22 ∧ Aside0 (prolixlaw18_CodeParts.j1 kq t180 (wrap64 (x7_1 + 1)) x46_22 a0_0 a0_1 a0_2 a0_3 l0_4 t171 t172 t173 t174 t175 = some r) ∧ Aside0 (kq ≤ k1) ∧ Aside0 (Kd.R k39 39 wc w.heap.size (fun _ => True) (.slice Ao19 t175.length co19) t175) ∧ Aside0 (wc.heap[gb169]? = some (.cells #[.string a0_0, .int .i64 a0_1, .int .i64 a0_2, .int .i64 a0_3, (.slice A0_4 l0_4.length c0_4)] 24 (0, 0))) ∧ Aside0 (wc.heap[gb178]? = some (.cells #[.string t171, .int .i64 t172, .int .i64 t173, .int .i64 t174, (.slice Ao19 t175.length co19)] 28 (0, 0))) ∧ Aside0 (Below w.heap.size w wc))
              case first =>
                have H := HC23.out
                clear HC23
                by_cases c27 : (wrap64 (x7_1 + 1)) = t172
                · rw [if_pos c27] at H
                  have c27b0 : ((wrap64 (x7_1 + 1)) == t172) = true := beq_iff_eq.mpr c27
                  have c27b1 : ((wrap64 (x7_1 + 1)) != t172) = false := bne_eq_false_iff_eq.mpr c27
                  clear c27
                  (first | rw [c27b0] | (simp only [i64_w, i32_w]; rw [c27b0]) | skip)
                  by_cases c28 : t180 = t174
                  · rw [if_pos c28] at H
                    have c28b0 : (t180 == t174) = true := beq_iff_eq.mpr c28
                    have c28b1 : (t180 != t174) = false := bne_eq_false_iff_eq.mpr c28
                    clear c28
                    have H' := Aside0.mk H
                    clear H
                    have hnb29 := NB178_169.out
                    have hnc29 := NB169_178.out
                    have hcz30_0 : w26.cell? ⟨gb178, 0, none⟩ = some (.string t171) := (blk_cell BK178.out 0).trans rfl
                    have hcz30_1 : w26.cell? ⟨gb178, 1, none⟩ = some (.int .i64 t172) := (blk_cell BK178.out 1).trans rfl
                    have hcz30_2 : w26.cell? ⟨gb178, 2, none⟩ = some (.int .i64 t173) := (blk_cell BK178.out 2).trans rfl
                    have hcz30_3 : w26.cell? ⟨gb178, 3, none⟩ = some (.int .i64 t174) := (blk_cell BK178.out 3).trans rfl
                    have hcz30_4 : w26.cell? ⟨gb178, 4, none⟩ = some (.slice Ao19 t175.length co19) := (blk_cell BK178.out 4).trans rfl
                    have hfz30_0 := blk_frozen BK178.out 0
                    have hfz30_1 := blk_frozen BK178.out 1
                    have hfz30_2 := blk_frozen BK178.out 2
                    have hfz30_3 := blk_frozen BK178.out 3
                    have hfz30_4 := blk_frozen BK178.out 4
                    go_wp2
                    go_meet
                    case rel => exact ⟨_, (decide (t180 < 0)), (by first | rfl | (simp; done) | (simp [*]; done)), H', ⟨by have := HK1.out; first | omega | exact Nat.le_refl _⟩, ⟨by (with_reducible repeat (first | apply Kd.R_alloc | apply Kd.R_drewN | apply Kd.R_drew)); exact HO_179004.out⟩, ⟨by (with_reducible repeat (first | refine blk_drewN ?_ _ | refine blk_drew ?_ | refine blk_alloc ?_ _)); exact BK169.out⟩, ⟨by (with_reducible repeat (first | refine blk_drewN ?_ _ | refine blk_drew ?_ | refine blk_alloc ?_ _)); exact BK178.out⟩, ⟨by repeat (first | (with_reducible first | exact HB.out | apply below_alloc | apply pw_below_drewN | apply below_drew1 | refine below_set ?_ GE169.out | refine below_set ?_ GE178.out) | exact HB.out)⟩⟩
                  · rw [if_neg c28] at H
                    have c28b0 : (t180 == t174) = false := beq_eq_false_iff_ne.mpr c28
                    have c28b1 : (t180 != t174) = true := bne_iff_ne.mpr c28
                    have H' := Aside0.mk H
                    clear H
                    have hnb31 := NB178_169.out
                    have hnc31 := NB169_178.out
                    have hcz32_0 : w26.cell? ⟨gb178, 0, none⟩ = some (.string t171) := (blk_cell BK178.out 0).trans rfl
                    have hcz32_1 : w26.cell? ⟨gb178, 1, none⟩ = some (.int .i64 t172) := (blk_cell BK178.out 1).trans rfl
                    have hcz32_2 : w26.cell? ⟨gb178, 2, none⟩ = some (.int .i64 t173) := (blk_cell BK178.out 2).trans rfl
                    have hcz32_3 : w26.cell? ⟨gb178, 3, none⟩ = some (.int .i64 t174) := (blk_cell BK178.out 3).trans rfl
                    have hcz32_4 : w26.cell? ⟨gb178, 4, none⟩ = some (.slice Ao19 t175.length co19) := (blk_cell BK178.out 4).trans rfl
                    have hfz32_0 := blk_frozen BK178.out 0
                    have hfz32_1 := blk_frozen BK178.out 1
                    have hfz32_2 := blk_frozen BK178.out 2
                    have hfz32_3 := blk_frozen BK178.out 3
                    have hfz32_4 := blk_frozen BK178.out 4
                    go_wp2
                    go_meet
                    case rel => exact ⟨_, (true), (by first | rfl | (simp; done) | (simp [*]; done)), H', ⟨by have := HK1.out; first | omega | exact Nat.le_refl _⟩, ⟨by (with_reducible repeat (first | apply Kd.R_alloc | apply Kd.R_drewN | apply Kd.R_drew)); exact HO_179004.out⟩, ⟨by (with_reducible repeat (first | refine blk_drewN ?_ _ | refine blk_drew ?_ | refine blk_alloc ?_ _)); exact BK169.out⟩, ⟨by (with_reducible repeat (first | refine blk_drewN ?_ _ | refine blk_drew ?_ | refine blk_alloc ?_ _)); exact BK178.out⟩, ⟨by repeat (first | (with_reducible first | exact HB.out | apply below_alloc | apply pw_below_drewN | apply below_drew1 | refine below_set ?_ GE169.out | refine below_set ?_ GE178.out) | exact HB.out)⟩⟩
                · rw [if_neg c27] at H
                  have c27b0 : ((wrap64 (x7_1 + 1)) == t172) = false := beq_eq_false_iff_ne.mpr c27
                  have c27b1 : ((wrap64 (x7_1 + 1)) != t172) = true := bne_iff_ne.mpr c27
                  (first | rw [c27b0] | (simp only [i64_w, i32_w]; rw [c27b0]) | skip)
                  have H' := Aside0.mk H
                  clear H
                  have hnb33 := NB178_169.out
                  have hnc33 := NB169_178.out
                  have hcz34_0 : w26.cell? ⟨gb178, 0, none⟩ = some (.string t171) := (blk_cell BK178.out 0).trans rfl
                  have hcz34_1 : w26.cell? ⟨gb178, 1, none⟩ = some (.int .i64 t172) := (blk_cell BK178.out 1).trans rfl
                  have hcz34_2 : w26.cell? ⟨gb178, 2, none⟩ = some (.int .i64 t173) := (blk_cell BK178.out 2).trans rfl
                  have hcz34_3 : w26.cell? ⟨gb178, 3, none⟩ = some (.int .i64 t174) := (blk_cell BK178.out 3).trans rfl
                  have hcz34_4 : w26.cell? ⟨gb178, 4, none⟩ = some (.slice Ao19 t175.length co19) := (blk_cell BK178.out 4).trans rfl
                  have hfz34_0 := blk_frozen BK178.out 0
                  have hfz34_1 := blk_frozen BK178.out 1
                  have hfz34_2 := blk_frozen BK178.out 2
                  have hfz34_3 := blk_frozen BK178.out 3
                  have hfz34_4 := blk_frozen BK178.out 4
                  go_wp2
                  go_meet
                  case rel => exact ⟨_, (decide (t180 < 0)), (by first | rfl | (simp; done) | (simp [*]; done)), H', ⟨by have := HK1.out; first | omega | exact Nat.le_refl _⟩, ⟨by (with_reducible repeat (first | apply Kd.R_alloc | apply Kd.R_drewN | apply Kd.R_drew)); exact HO_179004.out⟩, ⟨by (with_reducible repeat (first | refine blk_drewN ?_ _ | refine blk_drew ?_ | refine blk_alloc ?_ _)); exact BK169.out⟩, ⟨by (with_reducible repeat (first | refine blk_drewN ?_ _ | refine blk_drew ?_ | refine blk_alloc ?_ _)); exact BK178.out⟩, ⟨by repeat (first | (with_reducible first | exact HB.out | apply below_alloc | apply pw_below_drewN | apply below_drew1 | refine below_set ?_ GE169.out | refine below_set ?_ GE178.out) | exact HB.out)⟩⟩
              case rest =>
                clear HC23
                try clear c1
                try clear c2
                try clear p2
                try clear c3
                try clear c4
                try clear c5
                try clear c5b0
                try clear c5b1
                try clear p6
                try clear c11
                try clear c11b0
                try clear c11b1
                try clear c15
                try clear c16
                try clear c17
                try clear c19
                try clear c21
                try clear c21b0
                try clear c24
                try clear c27
                try clear c27b0
                try clear c27b1
                try clear c28
                try clear c28b0
                try clear c28b1
                try clear c29
                try clear c31
                try clear c33
                try clear hcz14_0
                try clear hcz14_1
                try clear hcz14_2
                try clear hcz14_3
                try clear hcz14_4
                try clear hcz18_0
                try clear hcz18_1
                try clear hcz18_2
                try clear hcz18_3
                try clear hcz18_4
                try clear hcz25_0
                try clear hcz25_1
                try clear hcz25_2
                try clear hcz25_3
                try clear hcz25_4
                try clear hcz30_0
                try clear hcz30_1
                try clear hcz30_2
                try clear hcz30_3
                try clear hcz30_4
                try clear hcz32_0
                try clear hcz32_1
                try clear hcz32_2
                try clear hcz32_3
                try clear hcz32_4
                try clear hcz34_0
                try clear hcz34_1
                try clear hcz34_2
                try clear hcz34_3
                try clear hcz34_4
                try clear hcz8_0
                try clear hcz8_1
                try clear hcz8_2
                try clear hcz8_3
                try clear hcz8_4
                try clear hfz14_0
                try clear hfz14_1
                try clear hfz14_2
                try clear hfz14_3
                try clear hfz14_4
                try clear hfz18_0
                try clear hfz18_1
                try clear hfz18_2
                try clear hfz18_3
                try clear hfz18_4
                try clear hfz25_0
                try clear hfz25_1
                try clear hfz25_2
                try clear hfz25_3
                try clear hfz25_4
                try clear hfz30_0
                try clear hfz30_1
                try clear hfz30_2
                try clear hfz30_3
                try clear hfz30_4
                try clear hfz32_0
                try clear hfz32_1
                try clear hfz32_2
                try clear hfz32_3
                try clear hfz32_4
                try clear hfz34_0
                try clear hfz34_1
                try clear hfz34_2
                try clear hfz34_3
                try clear hfz34_4
                try clear hfz8_0
                try clear hfz8_1
                try clear hfz8_2
                try clear hfz8_3
                try clear hfz8_4
                try clear p2
                obtain ⟨kq, x46_22, rfl, HA, HJ22, HO_179004, BK169, BK178, HB⟩ := hcut
                cases kq with
                | zero => exact absurd HA.out (by simp [prolixlaw18_CodeParts.j1])
                | succ kj22 =>
                  have H := HA.out
                  clear HA
                  simp only [prolixlaw18_CodeParts.j1] at H
                  by_cases c35 : x46_22 = true
                  · subst c35
                    have H1 : (none) = some r := by rw [if_pos rfl] at H; exact H
                    clear H
                    have H := H1
                    clear H1
                    exact absurd H (by simp)
                  · replace c35 := Bool.eq_false_iff.mpr c35
                    subst c35
                    have H1 : (prolixlaw18_CodeParts.l0 kj22 t180 (wrap64 (x7_1 + 1)) a0_0 a0_1 a0_2 a0_3 l0_4 t171 t172 t173 t174 t175) = some r := by rw [if_neg (show ¬ (false = true) by decide)] at H; exact H
                    clear H
                    have H := H1
                    clear H1
                    have H' := Aside0.mk H
                    clear H
                    go_wp2
                    go_roundg kj22
                    case measure => have := HK1.out; have := HJ22.out; omega
                    case rel => exact ⟨(t180), ((wrap64 (x7_1 + 1))), (by first | rfl | (simp; done) | (simp [*]; done)), (by first | rfl | (simp; done) | (simp [*]; done)), H', ⟨by have := HK1.out; have := HJ22.out; omega⟩, ⟨by (with_reducible repeat (first | apply Kd.R_alloc | apply Kd.R_drewN | apply Kd.R_drew)); exact HO_179004.out⟩, ⟨by (with_reducible repeat (first | refine blk_drewN ?_ _ | refine blk_drew ?_ | refine blk_alloc ?_ _)); exact BK169.out⟩, ⟨by (with_reducible repeat (first | refine blk_drewN ?_ _ | refine blk_drew ?_ | refine blk_alloc ?_ _)); exact BK178.out⟩, ⟨by repeat (first | (with_reducible first | exact HB.out | apply below_alloc | apply pw_below_drewN | apply below_drew1 | refine below_set ?_ GE169.out | refine below_set ?_ GE178.out) | exact HB.out)⟩⟩
            · rw [if_neg c21] at H
              have c21b0 : decide (x6_1 < (t175.length : Int)) = false := decide_eq_false c21
              clear c21
              have HC36 := Aside0.mk H
              clear H
              have hnb37 := NB178_169.out
              have hnc37 := NB169_178.out
              have hcz38_0 : wr.cell? ⟨gb178, 0, none⟩ = some (.string t171) := (blk_cell BK178.out 0).trans rfl
              have hcz38_1 : wr.cell? ⟨gb178, 1, none⟩ = some (.int .i64 t172) := (blk_cell BK178.out 1).trans rfl
              have hcz38_2 : wr.cell? ⟨gb178, 2, none⟩ = some (.int .i64 t173) := (blk_cell BK178.out 2).trans rfl
              have hcz38_3 : wr.cell? ⟨gb178, 3, none⟩ = some (.int .i64 t174) := (blk_cell BK178.out 3).trans rfl
              have hcz38_4 : wr.cell? ⟨gb178, 4, none⟩ = some (.slice Ao19 t175.length co19) := (blk_cell BK178.out 4).trans rfl
              have hfz38_0 := blk_frozen BK178.out 0
              have hfz38_1 := blk_frozen BK178.out 1
              have hfz38_2 := blk_frozen BK178.out 2
              have hfz38_3 := blk_frozen BK178.out 3
              have hfz38_4 := blk_frozen BK178.out 4
              go_upto_region 14 with (fail)
              go_cut [58] (fun v58 wc => ∃ (kq : Nat) (x58_35 : Bool), v58 = .bool x58_35 ∧ Aside0 (prolixlaw18_CodeParts.j2 kq x58_35 a0_0 a0_1 a0_2 a0_3 l0_4 = some r) ∧ Aside0 (kq ≤ k1) ∧ Aside0 (Kd.R k39 39 wc w.heap.size (fun _ => True) (.slice Ao19 t175.length co19) t175) ∧ Aside0 (wc.heap[gb169]? = some (.cells #[.string a0_0, .int .i64 a0_1, .int .i64 a0_2, .int .i64 a0_3, (.slice A0_4 l0_4.length c0_4)] 24 (0, 0))) ∧ Aside0 (wc.heap[gb178]? = some (.cells #[.string t171, .int .i64 t172, .int .i64 t173, .int .i64 t174, (.slice Ao19 t175.length co19)] 28 (0, 0))) ∧ Aside0 (Below w.heap.size w wc))
              case first =>
                have H := HC36.out
                clear HC36
                by_cases c39 : x7_1 = (wrap64 (t172 + 1))
                · rw [if_pos c39] at H
                  have c39b0 : (x7_1 == (wrap64 (t172 + 1))) = true := beq_iff_eq.mpr c39
                  have c39b1 : (x7_1 != (wrap64 (t172 + 1))) = false := bne_eq_false_iff_eq.mpr c39
                  clear c39
                  (first | rw [c39b0] | (simp only [i64_w, i32_w]; rw [c39b0]) | skip)
                  have H' := Aside0.mk H
                  clear H
                  have hnb40 := NB178_169.out
                  have hnc40 := NB169_178.out
                  have hcz41_0 : wr.cell? ⟨gb178, 0, none⟩ = some (.string t171) := (blk_cell BK178.out 0).trans rfl
                  have hcz41_1 : wr.cell? ⟨gb178, 1, none⟩ = some (.int .i64 t172) := (blk_cell BK178.out 1).trans rfl
                  have hcz41_2 : wr.cell? ⟨gb178, 2, none⟩ = some (.int .i64 t173) := (blk_cell BK178.out 2).trans rfl
                  have hcz41_3 : wr.cell? ⟨gb178, 3, none⟩ = some (.int .i64 t174) := (blk_cell BK178.out 3).trans rfl
                  have hcz41_4 : wr.cell? ⟨gb178, 4, none⟩ = some (.slice Ao19 t175.length co19) := (blk_cell BK178.out 4).trans rfl
                  have hfz41_0 := blk_frozen BK178.out 0
                  have hfz41_1 := blk_frozen BK178.out 1
                  have hfz41_2 := blk_frozen BK178.out 2
                  have hfz41_3 := blk_frozen BK178.out 3
                  have hfz41_4 := blk_frozen BK178.out 4
                  go_wp2
                  go_meet
                  case rel => exact ⟨_, ((x6_1 != (t175.length : Int))), (by first | rfl | (simp; done) | (simp [*]; done)), H', ⟨by have := HK1.out; first | omega | exact Nat.le_refl _⟩, ⟨by (with_reducible repeat (first | apply Kd.R_alloc | apply Kd.R_drewN | apply Kd.R_drew)); exact HO_179004.out⟩, ⟨by (with_reducible repeat (first | refine blk_drewN ?_ _ | refine blk_drew ?_ | refine blk_alloc ?_ _)); exact BK169.out⟩, ⟨by (with_reducible repeat (first | refine blk_drewN ?_ _ | refine blk_drew ?_ | refine blk_alloc ?_ _)); exact BK178.out⟩, ⟨by repeat (first | (with_reducible first | exact HB.out | apply below_alloc | apply pw_below_drewN | apply below_drew1 | refine below_set ?_ GE169.out | refine below_set ?_ GE178.out) | exact HB.out)⟩⟩
                · rw [if_neg c39] at H
                  have c39b0 : (x7_1 == (wrap64 (t172 + 1))) = false := beq_eq_false_iff_ne.mpr c39
                  have c39b1 : (x7_1 != (wrap64 (t172 + 1))) = true := bne_iff_ne.mpr c39
                  (first | rw [c39b0] | (simp only [i64_w, i32_w]; rw [c39b0]) | skip)
                  have H' := Aside0.mk H
                  clear H
                  have hnb42 := NB178_169.out
                  have hnc42 := NB169_178.out
                  have hcz43_0 : wr.cell? ⟨gb178, 0, none⟩ = some (.string t171) := (blk_cell BK178.out 0).trans rfl
                  have hcz43_1 : wr.cell? ⟨gb178, 1, none⟩ = some (.int .i64 t172) := (blk_cell BK178.out 1).trans rfl
                  have hcz43_2 : wr.cell? ⟨gb178, 2, none⟩ = some (.int .i64 t173) := (blk_cell BK178.out 2).trans rfl
                  have hcz43_3 : wr.cell? ⟨gb178, 3, none⟩ = some (.int .i64 t174) := (blk_cell BK178.out 3).trans rfl
                  have hcz43_4 : wr.cell? ⟨gb178, 4, none⟩ = some (.slice Ao19 t175.length co19) := (blk_cell BK178.out 4).trans rfl
                  have hfz43_0 := blk_frozen BK178.out 0
                  have hfz43_1 := blk_frozen BK178.out 1
                  have hfz43_2 := blk_frozen BK178.out 2
                  have hfz43_3 := blk_frozen BK178.out 3
                  have hfz43_4 := blk_frozen BK178.out 4
                  go_wp2
                  go_meet
                  case rel => exact ⟨_, (true), (by first | rfl | (simp; done) | (simp [*]; done)), H', ⟨by have := HK1.out; first | omega | exact Nat.le_refl _⟩, ⟨by (with_reducible repeat (first | apply Kd.R_alloc | apply Kd.R_drewN | apply Kd.R_drew)); exact HO_179004.out⟩, ⟨by (with_reducible repeat (first | refine blk_drewN ?_ _ | refine blk_drew ?_ | refine blk_alloc ?_ _)); exact BK169.out⟩, ⟨by (with_reducible repeat (first | refine blk_drewN ?_ _ | refine blk_drew ?_ | refine blk_alloc ?_ _)); exact BK178.out⟩, ⟨by repeat (first | (with_reducible first | exact HB.out | apply below_alloc | apply pw_below_drewN | apply below_drew1 | refine below_set ?_ GE169.out | refine below_set ?_ GE178.out) | exact HB.out)⟩⟩
              case rest =>
                clear HC36
                try clear c1
                try clear c2
                try clear p2
                try clear c3
                try clear c4
                try clear c5
                try clear c5b0
                try clear c5b1
                try clear p6
                try clear c11
                try clear c11b0
                try clear c11b1
                try clear c15
                try clear c16
                try clear c17
                try clear c19
                try clear c21
                try clear c21b0
                try clear c24
                try clear c27
                try clear c27b0
                try clear c27b1
                try clear c28
                try clear c28b0
                try clear c28b1
                try clear c29
                try clear c31
                try clear c33
                try clear c35
                try clear c37
                try clear c39
                try clear c39b0
                try clear c39b1
                try clear c40
                try clear c42
                try clear hcz14_0
                try clear hcz14_1
                try clear hcz14_2
                try clear hcz14_3
                try clear hcz14_4
                try clear hcz18_0
                try clear hcz18_1
                try clear hcz18_2
                try clear hcz18_3
                try clear hcz18_4
                try clear hcz25_0
                try clear hcz25_1
                try clear hcz25_2
                try clear hcz25_3
                try clear hcz25_4
                try clear hcz30_0
                try clear hcz30_1
                try clear hcz30_2
                try clear hcz30_3
                try clear hcz30_4
                try clear hcz32_0
                try clear hcz32_1
                try clear hcz32_2
                try clear hcz32_3
                try clear hcz32_4
                try clear hcz34_0
                try clear hcz34_1
                try clear hcz34_2
                try clear hcz34_3
                try clear hcz34_4
                try clear hcz38_0
                try clear hcz38_1
                try clear hcz38_2
                try clear hcz38_3
                try clear hcz38_4
                try clear hcz41_0
                try clear hcz41_1
                try clear hcz41_2
                try clear hcz41_3
                try clear hcz41_4
                try clear hcz43_0
                try clear hcz43_1
                try clear hcz43_2
                try clear hcz43_3
                try clear hcz43_4
                try clear hcz8_0
                try clear hcz8_1
                try clear hcz8_2
                try clear hcz8_3
                try clear hcz8_4
                try clear hfz14_0
                try clear hfz14_1
                try clear hfz14_2
                try clear hfz14_3
                try clear hfz14_4
                try clear hfz18_0
                try clear hfz18_1
                try clear hfz18_2
                try clear hfz18_3
                try clear hfz18_4
                try clear hfz25_0
                try clear hfz25_1
                try clear hfz25_2
                try clear hfz25_3
                try clear hfz25_4
                try clear hfz30_0
                try clear hfz30_1
                try clear hfz30_2
                try clear hfz30_3
                try clear hfz30_4
                try clear hfz32_0
                try clear hfz32_1
                try clear hfz32_2
                try clear hfz32_3
                try clear hfz32_4
                try clear hfz34_0
                try clear hfz34_1
                try clear hfz34_2
                try clear hfz34_3
                try clear hfz34_4
                try clear hfz38_0
                try clear hfz38_1
                try clear hfz38_2
                try clear hfz38_3
                try clear hfz38_4
                try clear hfz41_0
                try clear hfz41_1
                try clear hfz41_2
                try clear hfz41_3
                try clear hfz41_4
                try clear hfz43_0
                try clear hfz43_1
                try clear hfz43_2
                try clear hfz43_3
                try clear hfz43_4
                try clear hfz8_0
                try clear hfz8_1
                try clear hfz8_2
                try clear hfz8_3
                try clear hfz8_4
                try clear p2
                try clear p6
                obtain ⟨kq, x58_35, rfl, HA, HJ35, HO_179004, BK169, BK178, HB⟩ := hcut
                cases kq with
                | zero => exact absurd HA.out (by simp [prolixlaw18_CodeParts.j2])
                | succ kj35 =>
                  have H := HA.out
                  clear HA
                  simp only [prolixlaw18_CodeParts.j2] at H
                  by_cases c44 : x58_35 = true
                  · subst c44
                    have H1 : (none) = some r := by rw [if_pos rfl] at H; exact H
                    clear H
                    have H := H1
                    clear H1
                    exact absurd H (by simp)
                  · replace c44 := Bool.eq_false_iff.mpr c44
                    subst c44
                    have H1 : ((prolixlaw18_To.f kj35 a0_0 a0_1 a0_2 a0_3 l0_4).bind fun bt181 => ((prolixlaw18_To.f kj35 a0_0 a0_1 a0_2 a0_3 l0_4).bind fun bt188 => ((prolixlaw18_To.f kj35 a0_0 a0_1 a0_2 a0_3 l0_4).bind fun bt195 => (if 0 ≤ (wrap64 ((bt181.2.2.2.2.length : Int) - 1)) then (if (wrap64 ((bt181.2.2.2.2.length : Int) - 1)) ≤ (bt181.2.2.2.2.length : Int) then (if bt188.2.2.2.2.length < 3518437208883 then ((code_Check.f kj35 bt181.1 bt181.2.1 bt181.2.2.1 bt181.2.2.2.1 (bt181.2.2.2.2.take ((wrap64 ((bt181.2.2.2.2.length : Int) - 1)) : Int).toNat)).bind fun t211 => (if t211 = 2 then ((code_Check.f kj35 bt188.1 bt188.2.1 bt188.2.2.1 bt188.2.2.2.1 (bt188.2.2.2.2 ++ [(⟨5, 0, 0, (⟨#[]⟩ : ByteArray)⟩ : S39)])).bind fun t212 => (if t212 = 2 then ((code_Check.f kj35 bt195.1 bt195.2.1 (wrap64 (bt195.2.2.1 + 1)) bt195.2.2.2.1 bt195.2.2.2.2).bind fun t213 => (some (t213 == 2))) else (none))) else (none))) else (none)) else (none)) else (none))))) = some r := by rw [if_neg (show ¬ (false = true) by decide)] at H; exact H
                    clear H
                    have H := H1
                    clear H1
                    replace H := Option.bind_eq_some_iff.mp H
                    obtain ⟨⟨t181, t182, t183, t184, t185⟩, A450, H⟩ := H
                    replace H : ((prolixlaw18_To.f kj35 a0_0 a0_1 a0_2 a0_3 l0_4).bind fun bt188 => ((prolixlaw18_To.f kj35 a0_0 a0_1 a0_2 a0_3 l0_4).bind fun bt195 => (if 0 ≤ (wrap64 ((t185.length : Int) - 1)) then (if (wrap64 ((t185.length : Int) - 1)) ≤ (t185.length : Int) then (if bt188.2.2.2.2.length < 3518437208883 then ((code_Check.f kj35 t181 t182 t183 t184 (t185.take ((wrap64 ((t185.length : Int) - 1)) : Int).toNat)).bind fun t211 => (if t211 = 2 then ((code_Check.f kj35 bt188.1 bt188.2.1 bt188.2.2.1 bt188.2.2.2.1 (bt188.2.2.2.2 ++ [(⟨5, 0, 0, (⟨#[]⟩ : ByteArray)⟩ : S39)])).bind fun t212 => (if t212 = 2 then ((code_Check.f kj35 bt195.1 bt195.2.1 (wrap64 (bt195.2.2.1 + 1)) bt195.2.2.2.1 bt195.2.2.2.2).bind fun t213 => (some (t213 == 2))) else (none))) else (none))) else (none)) else (none)) else (none)))) = some r := H
                    have A45 := Aside0.mk A450
                    clear A450
                    replace H := Option.bind_eq_some_iff.mp H
                    obtain ⟨⟨t188, t189, t190, t191, t192⟩, A460, H⟩ := H
                    replace H : ((prolixlaw18_To.f kj35 a0_0 a0_1 a0_2 a0_3 l0_4).bind fun bt195 => (if 0 ≤ (wrap64 ((t185.length : Int) - 1)) then (if (wrap64 ((t185.length : Int) - 1)) ≤ (t185.length : Int) then (if t192.length < 3518437208883 then ((code_Check.f kj35 t181 t182 t183 t184 (t185.take ((wrap64 ((t185.length : Int) - 1)) : Int).toNat)).bind fun t211 => (if t211 = 2 then ((code_Check.f kj35 t188 t189 t190 t191 (t192 ++ [(⟨5, 0, 0, (⟨#[]⟩ : ByteArray)⟩ : S39)])).bind fun t212 => (if t212 = 2 then ((code_Check.f kj35 bt195.1 bt195.2.1 (wrap64 (bt195.2.2.1 + 1)) bt195.2.2.2.1 bt195.2.2.2.2).bind fun t213 => (some (t213 == 2))) else (none))) else (none))) else (none)) else (none)) else (none))) = some r := H
                    have A46 := Aside0.mk A460
                    clear A460
                    replace H := Option.bind_eq_some_iff.mp H
                    obtain ⟨⟨t195, t196, t197, t198, t199⟩, A470, H⟩ := H
                    replace H : (if 0 ≤ (wrap64 ((t185.length : Int) - 1)) then (if (wrap64 ((t185.length : Int) - 1)) ≤ (t185.length : Int) then (if t192.length < 3518437208883 then ((code_Check.f kj35 t181 t182 t183 t184 (t185.take ((wrap64 ((t185.length : Int) - 1)) : Int).toNat)).bind fun t211 => (if t211 = 2 then ((code_Check.f kj35 t188 t189 t190 t191 (t192 ++ [(⟨5, 0, 0, (⟨#[]⟩ : ByteArray)⟩ : S39)])).bind fun t212 => (if t212 = 2 then ((code_Check.f kj35 t195 t196 (wrap64 (t197 + 1)) t198 t199).bind fun t213 => (some (t213 == 2))) else (none))) else (none))) else (none)) else (none)) else (none)) = some r := H
                    have A47 := Aside0.mk A470
                    clear A470
                    obtain ⟨ji48, hji48⟩ : ∃ j_ : Int, (wrap64 ((t185.length : Int) - 1)) = j_ := ⟨_, rfl⟩
                    replace H : (if 0 ≤ (ji48) then (if (ji48) ≤ (t185.length : Int) then (if t192.length < 3518437208883 then ((code_Check.f kj35 t181 t182 t183 t184 (t185.take ((ji48) : Int).toNat)).bind fun t211 => (if t211 = 2 then ((code_Check.f kj35 t188 t189 t190 t191 (t192 ++ [(⟨5, 0, 0, (⟨#[]⟩ : ByteArray)⟩ : S39)])).bind fun t212 => (if t212 = 2 then ((code_Check.f kj35 t195 t196 (wrap64 (t197 + 1)) t198 t199).bind fun t213 => (some (t213 == 2))) else (none))) else (none))) else (none)) else (none)) else (none)) = some r := by first | (rw [hji48] at H; exact H) | (simp only [hji48] at H ⊢; exact H)
                    (try rw [hji48] at A45)
                    (try rw [hji48] at A46)
                    (try rw [hji48] at A47)
                    have hji48w : (IntKind.i64.wrap ((t185.length : Int) - 1)) = ji48 := (i64_w _).trans hji48
                    by_cases c49 : 0 ≤ (ji48)
                    · rw [if_pos c49] at H
                      have c49b0 := eq_true c49
                      have c49b1 : decide (0 ≤ (ji48)) = true := decide_eq_true c49
                      clear c49
                      by_cases c50 : (ji48) ≤ (t185.length : Int)
                      · rw [if_pos c50] at H
                        have c50b0 := eq_true c50
                        have c50b1 : decide ((ji48) ≤ (t185.length : Int)) = true := decide_eq_true c50
                        clear c50
                        obtain ⟨y205, hy205⟩ : ∃ y_ : List (S39), y_ = (t185.take ((ji48) : Int).toNat) := ⟨_, rfl⟩
                        replace H : (if t192.length < 3518437208883 then ((code_Check.f kj35 t181 t182 t183 t184 y205).bind fun t211 => (if t211 = 2 then ((code_Check.f kj35 t188 t189 t190 t191 (t192 ++ [(⟨5, 0, 0, (⟨#[]⟩ : ByteArray)⟩ : S39)])).bind fun t212 => (if t212 = 2 then ((code_Check.f kj35 t195 t196 (wrap64 (t197 + 1)) t198 t199).bind fun t213 => (some (t213 == 2))) else (none))) else (none))) else (none)) = some r := by first | (rw [hy205]; with_reducible exact H) | (have H2_ := (Option.bind_some _ _).symm.trans H; rw [hy205]; with_reducible exact H2_) | (have H2_ := (Option.bind_some _ _).symm.trans H; with_reducible exact H2_) | with_reducible exact H | (rw [hy205]; exact H) | exact H
                        have Ny205 := Aside0.mk hy205
                        clear hy205
                        by_cases c51 : t192.length < 3518437208883
                        · rw [if_pos c51] at H
                          have LMc51 := Aside0.mk c51
                          clear c51
                          obtain ⟨y208, hy208⟩ : ∃ y_ : List (S39), y_ = (t192 ++ [(⟨5, 0, 0, (⟨#[]⟩ : ByteArray)⟩ : S39)]) := ⟨_, rfl⟩
                          replace H : ((code_Check.f kj35 t181 t182 t183 t184 y205).bind fun t211 => (if t211 = 2 then ((code_Check.f kj35 t188 t189 t190 t191 y208).bind fun t212 => (if t212 = 2 then ((code_Check.f kj35 t195 t196 (wrap64 (t197 + 1)) t198 t199).bind fun t213 => (some (t213 == 2))) else (none))) else (none))) = some r := by first | (rw [hy208]; with_reducible exact H) | (have H2_ := (Option.bind_some _ _).symm.trans H; rw [hy208]; with_reducible exact H2_) | (have H2_ := (Option.bind_some _ _).symm.trans H; with_reducible exact H2_) | with_reducible exact H | (rw [hy208]; exact H) | exact H
                          have Ny208 := Aside0.mk hy208
                          clear hy208
                          replace H := Option.bind_eq_some_iff.mp H
                          obtain ⟨t211, A520, H⟩ := H
                          replace H : (if t211 = 2 then ((code_Check.f kj35 t188 t189 t190 t191 y208).bind fun t212 => (if t212 = 2 then ((code_Check.f kj35 t195 t196 (wrap64 (t197 + 1)) t198 t199).bind fun t213 => (some (t213 == 2))) else (none))) else (none)) = some r := H
                          have A52 := Aside0.mk A520
                          clear A520
                          by_cases c53 : t211 = 2
                          · rw [if_pos c53] at H
                            have c53b0 : (t211 == 2) = true := beq_iff_eq.mpr c53
                            have c53b1 : (t211 != 2) = false := bne_eq_false_iff_eq.mpr c53
                            clear c53
                            replace H := Option.bind_eq_some_iff.mp H
                            obtain ⟨t212, A540, H⟩ := H
                            replace H : (if t212 = 2 then ((code_Check.f kj35 t195 t196 (wrap64 (t197 + 1)) t198 t199).bind fun t213 => (some (t213 == 2))) else (none)) = some r := H
                            have A54 := Aside0.mk A540
                            clear A540
                            by_cases c55 : t212 = 2
                            · rw [if_pos c55] at H
                              have c55b0 : (t212 == 2) = true := beq_iff_eq.mpr c55
                              have c55b1 : (t212 != 2) = false := bne_eq_false_iff_eq.mpr c55
                              clear c55
                              replace H := Option.bind_eq_some_iff.mp H
                              obtain ⟨t213, A560, H⟩ := H
                              replace H : (some (t213 == 2)) = some r := H
                              have A56 := Aside0.mk A560
                              clear A560
                              obtain rfl := Option.some.inj H
                              try go_wp2
                              have n0_ := Aside0.mk (Kd.R_drew HO_179004.out)
                              have n1_ := Aside0.mk (blk_drew BK169.out)
                              have n2_ := Aside0.mk (blk_drew BK178.out)
                              have n3_ := Aside0.mk (below_drew1 HB.out)
                              clear HO_179004
                              clear BK169
                              clear BK178
                              clear HB
                              have HO_179004 := n0_
                              have BK169 := n1_
                              have BK178 := n2_
                              have HB := n3_
                              clear n0_ n1_ n2_ n3_
                              refine start_ (n := 12) (S := fun w' => True) (ds := []) #[false, false, false, false, false, false, false, false, false, false, false, false] (by kernel_rfl) rfl rfl trivial (fun hHeld => ?_); refine with_tabW prolixlaw18_CodeParts.tab16 prolixlaw18_CodeParts.bits16 (fun HT_ HW_ => ?_)
                              generalize wc.drew = w57 at HO_179004 BK169 BK178 HB hHeld ⊢
                              refine inv_at [0, 1, 2, 3, 4, 5, 6, 7, 8, 9, 10, 11] (fun a0_ b a w' => ∃ (v186 : Value) (v193 : Value) (v200 : Value) (gb202 : Nat) (gb203 : Nat) (gb204 : Nat) (m1_ : Value) (m3_ : Value) (m5_ : Value) (m6_ : Value) (m7_ : Value) (m8_ : Value), a = putSel a0_ b [(0, 59, .agg #[.string a0_0, .int .i64 a0_1, .int .i64 a0_2, .int .i64 a0_3, .slice A0_4 l0_4.length c0_4]), (1, 60, m1_), (2, 61, .agg #[.string a0_0, .int .i64 a0_1, .int .i64 a0_2, .int .i64 a0_3, .slice A0_4 l0_4.length c0_4]), (3, 62, m3_), (4, 63, .agg #[.string a0_0, .int .i64 a0_1, .int .i64 a0_2, .int .i64 a0_3, .slice A0_4 l0_4.length c0_4]), (5, 64, m5_), (6, 8, m6_), (7, 9, m7_), (8, 10, m8_)] ∧ (b 1 = false → Kd.R k39 39 w' w.heap.size (fun _ => True) (.slice Ao19 t175.length co19) t175) ∧ (w'.heap[gb169]? = some (.cells #[.string a0_0, .int .i64 a0_1, .int .i64 a0_2, .int .i64 a0_3, .slice A0_4 l0_4.length c0_4] 24 (0, 0))) ∧ (w'.heap[gb178]? = some (.cells #[.string t171, .int .i64 t172, .int .i64 t173, .int .i64 t174, .slice Ao19 t175.length co19] 28 (0, 0))) ∧ (Below w.heap.size w w') ∧ (b 6 = true → b 7 = true → gb203 ≠ gb202) ∧ (b 6 = true → b 7 = true → gb202 ≠ gb203) ∧ (b 6 = true → b 8 = true → gb204 ≠ gb202) ∧ (b 6 = true → b 8 = true → gb202 ≠ gb204) ∧ (b 7 = true → b 8 = true → gb204 ≠ gb203) ∧ (b 7 = true → b 8 = true → gb203 ≠ gb204) ∧ (b 1 = true → b 3 = false → Kd.R k39 39 w' w.heap.size (fun k_ => some k_ ≠ (.slice Ao19 t175.length co19 : Value).ownBlock) v186 t185) ∧ (b 1 = true → b 3 = false → Kd.R k39 39 w' w.heap.size (fun k_ => some k_ ≠ (v186 : Value).ownBlock) (.slice Ao19 t175.length co19) t175) ∧ (b 3 = true → b 5 = false → Kd.R k39 39 w' w.heap.size (fun k_ => some k_ ≠ (v193 : Value).ownBlock ∧ some k_ ≠ (.slice Ao19 t175.length co19 : Value).ownBlock) v186 t185) ∧ (b 3 = true → b 5 = false → Kd.R k39 39 w' w.heap.size (fun k_ => some k_ ≠ (v186 : Value).ownBlock ∧ some k_ ≠ (.slice Ao19 t175.length co19 : Value).ownBlock) v193 t192) ∧ (b 3 = true → b 5 = false → Kd.R k39 39 w' w.heap.size (fun k_ => some k_ ≠ (v186 : Value).ownBlock ∧ some k_ ≠ (v193 : Value).ownBlock) (.slice Ao19 t175.length co19) t175) ∧ (b 5 = true → Kd.R k39 39 w' w.heap.size (fun k_ => some k_ ≠ (v193 : Value).ownBlock ∧ some k_ ≠ (v200 : Value).ownBlock ∧ some k_ ≠ (.slice Ao19 t175.length co19 : Value).ownBlock) v186 t185) ∧ (b 5 = true → Kd.R k39 39 w' w.heap.size (fun k_ => some k_ ≠ (v186 : Value).ownBlock ∧ some k_ ≠ (v200 : Value).ownBlock ∧ some k_ ≠ (.slice Ao19 t175.length co19 : Value).ownBlock) v193 t192) ∧ (b 5 = true → Kd.R k39 39 w' w.heap.size (fun k_ => some k_ ≠ (v186 : Value).ownBlock ∧ some k_ ≠ (v193 : Value).ownBlock ∧ some k_ ≠ (.slice Ao19 t175.length co19 : Value).ownBlock) v200 t199) ∧ (b 5 = true → Kd.R k39 39 w' w.heap.size (fun k_ => some k_ ≠ (v186 : Value).ownBlock ∧ some k_ ≠ (v193 : Value).ownBlock ∧ some k_ ≠ (v200 : Value).ownBlock) (.slice Ao19 t175.length co19) t175) ∧ (b 6 = true → b 9 = false → w'.heap[gb202]? = some (.cells #[.string (⟨#[]⟩ : ByteArray), .int .i64 0, .int .i64 0, .int .i64 0, .slice none 0 0] 28 (0, 0))) ∧ (b 6 = true → w.heap.size ≤ gb202) ∧ (b 6 = true → w.heap.size ≤ gb202) ∧ (b 6 = true → gb169 ≠ gb202) ∧ (b 6 = true → gb202 ≠ gb169) ∧ (b 6 = true → gb178 ≠ gb202) ∧ (b 6 = true → gb202 ≠ gb178) ∧ (b 7 = true → b 10 = false → w'.heap[gb203]? = some (.cells #[.string (⟨#[]⟩ : ByteArray), .int .i64 0, .int .i64 0, .int .i64 0, .slice none 0 0] 28 (0, 0))) ∧ (b 7 = true → w.heap.size ≤ gb203) ∧ (b 7 = true → w.heap.size ≤ gb203) ∧ (b 7 = true → gb169 ≠ gb203) ∧ (b 7 = true → gb203 ≠ gb169) ∧ (b 7 = true → gb178 ≠ gb203) ∧ (b 7 = true → gb203 ≠ gb178) ∧ (b 8 = true → b 11 = false → w'.heap[gb204]? = some (.cells #[.string (⟨#[]⟩ : ByteArray), .int .i64 0, .int .i64 0, .int .i64 0, .slice none 0 0] 28 (0, 0))) ∧ (b 8 = true → w.heap.size ≤ gb204) ∧ (b 8 = true → w.heap.size ≤ gb204) ∧ (b 8 = true → gb169 ≠ gb204) ∧ (b 8 = true → gb204 ≠ gb169) ∧ (b 8 = true → gb178 ≠ gb204) ∧ (b 8 = true → gb204 ≠ gb178) ∧ (b 9 = true → w'.heap[gb202]? = some (.cells #[.string t181, .int .i64 t182, .int .i64 t183, .int .i64 t184, v186] 28 (0, 0))) ∧ (b 10 = true → w'.heap[gb203]? = some (.cells #[.string t188, .int .i64 t189, .int .i64 t190, .int .i64 t191, v193] 28 (0, 0))) ∧ (b 11 = true → w'.heap[gb204]? = some (.cells #[.string t195, .int .i64 t196, .int .i64 t197, .int .i64 t198, v200] 28 (0, 0))) ∧ (b 1 = true → (m1_ : Value) = .agg #[.string t181, .int .i64 t182, .int .i64 t183, .int .i64 t184, v186]) ∧ (b 3 = true → (m3_ : Value) = .agg #[.string t188, .int .i64 t189, .int .i64 t190, .int .i64 t191, v193]) ∧ (b 5 = true → (m5_ : Value) = .agg #[.string t195, .int .i64 t196, .int .i64 t197, .int .i64 t198, v200]) ∧ (b 6 = true → (m6_ : Value) = .pointer (some ⟨gb202, 0, none⟩)) ∧ (b 7 = true → (m7_ : Value) = .pointer (some ⟨gb203, 0, none⟩)) ∧ (b 8 = true → (m8_ : Value) = .pointer (some ⟨gb204, 0, none⟩))) HT_.out HW_.out (by kernel_rfl) (by kernel_rfl) ?_ ?_ ?_
                              · exact ⟨.bool false, .bool false, .bool false, 0, 0, 0, .bool false, .bool false, .bool false, .bool false, .bool false, .bool false, by simp only [putSel, Bool.false_eq_true, if_false], fun _ => HO_179004.out, BK169.out, BK178.out, HB.out, fun h_ => absurd h_ (by decide), fun h_ => absurd h_ (by decide), fun h_ => absurd h_ (by decide), fun h_ => absurd h_ (by decide), fun h_ => absurd h_ (by decide), fun h_ => absurd h_ (by decide), fun h_ => absurd h_ (by decide), fun h_ => absurd h_ (by decide), fun h_ => absurd h_ (by decide), fun h_ => absurd h_ (by decide), fun h_ => absurd h_ (by decide), fun h_ => absurd h_ (by decide), fun h_ => absurd h_ (by decide), fun h_ => absurd h_ (by decide), fun h_ => absurd h_ (by decide), fun h_ => absurd h_ (by decide), fun h_ => absurd h_ (by decide), fun h_ => absurd h_ (by decide), fun h_ => absurd h_ (by decide), fun h_ => absurd h_ (by decide), fun h_ => absurd h_ (by decide), fun h_ => absurd h_ (by decide), fun h_ => absurd h_ (by decide), fun h_ => absurd h_ (by decide), fun h_ => absurd h_ (by decide), fun h_ => absurd h_ (by decide), fun h_ => absurd h_ (by decide), fun h_ => absurd h_ (by decide), fun h_ => absurd h_ (by decide), fun h_ => absurd h_ (by decide), fun h_ => absurd h_ (by decide), fun h_ => absurd h_ (by decide), fun h_ => absurd h_ (by decide), fun h_ => absurd h_ (by decide), fun h_ => absurd h_ (by decide), fun h_ => absurd h_ (by decide), fun h_ => absurd h_ (by decide), fun h_ => absurd h_ (by decide), fun h_ => absurd h_ (by decide), fun h_ => absurd h_ (by decide), fun h_ => absurd h_ (by decide), fun h_ => absurd h_ (by decide), fun h_ => absurd h_ (by decide), fun h_ => absurd h_ (by decide), fun h_ => absurd h_ (by decide)⟩
                              · skip
                                clear BK169 BK178 HB HO_179004
                                refine steps_cons ?_ ?_
                                · rintro b a w' ⟨v186, v193, v200, gb202, gb203, gb204, m1_, m3_, m5_, m6_, m7_, m8_, ha, Q_HO_179004, Q_BK169, Q_BK178, Q_HB, Q_NB203_202, Q_NB202_203, Q_NB204_202, Q_NB202_204, Q_NB204_203, Q_NB203_204, Q_HO187, Q_HO_179004_e1, Q_HO187_e3, Q_HO194, Q_HO_179004_e3, Q_HO187_e5, Q_HO194_e5, Q_HO201, Q_HO_179004_e5, Q_BK202, Q_GW202, Q_GE202, Q_NB169_202, Q_NB202_169, Q_NB178_202, Q_NB202_178, Q_BK203, Q_GW203, Q_GE203, Q_NB169_203, Q_NB203_169, Q_NB178_203, Q_NB203_178, Q_BK204, Q_GW204, Q_GE204, Q_NB169_204, Q_NB204_169, Q_NB178_204, Q_NB204_178, Q_BK202_e9, Q_BK203_e10, Q_BK204_e11, Q_X1_, Q_X3_, Q_X5_, Q_X6_, Q_X7_, Q_X8_⟩ hb_ hon hoff
                                  refine ⟨_, rfl, fun K hK => ?_⟩
                                  have e2 : a.tmps[2]? = some (.pointer (some ⟨gb169, 0, none⟩)) := by rw [ha]; exact (putSel_off rfl).trans rfl
                                  replace ha := Aside0.mk ha
                                  have HO_179004 := Aside0.mk (Q_HO_179004 (hoff 1 (by kernel_rfl)))
                                  have BK169 := Aside0.mk Q_BK169
                                  have BK178 := Aside0.mk Q_BK178
                                  have HB := Aside0.mk Q_HB
                                  have hc0_ : w'.cell? ⟨gb169, 0, none⟩ = some (.string a0_0) := (blk_cell BK169.out 0).trans rfl
                                  have hc1_ : w'.cell? ⟨gb169, 1, none⟩ = some (.int .i64 a0_1) := (blk_cell BK169.out 1).trans rfl
                                  have hc2_ : w'.cell? ⟨gb169, 2, none⟩ = some (.int .i64 a0_2) := (blk_cell BK169.out 2).trans rfl
                                  have hc3_ : w'.cell? ⟨gb169, 3, none⟩ = some (.int .i64 a0_3) := (blk_cell BK169.out 3).trans rfl
                                  have hc4_ : w'.cell? ⟨gb169, 4, none⟩ = some (.slice A0_4 l0_4.length c0_4) := (blk_cell BK169.out 4).trans rfl
                                  refine value_ (w1 := w') (v := .agg #[.string a0_0, .int .i64 a0_1, .int .i64 a0_2, .int .i64 a0_3, .slice A0_4 l0_4.length c0_4]) (by rfl) rfl ?_ ?_
                                  · go_simp
                                    (try simp only [i64_w])
                                    try rfl
                                  refine hK.out _ _ ⟨v186, v193, v200, gb202, gb203, gb204, m1_, m3_, m5_, m6_, m7_, m8_, (by rw [ha.out]; exact putSel_upk 0 hb_ rfl rfl rfl), Q_HO_179004, Q_BK169, Q_BK178, Q_HB, Q_NB203_202, Q_NB202_203, Q_NB204_202, Q_NB202_204, Q_NB204_203, Q_NB203_204, fun h0_ _ => absurd ((hoff 1 (by kernel_rfl)).symm.trans h0_) (by decide), fun h0_ _ => absurd ((hoff 1 (by kernel_rfl)).symm.trans h0_) (by decide), fun h0_ _ => absurd ((hoff 3 (by kernel_rfl)).symm.trans h0_) (by decide), fun h0_ _ => absurd ((hoff 3 (by kernel_rfl)).symm.trans h0_) (by decide), fun h0_ _ => absurd ((hoff 3 (by kernel_rfl)).symm.trans h0_) (by decide), fun h0_ => absurd ((hoff 5 (by kernel_rfl)).symm.trans h0_) (by decide), fun h0_ => absurd ((hoff 5 (by kernel_rfl)).symm.trans h0_) (by decide), fun h0_ => absurd ((hoff 5 (by kernel_rfl)).symm.trans h0_) (by decide), fun h0_ => absurd ((hoff 5 (by kernel_rfl)).symm.trans h0_) (by decide), Q_BK202, Q_GW202, Q_GE202, Q_NB169_202, Q_NB202_169, Q_NB178_202, Q_NB202_178, Q_BK203, Q_GW203, Q_GE203, Q_NB169_203, Q_NB203_169, Q_NB178_203, Q_NB203_178, Q_BK204, Q_GW204, Q_GE204, Q_NB169_204, Q_NB204_169, Q_NB178_204, Q_NB204_178, fun h0_ => absurd ((hoff 9 (by kernel_rfl)).symm.trans h0_) (by decide), fun h0_ => absurd ((hoff 10 (by kernel_rfl)).symm.trans h0_) (by decide), fun h0_ => absurd ((hoff 11 (by kernel_rfl)).symm.trans h0_) (by decide), fun h0_ => absurd ((hoff 1 (by kernel_rfl)).symm.trans h0_) (by decide), fun h0_ => absurd ((hoff 3 (by kernel_rfl)).symm.trans h0_) (by decide), fun h0_ => absurd ((hoff 5 (by kernel_rfl)).symm.trans h0_) (by decide), Q_X6_, Q_X7_, Q_X8_⟩
                                refine steps_cons ?_ ?_
                                · rintro b a w' ⟨v186, v193, v200, gb202, gb203, gb204, m1_, m3_, m5_, m6_, m7_, m8_, ha, Q_HO_179004, Q_BK169, Q_BK178, Q_HB, Q_NB203_202, Q_NB202_203, Q_NB204_202, Q_NB202_204, Q_NB204_203, Q_NB203_204, Q_HO187, Q_HO_179004_e1, Q_HO187_e3, Q_HO194, Q_HO_179004_e3, Q_HO187_e5, Q_HO194_e5, Q_HO201, Q_HO_179004_e5, Q_BK202, Q_GW202, Q_GE202, Q_NB169_202, Q_NB202_169, Q_NB178_202, Q_NB202_178, Q_BK203, Q_GW203, Q_GE203, Q_NB169_203, Q_NB203_169, Q_NB178_203, Q_NB203_178, Q_BK204, Q_GW204, Q_GE204, Q_NB169_204, Q_NB204_169, Q_NB178_204, Q_NB204_178, Q_BK202_e9, Q_BK203_e10, Q_BK204_e11, Q_X1_, Q_X3_, Q_X5_, Q_X6_, Q_X7_, Q_X8_⟩ hb_ hon hoff
                                  refine ⟨_, rfl, fun K hK => ?_⟩
                                  have e59 : a.tmps[59]? = some (.agg #[.string a0_0, .int .i64 a0_1, .int .i64 a0_2, .int .i64 a0_3, .slice A0_4 l0_4.length c0_4]) := by rw [ha]; exact putSel_on (e := (0, 59, .agg #[.string a0_0, .int .i64 a0_1, .int .i64 a0_2, .int .i64 a0_3, .slice A0_4 l0_4.length c0_4])) 0 rfl rfl (hon 0 (by kernel_rfl)) rfl
                                  replace ha := Aside0.mk ha
                                  have HO_179004 := Aside0.mk (Q_HO_179004 hb_)
                                  have BK169 := Aside0.mk Q_BK169
                                  have BK178 := Aside0.mk Q_BK178
                                  have HB := Aside0.mk Q_HB
                                  refine goes_ Try.func16 (by kernel_rfl) rfl #[.agg #[.string a0_0, .int .i64 a0_1, .int .i64 a0_2, .int .i64 a0_3, .slice A0_4 l0_4.length c0_4]] (by rfl) rfl rfl (by first | (simp only [List.map_toArray, List.map_cons, List.map_nil, Act.eval, Array.getD_eq_getD_getElem?, Option.getD_some, e59]; done) | (simp only [List.map_toArray, List.map_cons, List.map_nil, Act.eval, Array.getD_eq_getD_getElem?, Option.getD_some, e59]; rfl)) ?_
                                  with_reducible refine (prolixlaw18_To.calls kj35 a0_0 a0_1 a0_2 a0_3 _ _ l0_4 t181 t182 t183 t184 t185 _ ?side1 ?side2 A45.out).mono ?_
                                  (case side1 => repeat (first | exact (Kd.C_below HR0_4.out HB.out) | (with_reducible refine Kd.C_alloc ?_ _) | (with_reducible refine Kd.C_drewN ?_ _) | (with_reducible refine Kd.C_drew ?_)))
                                  (case side2 => exact HC0_4.out)
                                  rintro e w58 ⟨v186, rfl, ho0, hb⟩
                                  refine ⟨_, rfl, ?_⟩
                                  have n0_ := Aside0.mk (Kd.R_elder' (by (with_reducible repeat (first | apply Kd.R_alloc | apply Kd.R_drewN | apply Kd.R_drew)); exact HO_179004.out) (Kd.R_base ho0) hb)
                                  have n1_ := Aside0.mk (Kd.R_lower (Kd.R_new' ho0 (Kd.R_lt (by (with_reducible repeat (first | apply Kd.R_alloc | apply Kd.R_drewN | apply Kd.R_drew)); exact HO_179004.out))) (below_size (by repeat (first | (with_reducible first | exact HB.out | apply below_alloc | apply pw_below_drewN | apply below_drew1 | refine below_set ?_ GE169.out | refine below_set ?_ GE178.out) | exact HB.out))))
                                  have n2_ := Aside0.mk (blk_below (g := gb169) (o := .cells #[.string a0_0, .int .i64 a0_1, .int .i64 a0_2, .int .i64 a0_3, .slice A0_4 l0_4.length c0_4] 24 (0, 0)) (by (with_reducible repeat (first | refine blk_drewN ?_ _ | refine blk_drew ?_ | refine blk_alloc ?_ _)); exact BK169.out) hb)
                                  have n3_ := Aside0.mk (blk_below (g := gb178) (o := .cells #[.string t171, .int .i64 t172, .int .i64 t173, .int .i64 t174, .slice Ao19 t175.length co19] 28 (0, 0)) (by (with_reducible repeat (first | refine blk_drewN ?_ _ | refine blk_drew ?_ | refine blk_alloc ?_ _)); exact BK178.out) hb)
                                  have n4_ := Aside0.mk (below_step (by repeat (first | (with_reducible first | exact HB.out | apply below_alloc | apply pw_below_drewN | apply below_drew1 | refine below_set ?_ GE169.out | refine below_set ?_ GE178.out) | exact HB.out)) hb)
                                  have z_BK202 := fun (h0_ : b 6 = true) (h1_ : b 9 = false) => (show w58.heap[gb202]? = some (.cells #[.string (⟨#[]⟩ : ByteArray), .int .i64 0, .int .i64 0, .int .i64 0, .slice none 0 0] 28 (0, 0)) from by first | exact (blk_below (g := gb202) (o := .cells #[.string (⟨#[]⟩ : ByteArray), .int .i64 0, .int .i64 0, .int .i64 0, .slice none 0 0] 28 (0, 0)) (by (with_reducible repeat (first | refine blk_drewN ?_ _ | refine blk_drew ?_ | refine blk_alloc ?_ _)); exact (Q_BK202 h0_ h1_)) hb))
                                  have z_BK203 := fun (h0_ : b 7 = true) (h1_ : b 10 = false) => (show w58.heap[gb203]? = some (.cells #[.string (⟨#[]⟩ : ByteArray), .int .i64 0, .int .i64 0, .int .i64 0, .slice none 0 0] 28 (0, 0)) from by first | exact (blk_below (g := gb203) (o := .cells #[.string (⟨#[]⟩ : ByteArray), .int .i64 0, .int .i64 0, .int .i64 0, .slice none 0 0] 28 (0, 0)) (by (with_reducible repeat (first | refine blk_drewN ?_ _ | refine blk_drew ?_ | refine blk_alloc ?_ _)); exact (Q_BK203 h0_ h1_)) hb))
                                  have z_BK204 := fun (h0_ : b 8 = true) (h1_ : b 11 = false) => (show w58.heap[gb204]? = some (.cells #[.string (⟨#[]⟩ : ByteArray), .int .i64 0, .int .i64 0, .int .i64 0, .slice none 0 0] 28 (0, 0)) from by first | exact (blk_below (g := gb204) (o := .cells #[.string (⟨#[]⟩ : ByteArray), .int .i64 0, .int .i64 0, .int .i64 0, .slice none 0 0] 28 (0, 0)) (by (with_reducible repeat (first | refine blk_drewN ?_ _ | refine blk_drew ?_ | refine blk_alloc ?_ _)); exact (Q_BK204 h0_ h1_)) hb))
                                  clear HO_179004
                                  clear BK169
                                  clear BK178
                                  clear HB
                                  have HO_179004 := n0_
                                  have HO187 := n1_
                                  have BK169 := n2_
                                  have BK178 := n3_
                                  have HB := n4_
                                  clear n0_ n1_ n2_ n3_ n4_
                                  (try clear hb)
                                  (try clear hb2)
                                  (try clear hk)
                                  (try clear hi)
                                  (try clear ho0)
                                  refine hK.out _ _ ⟨v186, v193, v200, gb202, gb203, gb204, (.agg #[.string t181, .int .i64 t182, .int .i64 t183, .int .i64 t184, v186]), m3_, m5_, m6_, m7_, m8_, (by rw [ha.out]; exact putSel_upk 1 hb_ rfl rfl rfl), fun h0_ => absurd ((up_self b 1).symm.trans h0_) (by decide), (by (with_reducible repeat (first | refine blk_drewN ?_ _ | refine blk_drew ?_ | refine blk_alloc ?_ _)); exact BK169.out), (by (with_reducible repeat (first | refine blk_drewN ?_ _ | refine blk_drew ?_ | refine blk_alloc ?_ _)); exact BK178.out), (by repeat (first | (with_reducible first | exact HB.out | apply below_alloc | apply pw_below_drewN | apply below_drew1 | refine below_set ?_ GE169.out | refine below_set ?_ GE178.out) | exact HB.out)), Q_NB203_202, Q_NB202_203, Q_NB204_202, Q_NB202_204, Q_NB204_203, Q_NB203_204, fun _ _ => (by (with_reducible repeat (first | apply Kd.R_alloc | apply Kd.R_drewN | apply Kd.R_drew)); exact Kd.R_mono HO187.out (fun _ hk => hk.2)), fun _ _ => (by (with_reducible repeat (first | apply Kd.R_alloc | apply Kd.R_drewN | apply Kd.R_drew)); exact Kd.R_mono HO_179004.out (fun _ hk => hk.2)), fun h0_ _ => absurd ((hoff 3 (by kernel_rfl)).symm.trans h0_) (by decide), fun h0_ _ => absurd ((hoff 3 (by kernel_rfl)).symm.trans h0_) (by decide), fun h0_ _ => absurd ((hoff 3 (by kernel_rfl)).symm.trans h0_) (by decide), fun h0_ => absurd ((hoff 5 (by kernel_rfl)).symm.trans h0_) (by decide), fun h0_ => absurd ((hoff 5 (by kernel_rfl)).symm.trans h0_) (by decide), fun h0_ => absurd ((hoff 5 (by kernel_rfl)).symm.trans h0_) (by decide), fun h0_ => absurd ((hoff 5 (by kernel_rfl)).symm.trans h0_) (by decide), z_BK202, Q_GW202, Q_GE202, Q_NB169_202, Q_NB202_169, Q_NB178_202, Q_NB202_178, z_BK203, Q_GW203, Q_GE203, Q_NB169_203, Q_NB203_169, Q_NB178_203, Q_NB203_178, z_BK204, Q_GW204, Q_GE204, Q_NB169_204, Q_NB204_169, Q_NB178_204, Q_NB204_178, fun h0_ => absurd ((hoff 9 (by kernel_rfl)).symm.trans h0_) (by decide), fun h0_ => absurd ((hoff 10 (by kernel_rfl)).symm.trans h0_) (by decide), fun h0_ => absurd ((hoff 11 (by kernel_rfl)).symm.trans h0_) (by decide), fun _ => rfl, fun h0_ => absurd ((hoff 3 (by kernel_rfl)).symm.trans h0_) (by decide), fun h0_ => absurd ((hoff 5 (by kernel_rfl)).symm.trans h0_) (by decide), Q_X6_, Q_X7_, Q_X8_⟩
                                refine steps_cons ?_ ?_
                                · rintro b a w' ⟨v186, v193, v200, gb202, gb203, gb204, m1_, m3_, m5_, m6_, m7_, m8_, ha, Q_HO_179004, Q_BK169, Q_BK178, Q_HB, Q_NB203_202, Q_NB202_203, Q_NB204_202, Q_NB202_204, Q_NB204_203, Q_NB203_204, Q_HO187, Q_HO_179004_e1, Q_HO187_e3, Q_HO194, Q_HO_179004_e3, Q_HO187_e5, Q_HO194_e5, Q_HO201, Q_HO_179004_e5, Q_BK202, Q_GW202, Q_GE202, Q_NB169_202, Q_NB202_169, Q_NB178_202, Q_NB202_178, Q_BK203, Q_GW203, Q_GE203, Q_NB169_203, Q_NB203_169, Q_NB178_203, Q_NB203_178, Q_BK204, Q_GW204, Q_GE204, Q_NB169_204, Q_NB204_169, Q_NB178_204, Q_NB204_178, Q_BK202_e9, Q_BK203_e10, Q_BK204_e11, Q_X1_, Q_X3_, Q_X5_, Q_X6_, Q_X7_, Q_X8_⟩ hb_ hon hoff
                                  refine ⟨_, rfl, fun K hK => ?_⟩
                                  have e2 : a.tmps[2]? = some (.pointer (some ⟨gb169, 0, none⟩)) := by rw [ha]; exact (putSel_off rfl).trans rfl
                                  replace ha := Aside0.mk ha
                                  have BK169 := Aside0.mk Q_BK169
                                  have BK178 := Aside0.mk Q_BK178
                                  have HB := Aside0.mk Q_HB
                                  have hc0_ : w'.cell? ⟨gb169, 0, none⟩ = some (.string a0_0) := (blk_cell BK169.out 0).trans rfl
                                  have hc1_ : w'.cell? ⟨gb169, 1, none⟩ = some (.int .i64 a0_1) := (blk_cell BK169.out 1).trans rfl
                                  have hc2_ : w'.cell? ⟨gb169, 2, none⟩ = some (.int .i64 a0_2) := (blk_cell BK169.out 2).trans rfl
                                  have hc3_ : w'.cell? ⟨gb169, 3, none⟩ = some (.int .i64 a0_3) := (blk_cell BK169.out 3).trans rfl
                                  have hc4_ : w'.cell? ⟨gb169, 4, none⟩ = some (.slice A0_4 l0_4.length c0_4) := (blk_cell BK169.out 4).trans rfl
                                  refine value_ (w1 := w') (v := .agg #[.string a0_0, .int .i64 a0_1, .int .i64 a0_2, .int .i64 a0_3, .slice A0_4 l0_4.length c0_4]) (by rfl) rfl ?_ ?_
                                  · go_simp
                                    (try simp only [i64_w])
                                    try rfl
                                  refine hK.out _ _ ⟨v186, v193, v200, gb202, gb203, gb204, m1_, m3_, m5_, m6_, m7_, m8_, (by rw [ha.out]; exact putSel_upk 2 hb_ rfl rfl rfl), Q_HO_179004, Q_BK169, Q_BK178, Q_HB, Q_NB203_202, Q_NB202_203, Q_NB204_202, Q_NB202_204, Q_NB204_203, Q_NB203_204, Q_HO187, Q_HO_179004_e1, fun h0_ _ => absurd ((hoff 3 (by kernel_rfl)).symm.trans h0_) (by decide), fun h0_ _ => absurd ((hoff 3 (by kernel_rfl)).symm.trans h0_) (by decide), fun h0_ _ => absurd ((hoff 3 (by kernel_rfl)).symm.trans h0_) (by decide), fun h0_ => absurd ((hoff 5 (by kernel_rfl)).symm.trans h0_) (by decide), fun h0_ => absurd ((hoff 5 (by kernel_rfl)).symm.trans h0_) (by decide), fun h0_ => absurd ((hoff 5 (by kernel_rfl)).symm.trans h0_) (by decide), fun h0_ => absurd ((hoff 5 (by kernel_rfl)).symm.trans h0_) (by decide), Q_BK202, Q_GW202, Q_GE202, Q_NB169_202, Q_NB202_169, Q_NB178_202, Q_NB202_178, Q_BK203, Q_GW203, Q_GE203, Q_NB169_203, Q_NB203_169, Q_NB178_203, Q_NB203_178, Q_BK204, Q_GW204, Q_GE204, Q_NB169_204, Q_NB204_169, Q_NB178_204, Q_NB204_178, fun h0_ => absurd ((hoff 9 (by kernel_rfl)).symm.trans h0_) (by decide), fun h0_ => absurd ((hoff 10 (by kernel_rfl)).symm.trans h0_) (by decide), fun h0_ => absurd ((hoff 11 (by kernel_rfl)).symm.trans h0_) (by decide), Q_X1_, fun h0_ => absurd ((hoff 3 (by kernel_rfl)).symm.trans h0_) (by decide), fun h0_ => absurd ((hoff 5 (by kernel_rfl)).symm.trans h0_) (by decide), Q_X6_, Q_X7_, Q_X8_⟩
                                refine steps_cons ?_ ?_
                                · rintro b a w' ⟨v186, v193, v200, gb202, gb203, gb204, m1_, m3_, m5_, m6_, m7_, m8_, ha, Q_HO_179004, Q_BK169, Q_BK178, Q_HB, Q_NB203_202, Q_NB202_203, Q_NB204_202, Q_NB202_204, Q_NB204_203, Q_NB203_204, Q_HO187, Q_HO_179004_e1, Q_HO187_e3, Q_HO194, Q_HO_179004_e3, Q_HO187_e5, Q_HO194_e5, Q_HO201, Q_HO_179004_e5, Q_BK202, Q_GW202, Q_GE202, Q_NB169_202, Q_NB202_169, Q_NB178_202, Q_NB202_178, Q_BK203, Q_GW203, Q_GE203, Q_NB169_203, Q_NB203_169, Q_NB178_203, Q_NB203_178, Q_BK204, Q_GW204, Q_GE204, Q_NB169_204, Q_NB204_169, Q_NB178_204, Q_NB204_178, Q_BK202_e9, Q_BK203_e10, Q_BK204_e11, Q_X1_, Q_X3_, Q_X5_, Q_X6_, Q_X7_, Q_X8_⟩ hb_ hon hoff
                                  refine ⟨_, rfl, fun K hK => ?_⟩
                                  have e61 : a.tmps[61]? = some (.agg #[.string a0_0, .int .i64 a0_1, .int .i64 a0_2, .int .i64 a0_3, .slice A0_4 l0_4.length c0_4]) := by rw [ha]; exact putSel_on (e := (2, 61, .agg #[.string a0_0, .int .i64 a0_1, .int .i64 a0_2, .int .i64 a0_3, .slice A0_4 l0_4.length c0_4])) 2 rfl rfl (hon 2 (by kernel_rfl)) rfl
                                  replace ha := Aside0.mk ha
                                  have BK169 := Aside0.mk Q_BK169
                                  have BK178 := Aside0.mk Q_BK178
                                  have HB := Aside0.mk Q_HB
                                  have HO187 := Aside0.mk (Q_HO187 (hon 1 (by kernel_rfl)) hb_)
                                  have HO_179004 := Aside0.mk (Q_HO_179004_e1 (hon 1 (by kernel_rfl)) hb_)
                                  refine goes_ Try.func16 (by kernel_rfl) rfl #[.agg #[.string a0_0, .int .i64 a0_1, .int .i64 a0_2, .int .i64 a0_3, .slice A0_4 l0_4.length c0_4]] (by rfl) rfl rfl (by first | (simp only [List.map_toArray, List.map_cons, List.map_nil, Act.eval, Array.getD_eq_getD_getElem?, Option.getD_some, e61]; done) | (simp only [List.map_toArray, List.map_cons, List.map_nil, Act.eval, Array.getD_eq_getD_getElem?, Option.getD_some, e61]; rfl)) ?_
                                  with_reducible refine (prolixlaw18_To.calls kj35 a0_0 a0_1 a0_2 a0_3 _ _ l0_4 t188 t189 t190 t191 t192 _ ?side1 ?side2 A46.out).mono ?_
                                  (case side1 => repeat (first | exact (Kd.C_below HR0_4.out HB.out) | (with_reducible refine Kd.C_alloc ?_ _) | (with_reducible refine Kd.C_drewN ?_ _) | (with_reducible refine Kd.C_drew ?_)))
                                  (case side2 => exact HC0_4.out)
                                  rintro e w60 ⟨v193, rfl, ho0, hb⟩
                                  refine ⟨_, rfl, ?_⟩
                                  have n0_ := Aside0.mk (Kd.R_elder' (by (with_reducible repeat (first | apply Kd.R_alloc | apply Kd.R_drewN | apply Kd.R_drew)); exact HO_179004.out) (Kd.R_base ho0) hb)
                                  have n1_ := Aside0.mk (Kd.R_elder' (by (with_reducible repeat (first | apply Kd.R_alloc | apply Kd.R_drewN | apply Kd.R_drew)); exact HO187.out) (Kd.R_base ho0) hb)
                                  have n2_ := Aside0.mk (Kd.R_lower (Kd.R_new' (Kd.R_new' ho0 (Kd.R_lt (by (with_reducible repeat (first | apply Kd.R_alloc | apply Kd.R_drewN | apply Kd.R_drew)); exact HO_179004.out))) (Kd.R_lt (by (with_reducible repeat (first | apply Kd.R_alloc | apply Kd.R_drewN | apply Kd.R_drew)); exact HO187.out))) (below_size (by repeat (first | (with_reducible first | exact HB.out | apply below_alloc | apply pw_below_drewN | apply below_drew1 | refine below_set ?_ GE169.out | refine below_set ?_ GE178.out) | exact HB.out))))
                                  have n3_ := Aside0.mk (blk_below (g := gb169) (o := .cells #[.string a0_0, .int .i64 a0_1, .int .i64 a0_2, .int .i64 a0_3, .slice A0_4 l0_4.length c0_4] 24 (0, 0)) (by (with_reducible repeat (first | refine blk_drewN ?_ _ | refine blk_drew ?_ | refine blk_alloc ?_ _)); exact BK169.out) hb)
                                  have n4_ := Aside0.mk (blk_below (g := gb178) (o := .cells #[.string t171, .int .i64 t172, .int .i64 t173, .int .i64 t174, .slice Ao19 t175.length co19] 28 (0, 0)) (by (with_reducible repeat (first | refine blk_drewN ?_ _ | refine blk_drew ?_ | refine blk_alloc ?_ _)); exact BK178.out) hb)
                                  have n5_ := Aside0.mk (below_step (by repeat (first | (with_reducible first | exact HB.out | apply below_alloc | apply pw_below_drewN | apply below_drew1 | refine below_set ?_ GE169.out | refine below_set ?_ GE178.out) | exact HB.out)) hb)
                                  have z_BK202 := fun (h0_ : b 6 = true) (h1_ : b 9 = false) => (show w60.heap[gb202]? = some (.cells #[.string (⟨#[]⟩ : ByteArray), .int .i64 0, .int .i64 0, .int .i64 0, .slice none 0 0] 28 (0, 0)) from by first | exact (blk_below (g := gb202) (o := .cells #[.string (⟨#[]⟩ : ByteArray), .int .i64 0, .int .i64 0, .int .i64 0, .slice none 0 0] 28 (0, 0)) (by (with_reducible repeat (first | refine blk_drewN ?_ _ | refine blk_drew ?_ | refine blk_alloc ?_ _)); exact (Q_BK202 h0_ h1_)) hb))
                                  have z_BK203 := fun (h0_ : b 7 = true) (h1_ : b 10 = false) => (show w60.heap[gb203]? = some (.cells #[.string (⟨#[]⟩ : ByteArray), .int .i64 0, .int .i64 0, .int .i64 0, .slice none 0 0] 28 (0, 0)) from by first | exact (blk_below (g := gb203) (o := .cells #[.string (⟨#[]⟩ : ByteArray), .int .i64 0, .int .i64 0, .int .i64 0, .slice none 0 0] 28 (0, 0)) (by (with_reducible repeat (first | refine blk_drewN ?_ _ | refine blk_drew ?_ | refine blk_alloc ?_ _)); exact (Q_BK203 h0_ h1_)) hb))
                                  have z_BK204 := fun (h0_ : b 8 = true) (h1_ : b 11 = false) => (show w60.heap[gb204]? = some (.cells #[.string (⟨#[]⟩ : ByteArray), .int .i64 0, .int .i64 0, .int .i64 0, .slice none 0 0] 28 (0, 0)) from by first | exact (blk_below (g := gb204) (o := .cells #[.string (⟨#[]⟩ : ByteArray), .int .i64 0, .int .i64 0, .int .i64 0, .slice none 0 0] 28 (0, 0)) (by (with_reducible repeat (first | refine blk_drewN ?_ _ | refine blk_drew ?_ | refine blk_alloc ?_ _)); exact (Q_BK204 h0_ h1_)) hb))
                                  clear HO_179004
                                  clear HO187
                                  clear BK169
                                  clear BK178
                                  clear HB
                                  have HO_179004 := n0_
                                  have HO187 := n1_
                                  have HO194 := n2_
                                  have BK169 := n3_
                                  have BK178 := n4_
                                  have HB := n5_
                                  clear n0_ n1_ n2_ n3_ n4_ n5_
                                  (try clear hb)
                                  (try clear hb2)
                                  (try clear hk)
                                  (try clear hi)
                                  (try clear ho0)
                                  refine hK.out _ _ ⟨v186, v193, v200, gb202, gb203, gb204, m1_, (.agg #[.string t188, .int .i64 t189, .int .i64 t190, .int .i64 t191, v193]), m5_, m6_, m7_, m8_, (by rw [ha.out]; exact putSel_upk 3 hb_ rfl rfl rfl), fun h0_ => absurd ((hon 1 (by kernel_rfl)).symm.trans h0_) (by decide), (by (with_reducible repeat (first | refine blk_drewN ?_ _ | refine blk_drew ?_ | refine blk_alloc ?_ _)); exact BK169.out), (by (with_reducible repeat (first | refine blk_drewN ?_ _ | refine blk_drew ?_ | refine blk_alloc ?_ _)); exact BK178.out), (by repeat (first | (with_reducible first | exact HB.out | apply below_alloc | apply pw_below_drewN | apply below_drew1 | refine below_set ?_ GE169.out | refine below_set ?_ GE178.out) | exact HB.out)), Q_NB203_202, Q_NB202_203, Q_NB204_202, Q_NB202_204, Q_NB204_203, Q_NB203_204, fun _ h1_ => absurd ((up_self b 3).symm.trans h1_) (by decide), fun _ h1_ => absurd ((up_self b 3).symm.trans h1_) (by decide), fun _ _ => (by (with_reducible repeat (first | apply Kd.R_alloc | apply Kd.R_drewN | apply Kd.R_drew)); exact Kd.R_mono HO187.out (fun _ hk => by first | exact ⟨hk.2, hk.1⟩ | (simp only [own_len] at hk ⊢; exact ⟨hk.2, hk.1⟩))), fun _ _ => (by (with_reducible repeat (first | apply Kd.R_alloc | apply Kd.R_drewN | apply Kd.R_drew)); exact Kd.R_mono HO194.out (fun _ hk => by first | exact ⟨hk.2, hk.1.2⟩ | (simp only [own_len] at hk ⊢; exact ⟨hk.2, hk.1.2⟩))), fun _ _ => (by (with_reducible repeat (first | apply Kd.R_alloc | apply Kd.R_drewN | apply Kd.R_drew)); exact HO_179004.out), fun h0_ => absurd ((hoff 5 (by kernel_rfl)).symm.trans h0_) (by decide), fun h0_ => absurd ((hoff 5 (by kernel_rfl)).symm.trans h0_) (by decide), fun h0_ => absurd ((hoff 5 (by kernel_rfl)).symm.trans h0_) (by decide), fun h0_ => absurd ((hoff 5 (by kernel_rfl)).symm.trans h0_) (by decide), z_BK202, Q_GW202, Q_GE202, Q_NB169_202, Q_NB202_169, Q_NB178_202, Q_NB202_178, z_BK203, Q_GW203, Q_GE203, Q_NB169_203, Q_NB203_169, Q_NB178_203, Q_NB203_178, z_BK204, Q_GW204, Q_GE204, Q_NB169_204, Q_NB204_169, Q_NB178_204, Q_NB204_178, fun h0_ => absurd ((hoff 9 (by kernel_rfl)).symm.trans h0_) (by decide), fun h0_ => absurd ((hoff 10 (by kernel_rfl)).symm.trans h0_) (by decide), fun h0_ => absurd ((hoff 11 (by kernel_rfl)).symm.trans h0_) (by decide), Q_X1_, fun _ => rfl, fun h0_ => absurd ((hoff 5 (by kernel_rfl)).symm.trans h0_) (by decide), Q_X6_, Q_X7_, Q_X8_⟩
                                refine steps_cons ?_ ?_
                                · rintro b a w' ⟨v186, v193, v200, gb202, gb203, gb204, m1_, m3_, m5_, m6_, m7_, m8_, ha, Q_HO_179004, Q_BK169, Q_BK178, Q_HB, Q_NB203_202, Q_NB202_203, Q_NB204_202, Q_NB202_204, Q_NB204_203, Q_NB203_204, Q_HO187, Q_HO_179004_e1, Q_HO187_e3, Q_HO194, Q_HO_179004_e3, Q_HO187_e5, Q_HO194_e5, Q_HO201, Q_HO_179004_e5, Q_BK202, Q_GW202, Q_GE202, Q_NB169_202, Q_NB202_169, Q_NB178_202, Q_NB202_178, Q_BK203, Q_GW203, Q_GE203, Q_NB169_203, Q_NB203_169, Q_NB178_203, Q_NB203_178, Q_BK204, Q_GW204, Q_GE204, Q_NB169_204, Q_NB204_169, Q_NB178_204, Q_NB204_178, Q_BK202_e9, Q_BK203_e10, Q_BK204_e11, Q_X1_, Q_X3_, Q_X5_, Q_X6_, Q_X7_, Q_X8_⟩ hb_ hon hoff
                                  refine ⟨_, rfl, fun K hK => ?_⟩
                                  have e2 : a.tmps[2]? = some (.pointer (some ⟨gb169, 0, none⟩)) := by rw [ha]; exact (putSel_off rfl).trans rfl
                                  replace ha := Aside0.mk ha
                                  have BK169 := Aside0.mk Q_BK169
                                  have BK178 := Aside0.mk Q_BK178
                                  have HB := Aside0.mk Q_HB
                                  have hc0_ : w'.cell? ⟨gb169, 0, none⟩ = some (.string a0_0) := (blk_cell BK169.out 0).trans rfl
                                  have hc1_ : w'.cell? ⟨gb169, 1, none⟩ = some (.int .i64 a0_1) := (blk_cell BK169.out 1).trans rfl
                                  have hc2_ : w'.cell? ⟨gb169, 2, none⟩ = some (.int .i64 a0_2) := (blk_cell BK169.out 2).trans rfl
                                  have hc3_ : w'.cell? ⟨gb169, 3, none⟩ = some (.int .i64 a0_3) := (blk_cell BK169.out 3).trans rfl
                                  have hc4_ : w'.cell? ⟨gb169, 4, none⟩ = some (.slice A0_4 l0_4.length c0_4) := (blk_cell BK169.out 4).trans rfl
                                  refine value_ (w1 := w') (v := .agg #[.string a0_0, .int .i64 a0_1, .int .i64 a0_2, .int .i64 a0_3, .slice A0_4 l0_4.length c0_4]) (by rfl) rfl ?_ ?_
                                  · go_simp
                                    (try simp only [i64_w])
                                    try rfl
                                  refine hK.out _ _ ⟨v186, v193, v200, gb202, gb203, gb204, m1_, m3_, m5_, m6_, m7_, m8_, (by rw [ha.out]; exact putSel_upk 4 hb_ rfl rfl rfl), Q_HO_179004, Q_BK169, Q_BK178, Q_HB, Q_NB203_202, Q_NB202_203, Q_NB204_202, Q_NB202_204, Q_NB204_203, Q_NB203_204, Q_HO187, Q_HO_179004_e1, Q_HO187_e3, Q_HO194, Q_HO_179004_e3, fun h0_ => absurd ((hoff 5 (by kernel_rfl)).symm.trans h0_) (by decide), fun h0_ => absurd ((hoff 5 (by kernel_rfl)).symm.trans h0_) (by decide), fun h0_ => absurd ((hoff 5 (by kernel_rfl)).symm.trans h0_) (by decide), fun h0_ => absurd ((hoff 5 (by kernel_rfl)).symm.trans h0_) (by decide), Q_BK202, Q_GW202, Q_GE202, Q_NB169_202, Q_NB202_169, Q_NB178_202, Q_NB202_178, Q_BK203, Q_GW203, Q_GE203, Q_NB169_203, Q_NB203_169, Q_NB178_203, Q_NB203_178, Q_BK204, Q_GW204, Q_GE204, Q_NB169_204, Q_NB204_169, Q_NB178_204, Q_NB204_178, fun h0_ => absurd ((hoff 9 (by kernel_rfl)).symm.trans h0_) (by decide), fun h0_ => absurd ((hoff 10 (by kernel_rfl)).symm.trans h0_) (by decide), fun h0_ => absurd ((hoff 11 (by kernel_rfl)).symm.trans h0_) (by decide), Q_X1_, Q_X3_, fun h0_ => absurd ((hoff 5 (by kernel_rfl)).symm.trans h0_) (by decide), Q_X6_, Q_X7_, Q_X8_⟩
                                refine steps_cons ?_ ?_
                                · rintro b a w' ⟨v186, v193, v200, gb202, gb203, gb204, m1_, m3_, m5_, m6_, m7_, m8_, ha, Q_HO_179004, Q_BK169, Q_BK178, Q_HB, Q_NB203_202, Q_NB202_203, Q_NB204_202, Q_NB202_204, Q_NB204_203, Q_NB203_204, Q_HO187, Q_HO_179004_e1, Q_HO187_e3, Q_HO194, Q_HO_179004_e3, Q_HO187_e5, Q_HO194_e5, Q_HO201, Q_HO_179004_e5, Q_BK202, Q_GW202, Q_GE202, Q_NB169_202, Q_NB202_169, Q_NB178_202, Q_NB202_178, Q_BK203, Q_GW203, Q_GE203, Q_NB169_203, Q_NB203_169, Q_NB178_203, Q_NB203_178, Q_BK204, Q_GW204, Q_GE204, Q_NB169_204, Q_NB204_169, Q_NB178_204, Q_NB204_178, Q_BK202_e9, Q_BK203_e10, Q_BK204_e11, Q_X1_, Q_X3_, Q_X5_, Q_X6_, Q_X7_, Q_X8_⟩ hb_ hon hoff
                                  refine ⟨_, rfl, fun K hK => ?_⟩
                                  have e63 : a.tmps[63]? = some (.agg #[.string a0_0, .int .i64 a0_1, .int .i64 a0_2, .int .i64 a0_3, .slice A0_4 l0_4.length c0_4]) := by rw [ha]; exact putSel_on (e := (4, 63, .agg #[.string a0_0, .int .i64 a0_1, .int .i64 a0_2, .int .i64 a0_3, .slice A0_4 l0_4.length c0_4])) 4 rfl rfl (hon 4 (by kernel_rfl)) rfl
                                  replace ha := Aside0.mk ha
                                  have BK169 := Aside0.mk Q_BK169
                                  have BK178 := Aside0.mk Q_BK178
                                  have HB := Aside0.mk Q_HB
                                  have HO187 := Aside0.mk (Q_HO187_e3 (hon 3 (by kernel_rfl)) hb_)
                                  have HO194 := Aside0.mk (Q_HO194 (hon 3 (by kernel_rfl)) hb_)
                                  have HO_179004 := Aside0.mk (Q_HO_179004_e3 (hon 3 (by kernel_rfl)) hb_)
                                  refine goes_ Try.func16 (by kernel_rfl) rfl #[.agg #[.string a0_0, .int .i64 a0_1, .int .i64 a0_2, .int .i64 a0_3, .slice A0_4 l0_4.length c0_4]] (by rfl) rfl rfl (by first | (simp only [List.map_toArray, List.map_cons, List.map_nil, Act.eval, Array.getD_eq_getD_getElem?, Option.getD_some, e63]; done) | (simp only [List.map_toArray, List.map_cons, List.map_nil, Act.eval, Array.getD_eq_getD_getElem?, Option.getD_some, e63]; rfl)) ?_
                                  with_reducible refine (prolixlaw18_To.calls kj35 a0_0 a0_1 a0_2 a0_3 _ _ l0_4 t195 t196 t197 t198 t199 _ ?side1 ?side2 A47.out).mono ?_
                                  (case side1 => repeat (first | exact (Kd.C_below HR0_4.out HB.out) | (with_reducible refine Kd.C_alloc ?_ _) | (with_reducible refine Kd.C_drewN ?_ _) | (with_reducible refine Kd.C_drew ?_)))
                                  (case side2 => exact HC0_4.out)
                                  rintro e w61 ⟨v200, rfl, ho0, hb⟩
                                  refine ⟨_, rfl, ?_⟩
                                  have n0_ := Aside0.mk (Kd.R_elder' (by (with_reducible repeat (first | apply Kd.R_alloc | apply Kd.R_drewN | apply Kd.R_drew)); exact HO_179004.out) (Kd.R_base ho0) hb)
                                  have n1_ := Aside0.mk (Kd.R_elder' (by (with_reducible repeat (first | apply Kd.R_alloc | apply Kd.R_drewN | apply Kd.R_drew)); exact HO187.out) (Kd.R_base ho0) hb)
                                  have n2_ := Aside0.mk (Kd.R_elder' (by (with_reducible repeat (first | apply Kd.R_alloc | apply Kd.R_drewN | apply Kd.R_drew)); exact HO194.out) (Kd.R_base ho0) hb)
                                  have n3_ := Aside0.mk (Kd.R_lower (Kd.R_new' (Kd.R_new' (Kd.R_new' ho0 (Kd.R_lt (by (with_reducible repeat (first | apply Kd.R_alloc | apply Kd.R_drewN | apply Kd.R_drew)); exact HO_179004.out))) (Kd.R_lt (by (with_reducible repeat (first | apply Kd.R_alloc | apply Kd.R_drewN | apply Kd.R_drew)); exact HO187.out))) (Kd.R_lt (by (with_reducible repeat (first | apply Kd.R_alloc | apply Kd.R_drewN | apply Kd.R_drew)); exact HO194.out))) (below_size (by repeat (first | (with_reducible first | exact HB.out | apply below_alloc | apply pw_below_drewN | apply below_drew1 | refine below_set ?_ GE169.out | refine below_set ?_ GE178.out) | exact HB.out))))
                                  have n4_ := Aside0.mk (blk_below (g := gb169) (o := .cells #[.string a0_0, .int .i64 a0_1, .int .i64 a0_2, .int .i64 a0_3, .slice A0_4 l0_4.length c0_4] 24 (0, 0)) (by (with_reducible repeat (first | refine blk_drewN ?_ _ | refine blk_drew ?_ | refine blk_alloc ?_ _)); exact BK169.out) hb)
                                  have n5_ := Aside0.mk (blk_below (g := gb178) (o := .cells #[.string t171, .int .i64 t172, .int .i64 t173, .int .i64 t174, .slice Ao19 t175.length co19] 28 (0, 0)) (by (with_reducible repeat (first | refine blk_drewN ?_ _ | refine blk_drew ?_ | refine blk_alloc ?_ _)); exact BK178.out) hb)
                                  have n6_ := Aside0.mk (below_step (by repeat (first | (with_reducible first | exact HB.out | apply below_alloc | apply pw_below_drewN | apply below_drew1 | refine below_set ?_ GE169.out | refine below_set ?_ GE178.out) | exact HB.out)) hb)
                                  have z_BK202 := fun (h0_ : b 6 = true) (h1_ : b 9 = false) => (show w61.heap[gb202]? = some (.cells #[.string (⟨#[]⟩ : ByteArray), .int .i64 0, .int .i64 0, .int .i64 0, .slice none 0 0] 28 (0, 0)) from by first | exact (blk_below (g := gb202) (o := .cells #[.string (⟨#[]⟩ : ByteArray), .int .i64 0, .int .i64 0, .int .i64 0, .slice none 0 0] 28 (0, 0)) (by (with_reducible repeat (first | refine blk_drewN ?_ _ | refine blk_drew ?_ | refine blk_alloc ?_ _)); exact (Q_BK202 h0_ h1_)) hb))
                                  have z_BK203 := fun (h0_ : b 7 = true) (h1_ : b 10 = false) => (show w61.heap[gb203]? = some (.cells #[.string (⟨#[]⟩ : ByteArray), .int .i64 0, .int .i64 0, .int .i64 0, .slice none 0 0] 28 (0, 0)) from by first | exact (blk_below (g := gb203) (o := .cells #[.string (⟨#[]⟩ : ByteArray), .int .i64 0, .int .i64 0, .int .i64 0, .slice none 0 0] 28 (0, 0)) (by (with_reducible repeat (first | refine blk_drewN ?_ _ | refine blk_drew ?_ | refine blk_alloc ?_ _)); exact (Q_BK203 h0_ h1_)) hb))
                                  have z_BK204 := fun (h0_ : b 8 = true) (h1_ : b 11 = false) => (show w61.heap[gb204]? = some (.cells #[.string (⟨#[]⟩ : ByteArray), .int .i64 0, .int .i64 0, .int .i64 0, .slice none 0 0] 28 (0, 0)) from by first | exact (blk_below (g := gb204) (o := .cells #[.string (⟨#[]⟩ : ByteArray), .int .i64 0, .int .i64 0, .int .i64 0, .slice none 0 0] 28 (0, 0)) (by (with_reducible repeat (first | refine blk_drewN ?_ _ | refine blk_drew ?_ | refine blk_alloc ?_ _)); exact (Q_BK204 h0_ h1_)) hb))
                                  clear HO_179004
                                  clear HO187
                                  clear HO194
                                  clear BK169
                                  clear BK178
                                  clear HB
                                  have HO_179004 := n0_
                                  have HO187 := n1_
                                  have HO194 := n2_
                                  have HO201 := n3_
                                  have BK169 := n4_
                                  have BK178 := n5_
                                  have HB := n6_
                                  clear n0_ n1_ n2_ n3_ n4_ n5_ n6_
                                  (try clear hb)
                                  (try clear hb2)
                                  (try clear hk)
                                  (try clear hi)
                                  (try clear ho0)
                                  refine hK.out _ _ ⟨v186, v193, v200, gb202, gb203, gb204, m1_, m3_, (.agg #[.string t195, .int .i64 t196, .int .i64 t197, .int .i64 t198, v200]), m6_, m7_, m8_, (by rw [ha.out]; exact putSel_upk 5 hb_ rfl rfl rfl), fun h0_ => absurd ((hon 1 (by kernel_rfl)).symm.trans h0_) (by decide), (by (with_reducible repeat (first | refine blk_drewN ?_ _ | refine blk_drew ?_ | refine blk_alloc ?_ _)); exact BK169.out), (by (with_reducible repeat (first | refine blk_drewN ?_ _ | refine blk_drew ?_ | refine blk_alloc ?_ _)); exact BK178.out), (by repeat (first | (with_reducible first | exact HB.out | apply below_alloc | apply pw_below_drewN | apply below_drew1 | refine below_set ?_ GE169.out | refine below_set ?_ GE178.out) | exact HB.out)), Q_NB203_202, Q_NB202_203, Q_NB204_202, Q_NB202_204, Q_NB204_203, Q_NB203_204, fun _ h1_ => absurd ((hon 3 (by kernel_rfl)).symm.trans h1_) (by decide), fun _ h1_ => absurd ((hon 3 (by kernel_rfl)).symm.trans h1_) (by decide), fun _ h1_ => absurd ((up_self b 5).symm.trans h1_) (by decide), fun _ h1_ => absurd ((up_self b 5).symm.trans h1_) (by decide), fun _ h1_ => absurd ((up_self b 5).symm.trans h1_) (by decide), fun _ => (by (with_reducible repeat (first | apply Kd.R_alloc | apply Kd.R_drewN | apply Kd.R_drew)); exact Kd.R_mono HO187.out (fun _ hk => by first | exact ⟨hk.1.1, ⟨hk.2, hk.1.2⟩⟩ | (simp only [own_len] at hk ⊢; exact ⟨hk.1.1, ⟨hk.2, hk.1.2⟩⟩))), fun _ => (by (with_reducible repeat (first | apply Kd.R_alloc | apply Kd.R_drewN | apply Kd.R_drew)); exact Kd.R_mono HO194.out (fun _ hk => by first | exact ⟨hk.1.1, ⟨hk.2, hk.1.2⟩⟩ | (simp only [own_len] at hk ⊢; exact ⟨hk.1.1, ⟨hk.2, hk.1.2⟩⟩))), fun _ => (by (with_reducible repeat (first | apply Kd.R_alloc | apply Kd.R_drewN | apply Kd.R_drew)); exact Kd.R_mono HO201.out (fun _ hk => by first | exact ⟨hk.1.2, ⟨hk.2, hk.1.1.2⟩⟩ | (simp only [own_len] at hk ⊢; exact ⟨hk.1.2, ⟨hk.2, hk.1.1.2⟩⟩))), fun _ => (by (with_reducible repeat (first | apply Kd.R_alloc | apply Kd.R_drewN | apply Kd.R_drew)); exact Kd.R_mono HO_179004.out (fun _ hk => by first | exact ⟨hk.1.1, ⟨hk.1.2, hk.2⟩⟩ | (simp only [own_len] at hk ⊢; exact ⟨hk.1.1, ⟨hk.1.2, hk.2⟩⟩))), z_BK202, Q_GW202, Q_GE202, Q_NB169_202, Q_NB202_169, Q_NB178_202, Q_NB202_178, z_BK203, Q_GW203, Q_GE203, Q_NB169_203, Q_NB203_169, Q_NB178_203, Q_NB203_178, z_BK204, Q_GW204, Q_GE204, Q_NB169_204, Q_NB204_169, Q_NB178_204, Q_NB204_178, fun h0_ => absurd ((hoff 9 (by kernel_rfl)).symm.trans h0_) (by decide), fun h0_ => absurd ((hoff 10 (by kernel_rfl)).symm.trans h0_) (by decide), fun h0_ => absurd ((hoff 11 (by kernel_rfl)).symm.trans h0_) (by decide), Q_X1_, Q_X3_, fun _ => rfl, Q_X6_, Q_X7_, Q_X8_⟩
                                refine steps_cons ?_ ?_
                                · rintro b a w' ⟨v186, v193, v200, gb202, gb203, gb204, m1_, m3_, m5_, m6_, m7_, m8_, ha, Q_HO_179004, Q_BK169, Q_BK178, Q_HB, Q_NB203_202, Q_NB202_203, Q_NB204_202, Q_NB202_204, Q_NB204_203, Q_NB203_204, Q_HO187, Q_HO_179004_e1, Q_HO187_e3, Q_HO194, Q_HO_179004_e3, Q_HO187_e5, Q_HO194_e5, Q_HO201, Q_HO_179004_e5, Q_BK202, Q_GW202, Q_GE202, Q_NB169_202, Q_NB202_169, Q_NB178_202, Q_NB202_178, Q_BK203, Q_GW203, Q_GE203, Q_NB169_203, Q_NB203_169, Q_NB178_203, Q_NB203_178, Q_BK204, Q_GW204, Q_GE204, Q_NB169_204, Q_NB204_169, Q_NB178_204, Q_NB204_178, Q_BK202_e9, Q_BK203_e10, Q_BK204_e11, Q_X1_, Q_X3_, Q_X5_, Q_X6_, Q_X7_, Q_X8_⟩ hb_ hon hoff
                                  refine ⟨_, rfl, fun K hK => ?_⟩
                                  replace ha := Aside0.mk ha
                                  have BK169 := Aside0.mk Q_BK169
                                  have BK178 := Aside0.mk Q_BK178
                                  have HB := Aside0.mk Q_HB
                                  refine box_step ?hg (N := 8) ?hd (cs := #[.string (⟨#[]⟩ : ByteArray), .int .i64 0, .int .i64 0, .int .i64 0, .slice none 0 0]) (t := 28) ?hr ?_; (case hd => rfl); (case hg => rfl); (case hr => first | (go_simp; done) | (go_simp; rfl))
                                  intro gb202 hg w58 hbox hb
                                  have n1_ := Aside0.mk (blk_below (g := gb169) (o := .cells #[.string a0_0, .int .i64 a0_1, .int .i64 a0_2, .int .i64 a0_3, .slice A0_4 l0_4.length c0_4] 24 (0, 0)) (by (with_reducible repeat (first | refine blk_drewN ?_ _ | refine blk_drew ?_ | refine blk_alloc ?_ _)); exact BK169.out) hb)
                                  have n2_ := Aside0.mk (blk_below (g := gb178) (o := .cells #[.string t171, .int .i64 t172, .int .i64 t173, .int .i64 t174, .slice Ao19 t175.length co19] 28 (0, 0)) (by (with_reducible repeat (first | refine blk_drewN ?_ _ | refine blk_drew ?_ | refine blk_alloc ?_ _)); exact BK178.out) hb)
                                  have n3_ := Aside0.mk (below_step (by repeat (first | (with_reducible first | exact HB.out | apply below_alloc | apply pw_below_drewN | apply below_drew1 | refine below_set ?_ GE169.out | refine below_set ?_ GE178.out) | exact HB.out)) hb)
                                  have n4_ := Aside0.mk (hbox)
                                  have n5_ := Aside0.mk ((by rw [hg]; exact (below_size (by repeat (first | (with_reducible first | exact HB.out | apply below_alloc | apply pw_below_drewN | apply below_drew1 | refine below_set ?_ GE169.out | refine below_set ?_ GE178.out) | exact HB.out))) : w.heap.size ≤ gb202))
                                  have n6_ := Aside0.mk ((by rw [hg]; exact (below_size (by repeat (first | (with_reducible first | exact HB.out | apply below_alloc | apply pw_below_drewN | apply below_drew1 | refine below_set ?_ GE169.out | refine below_set ?_ GE178.out) | exact HB.out))) : w.heap.size ≤ gb202))
                                  have n7_ := Aside0.mk ((by rw [hg]; exact Nat.ne_of_lt (blk_lt (g := gb169) (o := .cells #[.string a0_0, .int .i64 a0_1, .int .i64 a0_2, .int .i64 a0_3, .slice A0_4 l0_4.length c0_4] 24 (0, 0)) (by (with_reducible repeat (first | refine blk_drewN ?_ _ | refine blk_drew ?_ | refine blk_alloc ?_ _)); exact BK169.out)) : gb169 ≠ gb202))
                                  have n8_ := Aside0.mk ((by rw [hg]; exact Nat.ne_of_gt (blk_lt (g := gb169) (o := .cells #[.string a0_0, .int .i64 a0_1, .int .i64 a0_2, .int .i64 a0_3, .slice A0_4 l0_4.length c0_4] 24 (0, 0)) (by (with_reducible repeat (first | refine blk_drewN ?_ _ | refine blk_drew ?_ | refine blk_alloc ?_ _)); exact BK169.out)) : gb202 ≠ gb169))
                                  have n9_ := Aside0.mk ((by rw [hg]; exact Nat.ne_of_lt (blk_lt (g := gb178) (o := .cells #[.string t171, .int .i64 t172, .int .i64 t173, .int .i64 t174, .slice Ao19 t175.length co19] 28 (0, 0)) (by (with_reducible repeat (first | refine blk_drewN ?_ _ | refine blk_drew ?_ | refine blk_alloc ?_ _)); exact BK178.out)) : gb178 ≠ gb202))
                                  have n10_ := Aside0.mk ((by rw [hg]; exact Nat.ne_of_gt (blk_lt (g := gb178) (o := .cells #[.string t171, .int .i64 t172, .int .i64 t173, .int .i64 t174, .slice Ao19 t175.length co19] 28 (0, 0)) (by (with_reducible repeat (first | refine blk_drewN ?_ _ | refine blk_drew ?_ | refine blk_alloc ?_ _)); exact BK178.out)) : gb202 ≠ gb178))
                                  have z_HO_179004 := fun (h0_ : b 1 = false) => (show Kd.R k39 39 w58 w.heap.size (fun _ => True) (.slice Ao19 t175.length co19) t175 from by first | exact (Kd.R_below (by (with_reducible repeat (first | apply Kd.R_alloc | apply Kd.R_drewN | apply Kd.R_drew)); exact (Q_HO_179004 h0_)) hb) | exact Kd.R_mono (Kd.R_below (by (with_reducible repeat (first | apply Kd.R_alloc | apply Kd.R_drewN | apply Kd.R_drew)); exact (Q_HO_179004 h0_)) hb) (fun _ h_ => by first | trivial | exact h_ | exact h_.1))
                                  have z_NB203_202 := fun (h0_ : up b 6 6 = true) (h1_ : up b 6 7 = true) => (show gb203 ≠ gb202 from ((by rw [hg]; exact Nat.ne_of_lt (blk_lt (g := gb203) (o := .cells #[.string (⟨#[]⟩ : ByteArray), .int .i64 0, .int .i64 0, .int .i64 0, .slice none 0 0] 28 (0, 0)) (by (with_reducible repeat (first | refine blk_drewN ?_ _ | refine blk_drew ?_ | refine blk_alloc ?_ _)); exact (Q_BK203 h1_ (hoff 10 (by kernel_rfl))))) : gb203 ≠ gb202)))
                                  have z_NB202_203 := fun (h0_ : up b 6 6 = true) (h1_ : up b 6 7 = true) => (show gb202 ≠ gb203 from ((by rw [hg]; exact Nat.ne_of_gt (blk_lt (g := gb203) (o := .cells #[.string (⟨#[]⟩ : ByteArray), .int .i64 0, .int .i64 0, .int .i64 0, .slice none 0 0] 28 (0, 0)) (by (with_reducible repeat (first | refine blk_drewN ?_ _ | refine blk_drew ?_ | refine blk_alloc ?_ _)); exact (Q_BK203 h1_ (hoff 10 (by kernel_rfl))))) : gb202 ≠ gb203)))
                                  have z_NB204_202 := fun (h0_ : up b 6 6 = true) (h1_ : up b 6 8 = true) => (show gb204 ≠ gb202 from ((by rw [hg]; exact Nat.ne_of_lt (blk_lt (g := gb204) (o := .cells #[.string (⟨#[]⟩ : ByteArray), .int .i64 0, .int .i64 0, .int .i64 0, .slice none 0 0] 28 (0, 0)) (by (with_reducible repeat (first | refine blk_drewN ?_ _ | refine blk_drew ?_ | refine blk_alloc ?_ _)); exact (Q_BK204 h1_ (hoff 11 (by kernel_rfl))))) : gb204 ≠ gb202)))
                                  have z_NB202_204 := fun (h0_ : up b 6 6 = true) (h1_ : up b 6 8 = true) => (show gb202 ≠ gb204 from ((by rw [hg]; exact Nat.ne_of_gt (blk_lt (g := gb204) (o := .cells #[.string (⟨#[]⟩ : ByteArray), .int .i64 0, .int .i64 0, .int .i64 0, .slice none 0 0] 28 (0, 0)) (by (with_reducible repeat (first | refine blk_drewN ?_ _ | refine blk_drew ?_ | refine blk_alloc ?_ _)); exact (Q_BK204 h1_ (hoff 11 (by kernel_rfl))))) : gb202 ≠ gb204)))
                                  have z_HO187 := fun (h0_ : b 1 = true) (h1_ : b 3 = false) => (show Kd.R k39 39 w58 w.heap.size (fun k_ => some k_ ≠ (.slice Ao19 t175.length co19 : Value).ownBlock) v186 t185 from by first | exact (Kd.R_below (by (with_reducible repeat (first | apply Kd.R_alloc | apply Kd.R_drewN | apply Kd.R_drew)); exact (Q_HO187 h0_ h1_)) hb) | exact Kd.R_mono (Kd.R_below (by (with_reducible repeat (first | apply Kd.R_alloc | apply Kd.R_drewN | apply Kd.R_drew)); exact (Q_HO187 h0_ h1_)) hb) (fun _ h_ => by first | trivial | exact h_ | exact h_.1))
                                  have z_HO_179004_e1 := fun (h0_ : b 1 = true) (h1_ : b 3 = false) => (show Kd.R k39 39 w58 w.heap.size (fun k_ => some k_ ≠ (v186 : Value).ownBlock) (.slice Ao19 t175.length co19) t175 from by first | exact (Kd.R_below (by (with_reducible repeat (first | apply Kd.R_alloc | apply Kd.R_drewN | apply Kd.R_drew)); exact (Q_HO_179004_e1 h0_ h1_)) hb) | exact Kd.R_mono (Kd.R_below (by (with_reducible repeat (first | apply Kd.R_alloc | apply Kd.R_drewN | apply Kd.R_drew)); exact (Q_HO_179004_e1 h0_ h1_)) hb) (fun _ h_ => by first | trivial | exact h_ | exact h_.1))
                                  have z_HO187_e3 := fun (h0_ : b 3 = true) (h1_ : b 5 = false) => (show Kd.R k39 39 w58 w.heap.size (fun k_ => some k_ ≠ (v193 : Value).ownBlock ∧ some k_ ≠ (.slice Ao19 t175.length co19 : Value).ownBlock) v186 t185 from by first | exact (Kd.R_below (by (with_reducible repeat (first | apply Kd.R_alloc | apply Kd.R_drewN | apply Kd.R_drew)); exact (Q_HO187_e3 h0_ h1_)) hb) | exact Kd.R_mono (Kd.R_below (by (with_reducible repeat (first | apply Kd.R_alloc | apply Kd.R_drewN | apply Kd.R_drew)); exact (Q_HO187_e3 h0_ h1_)) hb) (fun _ h_ => by first | trivial | exact h_ | exact h_.1))
                                  have z_HO194 := fun (h0_ : b 3 = true) (h1_ : b 5 = false) => (show Kd.R k39 39 w58 w.heap.size (fun k_ => some k_ ≠ (v186 : Value).ownBlock ∧ some k_ ≠ (.slice Ao19 t175.length co19 : Value).ownBlock) v193 t192 from by first | exact (Kd.R_below (by (with_reducible repeat (first | apply Kd.R_alloc | apply Kd.R_drewN | apply Kd.R_drew)); exact (Q_HO194 h0_ h1_)) hb) | exact Kd.R_mono (Kd.R_below (by (with_reducible repeat (first | apply Kd.R_alloc | apply Kd.R_drewN | apply Kd.R_drew)); exact (Q_HO194 h0_ h1_)) hb) (fun _ h_ => by first | trivial | exact h_ | exact h_.1))
                                  have z_HO_179004_e3 := fun (h0_ : b 3 = true) (h1_ : b 5 = false) => (show Kd.R k39 39 w58 w.heap.size (fun k_ => some k_ ≠ (v186 : Value).ownBlock ∧ some k_ ≠ (v193 : Value).ownBlock) (.slice Ao19 t175.length co19) t175 from by first | exact (Kd.R_below (by (with_reducible repeat (first | apply Kd.R_alloc | apply Kd.R_drewN | apply Kd.R_drew)); exact (Q_HO_179004_e3 h0_ h1_)) hb) | exact Kd.R_mono (Kd.R_below (by (with_reducible repeat (first | apply Kd.R_alloc | apply Kd.R_drewN | apply Kd.R_drew)); exact (Q_HO_179004_e3 h0_ h1_)) hb) (fun _ h_ => by first | trivial | exact h_ | exact h_.1))
                                  have z_HO187_e5 := fun (h0_ : b 5 = true) => (show Kd.R k39 39 w58 w.heap.size (fun k_ => some k_ ≠ (v193 : Value).ownBlock ∧ some k_ ≠ (v200 : Value).ownBlock ∧ some k_ ≠ (.slice Ao19 t175.length co19 : Value).ownBlock) v186 t185 from by first | exact (Kd.R_below (by (with_reducible repeat (first | apply Kd.R_alloc | apply Kd.R_drewN | apply Kd.R_drew)); exact (Q_HO187_e5 h0_)) hb) | exact Kd.R_mono (Kd.R_below (by (with_reducible repeat (first | apply Kd.R_alloc | apply Kd.R_drewN | apply Kd.R_drew)); exact (Q_HO187_e5 h0_)) hb) (fun _ h_ => by first | trivial | exact h_ | exact h_.1))
                                  have z_HO194_e5 := fun (h0_ : b 5 = true) => (show Kd.R k39 39 w58 w.heap.size (fun k_ => some k_ ≠ (v186 : Value).ownBlock ∧ some k_ ≠ (v200 : Value).ownBlock ∧ some k_ ≠ (.slice Ao19 t175.length co19 : Value).ownBlock) v193 t192 from by first | exact (Kd.R_below (by (with_reducible repeat (first | apply Kd.R_alloc | apply Kd.R_drewN | apply Kd.R_drew)); exact (Q_HO194_e5 h0_)) hb) | exact Kd.R_mono (Kd.R_below (by (with_reducible repeat (first | apply Kd.R_alloc | apply Kd.R_drewN | apply Kd.R_drew)); exact (Q_HO194_e5 h0_)) hb) (fun _ h_ => by first | trivial | exact h_ | exact h_.1))
                                  have z_HO201 := fun (h0_ : b 5 = true) => (show Kd.R k39 39 w58 w.heap.size (fun k_ => some k_ ≠ (v186 : Value).ownBlock ∧ some k_ ≠ (v193 : Value).ownBlock ∧ some k_ ≠ (.slice Ao19 t175.length co19 : Value).ownBlock) v200 t199 from by first | exact (Kd.R_below (by (with_reducible repeat (first | apply Kd.R_alloc | apply Kd.R_drewN | apply Kd.R_drew)); exact (Q_HO201 h0_)) hb) | exact Kd.R_mono (Kd.R_below (by (with_reducible repeat (first | apply Kd.R_alloc | apply Kd.R_drewN | apply Kd.R_drew)); exact (Q_HO201 h0_)) hb) (fun _ h_ => by first | trivial | exact h_ | exact h_.1))
                                  have z_HO_179004_e5 := fun (h0_ : b 5 = true) => (show Kd.R k39 39 w58 w.heap.size (fun k_ => some k_ ≠ (v186 : Value).ownBlock ∧ some k_ ≠ (v193 : Value).ownBlock ∧ some k_ ≠ (v200 : Value).ownBlock) (.slice Ao19 t175.length co19) t175 from by first | exact (Kd.R_below (by (with_reducible repeat (first | apply Kd.R_alloc | apply Kd.R_drewN | apply Kd.R_drew)); exact (Q_HO_179004_e5 h0_)) hb) | exact Kd.R_mono (Kd.R_below (by (with_reducible repeat (first | apply Kd.R_alloc | apply Kd.R_drewN | apply Kd.R_drew)); exact (Q_HO_179004_e5 h0_)) hb) (fun _ h_ => by first | trivial | exact h_ | exact h_.1))
                                  have z_BK203 := fun (h0_ : b 7 = true) (h1_ : b 10 = false) => (show w58.heap[gb203]? = some (.cells #[.string (⟨#[]⟩ : ByteArray), .int .i64 0, .int .i64 0, .int .i64 0, .slice none 0 0] 28 (0, 0)) from by first | exact (blk_below (g := gb203) (o := .cells #[.string (⟨#[]⟩ : ByteArray), .int .i64 0, .int .i64 0, .int .i64 0, .slice none 0 0] 28 (0, 0)) (by (with_reducible repeat (first | refine blk_drewN ?_ _ | refine blk_drew ?_ | refine blk_alloc ?_ _)); exact (Q_BK203 h0_ h1_)) hb))
                                  have z_BK204 := fun (h0_ : b 8 = true) (h1_ : b 11 = false) => (show w58.heap[gb204]? = some (.cells #[.string (⟨#[]⟩ : ByteArray), .int .i64 0, .int .i64 0, .int .i64 0, .slice none 0 0] 28 (0, 0)) from by first | exact (blk_below (g := gb204) (o := .cells #[.string (⟨#[]⟩ : ByteArray), .int .i64 0, .int .i64 0, .int .i64 0, .slice none 0 0] 28 (0, 0)) (by (with_reducible repeat (first | refine blk_drewN ?_ _ | refine blk_drew ?_ | refine blk_alloc ?_ _)); exact (Q_BK204 h0_ h1_)) hb))
                                  clear BK169
                                  clear BK178
                                  clear HB
                                  have BK169 := n1_
                                  have BK178 := n2_
                                  have HB := n3_
                                  have BK202 := n4_
                                  have GW202 := n5_
                                  have GE202 := n6_
                                  have NB169_202 := n7_
                                  have NB202_169 := n8_
                                  have NB178_202 := n9_
                                  have NB202_178 := n10_
                                  clear n1_ n2_ n3_ n4_ n5_ n6_ n7_ n8_ n9_ n10_
                                  clear hb hbox hg
                                  refine hK.out _ _ ⟨v186, v193, v200, gb202, gb203, gb204, m1_, m3_, m5_, (.pointer (some ⟨gb202, 0, none⟩)), m7_, m8_, (by rw [ha.out]; exact putSel_upk 6 hb_ rfl rfl rfl), z_HO_179004, (by (with_reducible repeat (first | refine blk_drewN ?_ _ | refine blk_drew ?_ | refine blk_alloc ?_ _)); exact BK169.out), (by (with_reducible repeat (first | refine blk_drewN ?_ _ | refine blk_drew ?_ | refine blk_alloc ?_ _)); exact BK178.out), (by repeat (first | (with_reducible first | exact HB.out | apply below_alloc | apply pw_below_drewN | apply below_drew1 | refine below_set ?_ GE169.out | refine below_set ?_ GE178.out | refine below_set ?_ GE202.out) | exact HB.out)), z_NB203_202, z_NB202_203, z_NB204_202, z_NB202_204, Q_NB204_203, Q_NB203_204, z_HO187, z_HO_179004_e1, z_HO187_e3, z_HO194, z_HO_179004_e3, z_HO187_e5, z_HO194_e5, z_HO201, z_HO_179004_e5, fun _ _ => (by (with_reducible repeat (first | refine blk_drewN ?_ _ | refine blk_drew ?_ | refine blk_alloc ?_ _)); exact BK202.out), fun _ => GW202.out, fun _ => GE202.out, fun _ => NB169_202.out, fun _ => NB202_169.out, fun _ => NB178_202.out, fun _ => NB202_178.out, z_BK203, Q_GW203, Q_GE203, Q_NB169_203, Q_NB203_169, Q_NB178_203, Q_NB203_178, z_BK204, Q_GW204, Q_GE204, Q_NB169_204, Q_NB204_169, Q_NB178_204, Q_NB204_178, fun h0_ => absurd ((hoff 9 (by kernel_rfl)).symm.trans h0_) (by decide), fun h0_ => absurd ((hoff 10 (by kernel_rfl)).symm.trans h0_) (by decide), fun h0_ => absurd ((hoff 11 (by kernel_rfl)).symm.trans h0_) (by decide), Q_X1_, Q_X3_, Q_X5_, fun _ => rfl, Q_X7_, Q_X8_⟩
                                refine steps_cons ?_ ?_
                                · rintro b a w' ⟨v186, v193, v200, gb202, gb203, gb204, m1_, m3_, m5_, m6_, m7_, m8_, ha, Q_HO_179004, Q_BK169, Q_BK178, Q_HB, Q_NB203_202, Q_NB202_203, Q_NB204_202, Q_NB202_204, Q_NB204_203, Q_NB203_204, Q_HO187, Q_HO_179004_e1, Q_HO187_e3, Q_HO194, Q_HO_179004_e3, Q_HO187_e5, Q_HO194_e5, Q_HO201, Q_HO_179004_e5, Q_BK202, Q_GW202, Q_GE202, Q_NB169_202, Q_NB202_169, Q_NB178_202, Q_NB202_178, Q_BK203, Q_GW203, Q_GE203, Q_NB169_203, Q_NB203_169, Q_NB178_203, Q_NB203_178, Q_BK204, Q_GW204, Q_GE204, Q_NB169_204, Q_NB204_169, Q_NB178_204, Q_NB204_178, Q_BK202_e9, Q_BK203_e10, Q_BK204_e11, Q_X1_, Q_X3_, Q_X5_, Q_X6_, Q_X7_, Q_X8_⟩ hb_ hon hoff
                                  refine ⟨_, rfl, fun K hK => ?_⟩
                                  replace ha := Aside0.mk ha
                                  have BK169 := Aside0.mk Q_BK169
                                  have BK178 := Aside0.mk Q_BK178
                                  have HB := Aside0.mk Q_HB
                                  refine box_step ?hg (N := 9) ?hd (cs := #[.string (⟨#[]⟩ : ByteArray), .int .i64 0, .int .i64 0, .int .i64 0, .slice none 0 0]) (t := 28) ?hr ?_; (case hd => rfl); (case hg => rfl); (case hr => first | (go_simp; done) | (go_simp; rfl))
                                  intro gb203 hg w58 hbox hb
                                  have n1_ := Aside0.mk (blk_below (g := gb169) (o := .cells #[.string a0_0, .int .i64 a0_1, .int .i64 a0_2, .int .i64 a0_3, .slice A0_4 l0_4.length c0_4] 24 (0, 0)) (by (with_reducible repeat (first | refine blk_drewN ?_ _ | refine blk_drew ?_ | refine blk_alloc ?_ _)); exact BK169.out) hb)
                                  have n2_ := Aside0.mk (blk_below (g := gb178) (o := .cells #[.string t171, .int .i64 t172, .int .i64 t173, .int .i64 t174, .slice Ao19 t175.length co19] 28 (0, 0)) (by (with_reducible repeat (first | refine blk_drewN ?_ _ | refine blk_drew ?_ | refine blk_alloc ?_ _)); exact BK178.out) hb)
                                  have n3_ := Aside0.mk (below_step (by repeat (first | (with_reducible first | exact HB.out | apply below_alloc | apply pw_below_drewN | apply below_drew1 | refine below_set ?_ GE169.out | refine below_set ?_ GE178.out) | exact HB.out)) hb)
                                  have n4_ := Aside0.mk (hbox)
                                  have n5_ := Aside0.mk ((by rw [hg]; exact (below_size (by repeat (first | (with_reducible first | exact HB.out | apply below_alloc | apply pw_below_drewN | apply below_drew1 | refine below_set ?_ GE169.out | refine below_set ?_ GE178.out) | exact HB.out))) : w.heap.size ≤ gb203))
                                  have n6_ := Aside0.mk ((by rw [hg]; exact (below_size (by repeat (first | (with_reducible first | exact HB.out | apply below_alloc | apply pw_below_drewN | apply below_drew1 | refine below_set ?_ GE169.out | refine below_set ?_ GE178.out) | exact HB.out))) : w.heap.size ≤ gb203))
                                  have n7_ := Aside0.mk ((by rw [hg]; exact Nat.ne_of_lt (blk_lt (g := gb169) (o := .cells #[.string a0_0, .int .i64 a0_1, .int .i64 a0_2, .int .i64 a0_3, .slice A0_4 l0_4.length c0_4] 24 (0, 0)) (by (with_reducible repeat (first | refine blk_drewN ?_ _ | refine blk_drew ?_ | refine blk_alloc ?_ _)); exact BK169.out)) : gb169 ≠ gb203))
                                  have n8_ := Aside0.mk ((by rw [hg]; exact Nat.ne_of_gt (blk_lt (g := gb169) (o := .cells #[.string a0_0, .int .i64 a0_1, .int .i64 a0_2, .int .i64 a0_3, .slice A0_4 l0_4.length c0_4] 24 (0, 0)) (by (with_reducible repeat (first | refine blk_drewN ?_ _ | refine blk_drew ?_ | refine blk_alloc ?_ _)); exact BK169.out)) : gb203 ≠ gb169))
                                  have n9_ := Aside0.mk ((by rw [hg]; exact Nat.ne_of_lt (blk_lt (g := gb178) (o := .cells #[.string t171, .int .i64 t172, .int .i64 t173, .int .i64 t174, .slice Ao19 t175.length co19] 28 (0, 0)) (by (with_reducible repeat (first | refine blk_drewN ?_ _ | refine blk_drew ?_ | refine blk_alloc ?_ _)); exact BK178.out)) : gb178 ≠ gb203))
                                  have n10_ := Aside0.mk ((by rw [hg]; exact Nat.ne_of_gt (blk_lt (g := gb178) (o := .cells #[.string t171, .int .i64 t172, .int .i64 t173, .int .i64 t174, .slice Ao19 t175.length co19] 28 (0, 0)) (by (with_reducible repeat (first | refine blk_drewN ?_ _ | refine blk_drew ?_ | refine blk_alloc ?_ _)); exact BK178.out)) : gb203 ≠ gb178))
                                  have z_HO_179004 := fun (h0_ : b 1 = false) => (show Kd.R k39 39 w58 w.heap.size (fun _ => True) (.slice Ao19 t175.length co19) t175 from by first | exact (Kd.R_below (by (with_reducible repeat (first | apply Kd.R_alloc | apply Kd.R_drewN | apply Kd.R_drew)); exact (Q_HO_179004 h0_)) hb) | exact Kd.R_mono (Kd.R_below (by (with_reducible repeat (first | apply Kd.R_alloc | apply Kd.R_drewN | apply Kd.R_drew)); exact (Q_HO_179004 h0_)) hb) (fun _ h_ => by first | trivial | exact h_ | exact h_.1))
                                  have z_NB203_202 := fun (h0_ : up b 7 6 = true) (h1_ : up b 7 7 = true) => (show gb203 ≠ gb202 from ((by rw [hg]; exact Nat.ne_of_gt (blk_lt (g := gb202) (o := .cells #[.string (⟨#[]⟩ : ByteArray), .int .i64 0, .int .i64 0, .int .i64 0, .slice none 0 0] 28 (0, 0)) (by (with_reducible repeat (first | refine blk_drewN ?_ _ | refine blk_drew ?_ | refine blk_alloc ?_ _)); exact (Q_BK202 h0_ (hoff 9 (by kernel_rfl))))) : gb203 ≠ gb202)))
                                  have z_NB202_203 := fun (h0_ : up b 7 6 = true) (h1_ : up b 7 7 = true) => (show gb202 ≠ gb203 from ((by rw [hg]; exact Nat.ne_of_lt (blk_lt (g := gb202) (o := .cells #[.string (⟨#[]⟩ : ByteArray), .int .i64 0, .int .i64 0, .int .i64 0, .slice none 0 0] 28 (0, 0)) (by (with_reducible repeat (first | refine blk_drewN ?_ _ | refine blk_drew ?_ | refine blk_alloc ?_ _)); exact (Q_BK202 h0_ (hoff 9 (by kernel_rfl))))) : gb202 ≠ gb203)))
                                  have z_NB204_203 := fun (h0_ : up b 7 7 = true) (h1_ : up b 7 8 = true) => (show gb204 ≠ gb203 from ((by rw [hg]; exact Nat.ne_of_lt (blk_lt (g := gb204) (o := .cells #[.string (⟨#[]⟩ : ByteArray), .int .i64 0, .int .i64 0, .int .i64 0, .slice none 0 0] 28 (0, 0)) (by (with_reducible repeat (first | refine blk_drewN ?_ _ | refine blk_drew ?_ | refine blk_alloc ?_ _)); exact (Q_BK204 h1_ (hoff 11 (by kernel_rfl))))) : gb204 ≠ gb203)))
                                  have z_NB203_204 := fun (h0_ : up b 7 7 = true) (h1_ : up b 7 8 = true) => (show gb203 ≠ gb204 from ((by rw [hg]; exact Nat.ne_of_gt (blk_lt (g := gb204) (o := .cells #[.string (⟨#[]⟩ : ByteArray), .int .i64 0, .int .i64 0, .int .i64 0, .slice none 0 0] 28 (0, 0)) (by (with_reducible repeat (first | refine blk_drewN ?_ _ | refine blk_drew ?_ | refine blk_alloc ?_ _)); exact (Q_BK204 h1_ (hoff 11 (by kernel_rfl))))) : gb203 ≠ gb204)))
                                  have z_HO187 := fun (h0_ : b 1 = true) (h1_ : b 3 = false) => (show Kd.R k39 39 w58 w.heap.size (fun k_ => some k_ ≠ (.slice Ao19 t175.length co19 : Value).ownBlock) v186 t185 from by first | exact (Kd.R_below (by (with_reducible repeat (first | apply Kd.R_alloc | apply Kd.R_drewN | apply Kd.R_drew)); exact (Q_HO187 h0_ h1_)) hb) | exact Kd.R_mono (Kd.R_below (by (with_reducible repeat (first | apply Kd.R_alloc | apply Kd.R_drewN | apply Kd.R_drew)); exact (Q_HO187 h0_ h1_)) hb) (fun _ h_ => by first | trivial | exact h_ | exact h_.1))
                                  have z_HO_179004_e1 := fun (h0_ : b 1 = true) (h1_ : b 3 = false) => (show Kd.R k39 39 w58 w.heap.size (fun k_ => some k_ ≠ (v186 : Value).ownBlock) (.slice Ao19 t175.length co19) t175 from by first | exact (Kd.R_below (by (with_reducible repeat (first | apply Kd.R_alloc | apply Kd.R_drewN | apply Kd.R_drew)); exact (Q_HO_179004_e1 h0_ h1_)) hb) | exact Kd.R_mono (Kd.R_below (by (with_reducible repeat (first | apply Kd.R_alloc | apply Kd.R_drewN | apply Kd.R_drew)); exact (Q_HO_179004_e1 h0_ h1_)) hb) (fun _ h_ => by first | trivial | exact h_ | exact h_.1))
                                  have z_HO187_e3 := fun (h0_ : b 3 = true) (h1_ : b 5 = false) => (show Kd.R k39 39 w58 w.heap.size (fun k_ => some k_ ≠ (v193 : Value).ownBlock ∧ some k_ ≠ (.slice Ao19 t175.length co19 : Value).ownBlock) v186 t185 from by first | exact (Kd.R_below (by (with_reducible repeat (first | apply Kd.R_alloc | apply Kd.R_drewN | apply Kd.R_drew)); exact (Q_HO187_e3 h0_ h1_)) hb) | exact Kd.R_mono (Kd.R_below (by (with_reducible repeat (first | apply Kd.R_alloc | apply Kd.R_drewN | apply Kd.R_drew)); exact (Q_HO187_e3 h0_ h1_)) hb) (fun _ h_ => by first | trivial | exact h_ | exact h_.1))
                                  have z_HO194 := fun (h0_ : b 3 = true) (h1_ : b 5 = false) => (show Kd.R k39 39 w58 w.heap.size (fun k_ => some k_ ≠ (v186 : Value).ownBlock ∧ some k_ ≠ (.slice Ao19 t175.length co19 : Value).ownBlock) v193 t192 from by first | exact (Kd.R_below (by (with_reducible repeat (first | apply Kd.R_alloc | apply Kd.R_drewN | apply Kd.R_drew)); exact (Q_HO194 h0_ h1_)) hb) | exact Kd.R_mono (Kd.R_below (by (with_reducible repeat (first | apply Kd.R_alloc | apply Kd.R_drewN | apply Kd.R_drew)); exact (Q_HO194 h0_ h1_)) hb) (fun _ h_ => by first | trivial | exact h_ | exact h_.1))
                                  have z_HO_179004_e3 := fun (h0_ : b 3 = true) (h1_ : b 5 = false) => (show Kd.R k39 39 w58 w.heap.size (fun k_ => some k_ ≠ (v186 : Value).ownBlock ∧ some k_ ≠ (v193 : Value).ownBlock) (.slice Ao19 t175.length co19) t175 from by first | exact (Kd.R_below (by (with_reducible repeat (first | apply Kd.R_alloc | apply Kd.R_drewN | apply Kd.R_drew)); exact (Q_HO_179004_e3 h0_ h1_)) hb) | exact Kd.R_mono (Kd.R_below (by (with_reducible repeat (first | apply Kd.R_alloc | apply Kd.R_drewN | apply Kd.R_drew)); exact (Q_HO_179004_e3 h0_ h1_)) hb) (fun _ h_ => by first | trivial | exact h_ | exact h_.1))
                                  have z_HO187_e5 := fun (h0_ : b 5 = true) => (show Kd.R k39 39 w58 w.heap.size (fun k_ => some k_ ≠ (v193 : Value).ownBlock ∧ some k_ ≠ (v200 : Value).ownBlock ∧ some k_ ≠ (.slice Ao19 t175.length co19 : Value).ownBlock) v186 t185 from by first | exact (Kd.R_below (by (with_reducible repeat (first | apply Kd.R_alloc | apply Kd.R_drewN | apply Kd.R_drew)); exact (Q_HO187_e5 h0_)) hb) | exact Kd.R_mono (Kd.R_below (by (with_reducible repeat (first | apply Kd.R_alloc | apply Kd.R_drewN | apply Kd.R_drew)); exact (Q_HO187_e5 h0_)) hb) (fun _ h_ => by first | trivial | exact h_ | exact h_.1))
                                  have z_HO194_e5 := fun (h0_ : b 5 = true) => (show Kd.R k39 39 w58 w.heap.size (fun k_ => some k_ ≠ (v186 : Value).ownBlock ∧ some k_ ≠ (v200 : Value).ownBlock ∧ some k_ ≠ (.slice Ao19 t175.length co19 : Value).ownBlock) v193 t192 from by first | exact (Kd.R_below (by (with_reducible repeat (first | apply Kd.R_alloc | apply Kd.R_drewN | apply Kd.R_drew)); exact (Q_HO194_e5 h0_)) hb) | exact Kd.R_mono (Kd.R_below (by (with_reducible repeat (first | apply Kd.R_alloc | apply Kd.R_drewN | apply Kd.R_drew)); exact (Q_HO194_e5 h0_)) hb) (fun _ h_ => by first | trivial | exact h_ | exact h_.1))
                                  have z_HO201 := fun (h0_ : b 5 = true) => (show Kd.R k39 39 w58 w.heap.size (fun k_ => some k_ ≠ (v186 : Value).ownBlock ∧ some k_ ≠ (v193 : Value).ownBlock ∧ some k_ ≠ (.slice Ao19 t175.length co19 : Value).ownBlock) v200 t199 from by first | exact (Kd.R_below (by (with_reducible repeat (first | apply Kd.R_alloc | apply Kd.R_drewN | apply Kd.R_drew)); exact (Q_HO201 h0_)) hb) | exact Kd.R_mono (Kd.R_below (by (with_reducible repeat (first | apply Kd.R_alloc | apply Kd.R_drewN | apply Kd.R_drew)); exact (Q_HO201 h0_)) hb) (fun _ h_ => by first | trivial | exact h_ | exact h_.1))
                                  have z_HO_179004_e5 := fun (h0_ : b 5 = true) => (show Kd.R k39 39 w58 w.heap.size (fun k_ => some k_ ≠ (v186 : Value).ownBlock ∧ some k_ ≠ (v193 : Value).ownBlock ∧ some k_ ≠ (v200 : Value).ownBlock) (.slice Ao19 t175.length co19) t175 from by first | exact (Kd.R_below (by (with_reducible repeat (first | apply Kd.R_alloc | apply Kd.R_drewN | apply Kd.R_drew)); exact (Q_HO_179004_e5 h0_)) hb) | exact Kd.R_mono (Kd.R_below (by (with_reducible repeat (first | apply Kd.R_alloc | apply Kd.R_drewN | apply Kd.R_drew)); exact (Q_HO_179004_e5 h0_)) hb) (fun _ h_ => by first | trivial | exact h_ | exact h_.1))
                                  have z_BK202 := fun (h0_ : b 6 = true) (h1_ : b 9 = false) => (show w58.heap[gb202]? = some (.cells #[.string (⟨#[]⟩ : ByteArray), .int .i64 0, .int .i64 0, .int .i64 0, .slice none 0 0] 28 (0, 0)) from by first | exact (blk_below (g := gb202) (o := .cells #[.string (⟨#[]⟩ : ByteArray), .int .i64 0, .int .i64 0, .int .i64 0, .slice none 0 0] 28 (0, 0)) (by (with_reducible repeat (first | refine blk_drewN ?_ _ | refine blk_drew ?_ | refine blk_alloc ?_ _)); exact (Q_BK202 h0_ h1_)) hb))
                                  have z_BK204 := fun (h0_ : b 8 = true) (h1_ : b 11 = false) => (show w58.heap[gb204]? = some (.cells #[.string (⟨#[]⟩ : ByteArray), .int .i64 0, .int .i64 0, .int .i64 0, .slice none 0 0] 28 (0, 0)) from by first | exact (blk_below (g := gb204) (o := .cells #[.string (⟨#[]⟩ : ByteArray), .int .i64 0, .int .i64 0, .int .i64 0, .slice none 0 0] 28 (0, 0)) (by (with_reducible repeat (first | refine blk_drewN ?_ _ | refine blk_drew ?_ | refine blk_alloc ?_ _)); exact (Q_BK204 h0_ h1_)) hb))
                                  clear BK169
                                  clear BK178
                                  clear HB
                                  have BK169 := n1_
                                  have BK178 := n2_
                                  have HB := n3_
                                  have BK203 := n4_
                                  have GW203 := n5_
                                  have GE203 := n6_
                                  have NB169_203 := n7_
                                  have NB203_169 := n8_
                                  have NB178_203 := n9_
                                  have NB203_178 := n10_
                                  clear n1_ n2_ n3_ n4_ n5_ n6_ n7_ n8_ n9_ n10_
                                  clear hb hbox hg
                                  refine hK.out _ _ ⟨v186, v193, v200, gb202, gb203, gb204, m1_, m3_, m5_, m6_, (.pointer (some ⟨gb203, 0, none⟩)), m8_, (by rw [ha.out]; exact putSel_upk 7 hb_ rfl rfl rfl), z_HO_179004, (by (with_reducible repeat (first | refine blk_drewN ?_ _ | refine blk_drew ?_ | refine blk_alloc ?_ _)); exact BK169.out), (by (with_reducible repeat (first | refine blk_drewN ?_ _ | refine blk_drew ?_ | refine blk_alloc ?_ _)); exact BK178.out), (by repeat (first | (with_reducible first | exact HB.out | apply below_alloc | apply pw_below_drewN | apply below_drew1 | refine below_set ?_ GE169.out | refine below_set ?_ GE178.out | refine below_set ?_ GE203.out) | exact HB.out)), z_NB203_202, z_NB202_203, Q_NB204_202, Q_NB202_204, z_NB204_203, z_NB203_204, z_HO187, z_HO_179004_e1, z_HO187_e3, z_HO194, z_HO_179004_e3, z_HO187_e5, z_HO194_e5, z_HO201, z_HO_179004_e5, z_BK202, Q_GW202, Q_GE202, Q_NB169_202, Q_NB202_169, Q_NB178_202, Q_NB202_178, fun _ _ => (by (with_reducible repeat (first | refine blk_drewN ?_ _ | refine blk_drew ?_ | refine blk_alloc ?_ _)); exact BK203.out), fun _ => GW203.out, fun _ => GE203.out, fun _ => NB169_203.out, fun _ => NB203_169.out, fun _ => NB178_203.out, fun _ => NB203_178.out, z_BK204, Q_GW204, Q_GE204, Q_NB169_204, Q_NB204_169, Q_NB178_204, Q_NB204_178, fun h0_ => absurd ((hoff 9 (by kernel_rfl)).symm.trans h0_) (by decide), fun h0_ => absurd ((hoff 10 (by kernel_rfl)).symm.trans h0_) (by decide), fun h0_ => absurd ((hoff 11 (by kernel_rfl)).symm.trans h0_) (by decide), Q_X1_, Q_X3_, Q_X5_, Q_X6_, fun _ => rfl, Q_X8_⟩
                                refine steps_cons ?_ ?_
                                · rintro b a w' ⟨v186, v193, v200, gb202, gb203, gb204, m1_, m3_, m5_, m6_, m7_, m8_, ha, Q_HO_179004, Q_BK169, Q_BK178, Q_HB, Q_NB203_202, Q_NB202_203, Q_NB204_202, Q_NB202_204, Q_NB204_203, Q_NB203_204, Q_HO187, Q_HO_179004_e1, Q_HO187_e3, Q_HO194, Q_HO_179004_e3, Q_HO187_e5, Q_HO194_e5, Q_HO201, Q_HO_179004_e5, Q_BK202, Q_GW202, Q_GE202, Q_NB169_202, Q_NB202_169, Q_NB178_202, Q_NB202_178, Q_BK203, Q_GW203, Q_GE203, Q_NB169_203, Q_NB203_169, Q_NB178_203, Q_NB203_178, Q_BK204, Q_GW204, Q_GE204, Q_NB169_204, Q_NB204_169, Q_NB178_204, Q_NB204_178, Q_BK202_e9, Q_BK203_e10, Q_BK204_e11, Q_X1_, Q_X3_, Q_X5_, Q_X6_, Q_X7_, Q_X8_⟩ hb_ hon hoff
                                  refine ⟨_, rfl, fun K hK => ?_⟩
                                  replace ha := Aside0.mk ha
                                  have BK169 := Aside0.mk Q_BK169
                                  have BK178 := Aside0.mk Q_BK178
                                  have HB := Aside0.mk Q_HB
                                  refine box_step ?hg (N := 10) ?hd (cs := #[.string (⟨#[]⟩ : ByteArray), .int .i64 0, .int .i64 0, .int .i64 0, .slice none 0 0]) (t := 28) ?hr ?_; (case hd => rfl); (case hg => rfl); (case hr => first | (go_simp; done) | (go_simp; rfl))
                                  intro gb204 hg w58 hbox hb
                                  have n1_ := Aside0.mk (blk_below (g := gb169) (o := .cells #[.string a0_0, .int .i64 a0_1, .int .i64 a0_2, .int .i64 a0_3, .slice A0_4 l0_4.length c0_4] 24 (0, 0)) (by (with_reducible repeat (first | refine blk_drewN ?_ _ | refine blk_drew ?_ | refine blk_alloc ?_ _)); exact BK169.out) hb)
                                  have n2_ := Aside0.mk (blk_below (g := gb178) (o := .cells #[.string t171, .int .i64 t172, .int .i64 t173, .int .i64 t174, .slice Ao19 t175.length co19] 28 (0, 0)) (by (with_reducible repeat (first | refine blk_drewN ?_ _ | refine blk_drew ?_ | refine blk_alloc ?_ _)); exact BK178.out) hb)
                                  have n3_ := Aside0.mk (below_step (by repeat (first | (with_reducible first | exact HB.out | apply below_alloc | apply pw_below_drewN | apply below_drew1 | refine below_set ?_ GE169.out | refine below_set ?_ GE178.out) | exact HB.out)) hb)
                                  have n4_ := Aside0.mk (hbox)
                                  have n5_ := Aside0.mk ((by rw [hg]; exact (below_size (by repeat (first | (with_reducible first | exact HB.out | apply below_alloc | apply pw_below_drewN | apply below_drew1 | refine below_set ?_ GE169.out | refine below_set ?_ GE178.out) | exact HB.out))) : w.heap.size ≤ gb204))
                                  have n6_ := Aside0.mk ((by rw [hg]; exact (below_size (by repeat (first | (with_reducible first | exact HB.out | apply below_alloc | apply pw_below_drewN | apply below_drew1 | refine below_set ?_ GE169.out | refine below_set ?_ GE178.out) | exact HB.out))) : w.heap.size ≤ gb204))
                                  have n7_ := Aside0.mk ((by rw [hg]; exact Nat.ne_of_lt (blk_lt (g := gb169) (o := .cells #[.string a0_0, .int .i64 a0_1, .int .i64 a0_2, .int .i64 a0_3, .slice A0_4 l0_4.length c0_4] 24 (0, 0)) (by (with_reducible repeat (first | refine blk_drewN ?_ _ | refine blk_drew ?_ | refine blk_alloc ?_ _)); exact BK169.out)) : gb169 ≠ gb204))
                                  have n8_ := Aside0.mk ((by rw [hg]; exact Nat.ne_of_gt (blk_lt (g := gb169) (o := .cells #[.string a0_0, .int .i64 a0_1, .int .i64 a0_2, .int .i64 a0_3, .slice A0_4 l0_4.length c0_4] 24 (0, 0)) (by (with_reducible repeat (first | refine blk_drewN ?_ _ | refine blk_drew ?_ | refine blk_alloc ?_ _)); exact BK169.out)) : gb204 ≠ gb169))
                                  have n9_ := Aside0.mk ((by rw [hg]; exact Nat.ne_of_lt (blk_lt (g := gb178) (o := .cells #[.string t171, .int .i64 t172, .int .i64 t173, .int .i64 t174, .slice Ao19 t175.length co19] 28 (0, 0)) (by (with_reducible repeat (first | refine blk_drewN ?_ _ | refine blk_drew ?_ | refine blk_alloc ?_ _)); exact BK178.out)) : gb178 ≠ gb204))
                                  have n10_ := Aside0.mk ((by rw [hg]; exact Nat.ne_of_gt (blk_lt (g := gb178) (o := .cells #[.string t171, .int .i64 t172, .int .i64 t173, .int .i64 t174, .slice Ao19 t175.length co19] 28 (0, 0)) (by (with_reducible repeat (first | refine blk_drewN ?_ _ | refine blk_drew ?_ | refine blk_alloc ?_ _)); exact BK178.out)) : gb204 ≠ gb178))
                                  have z_HO_179004 := fun (h0_ : b 1 = false) => (show Kd.R k39 39 w58 w.heap.size (fun _ => True) (.slice Ao19 t175.length co19) t175 from by first | exact (Kd.R_below (by (with_reducible repeat (first | apply Kd.R_alloc | apply Kd.R_drewN | apply Kd.R_drew)); exact (Q_HO_179004 h0_)) hb) | exact Kd.R_mono (Kd.R_below (by (with_reducible repeat (first | apply Kd.R_alloc | apply Kd.R_drewN | apply Kd.R_drew)); exact (Q_HO_179004 h0_)) hb) (fun _ h_ => by first | trivial | exact h_ | exact h_.1))
                                  have z_NB204_202 := fun (h0_ : up b 8 6 = true) (h1_ : up b 8 8 = true) => (show gb204 ≠ gb202 from ((by rw [hg]; exact Nat.ne_of_gt (blk_lt (g := gb202) (o := .cells #[.string (⟨#[]⟩ : ByteArray), .int .i64 0, .int .i64 0, .int .i64 0, .slice none 0 0] 28 (0, 0)) (by (with_reducible repeat (first | refine blk_drewN ?_ _ | refine blk_drew ?_ | refine blk_alloc ?_ _)); exact (Q_BK202 h0_ (hoff 9 (by kernel_rfl))))) : gb204 ≠ gb202)))
                                  have z_NB202_204 := fun (h0_ : up b 8 6 = true) (h1_ : up b 8 8 = true) => (show gb202 ≠ gb204 from ((by rw [hg]; exact Nat.ne_of_lt (blk_lt (g := gb202) (o := .cells #[.string (⟨#[]⟩ : ByteArray), .int .i64 0, .int .i64 0, .int .i64 0, .slice none 0 0] 28 (0, 0)) (by (with_reducible repeat (first | refine blk_drewN ?_ _ | refine blk_drew ?_ | refine blk_alloc ?_ _)); exact (Q_BK202 h0_ (hoff 9 (by kernel_rfl))))) : gb202 ≠ gb204)))
                                  have z_NB204_203 := fun (h0_ : up b 8 7 = true) (h1_ : up b 8 8 = true) => (show gb204 ≠ gb203 from ((by rw [hg]; exact Nat.ne_of_gt (blk_lt (g := gb203) (o := .cells #[.string (⟨#[]⟩ : ByteArray), .int .i64 0, .int .i64 0, .int .i64 0, .slice none 0 0] 28 (0, 0)) (by (with_reducible repeat (first | refine blk_drewN ?_ _ | refine blk_drew ?_ | refine blk_alloc ?_ _)); exact (Q_BK203 h0_ (hoff 10 (by kernel_rfl))))) : gb204 ≠ gb203)))
                                  have z_NB203_204 := fun (h0_ : up b 8 7 = true) (h1_ : up b 8 8 = true) => (show gb203 ≠ gb204 from ((by rw [hg]; exact Nat.ne_of_lt (blk_lt (g := gb203) (o := .cells #[.string (⟨#[]⟩ : ByteArray), .int .i64 0, .int .i64 0, .int .i64 0, .slice none 0 0] 28 (0, 0)) (by (with_reducible repeat (first | refine blk_drewN ?_ _ | refine blk_drew ?_ | refine blk_alloc ?_ _)); exact (Q_BK203 h0_ (hoff 10 (by kernel_rfl))))) : gb203 ≠ gb204)))
                                  have z_HO187 := fun (h0_ : b 1 = true) (h1_ : b 3 = false) => (show Kd.R k39 39 w58 w.heap.size (fun k_ => some k_ ≠ (.slice Ao19 t175.length co19 : Value).ownBlock) v186 t185 from by first | exact (Kd.R_below (by (with_reducible repeat (first | apply Kd.R_alloc | apply Kd.R_drewN | apply Kd.R_drew)); exact (Q_HO187 h0_ h1_)) hb) | exact Kd.R_mono (Kd.R_below (by (with_reducible repeat (first | apply Kd.R_alloc | apply Kd.R_drewN | apply Kd.R_drew)); exact (Q_HO187 h0_ h1_)) hb) (fun _ h_ => by first | trivial | exact h_ | exact h_.1))
                                  have z_HO_179004_e1 := fun (h0_ : b 1 = true) (h1_ : b 3 = false) => (show Kd.R k39 39 w58 w.heap.size (fun k_ => some k_ ≠ (v186 : Value).ownBlock) (.slice Ao19 t175.length co19) t175 from by first | exact (Kd.R_below (by (with_reducible repeat (first | apply Kd.R_alloc | apply Kd.R_drewN | apply Kd.R_drew)); exact (Q_HO_179004_e1 h0_ h1_)) hb) | exact Kd.R_mono (Kd.R_below (by (with_reducible repeat (first | apply Kd.R_alloc | apply Kd.R_drewN | apply Kd.R_drew)); exact (Q_HO_179004_e1 h0_ h1_)) hb) (fun _ h_ => by first | trivial | exact h_ | exact h_.1))
                                  have z_HO187_e3 := fun (h0_ : b 3 = true) (h1_ : b 5 = false) => (show Kd.R k39 39 w58 w.heap.size (fun k_ => some k_ ≠ (v193 : Value).ownBlock ∧ some k_ ≠ (.slice Ao19 t175.length co19 : Value).ownBlock) v186 t185 from by first | exact (Kd.R_below (by (with_reducible repeat (first | apply Kd.R_alloc | apply Kd.R_drewN | apply Kd.R_drew)); exact (Q_HO187_e3 h0_ h1_)) hb) | exact Kd.R_mono (Kd.R_below (by (with_reducible repeat (first | apply Kd.R_alloc | apply Kd.R_drewN | apply Kd.R_drew)); exact (Q_HO187_e3 h0_ h1_)) hb) (fun _ h_ => by first | trivial | exact h_ | exact h_.1))
                                  have z_HO194 := fun (h0_ : b 3 = true) (h1_ : b 5 = false) => (show Kd.R k39 39 w58 w.heap.size (fun k_ => some k_ ≠ (v186 : Value).ownBlock ∧ some k_ ≠ (.slice Ao19 t175.length co19 : Value).ownBlock) v193 t192 from by first | exact (Kd.R_below (by (with_reducible repeat (first | apply Kd.R_alloc | apply Kd.R_drewN | apply Kd.R_drew)); exact (Q_HO194 h0_ h1_)) hb) | exact Kd.R_mono (Kd.R_below (by (with_reducible repeat (first | apply Kd.R_alloc | apply Kd.R_drewN | apply Kd.R_drew)); exact (Q_HO194 h0_ h1_)) hb) (fun _ h_ => by first | trivial | exact h_ | exact h_.1))
                                  have z_HO_179004_e3 := fun (h0_ : b 3 = true) (h1_ : b 5 = false) => (show Kd.R k39 39 w58 w.heap.size (fun k_ => some k_ ≠ (v186 : Value).ownBlock ∧ some k_ ≠ (v193 : Value).ownBlock) (.slice Ao19 t175.length co19) t175 from by first | exact (Kd.R_below (by (with_reducible repeat (first | apply Kd.R_alloc | apply Kd.R_drewN | apply Kd.R_drew)); exact (Q_HO_179004_e3 h0_ h1_)) hb) | exact Kd.R_mono (Kd.R_below (by (with_reducible repeat (first | apply Kd.R_alloc | apply Kd.R_drewN | apply Kd.R_drew)); exact (Q_HO_179004_e3 h0_ h1_)) hb) (fun _ h_ => by first | trivial | exact h_ | exact h_.1))
                                  have z_HO187_e5 := fun (h0_ : b 5 = true) => (show Kd.R k39 39 w58 w.heap.size (fun k_ => some k_ ≠ (v193 : Value).ownBlock ∧ some k_ ≠ (v200 : Value).ownBlock ∧ some k_ ≠ (.slice Ao19 t175.length co19 : Value).ownBlock) v186 t185 from by first | exact (Kd.R_below (by (with_reducible repeat (first | apply Kd.R_alloc | apply Kd.R_drewN | apply Kd.R_drew)); exact (Q_HO187_e5 h0_)) hb) | exact Kd.R_mono (Kd.R_below (by (with_reducible repeat (first | apply Kd.R_alloc | apply Kd.R_drewN | apply Kd.R_drew)); exact (Q_HO187_e5 h0_)) hb) (fun _ h_ => by first | trivial | exact h_ | exact h_.1))
                                  have z_HO194_e5 := fun (h0_ : b 5 = true) => (show Kd.R k39 39 w58 w.heap.size (fun k_ => some k_ ≠ (v186 : Value).ownBlock ∧ some k_ ≠ (v200 : Value).ownBlock ∧ some k_ ≠ (.slice Ao19 t175.length co19 : Value).ownBlock) v193 t192 from by first | exact (Kd.R_below (by (with_reducible repeat (first | apply Kd.R_alloc | apply Kd.R_drewN | apply Kd.R_drew)); exact (Q_HO194_e5 h0_)) hb) | exact Kd.R_mono (Kd.R_below (by (with_reducible repeat (first | apply Kd.R_alloc | apply Kd.R_drewN | apply Kd.R_drew)); exact (Q_HO194_e5 h0_)) hb) (fun _ h_ => by first | trivial | exact h_ | exact h_.1))
                                  have z_HO201 := fun (h0_ : b 5 = true) => (show Kd.R k39 39 w58 w.heap.size (fun k_ => some k_ ≠ (v186 : Value).ownBlock ∧ some k_ ≠ (v193 : Value).ownBlock ∧ some k_ ≠ (.slice Ao19 t175.length co19 : Value).ownBlock) v200 t199 from by first | exact (Kd.R_below (by (with_reducible repeat (first | apply Kd.R_alloc | apply Kd.R_drewN | apply Kd.R_drew)); exact (Q_HO201 h0_)) hb) | exact Kd.R_mono (Kd.R_below (by (with_reducible repeat (first | apply Kd.R_alloc | apply Kd.R_drewN | apply Kd.R_drew)); exact (Q_HO201 h0_)) hb) (fun _ h_ => by first | trivial | exact h_ | exact h_.1))
                                  have z_HO_179004_e5 := fun (h0_ : b 5 = true) => (show Kd.R k39 39 w58 w.heap.size (fun k_ => some k_ ≠ (v186 : Value).ownBlock ∧ some k_ ≠ (v193 : Value).ownBlock ∧ some k_ ≠ (v200 : Value).ownBlock) (.slice Ao19 t175.length co19) t175 from by first | exact (Kd.R_below (by (with_reducible repeat (first | apply Kd.R_alloc | apply Kd.R_drewN | apply Kd.R_drew)); exact (Q_HO_179004_e5 h0_)) hb) | exact Kd.R_mono (Kd.R_below (by (with_reducible repeat (first | apply Kd.R_alloc | apply Kd.R_drewN | apply Kd.R_drew)); exact (Q_HO_179004_e5 h0_)) hb) (fun _ h_ => by first | trivial | exact h_ | exact h_.1))
                                  have z_BK202 := fun (h0_ : b 6 = true) (h1_ : b 9 = false) => (show w58.heap[gb202]? = some (.cells #[.string (⟨#[]⟩ : ByteArray), .int .i64 0, .int .i64 0, .int .i64 0, .slice none 0 0] 28 (0, 0)) from by first | exact (blk_below (g := gb202) (o := .cells #[.string (⟨#[]⟩ : ByteArray), .int .i64 0, .int .i64 0, .int .i64 0, .slice none 0 0] 28 (0, 0)) (by (with_reducible repeat (first | refine blk_drewN ?_ _ | refine blk_drew ?_ | refine blk_alloc ?_ _)); exact (Q_BK202 h0_ h1_)) hb))
                                  have z_BK203 := fun (h0_ : b 7 = true) (h1_ : b 10 = false) => (show w58.heap[gb203]? = some (.cells #[.string (⟨#[]⟩ : ByteArray), .int .i64 0, .int .i64 0, .int .i64 0, .slice none 0 0] 28 (0, 0)) from by first | exact (blk_below (g := gb203) (o := .cells #[.string (⟨#[]⟩ : ByteArray), .int .i64 0, .int .i64 0, .int .i64 0, .slice none 0 0] 28 (0, 0)) (by (with_reducible repeat (first | refine blk_drewN ?_ _ | refine blk_drew ?_ | refine blk_alloc ?_ _)); exact (Q_BK203 h0_ h1_)) hb))
                                  clear BK169
                                  clear BK178
                                  clear HB
                                  have BK169 := n1_
                                  have BK178 := n2_
                                  have HB := n3_
                                  have BK204 := n4_
                                  have GW204 := n5_
                                  have GE204 := n6_
                                  have NB169_204 := n7_
                                  have NB204_169 := n8_
                                  have NB178_204 := n9_
                                  have NB204_178 := n10_
                                  clear n1_ n2_ n3_ n4_ n5_ n6_ n7_ n8_ n9_ n10_
                                  clear hb hbox hg
                                  refine hK.out _ _ ⟨v186, v193, v200, gb202, gb203, gb204, m1_, m3_, m5_, m6_, m7_, (.pointer (some ⟨gb204, 0, none⟩)), (by rw [ha.out]; exact putSel_upk 8 hb_ rfl rfl rfl), z_HO_179004, (by (with_reducible repeat (first | refine blk_drewN ?_ _ | refine blk_drew ?_ | refine blk_alloc ?_ _)); exact BK169.out), (by (with_reducible repeat (first | refine blk_drewN ?_ _ | refine blk_drew ?_ | refine blk_alloc ?_ _)); exact BK178.out), (by repeat (first | (with_reducible first | exact HB.out | apply below_alloc | apply pw_below_drewN | apply below_drew1 | refine below_set ?_ GE169.out | refine below_set ?_ GE178.out | refine below_set ?_ GE204.out) | exact HB.out)), Q_NB203_202, Q_NB202_203, z_NB204_202, z_NB202_204, z_NB204_203, z_NB203_204, z_HO187, z_HO_179004_e1, z_HO187_e3, z_HO194, z_HO_179004_e3, z_HO187_e5, z_HO194_e5, z_HO201, z_HO_179004_e5, z_BK202, Q_GW202, Q_GE202, Q_NB169_202, Q_NB202_169, Q_NB178_202, Q_NB202_178, z_BK203, Q_GW203, Q_GE203, Q_NB169_203, Q_NB203_169, Q_NB178_203, Q_NB203_178, fun _ _ => (by (with_reducible repeat (first | refine blk_drewN ?_ _ | refine blk_drew ?_ | refine blk_alloc ?_ _)); exact BK204.out), fun _ => GW204.out, fun _ => GE204.out, fun _ => NB169_204.out, fun _ => NB204_169.out, fun _ => NB178_204.out, fun _ => NB204_178.out, fun h0_ => absurd ((hoff 9 (by kernel_rfl)).symm.trans h0_) (by decide), fun h0_ => absurd ((hoff 10 (by kernel_rfl)).symm.trans h0_) (by decide), fun h0_ => absurd ((hoff 11 (by kernel_rfl)).symm.trans h0_) (by decide), Q_X1_, Q_X3_, Q_X5_, Q_X6_, Q_X7_, fun _ => rfl⟩
                                refine steps_cons ?_ ?_
                                · rintro b a w' ⟨v186, v193, v200, gb202, gb203, gb204, m1_, m3_, m5_, m6_, m7_, m8_, ha, Q_HO_179004, Q_BK169, Q_BK178, Q_HB, Q_NB203_202, Q_NB202_203, Q_NB204_202, Q_NB202_204, Q_NB204_203, Q_NB203_204, Q_HO187, Q_HO_179004_e1, Q_HO187_e3, Q_HO194, Q_HO_179004_e3, Q_HO187_e5, Q_HO194_e5, Q_HO201, Q_HO_179004_e5, Q_BK202, Q_GW202, Q_GE202, Q_NB169_202, Q_NB202_169, Q_NB178_202, Q_NB202_178, Q_BK203, Q_GW203, Q_GE203, Q_NB169_203, Q_NB203_169, Q_NB178_203, Q_NB203_178, Q_BK204, Q_GW204, Q_GE204, Q_NB169_204, Q_NB204_169, Q_NB178_204, Q_NB204_178, Q_BK202_e9, Q_BK203_e10, Q_BK204_e11, Q_X1_, Q_X3_, Q_X5_, Q_X6_, Q_X7_, Q_X8_⟩ hb_ hon hoff
                                  refine ⟨_, rfl, fun K hK => ?_⟩
                                  have e8 : a.tmps[8]? = some (m6_) := by rw [ha]; exact putSel_on (e := (6, 8, m6_)) 6 rfl rfl (hon 6 (by kernel_rfl)) rfl
                                  rw [Q_X6_ (hon 6 (by kernel_rfl))] at e8
                                  have e60 : a.tmps[60]? = some (m1_) := by rw [ha]; exact putSel_on (e := (1, 60, m1_)) 1 rfl rfl (hon 1 (by kernel_rfl)) rfl
                                  rw [Q_X1_ (hon 1 (by kernel_rfl))] at e60
                                  replace ha := Aside0.mk ha
                                  have BK169 := Aside0.mk Q_BK169
                                  have BK178 := Aside0.mk Q_BK178
                                  have HB := Aside0.mk Q_HB
                                  have NB203_202 := Aside0.mk (Q_NB203_202 (hon 6 (by kernel_rfl)) (hon 7 (by kernel_rfl)))
                                  have NB202_203 := Aside0.mk (Q_NB202_203 (hon 6 (by kernel_rfl)) (hon 7 (by kernel_rfl)))
                                  have NB204_202 := Aside0.mk (Q_NB204_202 (hon 6 (by kernel_rfl)) (hon 8 (by kernel_rfl)))
                                  have NB202_204 := Aside0.mk (Q_NB202_204 (hon 6 (by kernel_rfl)) (hon 8 (by kernel_rfl)))
                                  have NB204_203 := Aside0.mk (Q_NB204_203 (hon 7 (by kernel_rfl)) (hon 8 (by kernel_rfl)))
                                  have NB203_204 := Aside0.mk (Q_NB203_204 (hon 7 (by kernel_rfl)) (hon 8 (by kernel_rfl)))
                                  have HO187 := Aside0.mk (Q_HO187_e5 (hon 5 (by kernel_rfl)))
                                  have HO194 := Aside0.mk (Q_HO194_e5 (hon 5 (by kernel_rfl)))
                                  have HO201 := Aside0.mk (Q_HO201 (hon 5 (by kernel_rfl)))
                                  have HO_179004 := Aside0.mk (Q_HO_179004_e5 (hon 5 (by kernel_rfl)))
                                  have BK202 := Aside0.mk (Q_BK202 (hon 6 (by kernel_rfl)) hb_)
                                  have GW202 := Aside0.mk (Q_GW202 (hon 6 (by kernel_rfl)))
                                  have GE202 := Aside0.mk (Q_GE202 (hon 6 (by kernel_rfl)))
                                  have NB169_202 := Aside0.mk (Q_NB169_202 (hon 6 (by kernel_rfl)))
                                  have NB202_169 := Aside0.mk (Q_NB202_169 (hon 6 (by kernel_rfl)))
                                  have NB178_202 := Aside0.mk (Q_NB178_202 (hon 6 (by kernel_rfl)))
                                  have NB202_178 := Aside0.mk (Q_NB202_178 (hon 6 (by kernel_rfl)))
                                  have BK203 := Aside0.mk (Q_BK203 (hon 7 (by kernel_rfl)) (hoff 10 (by kernel_rfl)))
                                  have GW203 := Aside0.mk (Q_GW203 (hon 7 (by kernel_rfl)))
                                  have GE203 := Aside0.mk (Q_GE203 (hon 7 (by kernel_rfl)))
                                  have NB169_203 := Aside0.mk (Q_NB169_203 (hon 7 (by kernel_rfl)))
                                  have NB203_169 := Aside0.mk (Q_NB203_169 (hon 7 (by kernel_rfl)))
                                  have NB178_203 := Aside0.mk (Q_NB178_203 (hon 7 (by kernel_rfl)))
                                  have NB203_178 := Aside0.mk (Q_NB203_178 (hon 7 (by kernel_rfl)))
                                  have BK204 := Aside0.mk (Q_BK204 (hon 8 (by kernel_rfl)) (hoff 11 (by kernel_rfl)))
                                  have GW204 := Aside0.mk (Q_GW204 (hon 8 (by kernel_rfl)))
                                  have GE204 := Aside0.mk (Q_GE204 (hon 8 (by kernel_rfl)))
                                  have NB169_204 := Aside0.mk (Q_NB169_204 (hon 8 (by kernel_rfl)))
                                  have NB204_169 := Aside0.mk (Q_NB204_169 (hon 8 (by kernel_rfl)))
                                  have NB178_204 := Aside0.mk (Q_NB178_204 (hon 8 (by kernel_rfl)))
                                  have NB204_178 := Aside0.mk (Q_NB204_178 (hon 8 (by kernel_rfl)))
                                  obtain ⟨Ao69, co69, eo69⟩ := Kd.R_slice HO187.out
                                  (first | subst eo69 | (injection eo69 with f1_ f2_ f3_; have f4_ := f1_.symm; have f5_ := f3_.symm; clear f1_ f2_ f3_; subst f4_; subst f5_))
                                  have hs65 : w'.cell? ⟨gb202, 0, none⟩ = some (.string (⟨#[]⟩ : ByteArray)) := (blk_cell BK202.out 0).trans rfl
                                  have hfs65 := blk_frozen BK202.out 0
                                  have hns65_0 := NB169_202.out
                                  have hns65_1 := NB178_202.out
                                  have hns65_3 := NB203_202.out
                                  have hns65_4 := NB204_202.out
                                  have hms65_0 := NB202_169.out
                                  have hms65_1 := NB202_178.out
                                  have hms65_3 := NB202_203.out
                                  have hms65_4 := NB202_204.out
                                  have hs66 : w'.cell? ⟨gb202, 1, none⟩ = some (.int .i64 0) := (blk_cell BK202.out 1).trans rfl
                                  have hfs66 := blk_frozen BK202.out 1
                                  have hns66_0 := NB169_202.out
                                  have hns66_1 := NB178_202.out
                                  have hns66_3 := NB203_202.out
                                  have hns66_4 := NB204_202.out
                                  have hms66_0 := NB202_169.out
                                  have hms66_1 := NB202_178.out
                                  have hms66_3 := NB202_203.out
                                  have hms66_4 := NB202_204.out
                                  have hs67 : w'.cell? ⟨gb202, 2, none⟩ = some (.int .i64 0) := (blk_cell BK202.out 2).trans rfl
                                  have hfs67 := blk_frozen BK202.out 2
                                  have hns67_0 := NB169_202.out
                                  have hns67_1 := NB178_202.out
                                  have hns67_3 := NB203_202.out
                                  have hns67_4 := NB204_202.out
                                  have hms67_0 := NB202_169.out
                                  have hms67_1 := NB202_178.out
                                  have hms67_3 := NB202_203.out
                                  have hms67_4 := NB202_204.out
                                  have hs68 : w'.cell? ⟨gb202, 3, none⟩ = some (.int .i64 0) := (blk_cell BK202.out 3).trans rfl
                                  have hfs68 := blk_frozen BK202.out 3
                                  have hns68_0 := NB169_202.out
                                  have hns68_1 := NB178_202.out
                                  have hns68_3 := NB203_202.out
                                  have hns68_4 := NB204_202.out
                                  have hms68_0 := NB202_169.out
                                  have hms68_1 := NB202_178.out
                                  have hms68_3 := NB202_203.out
                                  have hms68_4 := NB202_204.out
                                  have hs70 : w'.cell? ⟨gb202, 4, none⟩ = some (.slice none 0 0) := (blk_cell BK202.out 4).trans rfl
                                  have hfs70 := blk_frozen BK202.out 4
                                  have hns70_0 := NB169_202.out
                                  have hns70_1 := NB178_202.out
                                  have hns70_3 := NB203_202.out
                                  have hns70_4 := NB204_202.out
                                  have hms70_0 := NB202_169.out
                                  have hms70_1 := NB202_178.out
                                  have hms70_3 := NB202_203.out
                                  have hms70_4 := NB202_204.out
                                  refine skip_ (w1 := ?_) (by rfl) rfl ?_ ?_
                                  rotate_left
                                  · go_simp
                                    rfl
                                  refine hK.out _ _ ⟨.slice Ao69 t185.length co69, v193, v200, gb202, gb203, gb204, m1_, m3_, m5_, m6_, m7_, m8_, (by rw [ha.out]; exact putSel_none (v := undef) rfl), fun h0_ => absurd ((hon 1 (by kernel_rfl)).symm.trans h0_) (by decide), (by (with_reducible repeat (first | refine blk_drewN ?_ _ | refine blk_drew ?_ | refine blk_alloc ?_ _)); refine blk_far ?_ NB169_202.out _; (with_reducible repeat (first | refine blk_drewN ?_ _ | refine blk_drew ?_ | refine blk_alloc ?_ _)); refine blk_far ?_ NB169_202.out _; (with_reducible repeat (first | refine blk_drewN ?_ _ | refine blk_drew ?_ | refine blk_alloc ?_ _)); refine blk_far ?_ NB169_202.out _; (with_reducible repeat (first | refine blk_drewN ?_ _ | refine blk_drew ?_ | refine blk_alloc ?_ _)); refine blk_far ?_ NB169_202.out _; (with_reducible repeat (first | refine blk_drewN ?_ _ | refine blk_drew ?_ | refine blk_alloc ?_ _)); refine blk_far ?_ NB169_202.out _; (with_reducible repeat (first | refine blk_drewN ?_ _ | refine blk_drew ?_ | refine blk_alloc ?_ _)); exact BK169.out), (by (with_reducible repeat (first | refine blk_drewN ?_ _ | refine blk_drew ?_ | refine blk_alloc ?_ _)); refine blk_far ?_ NB178_202.out _; (with_reducible repeat (first | refine blk_drewN ?_ _ | refine blk_drew ?_ | refine blk_alloc ?_ _)); refine blk_far ?_ NB178_202.out _; (with_reducible repeat (first | refine blk_drewN ?_ _ | refine blk_drew ?_ | refine blk_alloc ?_ _)); refine blk_far ?_ NB178_202.out _; (with_reducible repeat (first | refine blk_drewN ?_ _ | refine blk_drew ?_ | refine blk_alloc ?_ _)); refine blk_far ?_ NB178_202.out _; (with_reducible repeat (first | refine blk_drewN ?_ _ | refine blk_drew ?_ | refine blk_alloc ?_ _)); refine blk_far ?_ NB178_202.out _; (with_reducible repeat (first | refine blk_drewN ?_ _ | refine blk_drew ?_ | refine blk_alloc ?_ _)); exact BK178.out), (by repeat (first | (with_reducible first | exact HB.out | apply below_alloc | apply pw_below_drewN | apply below_drew1 | refine below_set ?_ GE169.out | refine below_set ?_ GE178.out | refine below_set ?_ GE202.out | refine below_set ?_ GE203.out | refine below_set ?_ GE204.out) | exact HB.out)), fun _ _ => NB203_202.out, fun _ _ => NB202_203.out, fun _ _ => NB204_202.out, fun _ _ => NB202_204.out, fun _ _ => NB204_203.out, fun _ _ => NB203_204.out, fun _ h1_ => absurd ((hon 3 (by kernel_rfl)).symm.trans h1_) (by decide), fun _ h1_ => absurd ((hon 3 (by kernel_rfl)).symm.trans h1_) (by decide), fun _ h1_ => absurd ((hon 5 (by kernel_rfl)).symm.trans h1_) (by decide), fun _ h1_ => absurd ((hon 5 (by kernel_rfl)).symm.trans h1_) (by decide), fun _ h1_ => absurd ((hon 5 (by kernel_rfl)).symm.trans h1_) (by decide), fun _ => (by (with_reducible repeat (first | apply Kd.R_alloc | apply Kd.R_drewN | apply Kd.R_drew)); exact Kd.R_mono (Kd.R_far (p := ⟨gb202, 4, none⟩) (Kd.R_far (p := ⟨gb202, 3, none⟩) (Kd.R_far (p := ⟨gb202, 2, none⟩) (Kd.R_far (p := ⟨gb202, 1, none⟩) (Kd.R_far (p := ⟨gb202, 0, none⟩) (Kd.R_types HO187.out BK202.out (by decide)) (fun _ hk => hk.2) (.string t181)) (fun _ hk => hk.2) (.int .i64 t182)) (fun _ hk => hk.2) (.int .i64 t183)) (fun _ hk => hk.2) (.int .i64 t184)) (fun _ hk => hk.2) (.slice Ao69 t185.length co69)) (fun _ hk => by first | exact ⟨hk.1.1, ⟨hk.1.2.1, hk.1.2.2⟩⟩ | (simp only [own_len] at hk ⊢; exact ⟨hk.1.1, ⟨hk.1.2.1, hk.1.2.2⟩⟩))), fun _ => (by (with_reducible repeat (first | apply Kd.R_alloc | apply Kd.R_drewN | apply Kd.R_drew)); exact Kd.R_mono (Kd.R_far (p := ⟨gb202, 4, none⟩) (Kd.R_far (p := ⟨gb202, 3, none⟩) (Kd.R_far (p := ⟨gb202, 2, none⟩) (Kd.R_far (p := ⟨gb202, 1, none⟩) (Kd.R_far (p := ⟨gb202, 0, none⟩) (Kd.R_types HO194.out BK202.out (by decide)) (fun _ hk => hk.2) (.string t181)) (fun _ hk => hk.2) (.int .i64 t182)) (fun _ hk => hk.2) (.int .i64 t183)) (fun _ hk => hk.2) (.int .i64 t184)) (fun _ hk => hk.2) (.slice Ao69 t185.length co69)) (fun _ hk => by first | exact ⟨hk.1.1, ⟨hk.1.2.1, hk.1.2.2⟩⟩ | (simp only [own_len] at hk ⊢; exact ⟨hk.1.1, ⟨hk.1.2.1, hk.1.2.2⟩⟩))), fun _ => (by (with_reducible repeat (first | apply Kd.R_alloc | apply Kd.R_drewN | apply Kd.R_drew)); exact Kd.R_mono (Kd.R_far (p := ⟨gb202, 4, none⟩) (Kd.R_far (p := ⟨gb202, 3, none⟩) (Kd.R_far (p := ⟨gb202, 2, none⟩) (Kd.R_far (p := ⟨gb202, 1, none⟩) (Kd.R_far (p := ⟨gb202, 0, none⟩) (Kd.R_types HO201.out BK202.out (by decide)) (fun _ hk => hk.2) (.string t181)) (fun _ hk => hk.2) (.int .i64 t182)) (fun _ hk => hk.2) (.int .i64 t183)) (fun _ hk => hk.2) (.int .i64 t184)) (fun _ hk => hk.2) (.slice Ao69 t185.length co69)) (fun _ hk => by first | exact ⟨hk.1.1, ⟨hk.1.2.1, hk.1.2.2⟩⟩ | (simp only [own_len] at hk ⊢; exact ⟨hk.1.1, ⟨hk.1.2.1, hk.1.2.2⟩⟩))), fun _ => (by (with_reducible repeat (first | apply Kd.R_alloc | apply Kd.R_drewN | apply Kd.R_drew)); exact Kd.R_mono (Kd.R_far (p := ⟨gb202, 4, none⟩) (Kd.R_far (p := ⟨gb202, 3, none⟩) (Kd.R_far (p := ⟨gb202, 2, none⟩) (Kd.R_far (p := ⟨gb202, 1, none⟩) (Kd.R_far (p := ⟨gb202, 0, none⟩) (Kd.R_types HO_179004.out BK202.out (by decide)) (fun _ hk => hk.2) (.string t181)) (fun _ hk => hk.2) (.int .i64 t182)) (fun _ hk => hk.2) (.int .i64 t183)) (fun _ hk => hk.2) (.int .i64 t184)) (fun _ hk => hk.2) (.slice Ao69 t185.length co69)) (fun _ hk => by first | exact ⟨hk.1.1, ⟨hk.1.2.1, hk.1.2.2⟩⟩ | (simp only [own_len] at hk ⊢; exact ⟨hk.1.1, ⟨hk.1.2.1, hk.1.2.2⟩⟩))), fun _ h1_ => absurd ((up_self b 9).symm.trans h1_) (by decide), fun _ => GW202.out, fun _ => GE202.out, fun _ => NB169_202.out, fun _ => NB202_169.out, fun _ => NB178_202.out, fun _ => NB202_178.out, fun _ _ => (by (with_reducible repeat (first | refine blk_drewN ?_ _ | refine blk_drew ?_ | refine blk_alloc ?_ _)); refine blk_far ?_ NB203_202.out _; (with_reducible repeat (first | refine blk_drewN ?_ _ | refine blk_drew ?_ | refine blk_alloc ?_ _)); refine blk_far ?_ NB203_202.out _; (with_reducible repeat (first | refine blk_drewN ?_ _ | refine blk_drew ?_ | refine blk_alloc ?_ _)); refine blk_far ?_ NB203_202.out _; (with_reducible repeat (first | refine blk_drewN ?_ _ | refine blk_drew ?_ | refine blk_alloc ?_ _)); refine blk_far ?_ NB203_202.out _; (with_reducible repeat (first | refine blk_drewN ?_ _ | refine blk_drew ?_ | refine blk_alloc ?_ _)); refine blk_far ?_ NB203_202.out _; (with_reducible repeat (first | refine blk_drewN ?_ _ | refine blk_drew ?_ | refine blk_alloc ?_ _)); exact BK203.out), fun _ => GW203.out, fun _ => GE203.out, fun _ => NB169_203.out, fun _ => NB203_169.out, fun _ => NB178_203.out, fun _ => NB203_178.out, fun _ _ => (by (with_reducible repeat (first | refine blk_drewN ?_ _ | refine blk_drew ?_ | refine blk_alloc ?_ _)); refine blk_far ?_ NB204_202.out _; (with_reducible repeat (first | refine blk_drewN ?_ _ | refine blk_drew ?_ | refine blk_alloc ?_ _)); refine blk_far ?_ NB204_202.out _; (with_reducible repeat (first | refine blk_drewN ?_ _ | refine blk_drew ?_ | refine blk_alloc ?_ _)); refine blk_far ?_ NB204_202.out _; (with_reducible repeat (first | refine blk_drewN ?_ _ | refine blk_drew ?_ | refine blk_alloc ?_ _)); refine blk_far ?_ NB204_202.out _; (with_reducible repeat (first | refine blk_drewN ?_ _ | refine blk_drew ?_ | refine blk_alloc ?_ _)); refine blk_far ?_ NB204_202.out _; (with_reducible repeat (first | refine blk_drewN ?_ _ | refine blk_drew ?_ | refine blk_alloc ?_ _)); exact BK204.out), fun _ => GW204.out, fun _ => GE204.out, fun _ => NB169_204.out, fun _ => NB204_169.out, fun _ => NB178_204.out, fun _ => NB204_178.out, fun _ => (by (with_reducible repeat (first | refine blk_drewN ?_ _ | refine blk_drew ?_ | refine blk_alloc ?_ _)); refine blk_put (cs := #[.string t181, .int .i64 t182, .int .i64 t183, .int .i64 t184, .slice none 0 0]) ?_ 4 _ rfl; (with_reducible repeat (first | refine blk_drewN ?_ _ | refine blk_drew ?_ | refine blk_alloc ?_ _)); refine blk_put (cs := #[.string t181, .int .i64 t182, .int .i64 t183, .int .i64 0, .slice none 0 0]) ?_ 3 _ rfl; (with_reducible repeat (first | refine blk_drewN ?_ _ | refine blk_drew ?_ | refine blk_alloc ?_ _)); refine blk_put (cs := #[.string t181, .int .i64 t182, .int .i64 0, .int .i64 0, .slice none 0 0]) ?_ 2 _ rfl; (with_reducible repeat (first | refine blk_drewN ?_ _ | refine blk_drew ?_ | refine blk_alloc ?_ _)); refine blk_put (cs := #[.string t181, .int .i64 0, .int .i64 0, .int .i64 0, .slice none 0 0]) ?_ 1 _ rfl; (with_reducible repeat (first | refine blk_drewN ?_ _ | refine blk_drew ?_ | refine blk_alloc ?_ _)); refine blk_put (cs := #[.string (⟨#[]⟩ : ByteArray), .int .i64 0, .int .i64 0, .int .i64 0, .slice none 0 0]) ?_ 0 _ rfl; (with_reducible repeat (first | refine blk_drewN ?_ _ | refine blk_drew ?_ | refine blk_alloc ?_ _)); exact BK202.out), fun h0_ => absurd ((hoff 10 (by kernel_rfl)).symm.trans h0_) (by decide), fun h0_ => absurd ((hoff 11 (by kernel_rfl)).symm.trans h0_) (by decide), Q_X1_, Q_X3_, Q_X5_, Q_X6_, Q_X7_, Q_X8_⟩
                                refine steps_cons ?_ ?_
                                · rintro b a w' ⟨v186, v193, v200, gb202, gb203, gb204, m1_, m3_, m5_, m6_, m7_, m8_, ha, Q_HO_179004, Q_BK169, Q_BK178, Q_HB, Q_NB203_202, Q_NB202_203, Q_NB204_202, Q_NB202_204, Q_NB204_203, Q_NB203_204, Q_HO187, Q_HO_179004_e1, Q_HO187_e3, Q_HO194, Q_HO_179004_e3, Q_HO187_e5, Q_HO194_e5, Q_HO201, Q_HO_179004_e5, Q_BK202, Q_GW202, Q_GE202, Q_NB169_202, Q_NB202_169, Q_NB178_202, Q_NB202_178, Q_BK203, Q_GW203, Q_GE203, Q_NB169_203, Q_NB203_169, Q_NB178_203, Q_NB203_178, Q_BK204, Q_GW204, Q_GE204, Q_NB169_204, Q_NB204_169, Q_NB178_204, Q_NB204_178, Q_BK202_e9, Q_BK203_e10, Q_BK204_e11, Q_X1_, Q_X3_, Q_X5_, Q_X6_, Q_X7_, Q_X8_⟩ hb_ hon hoff
                                  refine ⟨_, rfl, fun K hK => ?_⟩
                                  have e9 : a.tmps[9]? = some (m7_) := by rw [ha]; exact putSel_on (e := (7, 9, m7_)) 7 rfl rfl (hon 7 (by kernel_rfl)) rfl
                                  rw [Q_X7_ (hon 7 (by kernel_rfl))] at e9
                                  have e62 : a.tmps[62]? = some (m3_) := by rw [ha]; exact putSel_on (e := (3, 62, m3_)) 3 rfl rfl (hon 3 (by kernel_rfl)) rfl
                                  rw [Q_X3_ (hon 3 (by kernel_rfl))] at e62
                                  replace ha := Aside0.mk ha
                                  have BK169 := Aside0.mk Q_BK169
                                  have BK178 := Aside0.mk Q_BK178
                                  have HB := Aside0.mk Q_HB
                                  have NB203_202 := Aside0.mk (Q_NB203_202 (hon 6 (by kernel_rfl)) (hon 7 (by kernel_rfl)))
                                  have NB202_203 := Aside0.mk (Q_NB202_203 (hon 6 (by kernel_rfl)) (hon 7 (by kernel_rfl)))
                                  have NB204_202 := Aside0.mk (Q_NB204_202 (hon 6 (by kernel_rfl)) (hon 8 (by kernel_rfl)))
                                  have NB202_204 := Aside0.mk (Q_NB202_204 (hon 6 (by kernel_rfl)) (hon 8 (by kernel_rfl)))
                                  have NB204_203 := Aside0.mk (Q_NB204_203 (hon 7 (by kernel_rfl)) (hon 8 (by kernel_rfl)))
                                  have NB203_204 := Aside0.mk (Q_NB203_204 (hon 7 (by kernel_rfl)) (hon 8 (by kernel_rfl)))
                                  have HO187 := Aside0.mk (Q_HO187_e5 (hon 5 (by kernel_rfl)))
                                  have HO194 := Aside0.mk (Q_HO194_e5 (hon 5 (by kernel_rfl)))
                                  have HO201 := Aside0.mk (Q_HO201 (hon 5 (by kernel_rfl)))
                                  have HO_179004 := Aside0.mk (Q_HO_179004_e5 (hon 5 (by kernel_rfl)))
                                  have GW202 := Aside0.mk (Q_GW202 (hon 6 (by kernel_rfl)))
                                  have GE202 := Aside0.mk (Q_GE202 (hon 6 (by kernel_rfl)))
                                  have NB169_202 := Aside0.mk (Q_NB169_202 (hon 6 (by kernel_rfl)))
                                  have NB202_169 := Aside0.mk (Q_NB202_169 (hon 6 (by kernel_rfl)))
                                  have NB178_202 := Aside0.mk (Q_NB178_202 (hon 6 (by kernel_rfl)))
                                  have NB202_178 := Aside0.mk (Q_NB202_178 (hon 6 (by kernel_rfl)))
                                  have BK203 := Aside0.mk (Q_BK203 (hon 7 (by kernel_rfl)) hb_)
                                  have GW203 := Aside0.mk (Q_GW203 (hon 7 (by kernel_rfl)))
                                  have GE203 := Aside0.mk (Q_GE203 (hon 7 (by kernel_rfl)))
                                  have NB169_203 := Aside0.mk (Q_NB169_203 (hon 7 (by kernel_rfl)))
                                  have NB203_169 := Aside0.mk (Q_NB203_169 (hon 7 (by kernel_rfl)))
                                  have NB178_203 := Aside0.mk (Q_NB178_203 (hon 7 (by kernel_rfl)))
                                  have NB203_178 := Aside0.mk (Q_NB203_178 (hon 7 (by kernel_rfl)))
                                  have BK204 := Aside0.mk (Q_BK204 (hon 8 (by kernel_rfl)) (hoff 11 (by kernel_rfl)))
                                  have GW204 := Aside0.mk (Q_GW204 (hon 8 (by kernel_rfl)))
                                  have GE204 := Aside0.mk (Q_GE204 (hon 8 (by kernel_rfl)))
                                  have NB169_204 := Aside0.mk (Q_NB169_204 (hon 8 (by kernel_rfl)))
                                  have NB204_169 := Aside0.mk (Q_NB204_169 (hon 8 (by kernel_rfl)))
                                  have NB178_204 := Aside0.mk (Q_NB178_204 (hon 8 (by kernel_rfl)))
                                  have NB204_178 := Aside0.mk (Q_NB204_178 (hon 8 (by kernel_rfl)))
                                  have BK202 := Aside0.mk (Q_BK202_e9 (hon 9 (by kernel_rfl)))
                                  obtain ⟨Ao75, co75, eo75⟩ := Kd.R_slice HO194.out
                                  (first | subst eo75 | (injection eo75 with f1_ f2_ f3_; have f4_ := f1_.symm; have f5_ := f3_.symm; clear f1_ f2_ f3_; subst f4_; subst f5_))
                                  have hs71 : w'.cell? ⟨gb203, 0, none⟩ = some (.string (⟨#[]⟩ : ByteArray)) := (blk_cell BK203.out 0).trans rfl
                                  have hfs71 := blk_frozen BK203.out 0
                                  have hns71_0 := NB169_203.out
                                  have hns71_1 := NB178_203.out
                                  have hns71_2 := NB202_203.out
                                  have hns71_4 := NB204_203.out
                                  have hms71_0 := NB203_169.out
                                  have hms71_1 := NB203_178.out
                                  have hms71_2 := NB203_202.out
                                  have hms71_4 := NB203_204.out
                                  have hs72 : w'.cell? ⟨gb203, 1, none⟩ = some (.int .i64 0) := (blk_cell BK203.out 1).trans rfl
                                  have hfs72 := blk_frozen BK203.out 1
                                  have hns72_0 := NB169_203.out
                                  have hns72_1 := NB178_203.out
                                  have hns72_2 := NB202_203.out
                                  have hns72_4 := NB204_203.out
                                  have hms72_0 := NB203_169.out
                                  have hms72_1 := NB203_178.out
                                  have hms72_2 := NB203_202.out
                                  have hms72_4 := NB203_204.out
                                  have hs73 : w'.cell? ⟨gb203, 2, none⟩ = some (.int .i64 0) := (blk_cell BK203.out 2).trans rfl
                                  have hfs73 := blk_frozen BK203.out 2
                                  have hns73_0 := NB169_203.out
                                  have hns73_1 := NB178_203.out
                                  have hns73_2 := NB202_203.out
                                  have hns73_4 := NB204_203.out
                                  have hms73_0 := NB203_169.out
                                  have hms73_1 := NB203_178.out
                                  have hms73_2 := NB203_202.out
                                  have hms73_4 := NB203_204.out
                                  have hs74 : w'.cell? ⟨gb203, 3, none⟩ = some (.int .i64 0) := (blk_cell BK203.out 3).trans rfl
                                  have hfs74 := blk_frozen BK203.out 3
                                  have hns74_0 := NB169_203.out
                                  have hns74_1 := NB178_203.out
                                  have hns74_2 := NB202_203.out
                                  have hns74_4 := NB204_203.out
                                  have hms74_0 := NB203_169.out
                                  have hms74_1 := NB203_178.out
                                  have hms74_2 := NB203_202.out
                                  have hms74_4 := NB203_204.out
                                  have hs76 : w'.cell? ⟨gb203, 4, none⟩ = some (.slice none 0 0) := (blk_cell BK203.out 4).trans rfl
                                  have hfs76 := blk_frozen BK203.out 4
                                  have hns76_0 := NB169_203.out
                                  have hns76_1 := NB178_203.out
                                  have hns76_2 := NB202_203.out
                                  have hns76_4 := NB204_203.out
                                  have hms76_0 := NB203_169.out
                                  have hms76_1 := NB203_178.out
                                  have hms76_2 := NB203_202.out
                                  have hms76_4 := NB203_204.out
                                  refine skip_ (w1 := ?_) (by rfl) rfl ?_ ?_
                                  rotate_left
                                  · go_simp
                                    rfl
                                  refine hK.out _ _ ⟨v186, .slice Ao75 t192.length co75, v200, gb202, gb203, gb204, m1_, m3_, m5_, m6_, m7_, m8_, (by rw [ha.out]; exact putSel_none (v := undef) rfl), fun h0_ => absurd ((hon 1 (by kernel_rfl)).symm.trans h0_) (by decide), (by (with_reducible repeat (first | refine blk_drewN ?_ _ | refine blk_drew ?_ | refine blk_alloc ?_ _)); refine blk_far ?_ NB169_203.out _; (with_reducible repeat (first | refine blk_drewN ?_ _ | refine blk_drew ?_ | refine blk_alloc ?_ _)); refine blk_far ?_ NB169_203.out _; (with_reducible repeat (first | refine blk_drewN ?_ _ | refine blk_drew ?_ | refine blk_alloc ?_ _)); refine blk_far ?_ NB169_203.out _; (with_reducible repeat (first | refine blk_drewN ?_ _ | refine blk_drew ?_ | refine blk_alloc ?_ _)); refine blk_far ?_ NB169_203.out _; (with_reducible repeat (first | refine blk_drewN ?_ _ | refine blk_drew ?_ | refine blk_alloc ?_ _)); refine blk_far ?_ NB169_203.out _; (with_reducible repeat (first | refine blk_drewN ?_ _ | refine blk_drew ?_ | refine blk_alloc ?_ _)); exact BK169.out), (by (with_reducible repeat (first | refine blk_drewN ?_ _ | refine blk_drew ?_ | refine blk_alloc ?_ _)); refine blk_far ?_ NB178_203.out _; (with_reducible repeat (first | refine blk_drewN ?_ _ | refine blk_drew ?_ | refine blk_alloc ?_ _)); refine blk_far ?_ NB178_203.out _; (with_reducible repeat (first | refine blk_drewN ?_ _ | refine blk_drew ?_ | refine blk_alloc ?_ _)); refine blk_far ?_ NB178_203.out _; (with_reducible repeat (first | refine blk_drewN ?_ _ | refine blk_drew ?_ | refine blk_alloc ?_ _)); refine blk_far ?_ NB178_203.out _; (with_reducible repeat (first | refine blk_drewN ?_ _ | refine blk_drew ?_ | refine blk_alloc ?_ _)); refine blk_far ?_ NB178_203.out _; (with_reducible repeat (first | refine blk_drewN ?_ _ | refine blk_drew ?_ | refine blk_alloc ?_ _)); exact BK178.out), (by repeat (first | (with_reducible first | exact HB.out | apply below_alloc | apply pw_below_drewN | apply below_drew1 | refine below_set ?_ GE169.out | refine below_set ?_ GE178.out | refine below_set ?_ GE202.out | refine below_set ?_ GE203.out | refine below_set ?_ GE204.out) | exact HB.out)), fun _ _ => NB203_202.out, fun _ _ => NB202_203.out, fun _ _ => NB204_202.out, fun _ _ => NB202_204.out, fun _ _ => NB204_203.out, fun _ _ => NB203_204.out, fun _ h1_ => absurd ((hon 3 (by kernel_rfl)).symm.trans h1_) (by decide), fun _ h1_ => absurd ((hon 3 (by kernel_rfl)).symm.trans h1_) (by decide), fun _ h1_ => absurd ((hon 5 (by kernel_rfl)).symm.trans h1_) (by decide), fun _ h1_ => absurd ((hon 5 (by kernel_rfl)).symm.trans h1_) (by decide), fun _ h1_ => absurd ((hon 5 (by kernel_rfl)).symm.trans h1_) (by decide), fun _ => (by (with_reducible repeat (first | apply Kd.R_alloc | apply Kd.R_drewN | apply Kd.R_drew)); exact Kd.R_mono (Kd.R_far (p := ⟨gb203, 4, none⟩) (Kd.R_far (p := ⟨gb203, 3, none⟩) (Kd.R_far (p := ⟨gb203, 2, none⟩) (Kd.R_far (p := ⟨gb203, 1, none⟩) (Kd.R_far (p := ⟨gb203, 0, none⟩) (Kd.R_types HO187.out BK203.out (by decide)) (fun _ hk => hk.2) (.string t188)) (fun _ hk => hk.2) (.int .i64 t189)) (fun _ hk => hk.2) (.int .i64 t190)) (fun _ hk => hk.2) (.int .i64 t191)) (fun _ hk => hk.2) (.slice Ao75 t192.length co75)) (fun _ hk => by first | exact ⟨hk.1.1, ⟨hk.1.2.1, hk.1.2.2⟩⟩ | (simp only [own_len] at hk ⊢; exact ⟨hk.1.1, ⟨hk.1.2.1, hk.1.2.2⟩⟩))), fun _ => (by (with_reducible repeat (first | apply Kd.R_alloc | apply Kd.R_drewN | apply Kd.R_drew)); exact Kd.R_mono (Kd.R_far (p := ⟨gb203, 4, none⟩) (Kd.R_far (p := ⟨gb203, 3, none⟩) (Kd.R_far (p := ⟨gb203, 2, none⟩) (Kd.R_far (p := ⟨gb203, 1, none⟩) (Kd.R_far (p := ⟨gb203, 0, none⟩) (Kd.R_types HO194.out BK203.out (by decide)) (fun _ hk => hk.2) (.string t188)) (fun _ hk => hk.2) (.int .i64 t189)) (fun _ hk => hk.2) (.int .i64 t190)) (fun _ hk => hk.2) (.int .i64 t191)) (fun _ hk => hk.2) (.slice Ao75 t192.length co75)) (fun _ hk => by first | exact ⟨hk.1.1, ⟨hk.1.2.1, hk.1.2.2⟩⟩ | (simp only [own_len] at hk ⊢; exact ⟨hk.1.1, ⟨hk.1.2.1, hk.1.2.2⟩⟩))), fun _ => (by (with_reducible repeat (first | apply Kd.R_alloc | apply Kd.R_drewN | apply Kd.R_drew)); exact Kd.R_mono (Kd.R_far (p := ⟨gb203, 4, none⟩) (Kd.R_far (p := ⟨gb203, 3, none⟩) (Kd.R_far (p := ⟨gb203, 2, none⟩) (Kd.R_far (p := ⟨gb203, 1, none⟩) (Kd.R_far (p := ⟨gb203, 0, none⟩) (Kd.R_types HO201.out BK203.out (by decide)) (fun _ hk => hk.2) (.string t188)) (fun _ hk => hk.2) (.int .i64 t189)) (fun _ hk => hk.2) (.int .i64 t190)) (fun _ hk => hk.2) (.int .i64 t191)) (fun _ hk => hk.2) (.slice Ao75 t192.length co75)) (fun _ hk => by first | exact ⟨hk.1.1, ⟨hk.1.2.1, hk.1.2.2⟩⟩ | (simp only [own_len] at hk ⊢; exact ⟨hk.1.1, ⟨hk.1.2.1, hk.1.2.2⟩⟩))), fun _ => (by (with_reducible repeat (first | apply Kd.R_alloc | apply Kd.R_drewN | apply Kd.R_drew)); exact Kd.R_mono (Kd.R_far (p := ⟨gb203, 4, none⟩) (Kd.R_far (p := ⟨gb203, 3, none⟩) (Kd.R_far (p := ⟨gb203, 2, none⟩) (Kd.R_far (p := ⟨gb203, 1, none⟩) (Kd.R_far (p := ⟨gb203, 0, none⟩) (Kd.R_types HO_179004.out BK203.out (by decide)) (fun _ hk => hk.2) (.string t188)) (fun _ hk => hk.2) (.int .i64 t189)) (fun _ hk => hk.2) (.int .i64 t190)) (fun _ hk => hk.2) (.int .i64 t191)) (fun _ hk => hk.2) (.slice Ao75 t192.length co75)) (fun _ hk => by first | exact ⟨hk.1.1, ⟨hk.1.2.1, hk.1.2.2⟩⟩ | (simp only [own_len] at hk ⊢; exact ⟨hk.1.1, ⟨hk.1.2.1, hk.1.2.2⟩⟩))), fun _ h1_ => absurd ((hon 9 (by kernel_rfl)).symm.trans h1_) (by decide), fun _ => GW202.out, fun _ => GE202.out, fun _ => NB169_202.out, fun _ => NB202_169.out, fun _ => NB178_202.out, fun _ => NB202_178.out, fun _ h1_ => absurd ((up_self b 10).symm.trans h1_) (by decide), fun _ => GW203.out, fun _ => GE203.out, fun _ => NB169_203.out, fun _ => NB203_169.out, fun _ => NB178_203.out, fun _ => NB203_178.out, fun _ _ => (by (with_reducible repeat (first | refine blk_drewN ?_ _ | refine blk_drew ?_ | refine blk_alloc ?_ _)); refine blk_far ?_ NB204_203.out _; (with_reducible repeat (first | refine blk_drewN ?_ _ | refine blk_drew ?_ | refine blk_alloc ?_ _)); refine blk_far ?_ NB204_203.out _; (with_reducible repeat (first | refine blk_drewN ?_ _ | refine blk_drew ?_ | refine blk_alloc ?_ _)); refine blk_far ?_ NB204_203.out _; (with_reducible repeat (first | refine blk_drewN ?_ _ | refine blk_drew ?_ | refine blk_alloc ?_ _)); refine blk_far ?_ NB204_203.out _; (with_reducible repeat (first | refine blk_drewN ?_ _ | refine blk_drew ?_ | refine blk_alloc ?_ _)); refine blk_far ?_ NB204_203.out _; (with_reducible repeat (first | refine blk_drewN ?_ _ | refine blk_drew ?_ | refine blk_alloc ?_ _)); exact BK204.out), fun _ => GW204.out, fun _ => GE204.out, fun _ => NB169_204.out, fun _ => NB204_169.out, fun _ => NB178_204.out, fun _ => NB204_178.out, fun _ => (by (with_reducible repeat (first | refine blk_drewN ?_ _ | refine blk_drew ?_ | refine blk_alloc ?_ _)); refine blk_far ?_ NB202_203.out _; (with_reducible repeat (first | refine blk_drewN ?_ _ | refine blk_drew ?_ | refine blk_alloc ?_ _)); refine blk_far ?_ NB202_203.out _; (with_reducible repeat (first | refine blk_drewN ?_ _ | refine blk_drew ?_ | refine blk_alloc ?_ _)); refine blk_far ?_ NB202_203.out _; (with_reducible repeat (first | refine blk_drewN ?_ _ | refine blk_drew ?_ | refine blk_alloc ?_ _)); refine blk_far ?_ NB202_203.out _; (with_reducible repeat (first | refine blk_drewN ?_ _ | refine blk_drew ?_ | refine blk_alloc ?_ _)); refine blk_far ?_ NB202_203.out _; (with_reducible repeat (first | refine blk_drewN ?_ _ | refine blk_drew ?_ | refine blk_alloc ?_ _)); exact BK202.out), fun _ => (by (with_reducible repeat (first | refine blk_drewN ?_ _ | refine blk_drew ?_ | refine blk_alloc ?_ _)); refine blk_put (cs := #[.string t188, .int .i64 t189, .int .i64 t190, .int .i64 t191, .slice none 0 0]) ?_ 4 _ rfl; (with_reducible repeat (first | refine blk_drewN ?_ _ | refine blk_drew ?_ | refine blk_alloc ?_ _)); refine blk_put (cs := #[.string t188, .int .i64 t189, .int .i64 t190, .int .i64 0, .slice none 0 0]) ?_ 3 _ rfl; (with_reducible repeat (first | refine blk_drewN ?_ _ | refine blk_drew ?_ | refine blk_alloc ?_ _)); refine blk_put (cs := #[.string t188, .int .i64 t189, .int .i64 0, .int .i64 0, .slice none 0 0]) ?_ 2 _ rfl; (with_reducible repeat (first | refine blk_drewN ?_ _ | refine blk_drew ?_ | refine blk_alloc ?_ _)); refine blk_put (cs := #[.string t188, .int .i64 0, .int .i64 0, .int .i64 0, .slice none 0 0]) ?_ 1 _ rfl; (with_reducible repeat (first | refine blk_drewN ?_ _ | refine blk_drew ?_ | refine blk_alloc ?_ _)); refine blk_put (cs := #[.string (⟨#[]⟩ : ByteArray), .int .i64 0, .int .i64 0, .int .i64 0, .slice none 0 0]) ?_ 0 _ rfl; (with_reducible repeat (first | refine blk_drewN ?_ _ | refine blk_drew ?_ | refine blk_alloc ?_ _)); exact BK203.out), fun h0_ => absurd ((hoff 11 (by kernel_rfl)).symm.trans h0_) (by decide), Q_X1_, Q_X3_, Q_X5_, Q_X6_, Q_X7_, Q_X8_⟩
                                refine steps_cons ?_ ?_
                                · rintro b a w' ⟨v186, v193, v200, gb202, gb203, gb204, m1_, m3_, m5_, m6_, m7_, m8_, ha, Q_HO_179004, Q_BK169, Q_BK178, Q_HB, Q_NB203_202, Q_NB202_203, Q_NB204_202, Q_NB202_204, Q_NB204_203, Q_NB203_204, Q_HO187, Q_HO_179004_e1, Q_HO187_e3, Q_HO194, Q_HO_179004_e3, Q_HO187_e5, Q_HO194_e5, Q_HO201, Q_HO_179004_e5, Q_BK202, Q_GW202, Q_GE202, Q_NB169_202, Q_NB202_169, Q_NB178_202, Q_NB202_178, Q_BK203, Q_GW203, Q_GE203, Q_NB169_203, Q_NB203_169, Q_NB178_203, Q_NB203_178, Q_BK204, Q_GW204, Q_GE204, Q_NB169_204, Q_NB204_169, Q_NB178_204, Q_NB204_178, Q_BK202_e9, Q_BK203_e10, Q_BK204_e11, Q_X1_, Q_X3_, Q_X5_, Q_X6_, Q_X7_, Q_X8_⟩ hb_ hon hoff
                                  refine ⟨_, rfl, fun K hK => ?_⟩
                                  have e10 : a.tmps[10]? = some (m8_) := by rw [ha]; exact putSel_on (e := (8, 10, m8_)) 8 rfl rfl (hon 8 (by kernel_rfl)) rfl
                                  rw [Q_X8_ (hon 8 (by kernel_rfl))] at e10
                                  have e64 : a.tmps[64]? = some (m5_) := by rw [ha]; exact putSel_on (e := (5, 64, m5_)) 5 rfl rfl (hon 5 (by kernel_rfl)) rfl
                                  rw [Q_X5_ (hon 5 (by kernel_rfl))] at e64
                                  replace ha := Aside0.mk ha
                                  have BK169 := Aside0.mk Q_BK169
                                  have BK178 := Aside0.mk Q_BK178
                                  have HB := Aside0.mk Q_HB
                                  have NB203_202 := Aside0.mk (Q_NB203_202 (hon 6 (by kernel_rfl)) (hon 7 (by kernel_rfl)))
                                  have NB202_203 := Aside0.mk (Q_NB202_203 (hon 6 (by kernel_rfl)) (hon 7 (by kernel_rfl)))
                                  have NB204_202 := Aside0.mk (Q_NB204_202 (hon 6 (by kernel_rfl)) (hon 8 (by kernel_rfl)))
                                  have NB202_204 := Aside0.mk (Q_NB202_204 (hon 6 (by kernel_rfl)) (hon 8 (by kernel_rfl)))
                                  have NB204_203 := Aside0.mk (Q_NB204_203 (hon 7 (by kernel_rfl)) (hon 8 (by kernel_rfl)))
                                  have NB203_204 := Aside0.mk (Q_NB203_204 (hon 7 (by kernel_rfl)) (hon 8 (by kernel_rfl)))
                                  have HO187 := Aside0.mk (Q_HO187_e5 (hon 5 (by kernel_rfl)))
                                  have HO194 := Aside0.mk (Q_HO194_e5 (hon 5 (by kernel_rfl)))
                                  have HO201 := Aside0.mk (Q_HO201 (hon 5 (by kernel_rfl)))
                                  have HO_179004 := Aside0.mk (Q_HO_179004_e5 (hon 5 (by kernel_rfl)))
                                  have GW202 := Aside0.mk (Q_GW202 (hon 6 (by kernel_rfl)))
                                  have GE202 := Aside0.mk (Q_GE202 (hon 6 (by kernel_rfl)))
                                  have NB169_202 := Aside0.mk (Q_NB169_202 (hon 6 (by kernel_rfl)))
                                  have NB202_169 := Aside0.mk (Q_NB202_169 (hon 6 (by kernel_rfl)))
                                  have NB178_202 := Aside0.mk (Q_NB178_202 (hon 6 (by kernel_rfl)))
                                  have NB202_178 := Aside0.mk (Q_NB202_178 (hon 6 (by kernel_rfl)))
                                  have GW203 := Aside0.mk (Q_GW203 (hon 7 (by kernel_rfl)))
                                  have GE203 := Aside0.mk (Q_GE203 (hon 7 (by kernel_rfl)))
                                  have NB169_203 := Aside0.mk (Q_NB169_203 (hon 7 (by kernel_rfl)))
                                  have NB203_169 := Aside0.mk (Q_NB203_169 (hon 7 (by kernel_rfl)))
                                  have NB178_203 := Aside0.mk (Q_NB178_203 (hon 7 (by kernel_rfl)))
                                  have NB203_178 := Aside0.mk (Q_NB203_178 (hon 7 (by kernel_rfl)))
                                  have BK204 := Aside0.mk (Q_BK204 (hon 8 (by kernel_rfl)) hb_)
                                  have GW204 := Aside0.mk (Q_GW204 (hon 8 (by kernel_rfl)))
                                  have GE204 := Aside0.mk (Q_GE204 (hon 8 (by kernel_rfl)))
                                  have NB169_204 := Aside0.mk (Q_NB169_204 (hon 8 (by kernel_rfl)))
                                  have NB204_169 := Aside0.mk (Q_NB204_169 (hon 8 (by kernel_rfl)))
                                  have NB178_204 := Aside0.mk (Q_NB178_204 (hon 8 (by kernel_rfl)))
                                  have NB204_178 := Aside0.mk (Q_NB204_178 (hon 8 (by kernel_rfl)))
                                  have BK202 := Aside0.mk (Q_BK202_e9 (hon 9 (by kernel_rfl)))
                                  have BK203 := Aside0.mk (Q_BK203_e10 (hon 10 (by kernel_rfl)))
                                  obtain ⟨Ao81, co81, eo81⟩ := Kd.R_slice HO201.out
                                  (first | subst eo81 | (injection eo81 with f1_ f2_ f3_; have f4_ := f1_.symm; have f5_ := f3_.symm; clear f1_ f2_ f3_; subst f4_; subst f5_))
                                  have hs77 : w'.cell? ⟨gb204, 0, none⟩ = some (.string (⟨#[]⟩ : ByteArray)) := (blk_cell BK204.out 0).trans rfl
                                  have hfs77 := blk_frozen BK204.out 0
                                  have hns77_0 := NB169_204.out
                                  have hns77_1 := NB178_204.out
                                  have hns77_2 := NB202_204.out
                                  have hns77_3 := NB203_204.out
                                  have hms77_0 := NB204_169.out
                                  have hms77_1 := NB204_178.out
                                  have hms77_2 := NB204_202.out
                                  have hms77_3 := NB204_203.out
                                  have hs78 : w'.cell? ⟨gb204, 1, none⟩ = some (.int .i64 0) := (blk_cell BK204.out 1).trans rfl
                                  have hfs78 := blk_frozen BK204.out 1
                                  have hns78_0 := NB169_204.out
                                  have hns78_1 := NB178_204.out
                                  have hns78_2 := NB202_204.out
                                  have hns78_3 := NB203_204.out
                                  have hms78_0 := NB204_169.out
                                  have hms78_1 := NB204_178.out
                                  have hms78_2 := NB204_202.out
                                  have hms78_3 := NB204_203.out
                                  have hs79 : w'.cell? ⟨gb204, 2, none⟩ = some (.int .i64 0) := (blk_cell BK204.out 2).trans rfl
                                  have hfs79 := blk_frozen BK204.out 2
                                  have hns79_0 := NB169_204.out
                                  have hns79_1 := NB178_204.out
                                  have hns79_2 := NB202_204.out
                                  have hns79_3 := NB203_204.out
                                  have hms79_0 := NB204_169.out
                                  have hms79_1 := NB204_178.out
                                  have hms79_2 := NB204_202.out
                                  have hms79_3 := NB204_203.out
                                  have hs80 : w'.cell? ⟨gb204, 3, none⟩ = some (.int .i64 0) := (blk_cell BK204.out 3).trans rfl
                                  have hfs80 := blk_frozen BK204.out 3
                                  have hns80_0 := NB169_204.out
                                  have hns80_1 := NB178_204.out
                                  have hns80_2 := NB202_204.out
                                  have hns80_3 := NB203_204.out
                                  have hms80_0 := NB204_169.out
                                  have hms80_1 := NB204_178.out
                                  have hms80_2 := NB204_202.out
                                  have hms80_3 := NB204_203.out
                                  have hs82 : w'.cell? ⟨gb204, 4, none⟩ = some (.slice none 0 0) := (blk_cell BK204.out 4).trans rfl
                                  have hfs82 := blk_frozen BK204.out 4
                                  have hns82_0 := NB169_204.out
                                  have hns82_1 := NB178_204.out
                                  have hns82_2 := NB202_204.out
                                  have hns82_3 := NB203_204.out
                                  have hms82_0 := NB204_169.out
                                  have hms82_1 := NB204_178.out
                                  have hms82_2 := NB204_202.out
                                  have hms82_3 := NB204_203.out
                                  refine skip_ (w1 := ?_) (by rfl) rfl ?_ ?_
                                  rotate_left
                                  · go_simp
                                    rfl
                                  refine hK.out _ _ ⟨v186, v193, .slice Ao81 t199.length co81, gb202, gb203, gb204, m1_, m3_, m5_, m6_, m7_, m8_, (by rw [ha.out]; exact putSel_none (v := undef) rfl), fun h0_ => absurd ((hon 1 (by kernel_rfl)).symm.trans h0_) (by decide), (by (with_reducible repeat (first | refine blk_drewN ?_ _ | refine blk_drew ?_ | refine blk_alloc ?_ _)); refine blk_far ?_ NB169_204.out _; (with_reducible repeat (first | refine blk_drewN ?_ _ | refine blk_drew ?_ | refine blk_alloc ?_ _)); refine blk_far ?_ NB169_204.out _; (with_reducible repeat (first | refine blk_drewN ?_ _ | refine blk_drew ?_ | refine blk_alloc ?_ _)); refine blk_far ?_ NB169_204.out _; (with_reducible repeat (first | refine blk_drewN ?_ _ | refine blk_drew ?_ | refine blk_alloc ?_ _)); refine blk_far ?_ NB169_204.out _; (with_reducible repeat (first | refine blk_drewN ?_ _ | refine blk_drew ?_ | refine blk_alloc ?_ _)); refine blk_far ?_ NB169_204.out _; (with_reducible repeat (first | refine blk_drewN ?_ _ | refine blk_drew ?_ | refine blk_alloc ?_ _)); exact BK169.out), (by (with_reducible repeat (first | refine blk_drewN ?_ _ | refine blk_drew ?_ | refine blk_alloc ?_ _)); refine blk_far ?_ NB178_204.out _; (with_reducible repeat (first | refine blk_drewN ?_ _ | refine blk_drew ?_ | refine blk_alloc ?_ _)); refine blk_far ?_ NB178_204.out _; (with_reducible repeat (first | refine blk_drewN ?_ _ | refine blk_drew ?_ | refine blk_alloc ?_ _)); refine blk_far ?_ NB178_204.out _; (with_reducible repeat (first | refine blk_drewN ?_ _ | refine blk_drew ?_ | refine blk_alloc ?_ _)); refine blk_far ?_ NB178_204.out _; (with_reducible repeat (first | refine blk_drewN ?_ _ | refine blk_drew ?_ | refine blk_alloc ?_ _)); refine blk_far ?_ NB178_204.out _; (with_reducible repeat (first | refine blk_drewN ?_ _ | refine blk_drew ?_ | refine blk_alloc ?_ _)); exact BK178.out), (by repeat (first | (with_reducible first | exact HB.out | apply below_alloc | apply pw_below_drewN | apply below_drew1 | refine below_set ?_ GE169.out | refine below_set ?_ GE178.out | refine below_set ?_ GE202.out | refine below_set ?_ GE203.out | refine below_set ?_ GE204.out) | exact HB.out)), fun _ _ => NB203_202.out, fun _ _ => NB202_203.out, fun _ _ => NB204_202.out, fun _ _ => NB202_204.out, fun _ _ => NB204_203.out, fun _ _ => NB203_204.out, fun _ h1_ => absurd ((hon 3 (by kernel_rfl)).symm.trans h1_) (by decide), fun _ h1_ => absurd ((hon 3 (by kernel_rfl)).symm.trans h1_) (by decide), fun _ h1_ => absurd ((hon 5 (by kernel_rfl)).symm.trans h1_) (by decide), fun _ h1_ => absurd ((hon 5 (by kernel_rfl)).symm.trans h1_) (by decide), fun _ h1_ => absurd ((hon 5 (by kernel_rfl)).symm.trans h1_) (by decide), fun _ => (by (with_reducible repeat (first | apply Kd.R_alloc | apply Kd.R_drewN | apply Kd.R_drew)); exact Kd.R_mono (Kd.R_far (p := ⟨gb204, 4, none⟩) (Kd.R_far (p := ⟨gb204, 3, none⟩) (Kd.R_far (p := ⟨gb204, 2, none⟩) (Kd.R_far (p := ⟨gb204, 1, none⟩) (Kd.R_far (p := ⟨gb204, 0, none⟩) (Kd.R_types HO187.out BK204.out (by decide)) (fun _ hk => hk.2) (.string t195)) (fun _ hk => hk.2) (.int .i64 t196)) (fun _ hk => hk.2) (.int .i64 t197)) (fun _ hk => hk.2) (.int .i64 t198)) (fun _ hk => hk.2) (.slice Ao81 t199.length co81)) (fun _ hk => by first | exact ⟨hk.1.1, ⟨hk.1.2.1, hk.1.2.2⟩⟩ | (simp only [own_len] at hk ⊢; exact ⟨hk.1.1, ⟨hk.1.2.1, hk.1.2.2⟩⟩))), fun _ => (by (with_reducible repeat (first | apply Kd.R_alloc | apply Kd.R_drewN | apply Kd.R_drew)); exact Kd.R_mono (Kd.R_far (p := ⟨gb204, 4, none⟩) (Kd.R_far (p := ⟨gb204, 3, none⟩) (Kd.R_far (p := ⟨gb204, 2, none⟩) (Kd.R_far (p := ⟨gb204, 1, none⟩) (Kd.R_far (p := ⟨gb204, 0, none⟩) (Kd.R_types HO194.out BK204.out (by decide)) (fun _ hk => hk.2) (.string t195)) (fun _ hk => hk.2) (.int .i64 t196)) (fun _ hk => hk.2) (.int .i64 t197)) (fun _ hk => hk.2) (.int .i64 t198)) (fun _ hk => hk.2) (.slice Ao81 t199.length co81)) (fun _ hk => by first | exact ⟨hk.1.1, ⟨hk.1.2.1, hk.1.2.2⟩⟩ | (simp only [own_len] at hk ⊢; exact ⟨hk.1.1, ⟨hk.1.2.1, hk.1.2.2⟩⟩))), fun _ => (by (with_reducible repeat (first | apply Kd.R_alloc | apply Kd.R_drewN | apply Kd.R_drew)); exact Kd.R_mono (Kd.R_far (p := ⟨gb204, 4, none⟩) (Kd.R_far (p := ⟨gb204, 3, none⟩) (Kd.R_far (p := ⟨gb204, 2, none⟩) (Kd.R_far (p := ⟨gb204, 1, none⟩) (Kd.R_far (p := ⟨gb204, 0, none⟩) (Kd.R_types HO201.out BK204.out (by decide)) (fun _ hk => hk.2) (.string t195)) (fun _ hk => hk.2) (.int .i64 t196)) (fun _ hk => hk.2) (.int .i64 t197)) (fun _ hk => hk.2) (.int .i64 t198)) (fun _ hk => hk.2) (.slice Ao81 t199.length co81)) (fun _ hk => by first | exact ⟨hk.1.1, ⟨hk.1.2.1, hk.1.2.2⟩⟩ | (simp only [own_len] at hk ⊢; exact ⟨hk.1.1, ⟨hk.1.2.1, hk.1.2.2⟩⟩))), fun _ => (by (with_reducible repeat (first | apply Kd.R_alloc | apply Kd.R_drewN | apply Kd.R_drew)); exact Kd.R_mono (Kd.R_far (p := ⟨gb204, 4, none⟩) (Kd.R_far (p := ⟨gb204, 3, none⟩) (Kd.R_far (p := ⟨gb204, 2, none⟩) (Kd.R_far (p := ⟨gb204, 1, none⟩) (Kd.R_far (p := ⟨gb204, 0, none⟩) (Kd.R_types HO_179004.out BK204.out (by decide)) (fun _ hk => hk.2) (.string t195)) (fun _ hk => hk.2) (.int .i64 t196)) (fun _ hk => hk.2) (.int .i64 t197)) (fun _ hk => hk.2) (.int .i64 t198)) (fun _ hk => hk.2) (.slice Ao81 t199.length co81)) (fun _ hk => by first | exact ⟨hk.1.1, ⟨hk.1.2.1, hk.1.2.2⟩⟩ | (simp only [own_len] at hk ⊢; exact ⟨hk.1.1, ⟨hk.1.2.1, hk.1.2.2⟩⟩))), fun _ h1_ => absurd ((hon 9 (by kernel_rfl)).symm.trans h1_) (by decide), fun _ => GW202.out, fun _ => GE202.out, fun _ => NB169_202.out, fun _ => NB202_169.out, fun _ => NB178_202.out, fun _ => NB202_178.out, fun _ h1_ => absurd ((hon 10 (by kernel_rfl)).symm.trans h1_) (by decide), fun _ => GW203.out, fun _ => GE203.out, fun _ => NB169_203.out, fun _ => NB203_169.out, fun _ => NB178_203.out, fun _ => NB203_178.out, fun _ h1_ => absurd ((up_self b 11).symm.trans h1_) (by decide), fun _ => GW204.out, fun _ => GE204.out, fun _ => NB169_204.out, fun _ => NB204_169.out, fun _ => NB178_204.out, fun _ => NB204_178.out, fun _ => (by (with_reducible repeat (first | refine blk_drewN ?_ _ | refine blk_drew ?_ | refine blk_alloc ?_ _)); refine blk_far ?_ NB202_204.out _; (with_reducible repeat (first | refine blk_drewN ?_ _ | refine blk_drew ?_ | refine blk_alloc ?_ _)); refine blk_far ?_ NB202_204.out _; (with_reducible repeat (first | refine blk_drewN ?_ _ | refine blk_drew ?_ | refine blk_alloc ?_ _)); refine blk_far ?_ NB202_204.out _; (with_reducible repeat (first | refine blk_drewN ?_ _ | refine blk_drew ?_ | refine blk_alloc ?_ _)); refine blk_far ?_ NB202_204.out _; (with_reducible repeat (first | refine blk_drewN ?_ _ | refine blk_drew ?_ | refine blk_alloc ?_ _)); refine blk_far ?_ NB202_204.out _; (with_reducible repeat (first | refine blk_drewN ?_ _ | refine blk_drew ?_ | refine blk_alloc ?_ _)); exact BK202.out), fun _ => (by (with_reducible repeat (first | refine blk_drewN ?_ _ | refine blk_drew ?_ | refine blk_alloc ?_ _)); refine blk_far ?_ NB203_204.out _; (with_reducible repeat (first | refine blk_drewN ?_ _ | refine blk_drew ?_ | refine blk_alloc ?_ _)); refine blk_far ?_ NB203_204.out _; (with_reducible repeat (first | refine blk_drewN ?_ _ | refine blk_drew ?_ | refine blk_alloc ?_ _)); refine blk_far ?_ NB203_204.out _; (with_reducible repeat (first | refine blk_drewN ?_ _ | refine blk_drew ?_ | refine blk_alloc ?_ _)); refine blk_far ?_ NB203_204.out _; (with_reducible repeat (first | refine blk_drewN ?_ _ | refine blk_drew ?_ | refine blk_alloc ?_ _)); refine blk_far ?_ NB203_204.out _; (with_reducible repeat (first | refine blk_drewN ?_ _ | refine blk_drew ?_ | refine blk_alloc ?_ _)); exact BK203.out), fun _ => (by (with_reducible repeat (first | refine blk_drewN ?_ _ | refine blk_drew ?_ | refine blk_alloc ?_ _)); refine blk_put (cs := #[.string t195, .int .i64 t196, .int .i64 t197, .int .i64 t198, .slice none 0 0]) ?_ 4 _ rfl; (with_reducible repeat (first | refine blk_drewN ?_ _ | refine blk_drew ?_ | refine blk_alloc ?_ _)); refine blk_put (cs := #[.string t195, .int .i64 t196, .int .i64 t197, .int .i64 0, .slice none 0 0]) ?_ 3 _ rfl; (with_reducible repeat (first | refine blk_drewN ?_ _ | refine blk_drew ?_ | refine blk_alloc ?_ _)); refine blk_put (cs := #[.string t195, .int .i64 t196, .int .i64 0, .int .i64 0, .slice none 0 0]) ?_ 2 _ rfl; (with_reducible repeat (first | refine blk_drewN ?_ _ | refine blk_drew ?_ | refine blk_alloc ?_ _)); refine blk_put (cs := #[.string t195, .int .i64 0, .int .i64 0, .int .i64 0, .slice none 0 0]) ?_ 1 _ rfl; (with_reducible repeat (first | refine blk_drewN ?_ _ | refine blk_drew ?_ | refine blk_alloc ?_ _)); refine blk_put (cs := #[.string (⟨#[]⟩ : ByteArray), .int .i64 0, .int .i64 0, .int .i64 0, .slice none 0 0]) ?_ 0 _ rfl; (with_reducible repeat (first | refine blk_drewN ?_ _ | refine blk_drew ?_ | refine blk_alloc ?_ _)); exact BK204.out), Q_X1_, Q_X3_, Q_X5_, Q_X6_, Q_X7_, Q_X8_⟩
                                exact steps_nil
                              rintro b a w82 hall ⟨v186, v193, v200, gb202, gb203, gb204, m1_, m3_, m5_, m6_, m7_, m8_, ha, Q_HO_179004, Q_BK169, Q_BK178, Q_HB, Q_NB203_202, Q_NB202_203, Q_NB204_202, Q_NB202_204, Q_NB204_203, Q_NB203_204, Q_HO187, Q_HO_179004_e1, Q_HO187_e3, Q_HO194, Q_HO_179004_e3, Q_HO187_e5, Q_HO194_e5, Q_HO201, Q_HO_179004_e5, Q_BK202, Q_GW202, Q_GE202, Q_NB169_202, Q_NB202_169, Q_NB178_202, Q_NB202_178, Q_BK203, Q_GW203, Q_GE203, Q_NB169_203, Q_NB203_169, Q_NB178_203, Q_NB203_178, Q_BK204, Q_GW204, Q_GE204, Q_NB169_204, Q_NB204_169, Q_NB178_204, Q_NB204_178, Q_BK202_e9, Q_BK203_e10, Q_BK204_e11, Q_X1_, Q_X3_, Q_X5_, Q_X6_, Q_X7_, Q_X8_⟩
                              clear BK169 BK178 HB HO_179004
                              have hb0_ := hall 0 (by kernel_rfl)
                              have hb1_ := hall 1 (by kernel_rfl)
                              have hb2_ := hall 2 (by kernel_rfl)
                              have hb3_ := hall 3 (by kernel_rfl)
                              have hb4_ := hall 4 (by kernel_rfl)
                              have hb5_ := hall 5 (by kernel_rfl)
                              have hb6_ := hall 6 (by kernel_rfl)
                              have hb7_ := hall 7 (by kernel_rfl)
                              have hb8_ := hall 8 (by kernel_rfl)
                              have hb9_ := hall 9 (by kernel_rfl)
                              have hb10_ := hall 10 (by kernel_rfl)
                              have hb11_ := hall 11 (by kernel_rfl)
                              subst ha
                              obtain rfl := Q_X1_ hb1_
                              obtain rfl := Q_X3_ hb3_
                              obtain rfl := Q_X5_ hb5_
                              obtain rfl := Q_X6_ hb6_
                              obtain rfl := Q_X7_ hb7_
                              obtain rfl := Q_X8_ hb8_
                              simp only [putSel, hb0_, hb1_, hb2_, hb3_, hb4_, hb5_, hb6_, hb7_, hb8_, hb9_, hb10_, hb11_, if_true, Act.put, List.setIfInBounds_toArray, List.set_cons_zero, List.set_cons_succ]
                              clear Q_HO_179004
                              have BK169 := Aside0.mk Q_BK169
                              clear Q_BK169
                              have BK178 := Aside0.mk Q_BK178
                              clear Q_BK178
                              have HB := Aside0.mk Q_HB
                              clear Q_HB
                              have NB203_202 := Aside0.mk (Q_NB203_202 hb6_ hb7_)
                              clear Q_NB203_202
                              have NB202_203 := Aside0.mk (Q_NB202_203 hb6_ hb7_)
                              clear Q_NB202_203
                              have NB204_202 := Aside0.mk (Q_NB204_202 hb6_ hb8_)
                              clear Q_NB204_202
                              have NB202_204 := Aside0.mk (Q_NB202_204 hb6_ hb8_)
                              clear Q_NB202_204
                              have NB204_203 := Aside0.mk (Q_NB204_203 hb7_ hb8_)
                              clear Q_NB204_203
                              have NB203_204 := Aside0.mk (Q_NB203_204 hb7_ hb8_)
                              clear Q_NB203_204
                              clear Q_HO187
                              clear Q_HO_179004_e1
                              clear Q_HO187_e3
                              clear Q_HO194
                              clear Q_HO_179004_e3
                              have HO187 := Aside0.mk (Q_HO187_e5 hb5_)
                              clear Q_HO187_e5
                              have HO194 := Aside0.mk (Q_HO194_e5 hb5_)
                              clear Q_HO194_e5
                              have HO201 := Aside0.mk (Q_HO201 hb5_)
                              clear Q_HO201
                              have HO_179004 := Aside0.mk (Q_HO_179004_e5 hb5_)
                              clear Q_HO_179004_e5
                              clear Q_BK202
                              have GW202 := Aside0.mk (Q_GW202 hb6_)
                              clear Q_GW202
                              have GE202 := Aside0.mk (Q_GE202 hb6_)
                              clear Q_GE202
                              have NB169_202 := Aside0.mk (Q_NB169_202 hb6_)
                              clear Q_NB169_202
                              have NB202_169 := Aside0.mk (Q_NB202_169 hb6_)
                              clear Q_NB202_169
                              have NB178_202 := Aside0.mk (Q_NB178_202 hb6_)
                              clear Q_NB178_202
                              have NB202_178 := Aside0.mk (Q_NB202_178 hb6_)
                              clear Q_NB202_178
                              clear Q_BK203
                              have GW203 := Aside0.mk (Q_GW203 hb7_)
                              clear Q_GW203
                              have GE203 := Aside0.mk (Q_GE203 hb7_)
                              clear Q_GE203
                              have NB169_203 := Aside0.mk (Q_NB169_203 hb7_)
                              clear Q_NB169_203
                              have NB203_169 := Aside0.mk (Q_NB203_169 hb7_)
                              clear Q_NB203_169
                              have NB178_203 := Aside0.mk (Q_NB178_203 hb7_)
                              clear Q_NB178_203
                              have NB203_178 := Aside0.mk (Q_NB203_178 hb7_)
                              clear Q_NB203_178
                              clear Q_BK204
                              have GW204 := Aside0.mk (Q_GW204 hb8_)
                              clear Q_GW204
                              have GE204 := Aside0.mk (Q_GE204 hb8_)
                              clear Q_GE204
                              have NB169_204 := Aside0.mk (Q_NB169_204 hb8_)
                              clear Q_NB169_204
                              have NB204_169 := Aside0.mk (Q_NB204_169 hb8_)
                              clear Q_NB204_169
                              have NB178_204 := Aside0.mk (Q_NB178_204 hb8_)
                              clear Q_NB178_204
                              have NB204_178 := Aside0.mk (Q_NB204_178 hb8_)
                              clear Q_NB204_178
                              have BK202 := Aside0.mk (Q_BK202_e9 hb9_)
                              clear Q_BK202_e9
                              have BK203 := Aside0.mk (Q_BK203_e10 hb10_)
                              clear Q_BK203_e10
                              have BK204 := Aside0.mk (Q_BK204_e11 hb11_)
                              clear Q_BK204_e11
                              clear hall hb0_ hb1_ hb2_ hb3_ hb4_ hb5_ hb6_ hb7_ hb8_ hb9_ hb10_ hb11_
                              have hnb83 := NB202_169.out
                              have hnc83 := NB169_202.out
                              have hnb84 := NB202_178.out
                              have hnc84 := NB178_202.out
                              have hnb85 := NB202_203.out
                              have hnc85 := NB203_202.out
                              have hnb86 := NB202_204.out
                              have hnc86 := NB204_202.out
                              have hcz87_0 : w82.cell? ⟨gb202, 0, none⟩ = some (.string t181) := (blk_cell BK202.out 0).trans rfl
                              have hcz87_1 : w82.cell? ⟨gb202, 1, none⟩ = some (.int .i64 t182) := (blk_cell BK202.out 1).trans rfl
                              have hcz87_2 : w82.cell? ⟨gb202, 2, none⟩ = some (.int .i64 t183) := (blk_cell BK202.out 2).trans rfl
                              have hcz87_3 : w82.cell? ⟨gb202, 3, none⟩ = some (.int .i64 t184) := (blk_cell BK202.out 3).trans rfl
                              have hcz87_4 : w82.cell? ⟨gb202, 4, none⟩ = some (v186) := (blk_cell BK202.out 4).trans rfl
                              have hfz87_0 := blk_frozen BK202.out 0
                              have hfz87_1 := blk_frozen BK202.out 1
                              have hfz87_2 := blk_frozen BK202.out 2
                              have hfz87_3 := blk_frozen BK202.out 3
                              have hfz87_4 := blk_frozen BK202.out 4
                              obtain ⟨Ao88, co88, eo88⟩ := Kd.R_slice HO187.out
                              subst eo88
                              have q89 : ((ji48) : Int) ≤ ((t185.length : Int) : Int) := of_decide_eq_true (by first | (with_reducible assumption) | assumption)
                              obtain ⟨i089, hi089, _, hsz89, _⟩ := info_parts info39
                              have hcut89 := cut_to (P := Try.prog) 26 39 .i64 Try.underlying26 hi089 Ao88 t185.length co88 (ji48) (of_decide_eq_true (by first | (with_reducible assumption) | assumption)) q89 (Kd.R_reads' HO187.out).2.1
                              have hr89 := Kd.R_take (m := ((ji48) : Int).toNat) HO187.out (by omega)
                              have hy89 : y205.length = ((ji48) : Int).toNat := (by rw [Ny205.out, List.length_take]; omega)
                              rw [← Ny205.out] at hr89
                              rw [← hy89] at hr89 hcut89
                              clear hy89 hi089 hsz89 HO187
                              have HO207 := Aside0.mk hr89
                              clear hr89
                              replace q89 := eq_true q89
                              have hnb90 := NB203_169.out
                              have hnc90 := NB169_203.out
                              have hnb91 := NB203_178.out
                              have hnc91 := NB178_203.out
                              have hnb92 := NB203_204.out
                              have hnc92 := NB204_203.out
                              have hcz93_0 : w82.cell? ⟨gb203, 0, none⟩ = some (.string t188) := (blk_cell BK203.out 0).trans rfl
                              have hcz93_1 : w82.cell? ⟨gb203, 1, none⟩ = some (.int .i64 t189) := (blk_cell BK203.out 1).trans rfl
                              have hcz93_2 : w82.cell? ⟨gb203, 2, none⟩ = some (.int .i64 t190) := (blk_cell BK203.out 2).trans rfl
                              have hcz93_3 : w82.cell? ⟨gb203, 3, none⟩ = some (.int .i64 t191) := (blk_cell BK203.out 3).trans rfl
                              have hcz93_4 : w82.cell? ⟨gb203, 4, none⟩ = some (v193) := (blk_cell BK203.out 4).trans rfl
                              have hfz93_0 := blk_frozen BK203.out 0
                              have hfz93_1 := blk_frozen BK203.out 1
                              have hfz93_2 := blk_frozen BK203.out 2
                              have hfz93_3 := blk_frozen BK203.out 3
                              have hfz93_4 := blk_frozen BK203.out 4
                              try go_wp2_with (first | ((with_reducible refine gate_builtin (b := .append) (xs := #[.tmp 74, .tmp 76]) rfl ?_); (try (refine gate_guard (by rfl) ?_; dsimp only)); at_builtin; refine Kd.R_append k39 (w0 := w) w.heap.size rfl (.tmp 74) (.tmp 76) 26 39 (.agg #[(.int .i64 0), (.int .i64 0), (.int .i64 0), (.string ⟨#[]⟩)]) 40 rfl Try.underlying26 info39 rfl (by decide) (by omega) v193 t192 (⟨5, 0, 0, (⟨#[]⟩ : ByteArray)⟩ : S39) [.int .i64 5, .int .i64 0, .int .i64 0, .string (⟨#[]⟩ : ByteArray)] (fun k_ => some k_ ≠ (.slice Ao19 t175.length co19 : Value).ownBlock ∧ some k_ ≠ (.slice Ao88 y205.length co88 : Value).ownBlock ∧ some k_ ≠ (v200 : Value).ownBlock) (fun _ => False) rfl (by first | (go_simp; done) | (go_simp; rfl)) ?aP (fun _ hk => hk.elim) ?aF ?aO ?aB ?aS ?aL ?_; (case aP => exact k39_mkM _ _ _ (⟨5, 0, 0, (⟨#[]⟩ : ByteArray)⟩ : S39)); (case aB => exact (by repeat (first | (with_reducible first | exact HB.out | apply below_alloc | apply pw_below_drewN | apply below_drew1 | refine below_set ?_ GE169.out | refine below_set ?_ GE178.out | refine below_set ?_ GE202.out | refine below_set ?_ GE203.out | refine below_set ?_ GE204.out) | exact HB.out))); (case aF => exact (fun k_ hk => ⟨Kd.fresh' (Kd.R_lt (by (with_reducible repeat (first | apply Kd.R_alloc | apply Kd.R_drewN | apply Kd.R_drew)); exact (Kd.R_mono (Kd.R_far (p := ⟨gb202, 4, none⟩) (Kd.R_types HO_179004.out BK202.out (by decide)) (fun _ hk => hk.2) (.slice Ao88 y205.length co88)) (fun _ h_ => h_.1)))) k_ hk, Kd.fresh' (Kd.R_lt (by (with_reducible repeat (first | apply Kd.R_alloc | apply Kd.R_drewN | apply Kd.R_drew)); exact (Kd.R_mono (Kd.R_far (p := ⟨gb202, 4, none⟩) (Kd.R_types HO207.out BK202.out (by decide)) (fun _ hk => hk.2) (.slice Ao88 y205.length co88)) (fun _ h_ => h_.1)))) k_ hk, Kd.fresh' (Kd.R_lt (by (with_reducible repeat (first | apply Kd.R_alloc | apply Kd.R_drewN | apply Kd.R_drew)); exact (Kd.R_mono (Kd.R_far (p := ⟨gb202, 4, none⟩) (Kd.R_types HO201.out BK202.out (by decide)) (fun _ hk => hk.2) (.slice Ao88 y205.length co88)) (fun _ h_ => h_.1)))) k_ hk⟩)); (case aO => exact (by (with_reducible repeat (first | apply Kd.R_alloc | apply Kd.R_drewN | apply Kd.R_drew)); exact Kd.R_mono (Kd.R_far (p := ⟨gb202, 4, none⟩) (Kd.R_types HO194.out BK202.out (by decide)) (fun _ hk => hk.2) (.slice Ao88 y205.length co88)) (fun _ hk => by first | exact ⟨hk.1.2.2, ⟨hk.1.1, hk.1.2.1⟩⟩ | (simp only [own_len] at hk ⊢; exact ⟨hk.1.2.2, ⟨hk.1.1, hk.1.2.1⟩⟩)))); (case aS => exact (below_size (by repeat (first | (with_reducible first | exact HB.out | apply below_alloc | apply pw_below_drewN | apply below_drew1 | refine below_set ?_ GE169.out | refine below_set ?_ GE178.out | refine below_set ?_ GE202.out | refine below_set ?_ GE203.out | refine below_set ?_ GE204.out) | exact HB.out)))); (case aL => have := LMc51.out; omega); intro v209 w94 ho hb hg hat; rw [← Ny208.out] at ho; have n0_ := Aside0.mk (Kd.R_after (ok := (fun k_ => some k_ ≠ (.slice Ao88 y205.length co88 : Value).ownBlock ∧ some k_ ≠ (v200 : Value).ownBlock)) (by (with_reducible repeat (first | apply Kd.R_alloc | apply Kd.R_drewN | apply Kd.R_drew)); exact Kd.R_mono (Kd.R_far (p := ⟨gb202, 4, none⟩) (Kd.R_types HO_179004.out BK202.out (by decide)) (fun _ hk => hk.2) (.slice Ao88 y205.length co88)) (fun _ hk => by first | exact ⟨⟨hk.1.1, hk.1.2.2⟩, hk.1.2.1⟩ | (simp only [own_len] at hk ⊢; exact ⟨⟨hk.1.1, hk.1.2.2⟩, hk.1.2.1⟩))) hg hat); have n1_ := Aside0.mk (blk_grown (g := gb169) (o := .cells #[.string a0_0, .int .i64 a0_1, .int .i64 a0_2, .int .i64 a0_3, .slice A0_4 l0_4.length c0_4] 24 (0, 0)) (by (with_reducible repeat (first | refine blk_drewN ?_ _ | refine blk_drew ?_ | refine blk_alloc ?_ _)); refine blk_far ?_ NB169_202.out _; (with_reducible repeat (first | refine blk_drewN ?_ _ | refine blk_drew ?_ | refine blk_alloc ?_ _)); exact BK169.out) hg (Kd.R_ne HO194.out BK169.out (by decide))); have n2_ := Aside0.mk (blk_grown (g := gb178) (o := .cells #[.string t171, .int .i64 t172, .int .i64 t173, .int .i64 t174, .slice Ao19 t175.length co19] 28 (0, 0)) (by (with_reducible repeat (first | refine blk_drewN ?_ _ | refine blk_drew ?_ | refine blk_alloc ?_ _)); refine blk_far ?_ NB178_202.out _; (with_reducible repeat (first | refine blk_drewN ?_ _ | refine blk_drew ?_ | refine blk_alloc ?_ _)); exact BK178.out) hg (Kd.R_ne HO194.out BK178.out (by decide))); have n3_ := Aside0.mk (Kd.R_after (ok := (fun k_ => some k_ ≠ (.slice Ao19 t175.length co19 : Value).ownBlock ∧ some k_ ≠ (v200 : Value).ownBlock)) (by (with_reducible repeat (first | apply Kd.R_alloc | apply Kd.R_drewN | apply Kd.R_drew)); exact Kd.R_mono (Kd.R_far (p := ⟨gb202, 4, none⟩) (Kd.R_types HO207.out BK202.out (by decide)) (fun _ hk => hk.2) (.slice Ao88 y205.length co88)) (fun _ hk => by first | exact ⟨⟨hk.1.2.2, hk.1.2.1⟩, hk.1.1⟩ | (simp only [own_len] at hk ⊢; exact ⟨⟨hk.1.2.2, hk.1.2.1⟩, hk.1.1⟩))) hg hat); have n4_ := Aside0.mk (Kd.R_after (ok := (fun k_ => some k_ ≠ (.slice Ao19 t175.length co19 : Value).ownBlock ∧ some k_ ≠ (.slice Ao88 y205.length co88 : Value).ownBlock)) (by (with_reducible repeat (first | apply Kd.R_alloc | apply Kd.R_drewN | apply Kd.R_drew)); exact Kd.R_mono (Kd.R_far (p := ⟨gb202, 4, none⟩) (Kd.R_types HO201.out BK202.out (by decide)) (fun _ hk => hk.2) (.slice Ao88 y205.length co88)) (fun _ hk => by first | exact ⟨⟨hk.1.2.2, hk.1.1⟩, hk.1.2.1⟩ | (simp only [own_len] at hk ⊢; exact ⟨⟨hk.1.2.2, hk.1.1⟩, hk.1.2.1⟩))) hg hat); have n5_ := Aside0.mk (blk_grown (g := gb202) (o := .cells #[.string t181, .int .i64 t182, .int .i64 t183, .int .i64 t184, .slice Ao88 y205.length co88] 28 (0, 0)) (by (with_reducible repeat (first | refine blk_drewN ?_ _ | refine blk_drew ?_ | refine blk_alloc ?_ _)); refine blk_put (cs := #[.string t181, .int .i64 t182, .int .i64 t183, .int .i64 t184, .slice Ao88 t185.length co88]) ?_ 4 _ rfl; (with_reducible repeat (first | refine blk_drewN ?_ _ | refine blk_drew ?_ | refine blk_alloc ?_ _)); exact BK202.out) hg (Kd.R_ne HO194.out BK202.out (by decide))); have n6_ := Aside0.mk (blk_grown (g := gb203) (o := .cells #[.string t188, .int .i64 t189, .int .i64 t190, .int .i64 t191, v193] 28 (0, 0)) (by (with_reducible repeat (first | refine blk_drewN ?_ _ | refine blk_drew ?_ | refine blk_alloc ?_ _)); refine blk_far ?_ NB203_202.out _; (with_reducible repeat (first | refine blk_drewN ?_ _ | refine blk_drew ?_ | refine blk_alloc ?_ _)); exact BK203.out) hg (Kd.R_ne HO194.out BK203.out (by decide))); have n7_ := Aside0.mk (blk_grown (g := gb204) (o := .cells #[.string t195, .int .i64 t196, .int .i64 t197, .int .i64 t198, v200] 28 (0, 0)) (by (with_reducible repeat (first | refine blk_drewN ?_ _ | refine blk_drew ?_ | refine blk_alloc ?_ _)); refine blk_far ?_ NB204_202.out _; (with_reducible repeat (first | refine blk_drewN ?_ _ | refine blk_drew ?_ | refine blk_alloc ?_ _)); exact BK204.out) hg (Kd.R_ne HO194.out BK204.out (by decide))); have n8_ := Aside0.mk (hb); have n9_ := Aside0.mk (ho); clear HO_179004; clear BK169; clear BK178; clear HO207; clear HO201; clear BK202; clear BK203; clear BK204; clear HB; clear HO194; have HO_179004 := n0_; have BK169 := n1_; have BK178 := n2_; have HO207 := n3_; have HO201 := n4_; have BK202 := n5_; have BK203 := n6_; have BK204 := n7_; have HB := n8_; have HO210 := n9_; clear n0_ n1_ n2_ n3_ n4_ n5_ n6_ n7_ n8_ n9_; clear ho hb hg hat; obtain ⟨Ao95, co95, eo95⟩ := Kd.R_slice HO210.out; subst eo95; have hcz96_0 : w94.cell? ⟨gb203, 0, none⟩ = some (.string t188) := (blk_cell BK203.out 0).trans rfl; have hcz96_1 : w94.cell? ⟨gb203, 1, none⟩ = some (.int .i64 t189) := (blk_cell BK203.out 1).trans rfl; have hcz96_2 : w94.cell? ⟨gb203, 2, none⟩ = some (.int .i64 t190) := (blk_cell BK203.out 2).trans rfl; have hcz96_3 : w94.cell? ⟨gb203, 3, none⟩ = some (.int .i64 t191) := (blk_cell BK203.out 3).trans rfl; have hcz96_4 : w94.cell? ⟨gb203, 4, none⟩ = some (v193) := (blk_cell BK203.out 4).trans rfl; have hfz96_0 := blk_frozen BK203.out 0; have hfz96_1 := blk_frozen BK203.out 1; have hfz96_2 := blk_frozen BK203.out 2; have hfz96_3 := blk_frozen BK203.out 3; have hfz96_4 := blk_frozen BK203.out 4; have hnb97 := NB204_169.out; have hnc97 := NB169_204.out; have hnb98 := NB204_178.out; have hnc98 := NB178_204.out; have hcz99_0 : w94.cell? ⟨gb204, 0, none⟩ = some (.string t195) := (blk_cell BK204.out 0).trans rfl; have hcz99_1 : w94.cell? ⟨gb204, 1, none⟩ = some (.int .i64 t196) := (blk_cell BK204.out 1).trans rfl; have hcz99_2 : w94.cell? ⟨gb204, 2, none⟩ = some (.int .i64 t197) := (blk_cell BK204.out 2).trans rfl; have hcz99_3 : w94.cell? ⟨gb204, 3, none⟩ = some (.int .i64 t198) := (blk_cell BK204.out 3).trans rfl; have hcz99_4 : w94.cell? ⟨gb204, 4, none⟩ = some (v200) := (blk_cell BK204.out 4).trans rfl; have hfz99_0 := blk_frozen BK204.out 0; have hfz99_1 := blk_frozen BK204.out 1; have hfz99_2 := blk_frozen BK204.out 2; have hfz99_3 := blk_frozen BK204.out 3; have hfz99_4 := blk_frozen BK204.out 4; have hcz100_0 : w94.cell? ⟨gb202, 0, none⟩ = some (.string t181) := (blk_cell BK202.out 0).trans rfl; have hcz100_1 : w94.cell? ⟨gb202, 1, none⟩ = some (.int .i64 t182) := (blk_cell BK202.out 1).trans rfl; have hcz100_2 : w94.cell? ⟨gb202, 2, none⟩ = some (.int .i64 t183) := (blk_cell BK202.out 2).trans rfl; have hcz100_3 : w94.cell? ⟨gb202, 3, none⟩ = some (.int .i64 t184) := (blk_cell BK202.out 3).trans rfl; have hcz100_4 : w94.cell? ⟨gb202, 4, none⟩ = some (.slice Ao88 y205.length co88) := (blk_cell BK202.out 4).trans rfl; have hfz100_0 := blk_frozen BK202.out 0; have hfz100_1 := blk_frozen BK202.out 1; have hfz100_2 := blk_frozen BK202.out 2; have hfz100_3 := blk_frozen BK202.out 3; have hfz100_4 := blk_frozen BK202.out 4) | ((with_reducible refine gate_callee (f := 17) rfl ?_); refine goesL_ (some 84) rfl rfl Try.func17 (by kernel_rfl) rfl #[.agg #[.string t181, .int .i64 t182, .int .i64 t183, .int .i64 t184, .slice Ao88 y205.length co88]] rfl (by (try simp only [List.map_toArray, List.map_cons, List.map_nil]); first | done | rfl | (simp only [List.length_drop, List.length_take]; rfl)) ?_; (with_reducible refine (code_Check.calls kj35 t181 t182 t183 t184 _ _ y205 t211 _ ?side1 ?side2 A52.out).mono ?_); (case side1 => refine (Kd.R_reads' (e := 39) (base := w.heap.size) (ok := fun k_ => ((some k_ ≠ (.slice Ao19 t175.length co19 : Value).ownBlock ∧ some k_ ≠ (v200 : Value).ownBlock) ∧ some k_ ≠ (.slice Ao95 y208.length co95 : Value).ownBlock)) (n := y205.length) (c := co88) ?_).2.2; exact (by (with_reducible repeat (first | apply Kd.R_alloc | apply Kd.R_drewN | apply Kd.R_drew)); exact (Kd.R_mono (Kd.R_mono (Kd.R_far (p := ⟨gb204, 2, none⟩) (Kd.R_far (p := ⟨gb203, 4, none⟩) (Kd.R_types (Kd.R_types HO207.out BK203.out (by decide)) BK204.out (by decide)) (fun _ hk => hk.1.2) (.slice Ao95 y208.length co95)) (fun _ hk => hk.2) (.int .i64 (wrap64 (t197 + 1)))) (fun _ h_ => h_.1)) (fun _ h_ => h_.1)))); (case side2 => exact (Kd.R_reads' HO207.out).2.1); rintro e w101 ⟨rfl, hb⟩; refine ⟨_, rfl, ?_⟩; have n0_ := Aside0.mk (Kd.R_below (by (with_reducible repeat (first | apply Kd.R_alloc | apply Kd.R_drewN | apply Kd.R_drew)); exact (Kd.R_mono (Kd.R_mono (Kd.R_far (p := ⟨gb204, 2, none⟩) (Kd.R_far (p := ⟨gb203, 4, none⟩) (Kd.R_types (Kd.R_types HO_179004.out BK203.out (by decide)) BK204.out (by decide)) (fun _ hk => hk.1.2) (.slice Ao95 y208.length co95)) (fun _ hk => hk.2) (.int .i64 (wrap64 (t197 + 1)))) (fun _ h_ => h_.1)) (fun _ h_ => h_.1))) hb); have n1_ := Aside0.mk (Kd.R_below (by (with_reducible repeat (first | apply Kd.R_alloc | apply Kd.R_drewN | apply Kd.R_drew)); exact (Kd.R_mono (Kd.R_mono (Kd.R_far (p := ⟨gb204, 2, none⟩) (Kd.R_far (p := ⟨gb203, 4, none⟩) (Kd.R_types (Kd.R_types HO207.out BK203.out (by decide)) BK204.out (by decide)) (fun _ hk => hk.1.2) (.slice Ao95 y208.length co95)) (fun _ hk => hk.2) (.int .i64 (wrap64 (t197 + 1)))) (fun _ h_ => h_.1)) (fun _ h_ => h_.1))) hb); have n2_ := Aside0.mk (Kd.R_below (by (with_reducible repeat (first | apply Kd.R_alloc | apply Kd.R_drewN | apply Kd.R_drew)); exact (Kd.R_mono (Kd.R_mono (Kd.R_far (p := ⟨gb204, 2, none⟩) (Kd.R_far (p := ⟨gb203, 4, none⟩) (Kd.R_types (Kd.R_types HO201.out BK203.out (by decide)) BK204.out (by decide)) (fun _ hk => hk.1.2) (.slice Ao95 y208.length co95)) (fun _ hk => hk.2) (.int .i64 (wrap64 (t197 + 1)))) (fun _ h_ => h_.1)) (fun _ h_ => h_.1))) hb); have n3_ := Aside0.mk (Kd.R_below (by (with_reducible repeat (first | apply Kd.R_alloc | apply Kd.R_drewN | apply Kd.R_drew)); exact (Kd.R_mono (Kd.R_mono (Kd.R_far (p := ⟨gb204, 2, none⟩) (Kd.R_far (p := ⟨gb203, 4, none⟩) (Kd.R_types (Kd.R_types HO210.out BK203.out (by decide)) BK204.out (by decide)) (fun _ hk => hk.1.2) (.slice Ao95 y208.length co95)) (fun _ hk => hk.2) (.int .i64 (wrap64 (t197 + 1)))) (fun _ h_ => h_.1)) (fun _ h_ => h_.1))) hb); have n4_ := Aside0.mk (blk_below (g := gb169) (o := .cells #[.string a0_0, .int .i64 a0_1, .int .i64 a0_2, .int .i64 a0_3, .slice A0_4 l0_4.length c0_4] 24 (0, 0)) (by (with_reducible repeat (first | refine blk_drewN ?_ _ | refine blk_drew ?_ | refine blk_alloc ?_ _)); refine blk_far ?_ NB169_204.out _; (with_reducible repeat (first | refine blk_drewN ?_ _ | refine blk_drew ?_ | refine blk_alloc ?_ _)); refine blk_far ?_ NB169_203.out _; (with_reducible repeat (first | refine blk_drewN ?_ _ | refine blk_drew ?_ | refine blk_alloc ?_ _)); exact BK169.out) hb); have n5_ := Aside0.mk (blk_below (g := gb178) (o := .cells #[.string t171, .int .i64 t172, .int .i64 t173, .int .i64 t174, .slice Ao19 t175.length co19] 28 (0, 0)) (by (with_reducible repeat (first | refine blk_drewN ?_ _ | refine blk_drew ?_ | refine blk_alloc ?_ _)); refine blk_far ?_ NB178_204.out _; (with_reducible repeat (first | refine blk_drewN ?_ _ | refine blk_drew ?_ | refine blk_alloc ?_ _)); refine blk_far ?_ NB178_203.out _; (with_reducible repeat (first | refine blk_drewN ?_ _ | refine blk_drew ?_ | refine blk_alloc ?_ _)); exact BK178.out) hb); have n6_ := Aside0.mk (blk_below (g := gb202) (o := .cells #[.string t181, .int .i64 t182, .int .i64 t183, .int .i64 t184, .slice Ao88 y205.length co88] 28 (0, 0)) (by (with_reducible repeat (first | refine blk_drewN ?_ _ | refine blk_drew ?_ | refine blk_alloc ?_ _)); refine blk_far ?_ NB202_204.out _; (with_reducible repeat (first | refine blk_drewN ?_ _ | refine blk_drew ?_ | refine blk_alloc ?_ _)); refine blk_far ?_ NB202_203.out _; (with_reducible repeat (first | refine blk_drewN ?_ _ | refine blk_drew ?_ | refine blk_alloc ?_ _)); exact BK202.out) hb); have n7_ := Aside0.mk (blk_below (g := gb203) (o := .cells #[.string t188, .int .i64 t189, .int .i64 t190, .int .i64 t191, .slice Ao95 y208.length co95] 28 (0, 0)) (by (with_reducible repeat (first | refine blk_drewN ?_ _ | refine blk_drew ?_ | refine blk_alloc ?_ _)); refine blk_far ?_ NB203_204.out _; (with_reducible repeat (first | refine blk_drewN ?_ _ | refine blk_drew ?_ | refine blk_alloc ?_ _)); refine blk_put (cs := #[.string t188, .int .i64 t189, .int .i64 t190, .int .i64 t191, v193]) ?_ 4 _ rfl; (with_reducible repeat (first | refine blk_drewN ?_ _ | refine blk_drew ?_ | refine blk_alloc ?_ _)); exact BK203.out) hb); have n8_ := Aside0.mk (blk_below (g := gb204) (o := .cells #[.string t195, .int .i64 t196, .int .i64 (wrap64 (t197 + 1)), .int .i64 t198, v200] 28 (0, 0)) (by (with_reducible repeat (first | refine blk_drewN ?_ _ | refine blk_drew ?_ | refine blk_alloc ?_ _)); refine blk_put (cs := #[.string t195, .int .i64 t196, .int .i64 t197, .int .i64 t198, v200]) ?_ 2 _ rfl; (with_reducible repeat (first | refine blk_drewN ?_ _ | refine blk_drew ?_ | refine blk_alloc ?_ _)); refine blk_far ?_ NB204_203.out _; (with_reducible repeat (first | refine blk_drewN ?_ _ | refine blk_drew ?_ | refine blk_alloc ?_ _)); exact BK204.out) hb); have n9_ := Aside0.mk (below_step (by repeat (first | (with_reducible first | exact HB.out | apply below_alloc | apply pw_below_drewN | apply below_drew1 | refine below_set ?_ GE169.out | refine below_set ?_ GE178.out | refine below_set ?_ GE202.out | refine below_set ?_ GE203.out | refine below_set ?_ GE204.out) | exact HB.out)) hb); clear HO_179004; clear HO207; clear HO201; clear HO210; clear BK169; clear BK178; clear BK202; clear BK203; clear BK204; clear HB; have HO_179004 := n0_; have HO207 := n1_; have HO201 := n2_; have HO210 := n3_; have BK169 := n4_; have BK178 := n5_; have BK202 := n6_; have BK203 := n7_; have BK204 := n8_; have HB := n9_; clear n0_ n1_ n2_ n3_ n4_ n5_ n6_ n7_ n8_ n9_; (try clear hb); (try clear hb2); (try clear hk); (try clear hi); have hcz102_0 : w101.cell? ⟨gb203, 0, none⟩ = some (.string t188) := (blk_cell BK203.out 0).trans rfl; have hcz102_1 : w101.cell? ⟨gb203, 1, none⟩ = some (.int .i64 t189) := (blk_cell BK203.out 1).trans rfl; have hcz102_2 : w101.cell? ⟨gb203, 2, none⟩ = some (.int .i64 t190) := (blk_cell BK203.out 2).trans rfl; have hcz102_3 : w101.cell? ⟨gb203, 3, none⟩ = some (.int .i64 t191) := (blk_cell BK203.out 3).trans rfl; have hcz102_4 : w101.cell? ⟨gb203, 4, none⟩ = some (.slice Ao95 y208.length co95) := (blk_cell BK203.out 4).trans rfl; have hfz102_0 := blk_frozen BK203.out 0; have hfz102_1 := blk_frozen BK203.out 1; have hfz102_2 := blk_frozen BK203.out 2; have hfz102_3 := blk_frozen BK203.out 3; have hfz102_4 := blk_frozen BK203.out 4) | (go_at_call 17; (with_reducible refine (code_Check.calls kj35 t188 t189 t190 t191 _ _ y208 t212 _ ?side1 ?side2 A54.out).mono ?_); (case side1 => repeat (first | exact (Kd.R_reads' HO210.out).2.2 | (with_reducible refine Kd.C_alloc ?_ _) | (with_reducible refine Kd.C_drewN ?_ _) | (with_reducible refine Kd.C_drew ?_))); (case side2 => exact (Kd.R_reads' HO210.out).2.1); rintro e w103 ⟨rfl, hb⟩; have n0_ := Aside0.mk (Kd.R_below (by (with_reducible repeat (first | apply Kd.R_alloc | apply Kd.R_drewN | apply Kd.R_drew)); exact HO_179004.out) hb); have n1_ := Aside0.mk (Kd.R_below (by (with_reducible repeat (first | apply Kd.R_alloc | apply Kd.R_drewN | apply Kd.R_drew)); exact HO207.out) hb); have n2_ := Aside0.mk (Kd.R_below (by (with_reducible repeat (first | apply Kd.R_alloc | apply Kd.R_drewN | apply Kd.R_drew)); exact HO201.out) hb); have n3_ := Aside0.mk (Kd.R_below (by (with_reducible repeat (first | apply Kd.R_alloc | apply Kd.R_drewN | apply Kd.R_drew)); exact HO210.out) hb); have n4_ := Aside0.mk (blk_below (g := gb169) (o := .cells #[.string a0_0, .int .i64 a0_1, .int .i64 a0_2, .int .i64 a0_3, .slice A0_4 l0_4.length c0_4] 24 (0, 0)) (by (with_reducible repeat (first | refine blk_drewN ?_ _ | refine blk_drew ?_ | refine blk_alloc ?_ _)); exact BK169.out) hb); have n5_ := Aside0.mk (blk_below (g := gb178) (o := .cells #[.string t171, .int .i64 t172, .int .i64 t173, .int .i64 t174, .slice Ao19 t175.length co19] 28 (0, 0)) (by (with_reducible repeat (first | refine blk_drewN ?_ _ | refine blk_drew ?_ | refine blk_alloc ?_ _)); exact BK178.out) hb); have n6_ := Aside0.mk (blk_below (g := gb202) (o := .cells #[.string t181, .int .i64 t182, .int .i64 t183, .int .i64 t184, .slice Ao88 y205.length co88] 28 (0, 0)) (by (with_reducible repeat (first | refine blk_drewN ?_ _ | refine blk_drew ?_ | refine blk_alloc ?_ _)); exact BK202.out) hb); have n7_ := Aside0.mk (blk_below (g := gb203) (o := .cells #[.string t188, .int .i64 t189, .int .i64 t190, .int .i64 t191, .slice Ao95 y208.length co95] 28 (0, 0)) (by (with_reducible repeat (first | refine blk_drewN ?_ _ | refine blk_drew ?_ | refine blk_alloc ?_ _)); exact BK203.out) hb); have n8_ := Aside0.mk (blk_below (g := gb204) (o := .cells #[.string t195, .int .i64 t196, .int .i64 (wrap64 (t197 + 1)), .int .i64 t198, v200] 28 (0, 0)) (by (with_reducible repeat (first | refine blk_drewN ?_ _ | refine blk_drew ?_ | refine blk_alloc ?_ _)); exact BK204.out) hb); have n9_ := Aside0.mk (below_step (by repeat (first | (with_reducible first | exact HB.out | apply below_alloc | apply pw_below_drewN | apply below_drew1 | refine below_set ?_ GE169.out | refine below_set ?_ GE178.out | refine below_set ?_ GE202.out | refine below_set ?_ GE203.out | refine below_set ?_ GE204.out) | exact HB.out)) hb); clear HO_179004; clear HO207; clear HO201; clear HO210; clear BK169; clear BK178; clear BK202; clear BK203; clear BK204; clear HB; have HO_179004 := n0_; have HO207 := n1_; have HO201 := n2_; have HO210 := n3_; have BK169 := n4_; have BK178 := n5_; have BK202 := n6_; have BK203 := n7_; have BK204 := n8_; have HB := n9_; clear n0_ n1_ n2_ n3_ n4_ n5_ n6_ n7_ n8_ n9_; (try clear hb); (try clear hb2); (try clear hk); (try clear hi); have hcz104_0 : w103.cell? ⟨gb204, 0, none⟩ = some (.string t195) := (blk_cell BK204.out 0).trans rfl; have hcz104_1 : w103.cell? ⟨gb204, 1, none⟩ = some (.int .i64 t196) := (blk_cell BK204.out 1).trans rfl; have hcz104_2 : w103.cell? ⟨gb204, 2, none⟩ = some (.int .i64 (wrap64 (t197 + 1))) := (blk_cell BK204.out 2).trans rfl; have hcz104_3 : w103.cell? ⟨gb204, 3, none⟩ = some (.int .i64 t198) := (blk_cell BK204.out 3).trans rfl; have hcz104_4 : w103.cell? ⟨gb204, 4, none⟩ = some (v200) := (blk_cell BK204.out 4).trans rfl; have hfz104_0 := blk_frozen BK204.out 0; have hfz104_1 := blk_frozen BK204.out 1; have hfz104_2 := blk_frozen BK204.out 2; have hfz104_3 := blk_frozen BK204.out 3; have hfz104_4 := blk_frozen BK204.out 4; obtain ⟨Ao105, co105, eo105⟩ := Kd.R_slice HO201.out; subst eo105) | (go_at_call 17; (with_reducible refine (code_Check.calls kj35 t195 t196 (wrap64 (t197 + 1)) t198 _ _ t199 t213 _ ?side1 ?side2 A56.out).mono ?_); (case side1 => repeat (first | exact (Kd.R_reads' HO201.out).2.2 | (with_reducible refine Kd.C_alloc ?_ _) | (with_reducible refine Kd.C_drewN ?_ _) | (with_reducible refine Kd.C_drew ?_))); (case side2 => exact (Kd.R_reads' HO201.out).2.1); rintro e w106 ⟨rfl, hb⟩; have n0_ := Aside0.mk (Kd.R_below (by (with_reducible repeat (first | apply Kd.R_alloc | apply Kd.R_drewN | apply Kd.R_drew)); exact HO_179004.out) hb); have n1_ := Aside0.mk (Kd.R_below (by (with_reducible repeat (first | apply Kd.R_alloc | apply Kd.R_drewN | apply Kd.R_drew)); exact HO207.out) hb); have n2_ := Aside0.mk (Kd.R_below (by (with_reducible repeat (first | apply Kd.R_alloc | apply Kd.R_drewN | apply Kd.R_drew)); exact HO201.out) hb); have n3_ := Aside0.mk (Kd.R_below (by (with_reducible repeat (first | apply Kd.R_alloc | apply Kd.R_drewN | apply Kd.R_drew)); exact HO210.out) hb); have n4_ := Aside0.mk (blk_below (g := gb169) (o := .cells #[.string a0_0, .int .i64 a0_1, .int .i64 a0_2, .int .i64 a0_3, .slice A0_4 l0_4.length c0_4] 24 (0, 0)) (by (with_reducible repeat (first | refine blk_drewN ?_ _ | refine blk_drew ?_ | refine blk_alloc ?_ _)); exact BK169.out) hb); have n5_ := Aside0.mk (blk_below (g := gb178) (o := .cells #[.string t171, .int .i64 t172, .int .i64 t173, .int .i64 t174, .slice Ao19 t175.length co19] 28 (0, 0)) (by (with_reducible repeat (first | refine blk_drewN ?_ _ | refine blk_drew ?_ | refine blk_alloc ?_ _)); exact BK178.out) hb); have n6_ := Aside0.mk (blk_below (g := gb202) (o := .cells #[.string t181, .int .i64 t182, .int .i64 t183, .int .i64 t184, .slice Ao88 y205.length co88] 28 (0, 0)) (by (with_reducible repeat (first | refine blk_drewN ?_ _ | refine blk_drew ?_ | refine blk_alloc ?_ _)); exact BK202.out) hb); have n7_ := Aside0.mk (blk_below (g := gb203) (o := .cells #[.string t188, .int .i64 t189, .int .i64 t190, .int .i64 t191, .slice Ao95 y208.length co95] 28 (0, 0)) (by (with_reducible repeat (first | refine blk_drewN ?_ _ | refine blk_drew ?_ | refine blk_alloc ?_ _)); exact BK203.out) hb); have n8_ := Aside0.mk (blk_below (g := gb204) (o := .cells #[.string t195, .int .i64 t196, .int .i64 (wrap64 (t197 + 1)), .int .i64 t198, .slice Ao105 t199.length co105] 28 (0, 0)) (by (with_reducible repeat (first | refine blk_drewN ?_ _ | refine blk_drew ?_ | refine blk_alloc ?_ _)); exact BK204.out) hb); have n9_ := Aside0.mk (below_step (by repeat (first | (with_reducible first | exact HB.out | apply below_alloc | apply pw_below_drewN | apply below_drew1 | refine below_set ?_ GE169.out | refine below_set ?_ GE178.out | refine below_set ?_ GE202.out | refine below_set ?_ GE203.out | refine below_set ?_ GE204.out) | exact HB.out)) hb); clear HO_179004; clear HO207; clear HO201; clear HO210; clear BK169; clear BK178; clear BK202; clear BK203; clear BK204; clear HB; have HO_179004 := n0_; have HO207 := n1_; have HO201 := n2_; have HO210 := n3_; have BK169 := n4_; have BK178 := n5_; have BK202 := n6_; have BK203 := n7_; have BK204 := n8_; have HB := n9_; clear n0_ n1_ n2_ n3_ n4_ n5_ n6_ n7_ n8_ n9_; (try clear hb); (try clear hb2); (try clear hk); (try clear hi)))
                              go_ret
                              exact ⟨by first | rfl | (simp [errW_none, errW_some] <;> rfl) | (simp only [← hji48]; first | rfl | (simp [errW_none, errW_some] <;> rfl)) | (simp [*, errW_none, errW_some] <;> rfl), by repeat (first | (with_reducible first | exact HB.out | apply below_alloc | apply pw_below_drewN | apply below_drew1 | refine below_set ?_ GE169.out | refine below_set ?_ GE178.out | refine below_set ?_ GE202.out | refine below_set ?_ GE203.out | refine below_set ?_ GE204.out) | exact HB.out)⟩
                            · rw [if_neg c55] at H
                              exact absurd H (by simp)
                          · rw [if_neg c53] at H
                            exact absurd H (by simp)
                        · rw [if_neg c51] at H
                          exact absurd H (by simp)
                      · rw [if_neg c50] at H
                        exact absurd H (by simp)
                    · rw [if_neg c49] at H
                      exact absurd H (by simp)
      · rw [if_neg c11] at H
        have c11b0 : (t179 == 0) = false := beq_eq_false_iff_ne.mpr c11
        have c11b1 : (t179 != 0) = true := bne_iff_ne.mpr c11
        obtain rfl := Option.some.inj H
        go_enter Try.func4, Try.ntmps4
        go_wp2_with (first | ((with_reducible refine gate_dst (N := 2) rfl ?_); (try (refine gate_guard (by rfl) ?_; dsimp only)); refine box_event ?hg (N := 2) ?hd (cs := #[.string a0_0, .int .i64 a0_1, .int .i64 a0_2, .int .i64 a0_3, .slice A0_4 l0_4.length c0_4]) (t := 24) ?hr ?_; (case hd => rfl); (case hg => rfl); (case hr => first | (go_simp; done) | (go_simp; rfl)); intro gb169 hg w107 hbox hb; have n0_ := Aside0.mk (below_step (by repeat (first | (with_reducible first | exact HB.out | apply below_alloc | apply pw_below_drewN | apply below_drew1) | exact HB.out)) hb); have n1_ := Aside0.mk (hbox); have n2_ := Aside0.mk ((by rw [hg]; exact (below_size (by repeat (first | (with_reducible first | exact HB.out | apply below_alloc | apply pw_below_drewN | apply below_drew1) | exact HB.out))) : w.heap.size ≤ gb169)); have n3_ := Aside0.mk ((by rw [hg]; exact (below_size (by repeat (first | (with_reducible first | exact HB.out | apply below_alloc | apply pw_below_drewN | apply below_drew1) | exact HB.out))) : w.heap.size ≤ gb169)); clear HB; have HB := n0_; have BK169 := n1_; have GW169 := n2_; have GE169 := n3_; clear n0_ n1_ n2_ n3_; clear hb hbox hg) | ((with_reducible refine gate_callee (f := 15) rfl ?_); refine goesL_ (some 11) rfl rfl Try.func15 (by kernel_rfl) rfl #[] rfl (by (try simp only [List.map_toArray, List.map_cons, List.map_nil]); first | done | rfl | (simp only [List.length_drop, List.length_take]; rfl)) ?_; (with_reducible refine (prolixlaw18_alive.calls k  true _ A3.out).mono ?_); rintro e w108 ⟨rfl, hb⟩; refine ⟨_, rfl, ?_⟩; have n0_ := Aside0.mk (blk_below (g := gb169) (o := .cells #[.string a0_0, .int .i64 a0_1, .int .i64 a0_2, .int .i64 a0_3, .slice A0_4 l0_4.length c0_4] 24 (0, 0)) (by (with_reducible repeat (first | refine blk_drewN ?_ _ | refine blk_drew ?_ | refine blk_alloc ?_ _)); exact BK169.out) hb); have n1_ := Aside0.mk (below_step (by repeat (first | (with_reducible first | exact HB.out | apply below_alloc | apply pw_below_drewN | apply below_drew1 | refine below_set ?_ GE169.out) | exact HB.out)) hb); clear BK169; clear HB; have BK169 := n0_; have HB := n1_; clear n0_ n1_; (try clear hb); (try clear hb2); (try clear hk); (try clear hi); have hcz109_0 : w108.cell? ⟨gb169, 0, none⟩ = some (.string a0_0) := (blk_cell BK169.out 0).trans rfl; have hcz109_1 : w108.cell? ⟨gb169, 1, none⟩ = some (.int .i64 a0_1) := (blk_cell BK169.out 1).trans rfl; have hcz109_2 : w108.cell? ⟨gb169, 2, none⟩ = some (.int .i64 a0_2) := (blk_cell BK169.out 2).trans rfl; have hcz109_3 : w108.cell? ⟨gb169, 3, none⟩ = some (.int .i64 a0_3) := (blk_cell BK169.out 3).trans rfl; have hcz109_4 : w108.cell? ⟨gb169, 4, none⟩ = some (.slice A0_4 l0_4.length c0_4) := (blk_cell BK169.out 4).trans rfl; have hfz109_0 := blk_frozen BK169.out 0; have hfz109_1 := blk_frozen BK169.out 1; have hfz109_2 := blk_frozen BK169.out 2; have hfz109_3 := blk_frozen BK169.out 3; have hfz109_4 := blk_frozen BK169.out 4) | ((with_reducible refine gate_callee (f := 16) rfl ?_); refine goesL_ (some 18) rfl rfl Try.func16 (by kernel_rfl) rfl #[.agg #[.string a0_0, .int .i64 a0_1, .int .i64 a0_2, .int .i64 a0_3, .slice A0_4 l0_4.length c0_4]] rfl (by (try simp only [List.map_toArray, List.map_cons, List.map_nil]); first | done | rfl | (simp only [List.length_drop, List.length_take]; rfl)) ?_; (with_reducible refine (prolixlaw18_To.calls k a0_0 a0_1 a0_2 a0_3 _ _ l0_4 t171 t172 t173 t174 t175 _ ?side1 ?side2 A9.out).mono ?_); (case side1 => repeat (first | exact (Kd.C_below HR0_4.out HB.out) | (with_reducible refine Kd.C_alloc ?_ _) | (with_reducible refine Kd.C_drewN ?_ _) | (with_reducible refine Kd.C_drew ?_))); (case side2 => exact HC0_4.out); rintro e w110 ⟨v176, rfl, ho0, hb⟩; refine ⟨_, rfl, ?_⟩; have n0_ := Aside0.mk (Kd.R_lower ho0 (below_size (by repeat (first | (with_reducible first | exact HB.out | apply below_alloc | apply pw_below_drewN | apply below_drew1 | refine below_set ?_ GE169.out) | exact HB.out)))); have n1_ := Aside0.mk (blk_below (g := gb169) (o := .cells #[.string a0_0, .int .i64 a0_1, .int .i64 a0_2, .int .i64 a0_3, .slice A0_4 l0_4.length c0_4] 24 (0, 0)) (by (with_reducible repeat (first | refine blk_drewN ?_ _ | refine blk_drew ?_ | refine blk_alloc ?_ _)); exact BK169.out) hb); have n2_ := Aside0.mk (below_step (by repeat (first | (with_reducible first | exact HB.out | apply below_alloc | apply pw_below_drewN | apply below_drew1 | refine below_set ?_ GE169.out) | exact HB.out)) hb); clear BK169; clear HB; have HO177 := n0_; have BK169 := n1_; have HB := n2_; clear n0_ n1_ n2_; (try clear hb); (try clear hb2); (try clear hk); (try clear hi); (try clear ho0)) | ((with_reducible refine gate_dst (N := 5) rfl ?_); (try (refine gate_guard (by rfl) ?_; dsimp only)); refine box_event ?hg (N := 5) ?hd (cs := #[.string (⟨#[]⟩ : ByteArray), .int .i64 0, .int .i64 0, .int .i64 0, .slice none 0 0]) (t := 28) ?hr ?_; (case hd => rfl); (case hg => rfl); (case hr => first | (go_simp; done) | (go_simp; rfl)); intro gb178 hg w111 hbox hb; have n0_ := Aside0.mk (Kd.R_below (by (with_reducible repeat (first | apply Kd.R_alloc | apply Kd.R_drewN | apply Kd.R_drew)); exact HO177.out) hb); have n1_ := Aside0.mk (blk_below (g := gb169) (o := .cells #[.string a0_0, .int .i64 a0_1, .int .i64 a0_2, .int .i64 a0_3, .slice A0_4 l0_4.length c0_4] 24 (0, 0)) (by (with_reducible repeat (first | refine blk_drewN ?_ _ | refine blk_drew ?_ | refine blk_alloc ?_ _)); exact BK169.out) hb); have n2_ := Aside0.mk (below_step (by repeat (first | (with_reducible first | exact HB.out | apply below_alloc | apply pw_below_drewN | apply below_drew1 | refine below_set ?_ GE169.out) | exact HB.out)) hb); have n3_ := Aside0.mk (hbox); have n4_ := Aside0.mk ((by rw [hg]; exact (below_size (by repeat (first | (with_reducible first | exact HB.out | apply below_alloc | apply pw_below_drewN | apply below_drew1 | refine below_set ?_ GE169.out) | exact HB.out))) : w.heap.size ≤ gb178)); have n5_ := Aside0.mk ((by rw [hg]; exact (below_size (by repeat (first | (with_reducible first | exact HB.out | apply below_alloc | apply pw_below_drewN | apply below_drew1 | refine below_set ?_ GE169.out) | exact HB.out))) : w.heap.size ≤ gb178)); have n6_ := Aside0.mk ((by rw [hg]; exact Nat.ne_of_lt (blk_lt (g := gb169) (o := .cells #[.string a0_0, .int .i64 a0_1, .int .i64 a0_2, .int .i64 a0_3, .slice A0_4 l0_4.length c0_4] 24 (0, 0)) (by (with_reducible repeat (first | refine blk_drewN ?_ _ | refine blk_drew ?_ | refine blk_alloc ?_ _)); exact BK169.out)) : gb169 ≠ gb178)); have n7_ := Aside0.mk ((by rw [hg]; exact Nat.ne_of_gt (blk_lt (g := gb169) (o := .cells #[.string a0_0, .int .i64 a0_1, .int .i64 a0_2, .int .i64 a0_3, .slice A0_4 l0_4.length c0_4] 24 (0, 0)) (by (with_reducible repeat (first | refine blk_drewN ?_ _ | refine blk_drew ?_ | refine blk_alloc ?_ _)); exact BK169.out)) : gb178 ≠ gb169)); clear HO177; clear BK169; clear HB; have HO177 := n0_; have BK169 := n1_; have HB := n2_; have BK178 := n3_; have GW178 := n4_; have GE178 := n5_; have NB169_178 := n6_; have NB178_169 := n7_; clear n0_ n1_ n2_ n3_ n4_ n5_ n6_ n7_; clear hb hbox hg; have hnb112 := NB178_169.out; have hnc112 := NB169_178.out; have hcz113_0 : w111.cell? ⟨gb178, 0, none⟩ = some (.string (⟨#[]⟩ : ByteArray)) := (blk_cell BK178.out 0).trans rfl; have hcz113_1 : w111.cell? ⟨gb178, 1, none⟩ = some (.int .i64 0) := (blk_cell BK178.out 1).trans rfl; have hcz113_2 : w111.cell? ⟨gb178, 2, none⟩ = some (.int .i64 0) := (blk_cell BK178.out 2).trans rfl; have hcz113_3 : w111.cell? ⟨gb178, 3, none⟩ = some (.int .i64 0) := (blk_cell BK178.out 3).trans rfl; have hcz113_4 : w111.cell? ⟨gb178, 4, none⟩ = some (.slice none 0 0) := (blk_cell BK178.out 4).trans rfl; have hfz113_0 := blk_frozen BK178.out 0; have hfz113_1 := blk_frozen BK178.out 1; have hfz113_2 := blk_frozen BK178.out 2; have hfz113_3 := blk_frozen BK178.out 3; have hfz113_4 := blk_frozen BK178.out 4; obtain ⟨Ao114, co114, eo114⟩ := Kd.R_slice HO177.out; subst eo114) | ((with_reducible refine gate_callee (f := 17) rfl ?_); refine goesL_ (some 20) rfl rfl Try.func17 (by kernel_rfl) rfl #[.agg #[.string t171, .int .i64 t172, .int .i64 t173, .int .i64 t174, .slice Ao114 t175.length co114]] rfl (by (try simp only [List.map_toArray, List.map_cons, List.map_nil]); first | done | rfl | (simp only [List.length_drop, List.length_take]; rfl)) ?_; (with_reducible refine (code_Check.calls k t171 t172 t173 t174 _ _ t175 t179 _ ?side1 ?side2 A10.out).mono ?_); (case side1 => refine (Kd.R_reads' (e := 39) (base := w.heap.size) (ok := fun k_ => True) (n := t175.length) (c := co114) ?_).2.2; exact (by (with_reducible repeat (first | apply Kd.R_alloc | apply Kd.R_drewN | apply Kd.R_drew)); exact (Kd.R_mono (Kd.R_far (p := ⟨gb178, 4, none⟩) (Kd.R_far (p := ⟨gb178, 3, none⟩) (Kd.R_far (p := ⟨gb178, 2, none⟩) (Kd.R_far (p := ⟨gb178, 1, none⟩) (Kd.R_far (p := ⟨gb178, 0, none⟩) (Kd.R_types HO177.out BK178.out (by decide)) (fun _ hk => hk.2) (.string t171)) (fun _ hk => hk.2) (.int .i64 t172)) (fun _ hk => hk.2) (.int .i64 t173)) (fun _ hk => hk.2) (.int .i64 t174)) (fun _ hk => hk.2) (.slice Ao114 t175.length co114)) (fun _ h_ => h_.1)))); (case side2 => exact (Kd.R_reads' HO177.out).2.1); rintro e w115 ⟨rfl, hb⟩; refine ⟨_, rfl, ?_⟩; have n0_ := Aside0.mk (Kd.R_below (by (with_reducible repeat (first | apply Kd.R_alloc | apply Kd.R_drewN | apply Kd.R_drew)); exact (Kd.R_mono (Kd.R_far (p := ⟨gb178, 4, none⟩) (Kd.R_far (p := ⟨gb178, 3, none⟩) (Kd.R_far (p := ⟨gb178, 2, none⟩) (Kd.R_far (p := ⟨gb178, 1, none⟩) (Kd.R_far (p := ⟨gb178, 0, none⟩) (Kd.R_types HO177.out BK178.out (by decide)) (fun _ hk => hk.2) (.string t171)) (fun _ hk => hk.2) (.int .i64 t172)) (fun _ hk => hk.2) (.int .i64 t173)) (fun _ hk => hk.2) (.int .i64 t174)) (fun _ hk => hk.2) (.slice Ao114 t175.length co114)) (fun _ h_ => h_.1))) hb); have n1_ := Aside0.mk (blk_below (g := gb169) (o := .cells #[.string a0_0, .int .i64 a0_1, .int .i64 a0_2, .int .i64 a0_3, .slice A0_4 l0_4.length c0_4] 24 (0, 0)) (by (with_reducible repeat (first | refine blk_drewN ?_ _ | refine blk_drew ?_ | refine blk_alloc ?_ _)); refine blk_far ?_ NB169_178.out _; (with_reducible repeat (first | refine blk_drewN ?_ _ | refine blk_drew ?_ | refine blk_alloc ?_ _)); refine blk_far ?_ NB169_178.out _; (with_reducible repeat (first | refine blk_drewN ?_ _ | refine blk_drew ?_ | refine blk_alloc ?_ _)); refine blk_far ?_ NB169_178.out _; (with_reducible repeat (first | refine blk_drewN ?_ _ | refine blk_drew ?_ | refine blk_alloc ?_ _)); refine blk_far ?_ NB169_178.out _; (with_reducible repeat (first | refine blk_drewN ?_ _ | refine blk_drew ?_ | refine blk_alloc ?_ _)); refine blk_far ?_ NB169_178.out _; (with_reducible repeat (first | refine blk_drewN ?_ _ | refine blk_drew ?_ | refine blk_alloc ?_ _)); exact BK169.out) hb); have n2_ := Aside0.mk (blk_below (g := gb178) (o := .cells #[.string t171, .int .i64 t172, .int .i64 t173, .int .i64 t174, .slice Ao114 t175.length co114] 28 (0, 0)) (by (with_reducible repeat (first | refine blk_drewN ?_ _ | refine blk_drew ?_ | refine blk_alloc ?_ _)); refine blk_put (cs := #[.string t171, .int .i64 t172, .int .i64 t173, .int .i64 t174, .slice none 0 0]) ?_ 4 _ rfl; (with_reducible repeat (first | refine blk_drewN ?_ _ | refine blk_drew ?_ | refine blk_alloc ?_ _)); refine blk_put (cs := #[.string t171, .int .i64 t172, .int .i64 t173, .int .i64 0, .slice none 0 0]) ?_ 3 _ rfl; (with_reducible repeat (first | refine blk_drewN ?_ _ | refine blk_drew ?_ | refine blk_alloc ?_ _)); refine blk_put (cs := #[.string t171, .int .i64 t172, .int .i64 0, .int .i64 0, .slice none 0 0]) ?_ 2 _ rfl; (with_reducible repeat (first | refine blk_drewN ?_ _ | refine blk_drew ?_ | refine blk_alloc ?_ _)); refine blk_put (cs := #[.string t171, .int .i64 0, .int .i64 0, .int .i64 0, .slice none 0 0]) ?_ 1 _ rfl; (with_reducible repeat (first | refine blk_drewN ?_ _ | refine blk_drew ?_ | refine blk_alloc ?_ _)); refine blk_put (cs := #[.string (⟨#[]⟩ : ByteArray), .int .i64 0, .int .i64 0, .int .i64 0, .slice none 0 0]) ?_ 0 _ rfl; (with_reducible repeat (first | refine blk_drewN ?_ _ | refine blk_drew ?_ | refine blk_alloc ?_ _)); exact BK178.out) hb); have n3_ := Aside0.mk (below_step (by repeat (first | (with_reducible first | exact HB.out | apply below_alloc | apply pw_below_drewN | apply below_drew1 | refine below_set ?_ GE169.out | refine below_set ?_ GE178.out) | exact HB.out)) hb); clear HO177; clear BK169; clear BK178; clear HB; have HO177 := n0_; have BK169 := n1_; have BK178 := n2_; have HB := n3_; clear n0_ n1_ n2_ n3_; (try clear hb); (try clear hb2); (try clear hk); (try clear hi)))
        go_ret
        exact ⟨by first | rfl | (simp [errW_none, errW_some] <;> rfl) | (simp [*, errW_none, errW_some] <;> rfl), by repeat (first | (with_reducible first | exact HB.out | apply below_alloc | apply pw_below_drewN | apply below_drew1 | refine below_set ?_ GE169.out | refine below_set ?_ GE178.out) | exact HB.out)⟩
  · replace c4 := Bool.eq_false_iff.mpr c4
    subst c4
    have H1 : (none) = some r := by rw [if_neg (show ¬ (false = true) by decide)] at H; exact H
    clear H
    have H := H1
    clear H1
    exact absurd H (by simp)

end Go.Proofs.Ythdnaliahdohhaa.D
