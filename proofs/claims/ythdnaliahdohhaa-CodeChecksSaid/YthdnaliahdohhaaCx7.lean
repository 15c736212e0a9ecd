-- printed by a program of this session (wip/tools/pp.py) that runs the kit's printer over contracts proved by hand
import Derived.Test.YthdnaliahdohhaaCx0
import Derived.Test.YthdnaliahdohhaaCx2
namespace Go.Proofs.Ythdnaliahdohhaa.C
open Go.RowKit Go.Proofs.YthdnaliahdohhaaW.PrintWords Go.Proofs.YthdnaliahdohhaaW.PrintLast Go.Proofs.YthdnaliahdohhaaW.PrintMore
attribute [local go_sem] max2_int min2_int max_two min_two max_three min_three max_four min_four   -- for this text's walks alone
set_option linter.unusedVariables false
set_option linter.unusedSimpArgs false

attribute [local go_sem high] eqA89
/-! ### prolixref18_Same: function 21 -/
mutual
def prolixref18_Same.j0 : Nat → Bool → ByteArray → Int → Int → Int → List (S89) → ByteArray → Int → Int → Int → List (S89) → Option (Bool)
  | 0, _, _, _, _, _, _, _, _, _, _, _ => none
  | k + 1, x40, x144000, x144001, x144002, x144003, x144004, x145000, x145001, x145002, x145003, x145004 => if x40 = true then (some false) else (prolixref18_Same.l0 k (x144004.length : Int) 0 x144000 x144001 x144002 x144003 x144004 x145000 x145001 x145002 x145003 x145004)
def prolixref18_Same.l0 : Nat → Int → Int → ByteArray → Int → Int → Int → List (S89) → ByteArray → Int → Int → Int → List (S89) → Option (Bool)
  | 0, _, _, _, _, _, _, _, _, _, _, _, _ => none
  | k + 1, x43, x44, x144000, x144001, x144002, x144003, x144004, x145000, x145001, x145002, x145003, x145004 => if x44 < x43 then (if 0 ≤ x44 then (if x44 < (x144004.length : Int) then (if x44 < (x145004.length : Int) then (if (!(((rd_T89 x144004 x44).f0) == ((rd_T89 x145004 x44).f0)) || (!(((rd_T89 x144004 x44).f1) == ((rd_T89 x145004 x44).f1)) || (!(((rd_T89 x144004 x44).f2) == ((rd_T89 x145004 x44).f2)) || (!((((rd_T89 x144004 x44).f3).toList) == (((rd_T89 x145004 x44).f3).toList)))))) = true then (some false) else (prolixref18_Same.l0 k x43 (wrap64 (x44 + 1)) x144000 x144001 x144002 x144003 x144004 x145000 x145001 x145002 x145003 x145004)) else (none)) else (none)) else (none)) else (some true)
end
def prolixref18_Same.f (k : Nat) (a0_0 : ByteArray) (a0_1 : Int) (a0_2 : Int) (a0_3 : Int) (l0_4 : List (S89)) (a1_0 : ByteArray) (a1_1 : Int) (a1_2 : Int) (a1_3 : Int) (l1_4 : List (S89)) : Option (Bool) := if a0_0.toList = a1_0.toList then (if a0_1 = a1_1 then (if a0_2 = a1_2 then (if a0_3 = a1_3 then (prolixref18_Same.j0 k ((l0_4.length : Int) != (l1_4.length : Int)) a0_0 a0_1 a0_2 a0_3 l0_4 a1_0 a1_1 a1_2 a1_3 l1_4) else (prolixref18_Same.j0 k true a0_0 a0_1 a0_2 a0_3 l0_4 a1_0 a1_1 a1_2 a1_3 l1_4)) else (prolixref18_Same.j0 k true a0_0 a0_1 a0_2 a0_3 l0_4 a1_0 a1_1 a1_2 a1_3 l1_4)) else (prolixref18_Same.j0 k true a0_0 a0_1 a0_2 a0_3 l0_4 a1_0 a1_1 a1_2 a1_3 l1_4)) else (prolixref18_Same.j0 k true a0_0 a0_1 a0_2 a0_3 l0_4 a1_0 a1_1 a1_2 a1_3 l1_4)
theorem prolixref18_Same.mono_l : ∀ k, (∀ y0 y1 y2 y3 y4 y5 y6 y7 y8 y9 y10, LeO (prolixref18_Same.j0 k y0 y1 y2 y3 y4 y5 y6 y7 y8 y9 y10) (prolixref18_Same.j0 (k + 1) y0 y1 y2 y3 y4 y5 y6 y7 y8 y9 y10)) ∧ (∀ y0 y1 y2 y3 y4 y5 y6 y7 y8 y9 y10 y11, LeO (prolixref18_Same.l0 k y0 y1 y2 y3 y4 y5 y6 y7 y8 y9 y10 y11) (prolixref18_Same.l0 (k + 1) y0 y1 y2 y3 y4 y5 y6 y7 y8 y9 y10 y11))
  | 0 => ⟨fun _ _ _ _ _ _ _ _ _ _ _ r h => by simp [prolixref18_Same.j0] at h, fun _ _ _ _ _ _ _ _ _ _ _ _ r h => by simp [prolixref18_Same.l0] at h⟩
  | k + 1 => by
    obtain ⟨ih0, ih1⟩ := prolixref18_Same.mono_l k
    refine ⟨?_, ?_⟩
    · intro y0 y1 y2 y3 y4 y5 y6 y7 y8 y9 y10
      unfold prolixref18_Same.j0
      repeat' first
      | (with_reducible exact ih0 _ _ _ _ _ _ _ _ _ _ _)
      | (with_reducible exact ih1 _ _ _ _ _ _ _ _ _ _ _ _)
      | (with_reducible exact LeO.refl _)
      | (with_reducible exact LeO.none _)
      | (with_reducible refine LeO.ite ?_ ?_)
      | (with_reducible refine LeO.bind ?_ (fun _ => ?_))
      | exact ih0 _ _ _ _ _ _ _ _ _ _ _
      | exact ih1 _ _ _ _ _ _ _ _ _ _ _ _
      | exact LeO.none _
      | refine LeO.ite ?_ ?_
      | refine LeO.bind ?_ (fun _ => ?_)
    · intro y0 y1 y2 y3 y4 y5 y6 y7 y8 y9 y10 y11
      unfold prolixref18_Same.l0
      repeat' first
      | (with_reducible exact ih0 _ _ _ _ _ _ _ _ _ _ _)
      | (with_reducible exact ih1 _ _ _ _ _ _ _ _ _ _ _ _)
      | (with_reducible exact LeO.refl _)
      | (with_reducible exact LeO.none _)
      | (with_reducible refine LeO.ite ?_ ?_)
      | (with_reducible refine LeO.bind ?_ (fun _ => ?_))
      | exact ih0 _ _ _ _ _ _ _ _ _ _ _
      | exact ih1 _ _ _ _ _ _ _ _ _ _ _ _
      | exact LeO.none _
      | refine LeO.ite ?_ ?_
      | refine LeO.bind ?_ (fun _ => ?_)
theorem prolixref18_Same.mono : ∀ a0 a1 a2 a3 a4 a5 a6 a7 a8 a9 k, LeO (prolixref18_Same.f k a0 a1 a2 a3 a4 a5 a6 a7 a8 a9) (prolixref18_Same.f (k + 1) a0 a1 a2 a3 a4 a5 a6 a7 a8 a9) := by
  intro a0 a1 a2 a3 a4 a5 a6 a7 a8 a9 k
  obtain ⟨ih0, ih1⟩ := prolixref18_Same.mono_l k
  unfold prolixref18_Same.f
  repeat' first
      | (with_reducible exact ih0 _ _ _ _ _ _ _ _ _ _ _)
      | (with_reducible exact ih1 _ _ _ _ _ _ _ _ _ _ _ _)
      | (with_reducible exact LeO.refl _)
      | (with_reducible exact LeO.none _)
      | (with_reducible refine LeO.ite ?_ ?_)
      | (with_reducible refine LeO.bind ?_ (fun _ => ?_))
      | exact ih0 _ _ _ _ _ _ _ _ _ _ _
      | exact ih1 _ _ _ _ _ _ _ _ _ _ _ _
      | exact LeO.none _
      | refine LeO.ite ?_ ?_
      | refine LeO.bind ?_ (fun _ => ?_)
set_option maxHeartbeats 8000000 in
set_option maxRecDepth 100000 in
theorem prolixref18_Same.calls (k : Nat) (a0_0 : ByteArray) (a0_1 : Int) (a0_2 : Int) (a0_3 : Int) (A0_4 : Option Addr) (c0_4 : Nat) (l0_4 : List (S89)) (a1_0 : ByteArray) (a1_1 : Int) (a1_2 : Int) (a1_3 : Int) (A1_4 : Option Addr) (c1_4 : Nat) (l1_4 : List (S89)) (r : Bool) (w : World) (hr0_4 : Kd.C k89 w A0_4 l0_4.length l0_4) (hc0_4 : l0_4.length ≤ c0_4) (hr1_4 : Kd.C k89 w A1_4 l1_4.length l1_4) (hc1_4 : l1_4.length ≤ c1_4) (h : prolixref18_Same.f k a0_0 a0_1 a0_2 a0_3 l0_4 a1_0 a1_1 a1_2 a1_3 l1_4 = some r) :
    Calls Try.prog 21 #[.agg #[.string a0_0, .int .i64 a0_1, .int .i64 a0_2, .int .i64 a0_3, .slice A0_4 l0_4.length c0_4], .agg #[.string a1_0, .int .i64 a1_1, .int .i64 a1_2, .int .i64 a1_3, .slice A1_4 l1_4.length c1_4]] w fun e w' => e = .returned (.bool r) ∧ Below w.heap.size w w' := by
  have hu24 := Try.underlying24
  have hu89 := Try.underlying89
  have HR0_4 := Aside0.mk hr0_4
  have HC0_4 := Aside0.mk hc0_4
  clear hr0_4 hc0_4
  have HR1_4 := Aside0.mk hr1_4
  have HC1_4 := Aside0.mk hc1_4
  clear hr1_4 hc1_4
  have HB := Aside0.mk (Below.refl w.heap.size w)
  have H : (if a0_0.toList = a1_0.toList then (if a0_1 = a1_1 then (if a0_2 = a1_2 then (if a0_3 = a1_3 then (prolixref18_Same.j0 k ((l0_4.length : Int) != (l1_4.length : Int)) a0_0 a0_1 a0_2 a0_3 l0_4 a1_0 a1_1 a1_2 a1_3 l1_4) else (prolixref18_Same.j0 k true a0_0 a0_1 a0_2 a0_3 l0_4 a1_0 a1_1 a1_2 a1_3 l1_4)) else (prolixref18_Same.j0 k true a0_0 a0_1 a0_2 a0_3 l0_4 a1_0 a1_1 a1_2 a1_3 l1_4)) else (prolixref18_Same.j0 k true a0_0 a0_1 a0_2 a0_3 l0_4 a1_0 a1_1 a1_2 a1_3 l1_4)) else (prolixref18_Same.j0 k true a0_0 a0_1 a0_2 a0_3 l0_4 a1_0 a1_1 a1_2 a1_3 l1_4)) = some r := h
  clear h
  have HC3 := Aside0.mk H
  clear H
  go_enter Try.func21, Try.ntmps21
  go_upto_region 1 with (first | ((with_reducible refine gate_dst (N := 2) rfl ?_); (try (refine gate_guard (by rfl) ?_; dsimp only)); refine box_event ?hg (N := 2) ?hd (cs := #[.string a0_0, .int .i64 a0_1, .int .i64 a0_2, .int .i64 a0_3, .slice A0_4 l0_4.length c0_4]) (t := 24) ?hr ?_; (case hd => rfl); (case hg => rfl); (case hr => first | (go_simp; done) | (go_simp; rfl)); intro gb143 hg w4 hbox hb; have n0_ := Aside0.mk (below_step (by repeat (first | (with_reducible first | exact HB.out | apply below_alloc | apply pw_below_drewN | apply below_drew1) | exact HB.out)) hb); have n1_ := Aside0.mk (hbox); have n2_ := Aside0.mk ((by rw [hg]; exact (below_size (by repeat (first | (with_reducible first | exact HB.out | apply below_alloc | apply pw_below_drewN | apply below_drew1) | exact HB.out))) : w.heap.size ≤ gb143)); have n3_ := Aside0.mk ((by rw [hg]; exact (below_size (by repeat (first | (with_reducible first | exact HB.out | apply below_alloc | apply pw_below_drewN | apply below_drew1) | exact HB.out))) : w.heap.size ≤ gb143)); clear HB; have HB := n0_; have BK143 := n1_; have GW143 := n2_; have GE143 := n3_; clear n0_ n1_ n2_ n3_; clear hb hbox hg) | ((with_reducible refine gate_dst (N := 3) rfl ?_); (try (refine gate_guard (by rfl) ?_; dsimp only)); refine box_event ?hg (N := 3) ?hd (cs := #[.string a1_0, .int .i64 a1_1, .int .i64 a1_2, .int .i64 a1_3, .slice A1_4 l1_4.length c1_4]) (t := 24) ?hr ?_; (case hd => rfl); (case hg => rfl); (case hr => first | (go_simp; done) | (go_simp; rfl)); intro gb144 hg w5 hbox hb; have n0_ := Aside0.mk (blk_below (g := gb143) (o := .cells #[.string a0_0, .int .i64 a0_1, .int .i64 a0_2, .int .i64 a0_3, .slice A0_4 l0_4.length c0_4] 24 (0, 0)) (by (with_reducible repeat (first | refine blk_drewN ?_ _ | refine blk_drew ?_ | refine blk_alloc ?_ _)); exact BK143.out) hb); have n1_ := Aside0.mk (below_step (by repeat (first | (with_reducible first | exact HB.out | apply below_alloc | apply pw_below_drewN | apply below_drew1 | refine below_set ?_ GE143.out) | exact HB.out)) hb); have n2_ := Aside0.mk (hbox); have n3_ := Aside0.mk ((by rw [hg]; exact (below_size (by repeat (first | (with_reducible first | exact HB.out | apply below_alloc | apply pw_below_drewN | apply below_drew1 | refine below_set ?_ GE143.out) | exact HB.out))) : w.heap.size ≤ gb144)); have n4_ := Aside0.mk ((by rw [hg]; exact (below_size (by repeat (first | (with_reducible first | exact HB.out | apply below_alloc | apply pw_below_drewN | apply below_drew1 | refine below_set ?_ GE143.out) | exact HB.out))) : w.heap.size ≤ gb144)); have n5_ := Aside0.mk ((by rw [hg]; exact Nat.ne_of_lt (blk_lt (g := gb143) (o := .cells #[.string a0_0, .int .i64 a0_1, .int .i64 a0_2, .int .i64 a0_3, .slice A0_4 l0_4.length c0_4] 24 (0, 0)) (by (with_reducible repeat (first | refine blk_drewN ?_ _ | refine blk_drew ?_ | refine blk_alloc ?_ _)); exact BK143.out)) : gb143 ≠ gb144)); have n6_ := Aside0.mk ((by rw [hg]; exact Nat.ne_of_gt (blk_lt (g := gb143) (o := .cells #[.string a0_0, .int .i64 a0_1, .int .i64 a0_2, .int .i64 a0_3, .slice A0_4 l0_4.length c0_4] 24 (0, 0)) (by (with_reducible repeat (first | refine blk_drewN ?_ _ | refine blk_drew ?_ | refine blk_alloc ?_ _)); exact BK143.out)) : gb144 ≠ gb143)); clear BK143; clear HB; have BK143 := n0_; have HB := n1_; have BK144 := n2_; have GW144 := n3_; have GE144 := n4_; have NB143_144 := n5_; have NB144_143 := n6_; clear n0_ n1_ n2_ n3_ n4_ n5_ n6_; clear hb hbox hg))
  repeat (go_quiet (first | ((with_reducible refine gate_dst (N := 2) rfl ?_); (try (refine gate_guard (by rfl) ?_; dsimp only)); refine box_event ?hg (N := 2) ?hd (cs := #[.string a0_0, .int .i64 a0_1, .int .i64 a0_2, .int .i64 a0_3, .slice A0_4 l0_4.length c0_4]) (t := 24) ?hr ?_; (case hd => rfl); (case hg => rfl); (case hr => first | (go_simp; done) | (go_simp; rfl)); intro gb143 hg w4 hbox hb; have n0_ := Aside0.mk (below_step (by repeat (first | (with_reducible first | exact HB.out | apply below_alloc | apply pw_below_drewN | apply below_drew1) | exact HB.out)) hb); have n1_ := Aside0.mk (hbox); have n2_ := Aside0.mk ((by rw [hg]; exact (below_size (by repeat (first | (with_reducible first | exact HB.out | apply below_alloc | apply pw_below_drewN | apply below_drew1) | exact HB.out))) : w.heap.size ≤ gb143)); have n3_ := Aside0.mk ((by rw [hg]; exact (below_size (by repeat (first | (with_reducible first | exact HB.out | apply below_alloc | apply pw_below_drewN | apply below_drew1) | exact HB.out))) : w.heap.size ≤ gb143)); clear HB; have HB := n0_; have BK143 := n1_; have GW143 := n2_; have GE143 := n3_; clear n0_ n1_ n2_ n3_; clear hb hbox hg) | ((with_reducible refine gate_dst (N := 3) rfl ?_); (try (refine gate_guard (by rfl) ?_; dsimp only)); refine box_event ?hg (N := 3) ?hd (cs := #[.string a1_0, .int .i64 a1_1, .int .i64 a1_2, .int .i64 a1_3, .slice A1_4 l1_4.length c1_4]) (t := 24) ?hr ?_; (case hd => rfl); (case hg => rfl); (case hr => first | (go_simp; done) | (go_simp; rfl)); intro gb144 hg w5 hbox hb; have n0_ := Aside0.mk (blk_below (g := gb143) (o := .cells #[.string a0_0, .int .i64 a0_1, .int .i64 a0_2, .int .i64 a0_3, .slice A0_4 l0_4.length c0_4] 24 (0, 0)) (by (with_reducible repeat (first | refine blk_drewN ?_ _ | refine blk_drew ?_ | refine blk_alloc ?_ _)); exact BK143.out) hb); have n1_ := Aside0.mk (below_step (by repeat (first | (with_reducible first | exact HB.out | apply below_alloc | apply pw_below_drewN | apply below_drew1 | refine below_set ?_ GE143.out) | exact HB.out)) hb); have n2_ := Aside0.mk (hbox); have n3_ := Aside0.mk ((by rw [hg]; exact (below_size (by repeat (first | (with_reducible first | exact HB.out | apply below_alloc | apply pw_below_drewN | apply below_drew1 | refine below_set ?_ GE143.out) | exact HB.out))) : w.heap.size ≤ gb144)); have n4_ := Aside0.mk ((by rw [hg]; exact (below_size (by repeat (first | (with_reducible first | exact HB.out | apply below_alloc | apply pw_below_drewN | apply below_drew1 | refine below_set ?_ GE143.out) | exact HB.out))) : w.heap.size ≤ gb144)); have n5_ := Aside0.mk ((by rw [hg]; exact Nat.ne_of_lt (blk_lt (g := gb143) (o := .cells #[.string a0_0, .int .i64 a0_1, .int .i64 a0_2, .int .i64 a0_3, .slice A0_4 l0_4.length c0_4] 24 (0, 0)) (by (with_reducible repeat (first | refine blk_drewN ?_ _ | refine blk_drew ?_ | refine blk_alloc ?_ _)); exact BK143.out)) : gb143 ≠ gb144)); have n6_ := Aside0.mk ((by rw [hg]; exact Nat.ne_of_gt (blk_lt (g := gb143) (o := .cells #[.string a0_0, .int .i64 a0_1, .int .i64 a0_2, .int .i64 a0_3, .slice A0_4 l0_4.length c0_4] 24 (0, 0)) (by (with_reducible repeat (first | refine blk_drewN ?_ _ | refine blk_drew ?_ | refine blk_alloc ?_ _)); exact BK143.out)) : gb144 ≠ gb143)); clear BK143; clear HB; have BK143 := n0_; have HB := n1_; have BK144 := n2_; have GW144 := n3_; have GE144 := n4_; have NB143_144 := n5_; have NB144_143 := n6_; clear n0_ n1_ n2_ n3_ n4_ n5_ n6_; clear hb hbox hg)); go_upto_region 1 with (first | ((with_reducible refine gate_dst (N := 2) rfl ?_); (try (refine gate_guard (by rfl) ?_; dsimp only)); refine box_event ?hg (N := 2) ?hd (cs := #[.string a0_0, .int .i64 a0_1, .int .i64 a0_2, .int .i64 a0_3, .slice A0_4 l0_4.length c0_4]) (t := 24) ?hr ?_; (case hd => rfl); (case hg => rfl); (case hr => first | (go_simp; done) | (go_simp; rfl)); intro gb143 hg w4 hbox hb; have n0_ := Aside0.mk (below_step (by repeat (first | (with_reducible first | exact HB.out | apply below_alloc | apply pw_below_drewN | apply below_drew1) | exact HB.out)) hb); have n1_ := Aside0.mk (hbox); have n2_ := Aside0.mk ((by rw [hg]; exact (below_size (by repeat (first | (with_reducible first | exact HB.out | apply below_alloc | apply pw_below_drewN | apply below_drew1) | exact HB.out))) : w.heap.size ≤ gb143)); have n3_ := Aside0.mk ((by rw [hg]; exact (below_size (by repeat (first | (with_reducible first | exact HB.out | apply below_alloc | apply pw_below_drewN | apply below_drew1) | exact HB.out))) : w.heap.size ≤ gb143)); clear HB; have HB := n0_; have BK143 := n1_; have GW143 := n2_; have GE143 := n3_; clear n0_ n1_ n2_ n3_; clear hb hbox hg) | ((with_reducible refine gate_dst (N := 3) rfl ?_); (try (refine gate_guard (by rfl) ?_; dsimp only)); refine box_event ?hg (N := 3) ?hd (cs := #[.string a1_0, .int .i64 a1_1, .int .i64 a1_2, .int .i64 a1_3, .slice A1_4 l1_4.length c1_4]) (t := 24) ?hr ?_; (case hd => rfl); (case hg => rfl); (case hr => first | (go_simp; done) | (go_simp; rfl)); intro gb144 hg w5 hbox hb; have n0_ := Aside0.mk (blk_below (g := gb143) (o := .cells #[.string a0_0, .int .i64 a0_1, .int .i64 a0_2, .int .i64 a0_3, .slice A0_4 l0_4.length c0_4] 24 (0, 0)) (by (with_reducible repeat (first | refine blk_drewN ?_ _ | refine blk_drew ?_ | refine blk_alloc ?_ _)); exact BK143.out) hb); have n1_ := Aside0.mk (below_step (by repeat (first | (with_reducible first | exact HB.out | apply below_alloc | apply pw_below_drewN | apply below_drew1 | refine below_set ?_ GE143.out) | exact HB.out)) hb); have n2_ := Aside0.mk (hbox); have n3_ := Aside0.mk ((by rw [hg]; exact (below_size (by repeat (first | (with_reducible first | exact HB.out | apply below_alloc | apply pw_below_drewN | apply below_drew1 | refine below_set ?_ GE143.out) | exact HB.out))) : w.heap.size ≤ gb144)); have n4_ := Aside0.mk ((by rw [hg]; exact (below_size (by repeat (first | (with_reducible first | exact HB.out | apply below_alloc | apply pw_below_drewN | apply below_drew1 | refine below_set ?_ GE143.out) | exact HB.out))) : w.heap.size ≤ gb144)); have n5_ := Aside0.mk ((by rw [hg]; exact Nat.ne_of_lt (blk_lt (g := gb143) (o := .cells #[.string a0_0, .int .i64 a0_1, .int .i64 a0_2, .int .i64 a0_3, .slice A0_4 l0_4.length c0_4] 24 (0, 0)) (by (with_reducible repeat (first | refine blk_drewN ?_ _ | refine blk_drew ?_ | refine blk_alloc ?_ _)); exact BK143.out)) : gb143 ≠ gb144)); have n6_ := Aside0.mk ((by rw [hg]; exact Nat.ne_of_gt (blk_lt (g := gb143) (o := .cells #[.string a0_0, .int .i64 a0_1, .int .i64 a0_2, .int .i64 a0_3, .slice A0_4 l0_4.length c0_4] 24 (0, 0)) (by (with_reducible repeat (first | refine blk_drewN ?_ _ | refine blk_drew ?_ | refine blk_alloc ?_ _)); exact BK143.out)) : gb144 ≠ gb143)); clear BK143; clear HB; have BK143 := n0_; have HB := n1_; have BK144 := n2_; have GW144 := n3_; have GE144 := n4_; have NB143_144 := n5_; have NB144_143 := n6_; clear n0_ n1_ n2_ n3_ n4_ n5_ n6_; clear hb hbox hg)))
  (try simp only [Act.put, List.setIfInBounds_toArray, List.set_cons_zero, List.set_cons_succ])
  go_cut [40] (fun v40 wc => ∃ (kq : Nat) (x40_2 : Bool), v40 = .bool x40_2 ∧ Aside0 (prolixref18_Same.j0 kq x40_2 a0_0 a0_1 a0_2 a0_3 l0_4 a1_0 a1_1 a1_2 a1_3 l1_4 = some r) ∧ Aside0 (kq ≤ k) ∧ Aside0 (wc.heap[gb143]? = some (.cells #[.string a0_0, .int .i64 a0_1, .int .i64 a0_2, .int .i64 a0_3, (.slice A0_4 l0_4.length c0_4)] 24 (0, 0))) ∧ Aside0 (wc.heap[gb144]? = some (.cells #[.string a1_0, .int .i64 a1_1, .int .i64 a1_2, .int .i64 a1_3, (.slice A1_4 l1_4.length c1_4)] 24 (0, 0))) ∧ Aside0 (Below w.heap.size w wc))
  case first =>
    have H := HC3.out
    clear HC3
    by_cases c6 : a0_0.toList = a1_0.toList
    · rw [if_pos c6] at H
      have c6b0 : (a0_0.toList == a1_0.toList) = true := beq_iff_eq.mpr c6
      have c6b1 : (a0_0.toList != a1_0.toList) = false := bne_eq_false_iff_eq.mpr c6
      clear c6
      (first | rw [c6b0] | (simp only [i64_w, i32_w]; rw [c6b0]) | skip)
      by_cases c7 : a0_1 = a1_1
      · rw [if_pos c7] at H
        have c7b0 : (a0_1 == a1_1) = true := beq_iff_eq.mpr c7
        have c7b1 : (a0_1 != a1_1) = false := bne_eq_false_iff_eq.mpr c7
        clear c7
        by_cases c8 : a0_2 = a1_2
        · rw [if_pos c8] at H
          have c8b0 : (a0_2 == a1_2) = true := beq_iff_eq.mpr c8
          have c8b1 : (a0_2 != a1_2) = false := bne_eq_false_iff_eq.mpr c8
          clear c8
          by_cases c9 : a0_3 = a1_3
          · rw [if_pos c9] at H
            have c9b0 : (a0_3 == a1_3) = true := beq_iff_eq.mpr c9
            have c9b1 : (a0_3 != a1_3) = false := bne_eq_false_iff_eq.mpr c9
            clear c9
            have H' := Aside0.mk H
            clear H
            have hnb10 := NB143_144.out
            have hnc10 := NB144_143.out
            have hcz11_0 : w5.cell? ⟨gb143, 0, none⟩ = some (.string a0_0) := (blk_cell BK143.out 0).trans rfl
            have hcz11_1 : w5.cell? ⟨gb143, 1, none⟩ = some (.int .i64 a0_1) := (blk_cell BK143.out 1).trans rfl
            have hcz11_2 : w5.cell? ⟨gb143, 2, none⟩ = some (.int .i64 a0_2) := (blk_cell BK143.out 2).trans rfl
            have hcz11_3 : w5.cell? ⟨gb143, 3, none⟩ = some (.int .i64 a0_3) := (blk_cell BK143.out 3).trans rfl
            have hcz11_4 : w5.cell? ⟨gb143, 4, none⟩ = some (.slice A0_4 l0_4.length c0_4) := (blk_cell BK143.out 4).trans rfl
            have hfz11_0 := blk_frozen BK143.out 0
            have hfz11_1 := blk_frozen BK143.out 1
            have hfz11_2 := blk_frozen BK143.out 2
            have hfz11_3 := blk_frozen BK143.out 3
            have hfz11_4 := blk_frozen BK143.out 4
            have hcz12_0 : w5.cell? ⟨gb144, 0, none⟩ = some (.string a1_0) := (blk_cell BK144.out 0).trans rfl
            have hcz12_1 : w5.cell? ⟨gb144, 1, none⟩ = some (.int .i64 a1_1) := (blk_cell BK144.out 1).trans rfl
            have hcz12_2 : w5.cell? ⟨gb144, 2, none⟩ = some (.int .i64 a1_2) := (blk_cell BK144.out 2).trans rfl
            have hcz12_3 : w5.cell? ⟨gb144, 3, none⟩ = some (.int .i64 a1_3) := (blk_cell BK144.out 3).trans rfl
            have hcz12_4 : w5.cell? ⟨gb144, 4, none⟩ = some (.slice A1_4 l1_4.length c1_4) := (blk_cell BK144.out 4).trans rfl
            have hfz12_0 := blk_frozen BK144.out 0
            have hfz12_1 := blk_frozen BK144.out 1
            have hfz12_2 := blk_frozen BK144.out 2
            have hfz12_3 := blk_frozen BK144.out 3
            have hfz12_4 := blk_frozen BK144.out 4
            go_wp2
            repeat (go_quiet (fail); try go_wp2)
            go_meet
            case rel => exact ⟨_, (((l0_4.length : Int) != (l1_4.length : Int))), (by first | rfl | (simp; done) | (simp [*]; done)), H', ⟨by first | omega | exact Nat.le_refl _⟩, ⟨by (with_reducible repeat (first | refine blk_drewN ?_ _ | refine blk_drew ?_ | refine blk_alloc ?_ _)); exact BK143.out⟩, ⟨by (with_reducible repeat (first | refine blk_drewN ?_ _ | refine blk_drew ?_ | refine blk_alloc ?_ _)); exact BK144.out⟩, ⟨by repeat (first | (with_reducible first | exact HB.out | apply below_alloc | apply pw_below_drewN | apply below_drew1 | refine below_set ?_ GE143.out | refine below_set ?_ GE144.out) | exact HB.out)⟩⟩
          · rw [if_neg c9] at H
            have c9b0 : (a0_3 == a1_3) = false := beq_eq_false_iff_ne.mpr c9
            have c9b1 : (a0_3 != a1_3) = true := bne_iff_ne.mpr c9
            have H' := Aside0.mk H
            clear H
            have hnb13 := NB143_144.out
            have hnc13 := NB144_143.out
            have hcz14_0 : w5.cell? ⟨gb143, 0, none⟩ = some (.string a0_0) := (blk_cell BK143.out 0).trans rfl
            have hcz14_1 : w5.cell? ⟨gb143, 1, none⟩ = some (.int .i64 a0_1) := (blk_cell BK143.out 1).trans rfl
            have hcz14_2 : w5.cell? ⟨gb143, 2, none⟩ = some (.int .i64 a0_2) := (blk_cell BK143.out 2).trans rfl
            have hcz14_3 : w5.cell? ⟨gb143, 3, none⟩ = some (.int .i64 a0_3) := (blk_cell BK143.out 3).trans rfl
            have hcz14_4 : w5.cell? ⟨gb143, 4, none⟩ = some (.slice A0_4 l0_4.length c0_4) := (blk_cell BK143.out 4).trans rfl
            have hfz14_0 := blk_frozen BK143.out 0
            have hfz14_1 := blk_frozen BK143.out 1
            have hfz14_2 := blk_frozen BK143.out 2
            have hfz14_3 := blk_frozen BK143.out 3
            have hfz14_4 := blk_frozen BK143.out 4
            have hcz15_0 : w5.cell? ⟨gb144, 0, none⟩ = some (.string a1_0) := (blk_cell BK144.out 0).trans rfl
            have hcz15_1 : w5.cell? ⟨gb144, 1, none⟩ = some (.int .i64 a1_1) := (blk_cell BK144.out 1).trans rfl
            have hcz15_2 : w5.cell? ⟨gb144, 2, none⟩ = some (.int .i64 a1_2) := (blk_cell BK144.out 2).trans rfl
            have hcz15_3 : w5.cell? ⟨gb144, 3, none⟩ = some (.int .i64 a1_3) := (blk_cell BK144.out 3).trans rfl
            have hcz15_4 : w5.cell? ⟨gb144, 4, none⟩ = some (.slice A1_4 l1_4.length c1_4) := (blk_cell BK144.out 4).trans rfl
            have hfz15_0 := blk_frozen BK144.out 0
            have hfz15_1 := blk_frozen BK144.out 1
            have hfz15_2 := blk_frozen BK144.out 2
            have hfz15_3 := blk_frozen BK144.out 3
            have hfz15_4 := blk_frozen BK144.out 4
            go_wp2
            repeat (go_quiet (fail); try go_wp2)
            go_meet
            case rel => exact ⟨_, (true), (by first | rfl | (simp; done) | (simp [*]; done)), H', ⟨by first | omega | exact Nat.le_refl _⟩, ⟨by (with_reducible repeat (first | refine blk_drewN ?_ _ | refine blk_drew ?_ | refine blk_alloc ?_ _)); exact BK143.out⟩, ⟨by (with_reducible repeat (first | refine blk_drewN ?_ _ | refine blk_drew ?_ | refine blk_alloc ?_ _)); exact BK144.out⟩, ⟨by repeat (first | (with_reducible first | exact HB.out | apply below_alloc | apply pw_below_drewN | apply below_drew1 | refine below_set ?_ GE143.out | refine below_set ?_ GE144.out) | exact HB.out)⟩⟩
        · rw [if_neg c8] at H
          have c8b0 : (a0_2 == a1_2) = false := beq_eq_false_iff_ne.mpr c8
          have c8b1 : (a0_2 != a1_2) = true := bne_iff_ne.mpr c8
          have H' := Aside0.mk H
          clear H
          have hnb16 := NB143_144.out
          have hnc16 := NB144_143.out
          have hcz17_0 : w5.cell? ⟨gb143, 0, none⟩ = some (.string a0_0) := (blk_cell BK143.out 0).trans rfl
          have hcz17_1 : w5.cell? ⟨gb143, 1, none⟩ = some (.int .i64 a0_1) := (blk_cell BK143.out 1).trans rfl
          have hcz17_2 : w5.cell? ⟨gb143, 2, none⟩ = some (.int .i64 a0_2) := (blk_cell BK143.out 2).trans rfl
          have hcz17_3 : w5.cell? ⟨gb143, 3, none⟩ = some (.int .i64 a0_3) := (blk_cell BK143.out 3).trans rfl
          have hcz17_4 : w5.cell? ⟨gb143, 4, none⟩ = some (.slice A0_4 l0_4.length c0_4) := (blk_cell BK143.out 4).trans rfl
          have hfz17_0 := blk_frozen BK143.out 0
          have hfz17_1 := blk_frozen BK143.out 1
          have hfz17_2 := blk_frozen BK143.out 2
          have hfz17_3 := blk_frozen BK143.out 3
          have hfz17_4 := blk_frozen BK143.out 4
          have hcz18_0 : w5.cell? ⟨gb144, 0, none⟩ = some (.string a1_0) := (blk_cell BK144.out 0).trans rfl
          have hcz18_1 : w5.cell? ⟨gb144, 1, none⟩ = some (.int .i64 a1_1) := (blk_cell BK144.out 1).trans rfl
          have hcz18_2 : w5.cell? ⟨gb144, 2, none⟩ = some (.int .i64 a1_2) := (blk_cell BK144.out 2).trans rfl
          have hcz18_3 : w5.cell? ⟨gb144, 3, none⟩ = some (.int .i64 a1_3) := (blk_cell BK144.out 3).trans rfl
          have hcz18_4 : w5.cell? ⟨gb144, 4, none⟩ = some (.slice A1_4 l1_4.length c1_4) := (blk_cell BK144.out 4).trans rfl
          have hfz18_0 := blk_frozen BK144.out 0
          have hfz18_1 := blk_frozen BK144.out 1
          have hfz18_2 := blk_frozen BK144.out 2
          have hfz18_3 := blk_frozen BK144.out 3
          have hfz18_4 := blk_frozen BK144.out 4
          go_wp2
          repeat (go_quiet (fail); try go_wp2)
          go_meet
          case rel => exact ⟨_, (true), (by first | rfl | (simp; done) | (simp [*]; done)), H', ⟨by first | omega | exact Nat.le_refl _⟩, ⟨by (with_reducible repeat (first | refine blk_drewN ?_ _ | refine blk_drew ?_ | refine blk_alloc ?_ _)); exact BK143.out⟩, ⟨by (with_reducible repeat (first | refine blk_drewN ?_ _ | refine blk_drew ?_ | refine blk_alloc ?_ _)); exact BK144.out⟩, ⟨by repeat (first | (with_reducible first | exact HB.out | apply below_alloc | apply pw_below_drewN | apply below_drew1 | refine below_set ?_ GE143.out | refine below_set ?_ GE144.out) | exact HB.out)⟩⟩
      · rw [if_neg c7] at H
        have c7b0 : (a0_1 == a1_1) = false := beq_eq_false_iff_ne.mpr c7
        have c7b1 : (a0_1 != a1_1) = true := bne_iff_ne.mpr c7
        have H' := Aside0.mk H
        clear H
        have hnb19 := NB143_144.out
        have hnc19 := NB144_143.out
        have hcz20_0 : w5.cell? ⟨gb143, 0, none⟩ = some (.string a0_0) := (blk_cell BK143.out 0).trans rfl
        have hcz20_1 : w5.cell? ⟨gb143, 1, none⟩ = some (.int .i64 a0_1) := (blk_cell BK143.out 1).trans rfl
        have hcz20_2 : w5.cell? ⟨gb143, 2, none⟩ = some (.int .i64 a0_2) := (blk_cell BK143.out 2).trans rfl
        have hcz20_3 : w5.cell? ⟨gb143, 3, none⟩ = some (.int .i64 a0_3) := (blk_cell BK143.out 3).trans rfl
        have hcz20_4 : w5.cell? ⟨gb143, 4, none⟩ = some (.slice A0_4 l0_4.length c0_4) := (blk_cell BK143.out 4).trans rfl
        have hfz20_0 := blk_frozen BK143.out 0
        have hfz20_1 := blk_frozen BK143.out 1
        have hfz20_2 := blk_frozen BK143.out 2
        have hfz20_3 := blk_frozen BK143.out 3
        have hfz20_4 := blk_frozen BK143.out 4
        have hcz21_0 : w5.cell? ⟨gb144, 0, none⟩ = some (.string a1_0) := (blk_cell BK144.out 0).trans rfl
        have hcz21_1 : w5.cell? ⟨gb144, 1, none⟩ = some (.int .i64 a1_1) := (blk_cell BK144.out 1).trans rfl
        have hcz21_2 : w5.cell? ⟨gb144, 2, none⟩ = some (.int .i64 a1_2) := (blk_cell BK144.out 2).trans rfl
        have hcz21_3 : w5.cell? ⟨gb144, 3, none⟩ = some (.int .i64 a1_3) := (blk_cell BK144.out 3).trans rfl
        have hcz21_4 : w5.cell? ⟨gb144, 4, none⟩ = some (.slice A1_4 l1_4.length c1_4) := (blk_cell BK144.out 4).trans rfl
        have hfz21_0 := blk_frozen BK144.out 0
        have hfz21_1 := blk_frozen BK144.out 1
        have hfz21_2 := blk_frozen BK144.out 2
        have hfz21_3 := blk_frozen BK144.out 3
        have hfz21_4 := blk_frozen BK144.out 4
        go_wp2
        repeat (go_quiet (fail); try go_wp2)
        go_meet
        case rel => exact ⟨_, (true), (by first | rfl | (simp; done) | (simp [*]; done)), H', ⟨by first | omega | exact Nat.le_refl _⟩, ⟨by (with_reducible repeat (first | refine blk_drewN ?_ _ | refine blk_drew ?_ | refine blk_alloc ?_ _)); exact BK143.out⟩, ⟨by (with_reducible repeat (first | refine blk_drewN ?_ _ | refine blk_drew ?_ | refine blk_alloc ?_ _)); exact BK144.out⟩, ⟨by repeat (first | (with_reducible first | exact HB.out | apply below_alloc | apply pw_below_drewN | apply below_drew1 | refine below_set ?_ GE143.out | refine below_set ?_ GE144.out) | exact HB.out)⟩⟩
    · rw [if_neg c6] at H
      have c6b0 : (a0_0.toList == a1_0.toList) = false := beq_eq_false_iff_ne.mpr c6
      have c6b1 : (a0_0.toList != a1_0.toList) = true := bne_iff_ne.mpr c6
      (first | rw [c6b0] | (simp only [i64_w, i32_w]; rw [c6b0]) | skip)
      have H' := Aside0.mk H
      clear H
      have hnb22 := NB143_144.out
      have hnc22 := NB144_143.out
      have hcz23_0 : w5.cell? ⟨gb143, 0, none⟩ = some (.string a0_0) := (blk_cell BK143.out 0).trans rfl
      have hcz23_1 : w5.cell? ⟨gb143, 1, none⟩ = some (.int .i64 a0_1) := (blk_cell BK143.out 1).trans rfl
      have hcz23_2 : w5.cell? ⟨gb143, 2, none⟩ = some (.int .i64 a0_2) := (blk_cell BK143.out 2).trans rfl
      have hcz23_3 : w5.cell? ⟨gb143, 3, none⟩ = some (.int .i64 a0_3) := (blk_cell BK143.out 3).trans rfl
      have hcz23_4 : w5.cell? ⟨gb143, 4, none⟩ = some (.slice A0_4 l0_4.length c0_4) := (blk_cell BK143.out 4).trans rfl
      have hfz23_0 := blk_frozen BK143.out 0
      have hfz23_1 := blk_frozen BK143.out 1
      have hfz23_2 := blk_frozen BK143.out 2
      have hfz23_3 := blk_frozen BK143.out 3
      have hfz23_4 := blk_frozen BK143.out 4
      have hcz24_0 : w5.cell? ⟨gb144, 0, none⟩ = some (.string a1_0) := (blk_cell BK144.out 0).trans rfl
      have hcz24_1 : w5.cell? ⟨gb144, 1, none⟩ = some (.int .i64 a1_1) := (blk_cell BK144.out 1).trans rfl
      have hcz24_2 : w5.cell? ⟨gb144, 2, none⟩ = some (.int .i64 a1_2) := (blk_cell BK144.out 2).trans rfl
      have hcz24_3 : w5.cell? ⟨gb144, 3, none⟩ = some (.int .i64 a1_3) := (blk_cell BK144.out 3).trans rfl
      have hcz24_4 : w5.cell? ⟨gb144, 4, none⟩ = some (.slice A1_4 l1_4.length c1_4) := (blk_cell BK144.out 4).trans rfl
      have hfz24_0 := blk_frozen BK144.out 0
      have hfz24_1 := blk_frozen BK144.out 1
      have hfz24_2 := blk_frozen BK144.out 2
      have hfz24_3 := blk_frozen BK144.out 3
      have hfz24_4 := blk_frozen BK144.out 4
      go_wp2
      repeat (go_quiet (fail); try go_wp2)
      go_meet
      case rel => exact ⟨_, (true), (by first | rfl | (simp; done) | (simp [*]; done)), H', ⟨by first | omega | exact Nat.le_refl _⟩, ⟨by (with_reducible repeat (first | refine blk_drewN ?_ _ | refine blk_drew ?_ | refine blk_alloc ?_ _)); exact BK143.out⟩, ⟨by (with_reducible repeat (first | refine blk_drewN ?_ _ | refine blk_drew ?_ | refine blk_alloc ?_ _)); exact BK144.out⟩, ⟨by repeat (first | (with_reducible first | exact HB.out | apply below_alloc | apply pw_below_drewN | apply below_drew1 | refine below_set ?_ GE143.out | refine below_set ?_ GE144.out) | exact HB.out)⟩⟩
  case rest =>
    clear HC3
    try clear c1
    try clear c2
    try clear p2
    try clear c6
    try clear c6b0
    try clear c6b1
    try clear c7
    try clear c7b0
    try clear c7b1
    try clear c8
    try clear c8b0
    try clear c8b1
    try clear c9
    try clear c9b0
    try clear c9b1
    try clear c10
    try clear c13
    try clear c16
    try clear c19
    try clear c21
    try clear c22
    try clear hcz11_0
    try clear hcz11_1
    try clear hcz11_2
    try clear hcz11_3
    try clear hcz11_4
    try clear hcz12_0
    try clear hcz12_1
    try clear hcz12_2
    try clear hcz12_3
    try clear hcz12_4
    try clear hcz14_0
    try clear hcz14_1
    try clear hcz14_2
    try clear hcz14_3
    try clear hcz14_4
    try clear hcz15_0
    try clear hcz15_1
    try clear hcz15_2
    try clear hcz15_3
    try clear hcz15_4
    try clear hcz17_0
    try clear hcz17_1
    try clear hcz17_2
    try clear hcz17_3
    try clear hcz17_4
    try clear hcz18_0
    try clear hcz18_1
    try clear hcz18_2
    try clear hcz18_3
    try clear hcz18_4
    try clear hcz20_0
    try clear hcz20_1
    try clear hcz20_2
    try clear hcz20_3
    try clear hcz20_4
    try clear hcz21_0
    try clear hcz21_1
    try clear hcz21_2
    try clear hcz21_3
    try clear hcz21_4
    try clear hcz23_0
    try clear hcz23_1
    try clear hcz23_2
    try clear hcz23_3
    try clear hcz23_4
    try clear hcz24_0
    try clear hcz24_1
    try clear hcz24_2
    try clear hcz24_3
    try clear hcz24_4
    try clear hfz11_0
    try clear hfz11_1
    try clear hfz11_2
    try clear hfz11_3
    try clear hfz11_4
    try clear hfz12_0
    try clear hfz12_1
    try clear hfz12_2
    try clear hfz12_3
    try clear hfz12_4
    try clear hfz14_0
    try clear hfz14_1
    try clear hfz14_2
    try clear hfz14_3
    try clear hfz14_4
    try clear hfz15_0
    try clear hfz15_1
    try clear hfz15_2
    try clear hfz15_3
    try clear hfz15_4
    try clear hfz17_0
    try clear hfz17_1
    try clear hfz17_2
    try clear hfz17_3
    try clear hfz17_4
    try clear hfz18_0
    try clear hfz18_1
    try clear hfz18_2
    try clear hfz18_3
    try clear hfz18_4
    try clear hfz20_0
    try clear hfz20_1
    try clear hfz20_2
    try clear hfz20_3
    try clear hfz20_4
    try clear hfz21_0
    try clear hfz21_1
    try clear hfz21_2
    try clear hfz21_3
    try clear hfz21_4
    try clear hfz23_0
    try clear hfz23_1
    try clear hfz23_2
    try clear hfz23_3
    try clear hfz23_4
    try clear hfz24_0
    try clear hfz24_1
    try clear hfz24_2
    try clear hfz24_3
    try clear hfz24_4
    obtain ⟨kq, x40_2, rfl, HA, HJ2, BK143, BK144, HB⟩ := hcut
    cases kq with
    | zero => exact absurd HA.out (by simp [prolixref18_Same.j0])
    | succ kj2 =>
      have H := HA.out
      clear HA
      simp only [prolixref18_Same.j0] at H
      by_cases c25 : x40_2 = true
      · subst c25
        have H1 : (some false) = some r := by rw [if_pos rfl] at H; exact H
        clear H
        have H := H1
        clear H1
        obtain rfl := Option.some.inj H
        go_wp2
        repeat (go_quiet (fail); try go_wp2)
        go_ret
        exact ⟨by first | rfl | (simp [errW_none, errW_some] <;> rfl) | (simp [*, errW_none, errW_some] <;> rfl), by repeat (first | (with_reducible first | exact HB.out | apply below_alloc | apply pw_below_drewN | apply below_drew1 | refine below_set ?_ GE143.out | refine below_set ?_ GE144.out) | exact HB.out)⟩
      · replace c25 := Bool.eq_false_iff.mpr c25
        subst c25
        have H1 : (prolixref18_Same.l0 kj2 (l0_4.length : Int) 0 a0_0 a0_1 a0_2 a0_3 l0_4 a1_0 a1_1 a1_2 a1_3 l1_4) = some r := by rw [if_neg (show ¬ (false = true) by decide)] at H; exact H
        clear H
        have H := H1
        clear H1
        have H' := Aside0.mk H
        clear H
        have hnb26 := NB143_144.out
        have hnc26 := NB144_143.out
        have hcz27_0 : wc.cell? ⟨gb143, 0, none⟩ = some (.string a0_0) := (blk_cell BK143.out 0).trans rfl
        have hcz27_1 : wc.cell? ⟨gb143, 1, none⟩ = some (.int .i64 a0_1) := (blk_cell BK143.out 1).trans rfl
        have hcz27_2 : wc.cell? ⟨gb143, 2, none⟩ = some (.int .i64 a0_2) := (blk_cell BK143.out 2).trans rfl
        have hcz27_3 : wc.cell? ⟨gb143, 3, none⟩ = some (.int .i64 a0_3) := (blk_cell BK143.out 3).trans rfl
        have hcz27_4 : wc.cell? ⟨gb143, 4, none⟩ = some (.slice A0_4 l0_4.length c0_4) := (blk_cell BK143.out 4).trans rfl
        have hfz27_0 := blk_frozen BK143.out 0
        have hfz27_1 := blk_frozen BK143.out 1
        have hfz27_2 := blk_frozen BK143.out 2
        have hfz27_3 := blk_frozen BK143.out 3
        have hfz27_4 := blk_frozen BK143.out 4
        go_wp2
        repeat (go_quiet (fail); try go_wp2)
        go_loopg [44] kj2 (fun kq v44 w' => ∃ (x44_2 : Int), v44 = .int .i64 x44_2 ∧ Aside0 (prolixref18_Same.l0 kq (l0_4.length : Int) x44_2 a0_0 a0_1 a0_2 a0_3 l0_4 a1_0 a1_1 a1_2 a1_3 l1_4 = some r) ∧ Aside0 (kq ≤ kj2) ∧ Aside0 (w'.heap[gb143]? = some (.cells #[.string a0_0, .int .i64 a0_1, .int .i64 a0_2, .int .i64 a0_3, (.slice A0_4 l0_4.length c0_4)] 24 (0, 0))) ∧ Aside0 (w'.heap[gb144]? = some (.cells #[.string a1_0, .int .i64 a1_1, .int .i64 a1_2, .int .i64 a1_3, (.slice A1_4 l1_4.length c1_4)] 24 (0, 0))) ∧ Aside0 (Below w.heap.size w w'))
        case atStart => exact ⟨(0), (by first | rfl | (simp; done) | (simp [*]; done)), H', ⟨Nat.le_refl _⟩, ⟨by (with_reducible repeat (first | refine blk_drewN ?_ _ | refine blk_drew ?_ | refine blk_alloc ?_ _)); exact BK143.out⟩, ⟨by (with_reducible repeat (first | refine blk_drewN ?_ _ | refine blk_drew ?_ | refine blk_alloc ?_ _)); exact BK144.out⟩, ⟨by repeat (first | (with_reducible first | exact HB.out | apply below_alloc | apply pw_below_drewN | apply below_drew1 | refine below_set ?_ GE143.out | refine below_set ?_ GE144.out) | exact HB.out)⟩⟩
        case round =>
          clear H'
          try clear c1
          try clear c2
          try clear p2
          try clear c6
          try clear c6b0
          try clear c6b1
          try clear c7
          try clear c7b0
          try clear c7b1
          try clear c8
          try clear c8b0
          try clear c8b1
          try clear c9
          try clear c9b0
          try clear c9b1
          try clear c10
          try clear c13
          try clear c16
          try clear c19
          try clear c21
          try clear c22
          try clear c25
          try clear c26
          try clear hcz11_0
          try clear hcz11_1
          try clear hcz11_2
          try clear hcz11_3
          try clear hcz11_4
          try clear hcz12_0
          try clear hcz12_1
          try clear hcz12_2
          try clear hcz12_3
          try clear hcz12_4
          try clear hcz14_0
          try clear hcz14_1
          try clear hcz14_2
          try clear hcz14_3
          try clear hcz14_4
          try clear hcz15_0
          try clear hcz15_1
          try clear hcz15_2
          try clear hcz15_3
          try clear hcz15_4
          try clear hcz17_0
          try clear hcz17_1
          try clear hcz17_2
          try clear hcz17_3
          try clear hcz17_4
          try clear hcz18_0
          try clear hcz18_1
          try clear hcz18_2
          try clear hcz18_3
          try clear hcz18_4
          try clear hcz20_0
          try clear hcz20_1
          try clear hcz20_2
          try clear hcz20_3
          try clear hcz20_4
          try clear hcz21_0
          try clear hcz21_1
          try clear hcz21_2
          try clear hcz21_3
          try clear hcz21_4
          try clear hcz23_0
          try clear hcz23_1
          try clear hcz23_2
          try clear hcz23_3
          try clear hcz23_4
          try clear hcz24_0
          try clear hcz24_1
          try clear hcz24_2
          try clear hcz24_3
          try clear hcz24_4
          try clear hcz27_0
          try clear hcz27_1
          try clear hcz27_2
          try clear hcz27_3
          try clear hcz27_4
          try clear hfz11_0
          try clear hfz11_1
          try clear hfz11_2
          try clear hfz11_3
          try clear hfz11_4
          try clear hfz12_0
          try clear hfz12_1
          try clear hfz12_2
          try clear hfz12_3
          try clear hfz12_4
          try clear hfz14_0
          try clear hfz14_1
          try clear hfz14_2
          try clear hfz14_3
          try clear hfz14_4
          try clear hfz15_0
          try clear hfz15_1
          try clear hfz15_2
          try clear hfz15_3
          try clear hfz15_4
          try clear hfz17_0
          try clear hfz17_1
          try clear hfz17_2
          try clear hfz17_3
          try clear hfz17_4
          try clear hfz18_0
          try clear hfz18_1
          try clear hfz18_2
          try clear hfz18_3
          try clear hfz18_4
          try clear hfz20_0
          try clear hfz20_1
          try clear hfz20_2
          try clear hfz20_3
          try clear hfz20_4
          try clear hfz21_0
          try clear hfz21_1
          try clear hfz21_2
          try clear hfz21_3
          try clear hfz21_4
          try clear hfz23_0
          try clear hfz23_1
          try clear hfz23_2
          try clear hfz23_3
          try clear hfz23_4
          try clear hfz24_0
          try clear hfz24_1
          try clear hfz24_2
          try clear hfz24_3
          try clear hfz24_4
          try clear hfz27_0
          try clear hfz27_1
          try clear hfz27_2
          try clear hfz27_3
          try clear hfz27_4
          try clear p2
          obtain ⟨x44_2, rfl, HA, HK2, BK143, BK144, HB⟩ := hrel
          cases gk with
          | zero => exact absurd HA.out (by simp [prolixref18_Same.l0])
          | succ k2 =>
            have H := HA.out
            clear HA
            simp only [prolixref18_Same.l0] at H
            by_cases c28 : x44_2 < (l0_4.length : Int)
            · rw [if_pos c28] at H
              have c28b0 : decide (x44_2 < (l0_4.length : Int)) = true := decide_eq_true c28
              clear c28
              by_cases c29 : 0 ≤ x44_2
              · rw [if_pos c29] at H
                have c29b0 : decide (0 ≤ x44_2) = true := decide_eq_true c29
                clear c29
                by_cases c30 : x44_2 < (l0_4.length : Int)
                · rw [if_pos c30] at H
                  have c30b0 : decide (x44_2 < (l0_4.length : Int)) = true := decide_eq_true c30
                  clear c30
                  by_cases c31 : x44_2 < (l1_4.length : Int)
                  · rw [if_pos c31] at H
                    have c31b0 : decide (x44_2 < (l1_4.length : Int)) = true := decide_eq_true c31
                    clear c31
                    by_cases c32 : (!(((rd_T89 l0_4 x44_2).f0) == ((rd_T89 l1_4 x44_2).f0)) || (!(((rd_T89 l0_4 x44_2).f1) == ((rd_T89 l1_4 x44_2).f1)) || (!(((rd_T89 l0_4 x44_2).f2) == ((rd_T89 l1_4 x44_2).f2)) || (!((((rd_T89 l0_4 x44_2).f3).toList) == (((rd_T89 l1_4 x44_2).f3).toList)))))) = true
                    · rw [if_pos c32] at H
                      have c32b0 : (!(((rd_T89 l0_4 x44_2).f0) == ((rd_T89 l1_4 x44_2).f0)) || (!(((rd_T89 l0_4 x44_2).f1) == ((rd_T89 l1_4 x44_2).f1)) || (!(((rd_T89 l0_4 x44_2).f2) == ((rd_T89 l1_4 x44_2).f2)) || (!((((rd_T89 l0_4 x44_2).f3).toList) == (((rd_T89 l1_4 x44_2).f3).toList)))))) = true := c32
                      clear c32
                      obtain rfl := Option.some.inj H
                      have hnb33 := NB143_144.out
                      have hnc33 := NB144_143.out
                      have hcz34_0 : wr.cell? ⟨gb143, 0, none⟩ = some (.string a0_0) := (blk_cell BK143.out 0).trans rfl
                      have hcz34_1 : wr.cell? ⟨gb143, 1, none⟩ = some (.int .i64 a0_1) := (blk_cell BK143.out 1).trans rfl
                      have hcz34_2 : wr.cell? ⟨gb143, 2, none⟩ = some (.int .i64 a0_2) := (blk_cell BK143.out 2).trans rfl
                      have hcz34_3 : wr.cell? ⟨gb143, 3, none⟩ = some (.int .i64 a0_3) := (blk_cell BK143.out 3).trans rfl
                      have hcz34_4 : wr.cell? ⟨gb143, 4, none⟩ = some (.slice A0_4 l0_4.length c0_4) := (blk_cell BK143.out 4).trans rfl
                      have hfz34_0 := blk_frozen BK143.out 0
                      have hfz34_1 := blk_frozen BK143.out 1
                      have hfz34_2 := blk_frozen BK143.out 2
                      have hfz34_3 := blk_frozen BK143.out 3
                      have hfz34_4 := blk_frozen BK143.out 4
                      have p145 : 0 ≤ (x44_2 : Int) := of_decide_eq_true (by first | (with_reducible assumption) | assumption)
                      have q145 : x44_2 < (l0_4.length : Int) := of_decide_eq_true (by first | (with_reducible assumption) | assumption)
                      obtain ⟨ad145, e145, hx145_0, hx145_1, hx145_2, hx145_3⟩ := at_T89 HR0_4.out x44_2 p145 q145
                      cases e145
                      replace hx145_0 := (HB.out.cell (World.block_lt_of_cell? w _ hx145_0)).trans hx145_0
                      replace hx145_1 := (HB.out.cell (World.block_lt_of_cell? w _ hx145_1)).trans hx145_1
                      replace hx145_2 := (HB.out.cell (World.block_lt_of_cell? w _ hx145_2)).trans hx145_2
                      replace hx145_3 := (HB.out.cell (World.block_lt_of_cell? w _ hx145_3)).trans hx145_3
                      replace p145 := eq_true p145
                      replace q145 := eq_true q145
                      have hcz35_0 : wr.cell? ⟨gb144, 0, none⟩ = some (.string a1_0) := (blk_cell BK144.out 0).trans rfl
                      have hcz35_1 : wr.cell? ⟨gb144, 1, none⟩ = some (.int .i64 a1_1) := (blk_cell BK144.out 1).trans rfl
                      have hcz35_2 : wr.cell? ⟨gb144, 2, none⟩ = some (.int .i64 a1_2) := (blk_cell BK144.out 2).trans rfl
                      have hcz35_3 : wr.cell? ⟨gb144, 3, none⟩ = some (.int .i64 a1_3) := (blk_cell BK144.out 3).trans rfl
                      have hcz35_4 : wr.cell? ⟨gb144, 4, none⟩ = some (.slice A1_4 l1_4.length c1_4) := (blk_cell BK144.out 4).trans rfl
                      have hfz35_0 := blk_frozen BK144.out 0
                      have hfz35_1 := blk_frozen BK144.out 1
                      have hfz35_2 := blk_frozen BK144.out 2
                      have hfz35_3 := blk_frozen BK144.out 3
                      have hfz35_4 := blk_frozen BK144.out 4
                      have p146 : 0 ≤ (x44_2 : Int) := of_decide_eq_true (by first | (with_reducible assumption) | assumption)
                      have q146 : x44_2 < (l1_4.length : Int) := of_decide_eq_true (by first | (with_reducible assumption) | assumption)
                      obtain ⟨ad146, e146, hx146_0, hx146_1, hx146_2, hx146_3⟩ := at_T89 HR1_4.out x44_2 p146 q146
                      cases e146
                      replace hx146_0 := (HB.out.cell (World.block_lt_of_cell? w _ hx146_0)).trans hx146_0
                      replace hx146_1 := (HB.out.cell (World.block_lt_of_cell? w _ hx146_1)).trans hx146_1
                      replace hx146_2 := (HB.out.cell (World.block_lt_of_cell? w _ hx146_2)).trans hx146_2
                      replace hx146_3 := (HB.out.cell (World.block_lt_of_cell? w _ hx146_3)).trans hx146_3
                      replace p146 := eq_true p146
                      replace q146 := eq_true q146
                      go_wp2
                      repeat (go_quiet (fail); try go_wp2)
                      go_ret
                      exact ⟨by first | rfl | (simp [errW_none, errW_some] <;> rfl) | (simp [*, errW_none, errW_some] <;> rfl), by repeat (first | (with_reducible first | exact HB.out | apply below_alloc | apply pw_below_drewN | apply below_drew1 | refine below_set ?_ GE143.out | refine below_set ?_ GE144.out) | exact HB.out)⟩
                    · rw [if_neg c32] at H
                      have c32b0 : (!(((rd_T89 l0_4 x44_2).f0) == ((rd_T89 l1_4 x44_2).f0)) || (!(((rd_T89 l0_4 x44_2).f1) == ((rd_T89 l1_4 x44_2).f1)) || (!(((rd_T89 l0_4 x44_2).f2) == ((rd_T89 l1_4 x44_2).f2)) || (!((((rd_T89 l0_4 x44_2).f3).toList) == (((rd_T89 l1_4 x44_2).f3).toList)))))) = false := by simpa using c32
                      clear c32
                      have H' := Aside0.mk H
                      clear H
                      have hnb36 := NB143_144.out
                      have hnc36 := NB144_143.out
                      have hcz37_0 : wr.cell? ⟨gb143, 0, none⟩ = some (.string a0_0) := (blk_cell BK143.out 0).trans rfl
                      have hcz37_1 : wr.cell? ⟨gb143, 1, none⟩ = some (.int .i64 a0_1) := (blk_cell BK143.out 1).trans rfl
                      have hcz37_2 : wr.cell? ⟨gb143, 2, none⟩ = some (.int .i64 a0_2) := (blk_cell BK143.out 2).trans rfl
                      have hcz37_3 : wr.cell? ⟨gb143, 3, none⟩ = some (.int .i64 a0_3) := (blk_cell BK143.out 3).trans rfl
                      have hcz37_4 : wr.cell? ⟨gb143, 4, none⟩ = some (.slice A0_4 l0_4.length c0_4) := (blk_cell BK143.out 4).trans rfl
                      have hfz37_0 := blk_frozen BK143.out 0
                      have hfz37_1 := blk_frozen BK143.out 1
                      have hfz37_2 := blk_frozen BK143.out 2
                      have hfz37_3 := blk_frozen BK143.out 3
                      have hfz37_4 := blk_frozen BK143.out 4
                      have p145 : 0 ≤ (x44_2 : Int) := of_decide_eq_true (by first | (with_reducible assumption) | assumption)
                      have q145 : x44_2 < (l0_4.length : Int) := of_decide_eq_true (by first | (with_reducible assumption) | assumption)
                      obtain ⟨ad145, e145, hx145_0, hx145_1, hx145_2, hx145_3⟩ := at_T89 HR0_4.out x44_2 p145 q145
                      cases e145
                      replace hx145_0 := (HB.out.cell (World.block_lt_of_cell? w _ hx145_0)).trans hx145_0
                      replace hx145_1 := (HB.out.cell (World.block_lt_of_cell? w _ hx145_1)).trans hx145_1
                      replace hx145_2 := (HB.out.cell (World.block_lt_of_cell? w _ hx145_2)).trans hx145_2
                      replace hx145_3 := (HB.out.cell (World.block_lt_of_cell? w _ hx145_3)).trans hx145_3
                      replace p145 := eq_true p145
                      replace q145 := eq_true q145
                      have hcz38_0 : wr.cell? ⟨gb144, 0, none⟩ = some (.string a1_0) := (blk_cell BK144.out 0).trans rfl
                      have hcz38_1 : wr.cell? ⟨gb144, 1, none⟩ = some (.int .i64 a1_1) := (blk_cell BK144.out 1).trans rfl
                      have hcz38_2 : wr.cell? ⟨gb144, 2, none⟩ = some (.int .i64 a1_2) := (blk_cell BK144.out 2).trans rfl
                      have hcz38_3 : wr.cell? ⟨gb144, 3, none⟩ = some (.int .i64 a1_3) := (blk_cell BK144.out 3).trans rfl
                      have hcz38_4 : wr.cell? ⟨gb144, 4, none⟩ = some (.slice A1_4 l1_4.length c1_4) := (blk_cell BK144.out 4).trans rfl
                      have hfz38_0 := blk_frozen BK144.out 0
                      have hfz38_1 := blk_frozen BK144.out 1
                      have hfz38_2 := blk_frozen BK144.out 2
                      have hfz38_3 := blk_frozen BK144.out 3
                      have hfz38_4 := blk_frozen BK144.out 4
                      have p146 : 0 ≤ (x44_2 : Int) := of_decide_eq_true (by first | (with_reducible assumption) | assumption)
                      have q146 : x44_2 < (l1_4.length : Int) := of_decide_eq_true (by first | (with_reducible assumption) | assumption)
                      obtain ⟨ad146, e146, hx146_0, hx146_1, hx146_2, hx146_3⟩ := at_T89 HR1_4.out x44_2 p146 q146
                      cases e146
                      replace hx146_0 := (HB.out.cell (World.block_lt_of_cell? w _ hx146_0)).trans hx146_0
                      replace hx146_1 := (HB.out.cell (World.block_lt_of_cell? w _ hx146_1)).trans hx146_1
                      replace hx146_2 := (HB.out.cell (World.block_lt_of_cell? w _ hx146_2)).trans hx146_2
                      replace hx146_3 := (HB.out.cell (World.block_lt_of_cell? w _ hx146_3)).trans hx146_3
                      replace p146 := eq_true p146
                      replace q146 := eq_true q146
                      go_wp2
                      repeat (go_quiet (fail); try go_wp2)
                      go_roundg k2
                      case measure => have := HJ2.out; have := HK2.out; omega
                      case rel => exact ⟨(wrap64 (x44_2 + 1)), (by first | rfl | (simp; done) | (simp [*]; done)), H', ⟨by have := HJ2.out; have := HK2.out; omega⟩, ⟨by (with_reducible repeat (first | refine blk_drewN ?_ _ | refine blk_drew ?_ | refine blk_alloc ?_ _)); exact BK143.out⟩, ⟨by (with_reducible repeat (first | refine blk_drewN ?_ _ | refine blk_drew ?_ | refine blk_alloc ?_ _)); exact BK144.out⟩, ⟨by repeat (first | (with_reducible first | exact HB.out | apply below_alloc | apply pw_below_drewN | apply below_drew1 | refine below_set ?_ GE143.out | refine below_set ?_ GE144.out) | exact HB.out)⟩⟩
                  · rw [if_neg c31] at H
                    exact absurd H (by simp)
                · rw [if_neg c30] at H
                  exact absurd H (by simp)
              · rw [if_neg c29] at H
                exact absurd H (by simp)
            · rw [if_neg c28] at H
              have c28b0 : decide (x44_2 < (l0_4.length : Int)) = false := decide_eq_false c28
              clear c28
              obtain rfl := Option.some.inj H
              go_wp2
              repeat (go_quiet (fail); try go_wp2)
              go_ret
              exact ⟨by first | rfl | (simp [errW_none, errW_some] <;> rfl) | (simp [*, errW_none, errW_some] <;> rfl), by repeat (first | (with_reducible first | exact HB.out | apply below_alloc | apply pw_below_drewN | apply below_drew1 | refine below_set ?_ GE143.out | refine below_set ?_ GE144.out) | exact HB.out)⟩

/-! ### prolixlaw18_From: function 22 -/
def prolixlaw18_From.l0 : Nat → List (S39) → Int → Int → ByteArray → Int → Int → Int → List (S89) → Option (ByteArray × Int × Int × Int × (List (S89)))
  | 0, _, _, _, _, _, _, _, _ => none
  | k + 1, x16, x17, x18, x150000, x150001, x150002, x150003, x150004 => if x18 < x17 then (if 0 ≤ x18 then (if x18 < (x16.length : Int) then (if x150004.length < 3518437208883 then (prolixlaw18_From.l0 k x16 x17 (wrap64 (x18 + 1)) x150000 x150001 x150002 x150003 (x150004 ++ [(⟨(rd_T39 x16 x18).f0, (rd_T39 x16 x18).f1, (rd_T39 x16 x18).f2, (rd_T39 x16 x18).f3⟩ : S89)])) else (none)) else (none)) else (none)) else (some (x150000, x150001, x150002, x150003, x150004))
def prolixlaw18_From.f (k : Nat) (a0_0 : ByteArray) (a0_1 : Int) (a0_2 : Int) (a0_3 : Int) (l0_4 : List (S39)) : Option (ByteArray × Int × Int × Int × (List (S89))) := prolixlaw18_From.l0 k l0_4 (l0_4.length : Int) 0 a0_0 a0_1 a0_2 a0_3 ([] : List (S89))
theorem prolixlaw18_From.mono_l : ∀ k, (∀ y0 y1 y2 y3 y4 y5 y6 y7, LeO (prolixlaw18_From.l0 k y0 y1 y2 y3 y4 y5 y6 y7) (prolixlaw18_From.l0 (k + 1) y0 y1 y2 y3 y4 y5 y6 y7))
  | 0 => fun _ _ _ _ _ _ _ _ r h => by simp [prolixlaw18_From.l0] at h
  | k + 1 => by
    have ih0 := prolixlaw18_From.mono_l k
    · intro y0 y1 y2 y3 y4 y5 y6 y7
      unfold prolixlaw18_From.l0
      repeat' first
      | (with_reducible exact ih0 _ _ _ _ _ _ _ _)
      | (with_reducible exact LeO.refl _)
      | (with_reducible exact LeO.none _)
      | (with_reducible refine LeO.ite ?_ ?_)
      | (with_reducible refine LeO.bind ?_ (fun _ => ?_))
      | exact ih0 _ _ _ _ _ _ _ _
      | exact LeO.none _
      | refine LeO.ite ?_ ?_
      | refine LeO.bind ?_ (fun _ => ?_)
theorem prolixlaw18_From.mono : ∀ a0 a1 a2 a3 a4 k, LeO (prolixlaw18_From.f k a0 a1 a2 a3 a4) (prolixlaw18_From.f (k + 1) a0 a1 a2 a3 a4) := by
  intro a0 a1 a2 a3 a4 k
  have ih0 := prolixlaw18_From.mono_l k
  unfold prolixlaw18_From.f
  repeat' first
      | (with_reducible exact ih0 _ _ _ _ _ _ _ _)
      | (with_reducible exact LeO.refl _)
      | (with_reducible exact LeO.none _)
      | (with_reducible refine LeO.ite ?_ ?_)
      | (with_reducible refine LeO.bind ?_ (fun _ => ?_))
      | exact ih0 _ _ _ _ _ _ _ _
      | exact LeO.none _
      | refine LeO.ite ?_ ?_
      | refine LeO.bind ?_ (fun _ => ?_)
set_option maxHeartbeats 8000000 in
set_option maxRecDepth 100000 in
theorem prolixlaw18_From.calls (k : Nat) (a0_0 : ByteArray) (a0_1 : Int) (a0_2 : Int) (a0_3 : Int) (A0_4 : Option Addr) (c0_4 : Nat) (l0_4 : List (S39)) (r1 : ByteArray) (r2 : Int) (r3 : Int) (r4 : Int) (r5 : List (S89)) (w : World) (hr0_4 : Kd.C k39 w A0_4 l0_4.length l0_4) (hc0_4 : l0_4.length ≤ c0_4) (h : prolixlaw18_From.f k a0_0 a0_1 a0_2 a0_3 l0_4 = some (r1, r2, r3, r4, r5)) :
    Calls Try.prog 22 #[.agg #[.string a0_0, .int .i64 a0_1, .int .i64 a0_2, .int .i64 a0_3, .slice A0_4 l0_4.length c0_4]] w fun e w' => ∃ v4_ : Value, e = .returned (.agg #[.string r1, .int .i64 r2, .int .i64 r3, .int .i64 r4, v4_]) ∧ Kd.R k89 89 w' w.heap.size (fun _ => True) v4_ r5 ∧ Below w.heap.size w w' := by
  have hu28 := Try.underlying28
  have hu24 := Try.underlying24
  have hu39 := Try.underlying39
  have HR0_4 := Aside0.mk hr0_4
  have HC0_4 := Aside0.mk hc0_4
  clear hr0_4 hc0_4
  have HB := Aside0.mk (Below.refl w.heap.size w)
  have H : (prolixlaw18_From.l0 k l0_4 (l0_4.length : Int) 0 a0_0 a0_1 a0_2 a0_3 ([] : List (S89))) = some (r1, r2, r3, r4, r5) := h
  clear h
  have H' := Aside0.mk H
  clear H
  go_enter Try.func22, Try.ntmps22
  go_wp2_with (first | ((with_reducible refine gate_dst (N := 1) rfl ?_); refine box_event ?hg (N := 1) ?hd (cs := #[.string a0_0, .int .i64 a0_1, .int .i64 a0_2, .int .i64 a0_3, .slice A0_4 l0_4.length c0_4]) (t := 28) ?hr ?_; (case hd => rfl); (case hg => rfl); (case hr => first | (go_simp; done) | (go_simp; rfl)); intro gb147 hg w2 hbox hb; have n0_ := Aside0.mk (below_step (by repeat (first | (with_reducible first | exact HB.out | apply below_alloc | apply pw_below_drewN | apply below_drew1) | exact HB.out)) hb); have n1_ := Aside0.mk (hbox); have n2_ := Aside0.mk ((by rw [hg]; exact (below_size (by repeat (first | (with_reducible first | exact HB.out | apply below_alloc | apply pw_below_drewN | apply below_drew1) | exact HB.out))) : w.heap.size ≤ gb147)); have n3_ := Aside0.mk ((by rw [hg]; exact (below_size (by repeat (first | (with_reducible first | exact HB.out | apply below_alloc | apply pw_below_drewN | apply below_drew1) | exact HB.out))) : w.heap.size ≤ gb147)); clear HB; have HB := n0_; have BK147 := n1_; have GW147 := n2_; have GE147 := n3_; clear n0_ n1_ n2_ n3_; clear hb hbox hg) | ((with_reducible refine gate_dst (N := 2) rfl ?_); refine box_event ?hg (N := 2) ?hd (cs := #[.string (⟨#[]⟩ : ByteArray), .int .i64 0, .int .i64 0, .int .i64 0, .slice none 0 0]) (t := 24) ?hr ?_; (case hd => rfl); (case hg => rfl); (case hr => first | (go_simp; done) | (go_simp; rfl)); intro gb148 hg w3 hbox hb; have n0_ := Aside0.mk (blk_below (g := gb147) (o := .cells #[.string a0_0, .int .i64 a0_1, .int .i64 a0_2, .int .i64 a0_3, .slice A0_4 l0_4.length c0_4] 28 (0, 0)) (by (with_reducible repeat (first | refine blk_drewN ?_ _ | refine blk_drew ?_ | refine blk_alloc ?_ _)); exact BK147.out) hb); have n1_ := Aside0.mk (below_step (by repeat (first | (with_reducible first | exact HB.out | apply below_alloc | apply pw_below_drewN | apply below_drew1 | refine below_set ?_ GE147.out) | exact HB.out)) hb); have n2_ := Aside0.mk (hbox); have n3_ := Aside0.mk ((by rw [hg]; exact (below_size (by repeat (first | (with_reducible first | exact HB.out | apply below_alloc | apply pw_below_drewN | apply below_drew1 | refine below_set ?_ GE147.out) | exact HB.out))) : w.heap.size ≤ gb148)); have n4_ := Aside0.mk ((by rw [hg]; exact (below_size (by repeat (first | (with_reducible first | exact HB.out | apply below_alloc | apply pw_below_drewN | apply below_drew1 | refine below_set ?_ GE147.out) | exact HB.out))) : w.heap.size ≤ gb148)); have n5_ := Aside0.mk ((by rw [hg]; exact Nat.ne_of_lt (blk_lt (g := gb147) (o := .cells #[.string a0_0, .int .i64 a0_1, .int .i64 a0_2, .int .i64 a0_3, .slice A0_4 l0_4.length c0_4] 28 (0, 0)) (by (with_reducible repeat (first | refine blk_drewN ?_ _ | refine blk_drew ?_ | refine blk_alloc ?_ _)); exact BK147.out)) : gb147 ≠ gb148)); have n6_ := Aside0.mk ((by rw [hg]; exact Nat.ne_of_gt (blk_lt (g := gb147) (o := .cells #[.string a0_0, .int .i64 a0_1, .int .i64 a0_2, .int .i64 a0_3, .slice A0_4 l0_4.length c0_4] 28 (0, 0)) (by (with_reducible repeat (first | refine blk_drewN ?_ _ | refine blk_drew ?_ | refine blk_alloc ?_ _)); exact BK147.out)) : gb148 ≠ gb147)); clear BK147; clear HB; have BK147 := n0_; have HB := n1_; have BK148 := n2_; have GW148 := n3_; have GE148 := n4_; have NB147_148 := n5_; have NB148_147 := n6_; clear n0_ n1_ n2_ n3_ n4_ n5_ n6_; clear hb hbox hg; have hnb4 := NB147_148.out; have hnc4 := NB148_147.out; have hcz5_0 : w3.cell? ⟨gb147, 0, none⟩ = some (.string a0_0) := (blk_cell BK147.out 0).trans rfl; have hcz5_1 : w3.cell? ⟨gb147, 1, none⟩ = some (.int .i64 a0_1) := (blk_cell BK147.out 1).trans rfl; have hcz5_2 : w3.cell? ⟨gb147, 2, none⟩ = some (.int .i64 a0_2) := (blk_cell BK147.out 2).trans rfl; have hcz5_3 : w3.cell? ⟨gb147, 3, none⟩ = some (.int .i64 a0_3) := (blk_cell BK147.out 3).trans rfl; have hcz5_4 : w3.cell? ⟨gb147, 4, none⟩ = some (.slice A0_4 l0_4.length c0_4) := (blk_cell BK147.out 4).trans rfl; have hfz5_0 := blk_frozen BK147.out 0; have hfz5_1 := blk_frozen BK147.out 1; have hfz5_2 := blk_frozen BK147.out 2; have hfz5_3 := blk_frozen BK147.out 3; have hfz5_4 := blk_frozen BK147.out 4) | ((with_reducible refine gate_dst (N := 3) rfl ?_); refine box_event ?hg (N := 3) ?hd (cs := #[.string (⟨#[]⟩ : ByteArray), .int .i64 0, .int .i64 0, .int .i64 0, .slice none 0 0]) (t := 24) ?hr ?_; (case hd => rfl); (case hg => rfl); (case hr => first | (go_simp; done) | (go_simp; rfl)); intro gb149 hg w6 hbox hb; have n0_ := Aside0.mk (blk_below (g := gb147) (o := .cells #[.string a0_0, .int .i64 a0_1, .int .i64 a0_2, .int .i64 a0_3, .slice A0_4 l0_4.length c0_4] 28 (0, 0)) (by (with_reducible repeat (first | refine blk_drewN ?_ _ | refine blk_drew ?_ | refine blk_alloc ?_ _)); exact BK147.out) hb); have n1_ := Aside0.mk (blk_below (g := gb148) (o := .cells #[.string (⟨#[]⟩ : ByteArray), .int .i64 0, .int .i64 0, .int .i64 0, .slice none 0 0] 24 (0, 0)) (by (with_reducible repeat (first | refine blk_drewN ?_ _ | refine blk_drew ?_ | refine blk_alloc ?_ _)); exact BK148.out) hb); have n2_ := Aside0.mk (below_step (by repeat (first | (with_reducible first | exact HB.out | apply below_alloc | apply pw_below_drewN | apply below_drew1 | refine below_set ?_ GE147.out | refine below_set ?_ GE148.out) | exact HB.out)) hb); have n3_ := Aside0.mk (hbox); have n4_ := Aside0.mk ((by rw [hg]; exact (below_size (by repeat (first | (with_reducible first | exact HB.out | apply below_alloc | apply pw_below_drewN | apply below_drew1 | refine below_set ?_ GE147.out | refine below_set ?_ GE148.out) | exact HB.out))) : w.heap.size ≤ gb149)); have n5_ := Aside0.mk ((by rw [hg]; exact (below_size (by repeat (first | (with_reducible first | exact HB.out | apply below_alloc | apply pw_below_drewN | apply below_drew1 | refine below_set ?_ GE147.out | refine below_set ?_ GE148.out) | exact HB.out))) : w.heap.size ≤ gb149)); have n6_ := Aside0.mk ((by rw [hg]; exact Nat.ne_of_lt (blk_lt (g := gb147) (o := .cells #[.string a0_0, .int .i64 a0_1, .int .i64 a0_2, .int .i64 a0_3, .slice A0_4 l0_4.length c0_4] 28 (0, 0)) (by (with_reducible repeat (first | refine blk_drewN ?_ _ | refine blk_drew ?_ | refine blk_alloc ?_ _)); exact BK147.out)) : gb147 ≠ gb149)); have n7_ := Aside0.mk ((by rw [hg]; exact Nat.ne_of_gt (blk_lt (g := gb147) (o := .cells #[.string a0_0, .int .i64 a0_1, .int .i64 a0_2, .int .i64 a0_3, .slice A0_4 l0_4.length c0_4] 28 (0, 0)) (by (with_reducible repeat (first | refine blk_drewN ?_ _ | refine blk_drew ?_ | refine blk_alloc ?_ _)); exact BK147.out)) : gb149 ≠ gb147)); have n8_ := Aside0.mk ((by rw [hg]; exact Nat.ne_of_lt (blk_lt (g := gb148) (o := .cells #[.string (⟨#[]⟩ : ByteArray), .int .i64 0, .int .i64 0, .int .i64 0, .slice none 0 0] 24 (0, 0)) (by (with_reducible repeat (first | refine blk_drewN ?_ _ | refine blk_drew ?_ | refine blk_alloc ?_ _)); exact BK148.out)) : gb148 ≠ gb149)); have n9_ := Aside0.mk ((by rw [hg]; exact Nat.ne_of_gt (blk_lt (g := gb148) (o := .cells #[.string (⟨#[]⟩ : ByteArray), .int .i64 0, .int .i64 0, .int .i64 0, .slice none 0 0] 24 (0, 0)) (by (with_reducible repeat (first | refine blk_drewN ?_ _ | refine blk_drew ?_ | refine blk_alloc ?_ _)); exact BK148.out)) : gb149 ≠ gb148)); clear BK147; clear BK148; clear HB; have BK147 := n0_; have BK148 := n1_; have HB := n2_; have BK149 := n3_; have GW149 := n4_; have GE149 := n5_; have NB147_149 := n6_; have NB149_147 := n7_; have NB148_149 := n8_; have NB149_148 := n9_; clear n0_ n1_ n2_ n3_ n4_ n5_ n6_ n7_ n8_ n9_; clear hb hbox hg; have hnb7 := NB149_147.out; have hnc7 := NB147_149.out; have hnb8 := NB149_148.out; have hnc8 := NB148_149.out; have hcz9_0 : w6.cell? ⟨gb149, 0, none⟩ = some (.string (⟨#[]⟩ : ByteArray)) := (blk_cell BK149.out 0).trans rfl; have hcz9_1 : w6.cell? ⟨gb149, 1, none⟩ = some (.int .i64 0) := (blk_cell BK149.out 1).trans rfl; have hcz9_2 : w6.cell? ⟨gb149, 2, none⟩ = some (.int .i64 0) := (blk_cell BK149.out 2).trans rfl; have hcz9_3 : w6.cell? ⟨gb149, 3, none⟩ = some (.int .i64 0) := (blk_cell BK149.out 3).trans rfl; have hcz9_4 : w6.cell? ⟨gb149, 4, none⟩ = some (.slice none 0 0) := (blk_cell BK149.out 4).trans rfl; have hfz9_0 := blk_frozen BK149.out 0; have hfz9_1 := blk_frozen BK149.out 1; have hfz9_2 := blk_frozen BK149.out 2; have hfz9_3 := blk_frozen BK149.out 3; have hfz9_4 := blk_frozen BK149.out 4; have hcz10_0 : w6.cell? ⟨gb147, 0, none⟩ = some (.string a0_0) := (blk_cell BK147.out 0).trans rfl; have hcz10_1 : w6.cell? ⟨gb147, 1, none⟩ = some (.int .i64 a0_1) := (blk_cell BK147.out 1).trans rfl; have hcz10_2 : w6.cell? ⟨gb147, 2, none⟩ = some (.int .i64 a0_2) := (blk_cell BK147.out 2).trans rfl; have hcz10_3 : w6.cell? ⟨gb147, 3, none⟩ = some (.int .i64 a0_3) := (blk_cell BK147.out 3).trans rfl; have hcz10_4 : w6.cell? ⟨gb147, 4, none⟩ = some (.slice A0_4 l0_4.length c0_4) := (blk_cell BK147.out 4).trans rfl; have hfz10_0 := blk_frozen BK147.out 0; have hfz10_1 := blk_frozen BK147.out 1; have hfz10_2 := blk_frozen BK147.out 2; have hfz10_3 := blk_frozen BK147.out 3; have hfz10_4 := blk_frozen BK147.out 4))
  go_loopg [18] k (fun kq v18 w' => ∃ (x18_1 : Int) (x150004_1 : List (S89)) (u150004 : Value), v18 = .int .i64 x18_1 ∧ Aside0 (prolixlaw18_From.l0 kq l0_4 (l0_4.length : Int) x18_1 a0_0 a0_1 a0_2 a0_3 x150004_1 = some (r1, r2, r3, r4, r5)) ∧ Aside0 (kq ≤ k) ∧ Aside0 (Kd.R k89 89 w' w.heap.size (fun _ => True) u150004 x150004_1) ∧ Aside0 (w'.heap[gb147]? = some (.cells #[.string a0_0, .int .i64 a0_1, .int .i64 a0_2, .int .i64 a0_3, (.slice A0_4 l0_4.length c0_4)] 28 (0, 0))) ∧ Aside0 (w'.heap[gb148]? = some (.cells #[.string (⟨#[]⟩ : ByteArray), .int .i64 0, .int .i64 0, .int .i64 0, (.slice none 0 0)] 24 (0, 0))) ∧ Aside0 (w'.heap[gb149]? = some (.cells #[.string a0_0, .int .i64 a0_1, .int .i64 a0_2, .int .i64 a0_3, u150004] 24 (0, 0))) ∧ Aside0 (Below w.heap.size w w'))
  case atStart => exact ⟨(0), (([] : List (S89))), (.slice none 0 0), (by first | rfl | (simp; done) | (simp [*]; done)), H', ⟨Nat.le_refl _⟩, ⟨by first | exact Kd.R_nil _ _ _ _ _ | exact Kd.N_nil _ _ _ _ _ | exact Kd.V_nil _ _ _ _ _ | exact Kd.Q_nil _ _ _ _ _ | exact Kd.S_nil _ _ _ _ _⟩, ⟨by (with_reducible repeat (first | refine blk_drewN ?_ _ | refine blk_drew ?_ | refine blk_alloc ?_ _)); refine blk_far ?_ NB147_149.out _; (with_reducible repeat (first | refine blk_drewN ?_ _ | refine blk_drew ?_ | refine blk_alloc ?_ _)); refine blk_far ?_ NB147_149.out _; (with_reducible repeat (first | refine blk_drewN ?_ _ | refine blk_drew ?_ | refine blk_alloc ?_ _)); refine blk_far ?_ NB147_149.out _; (with_reducible repeat (first | refine blk_drewN ?_ _ | refine blk_drew ?_ | refine blk_alloc ?_ _)); refine blk_far ?_ NB147_149.out _; (with_reducible repeat (first | refine blk_drewN ?_ _ | refine blk_drew ?_ | refine blk_alloc ?_ _)); refine blk_far ?_ NB147_149.out _; (with_reducible repeat (first | refine blk_drewN ?_ _ | refine blk_drew ?_ | refine blk_alloc ?_ _)); exact BK147.out⟩, ⟨by (with_reducible repeat (first | refine blk_drewN ?_ _ | refine blk_drew ?_ | refine blk_alloc ?_ _)); refine blk_far ?_ NB148_149.out _; (with_reducible repeat (first | refine blk_drewN ?_ _ | refine blk_drew ?_ | refine blk_alloc ?_ _)); refine blk_far ?_ NB148_149.out _; (with_reducible repeat (first | refine blk_drewN ?_ _ | refine blk_drew ?_ | refine blk_alloc ?_ _)); refine blk_far ?_ NB148_149.out _; (with_reducible repeat (first | refine blk_drewN ?_ _ | refine blk_drew ?_ | refine blk_alloc ?_ _)); refine blk_far ?_ NB148_149.out _; (with_reducible repeat (first | refine blk_drewN ?_ _ | refine blk_drew ?_ | refine blk_alloc ?_ _)); refine blk_far ?_ NB148_149.out _; (with_reducible repeat (first | refine blk_drewN ?_ _ | refine blk_drew ?_ | refine blk_alloc ?_ _)); exact BK148.out⟩, ⟨by (with_reducible repeat (first | refine blk_drewN ?_ _ | refine blk_drew ?_ | refine blk_alloc ?_ _)); refine blk_put (cs := #[.string a0_0, .int .i64 a0_1, .int .i64 a0_2, .int .i64 a0_3, .slice none 0 0]) ?_ 4 _ rfl; (with_reducible repeat (first | refine blk_drewN ?_ _ | refine blk_drew ?_ | refine blk_alloc ?_ _)); refine blk_put (cs := #[.string a0_0, .int .i64 a0_1, .int .i64 a0_2, .int .i64 0, .slice none 0 0]) ?_ 3 _ rfl; (with_reducible repeat (first | refine blk_drewN ?_ _ | refine blk_drew ?_ | refine blk_alloc ?_ _)); refine blk_put (cs := #[.string a0_0, .int .i64 a0_1, .int .i64 0, .int .i64 0, .slice none 0 0]) ?_ 2 _ rfl; (with_reducible repeat (first | refine blk_drewN ?_ _ | refine blk_drew ?_ | refine blk_alloc ?_ _)); refine blk_put (cs := #[.string a0_0, .int .i64 0, .int .i64 0, .int .i64 0, .slice none 0 0]) ?_ 1 _ rfl; (with_reducible repeat (first | refine blk_drewN ?_ _ | refine blk_drew ?_ | refine blk_alloc ?_ _)); refine blk_put (cs := #[.string (⟨#[]⟩ : ByteArray), .int .i64 0, .int .i64 0, .int .i64 0, .slice none 0 0]) ?_ 0 _ rfl; (with_reducible repeat (first | refine blk_drewN ?_ _ | refine blk_drew ?_ | refine blk_alloc ?_ _)); exact BK149.out⟩, ⟨by repeat (first | (with_reducible first | exact HB.out | apply below_alloc | apply pw_below_drewN | apply below_drew1 | refine below_set ?_ GE147.out | refine below_set ?_ GE148.out | refine below_set ?_ GE149.out) | exact HB.out)⟩⟩
  case round =>
    clear H'
    try clear c2
    try clear p2
    try clear c4
    try clear c7
    try clear c8
    try clear hcz10_0
    try clear hcz10_1
    try clear hcz10_2
    try clear hcz10_3
    try clear hcz10_4
    try clear hcz5_0
    try clear hcz5_1
    try clear hcz5_2
    try clear hcz5_3
    try clear hcz5_4
    try clear hcz9_0
    try clear hcz9_1
    try clear hcz9_2
    try clear hcz9_3
    try clear hcz9_4
    try clear hfz10_0
    try clear hfz10_1
    try clear hfz10_2
    try clear hfz10_3
    try clear hfz10_4
    try clear hfz5_0
    try clear hfz5_1
    try clear hfz5_2
    try clear hfz5_3
    try clear hfz5_4
    try clear hfz9_0
    try clear hfz9_1
    try clear hfz9_2
    try clear hfz9_3
    try clear hfz9_4
    obtain ⟨x18_1, x150004_1, u150004, rfl, HA, HK1, HO_150004, BK147, BK148, BK149, HB⟩ := hrel
    cases gk with
    | zero => exact absurd HA.out (by simp [prolixlaw18_From.l0])
    | succ k1 =>
      have H := HA.out
      clear HA
      simp only [prolixlaw18_From.l0] at H
      by_cases c11 : x18_1 < (l0_4.length : Int)
      · rw [if_pos c11] at H
        have c11b0 : decide (x18_1 < (l0_4.length : Int)) = true := decide_eq_true c11
        clear c11
        by_cases c12 : 0 ≤ x18_1
        · rw [if_pos c12] at H
          have c12b0 : decide (0 ≤ x18_1) = true := decide_eq_true c12
          clear c12
          by_cases c13 : x18_1 < (l0_4.length : Int)
          · rw [if_pos c13] at H
            have c13b0 : decide (x18_1 < (l0_4.length : Int)) = true := decide_eq_true c13
            clear c13
            by_cases c14 : x150004_1.length < 3518437208883
            · rw [if_pos c14] at H
              have LMc14 := Aside0.mk c14
              clear c14
              obtain ⟨y152, hy152⟩ : ∃ y_ : List (S89), y_ = (x150004_1 ++ [(⟨(rd_T39 l0_4 x18_1).f0, (rd_T39 l0_4 x18_1).f1, (rd_T39 l0_4 x18_1).f2, (rd_T39 l0_4 x18_1).f3⟩ : S89)]) := ⟨_, rfl⟩
              replace H : (prolixlaw18_From.l0 k1 l0_4 (l0_4.length : Int) (wrap64 (x18_1 + 1)) a0_0 a0_1 a0_2 a0_3 y152) = some (r1, r2, r3, r4, r5) := by first | (rw [hy152]; with_reducible exact H) | (have H2_ := (Option.bind_some _ _).symm.trans H; rw [hy152]; with_reducible exact H2_) | (have H2_ := (Option.bind_some _ _).symm.trans H; with_reducible exact H2_) | with_reducible exact H | (rw [hy152]; exact H) | exact H
              have Ny152 := Aside0.mk hy152
              clear hy152
              have H' := Aside0.mk H
              clear H
              have p150 : 0 ≤ (x18_1 : Int) := of_decide_eq_true (by first | (with_reducible assumption) | assumption)
              have q150 : x18_1 < (l0_4.length : Int) := of_decide_eq_true (by first | (with_reducible assumption) | assumption)
              obtain ⟨ad150, e150, hx150_0, hx150_1, hx150_2, hx150_3⟩ := at_T39 HR0_4.out x18_1 p150 q150
              cases e150
              replace hx150_0 := (HB.out.cell (World.block_lt_of_cell? w _ hx150_0)).trans hx150_0
              replace hx150_1 := (HB.out.cell (World.block_lt_of_cell? w _ hx150_1)).trans hx150_1
              replace hx150_2 := (HB.out.cell (World.block_lt_of_cell? w _ hx150_2)).trans hx150_2
              replace hx150_3 := (HB.out.cell (World.block_lt_of_cell? w _ hx150_3)).trans hx150_3
              replace p150 := eq_true p150
              replace q150 := eq_true q150
              go_wp2_with (first | ((with_reducible refine gate_dst (N := 5) rfl ?_); refine box_event ?hg (N := 5) ?hd (cs := #[.int .i64 0, .int .i64 0, .int .i64 0, .string (⟨#[]⟩ : ByteArray)]) (t := 39) ?hr ?_; (case hd => rfl); (case hg => rfl); (case hr => first | (go_simp; done) | (go_simp; rfl)); intro gb151 hg w15 hbox hb; have n0_ := Aside0.mk (Kd.R_below (by (with_reducible repeat (first | apply Kd.R_alloc | apply Kd.R_drewN | apply Kd.R_drew)); exact HO_150004.out) hb); have n1_ := Aside0.mk (blk_below (g := gb147) (o := .cells #[.string a0_0, .int .i64 a0_1, .int .i64 a0_2, .int .i64 a0_3, .slice (some ad150) l0_4.length c0_4] 28 (0, 0)) (by (with_reducible repeat (first | refine blk_drewN ?_ _ | refine blk_drew ?_ | refine blk_alloc ?_ _)); exact BK147.out) hb); have n2_ := Aside0.mk (blk_below (g := gb148) (o := .cells #[.string (⟨#[]⟩ : ByteArray), .int .i64 0, .int .i64 0, .int .i64 0, .slice none 0 0] 24 (0, 0)) (by (with_reducible repeat (first | refine blk_drewN ?_ _ | refine blk_drew ?_ | refine blk_alloc ?_ _)); exact BK148.out) hb); have n3_ := Aside0.mk (blk_below (g := gb149) (o := .cells #[.string a0_0, .int .i64 a0_1, .int .i64 a0_2, .int .i64 a0_3, u150004] 24 (0, 0)) (by (with_reducible repeat (first | refine blk_drewN ?_ _ | refine blk_drew ?_ | refine blk_alloc ?_ _)); exact BK149.out) hb); have n4_ := Aside0.mk (below_step (by repeat (first | (with_reducible first | exact HB.out | apply below_alloc | apply pw_below_drewN | apply below_drew1 | refine below_set ?_ GE147.out | refine below_set ?_ GE148.out | refine below_set ?_ GE149.out) | exact HB.out)) hb); have n5_ := Aside0.mk (hbox); have n6_ := Aside0.mk ((by rw [hg]; exact (below_size (by repeat (first | (with_reducible first | exact HB.out | apply below_alloc | apply pw_below_drewN | apply below_drew1 | refine below_set ?_ GE147.out | refine below_set ?_ GE148.out | refine below_set ?_ GE149.out) | exact HB.out))) : w.heap.size ≤ gb151)); have n7_ := Aside0.mk ((by rw [hg]; exact (below_size (by repeat (first | (with_reducible first | exact HB.out | apply below_alloc | apply pw_below_drewN | apply below_drew1 | refine below_set ?_ GE147.out | refine below_set ?_ GE148.out | refine below_set ?_ GE149.out) | exact HB.out))) : w.heap.size ≤ gb151)); have n8_ := Aside0.mk ((by rw [hg]; exact Nat.ne_of_lt (blk_lt (g := gb147) (o := .cells #[.string a0_0, .int .i64 a0_1, .int .i64 a0_2, .int .i64 a0_3, .slice (some ad150) l0_4.length c0_4] 28 (0, 0)) (by (with_reducible repeat (first | refine blk_drewN ?_ _ | refine blk_drew ?_ | refine blk_alloc ?_ _)); exact BK147.out)) : gb147 ≠ gb151)); have n9_ := Aside0.mk ((by rw [hg]; exact Nat.ne_of_gt (blk_lt (g := gb147) (o := .cells #[.string a0_0, .int .i64 a0_1, .int .i64 a0_2, .int .i64 a0_3, .slice (some ad150) l0_4.length c0_4] 28 (0, 0)) (by (with_reducible repeat (first | refine blk_drewN ?_ _ | refine blk_drew ?_ | refine blk_alloc ?_ _)); exact BK147.out)) : gb151 ≠ gb147)); have n10_ := Aside0.mk ((by rw [hg]; exact Nat.ne_of_lt (blk_lt (g := gb148) (o := .cells #[.string (⟨#[]⟩ : ByteArray), .int .i64 0, .int .i64 0, .int .i64 0, .slice none 0 0] 24 (0, 0)) (by (with_reducible repeat (first | refine blk_drewN ?_ _ | refine blk_drew ?_ | refine blk_alloc ?_ _)); exact BK148.out)) : gb148 ≠ gb151)); have n11_ := Aside0.mk ((by rw [hg]; exact Nat.ne_of_gt (blk_lt (g := gb148) (o := .cells #[.string (⟨#[]⟩ : ByteArray), .int .i64 0, .int .i64 0, .int .i64 0, .slice none 0 0] 24 (0, 0)) (by (with_reducible repeat (first | refine blk_drewN ?_ _ | refine blk_drew ?_ | refine blk_alloc ?_ _)); exact BK148.out)) : gb151 ≠ gb148)); have n12_ := Aside0.mk ((by rw [hg]; exact Nat.ne_of_lt (blk_lt (g := gb149) (o := .cells #[.string a0_0, .int .i64 a0_1, .int .i64 a0_2, .int .i64 a0_3, u150004] 24 (0, 0)) (by (with_reducible repeat (first | refine blk_drewN ?_ _ | refine blk_drew ?_ | refine blk_alloc ?_ _)); exact BK149.out)) : gb149 ≠ gb151)); have n13_ := Aside0.mk ((by rw [hg]; exact Nat.ne_of_gt (blk_lt (g := gb149) (o := .cells #[.string a0_0, .int .i64 a0_1, .int .i64 a0_2, .int .i64 a0_3, u150004] 24 (0, 0)) (by (with_reducible repeat (first | refine blk_drewN ?_ _ | refine blk_drew ?_ | refine blk_alloc ?_ _)); exact BK149.out)) : gb151 ≠ gb149)); clear HO_150004; clear BK147; clear BK148; clear BK149; clear HB; have HO_150004 := n0_; have BK147 := n1_; have BK148 := n2_; have BK149 := n3_; have HB := n4_; have BK151 := n5_; have GW151 := n6_; have GE151 := n7_; have NB147_151 := n8_; have NB151_147 := n9_; have NB148_151 := n10_; have NB151_148 := n11_; have NB149_151 := n12_; have NB151_149 := n13_; clear n0_ n1_ n2_ n3_ n4_ n5_ n6_ n7_ n8_ n9_ n10_ n11_ n12_ n13_; clear hb hbox hg; have hnb16 := NB151_147.out; have hnc16 := NB147_151.out; have hnb17 := NB151_148.out; have hnc17 := NB148_151.out; have hnb18 := NB151_149.out; have hnc18 := NB149_151.out; have hcz19_0 : w15.cell? ⟨gb151, 0, none⟩ = some (.int .i64 0) := (blk_cell BK151.out 0).trans rfl; have hcz19_1 : w15.cell? ⟨gb151, 1, none⟩ = some (.int .i64 0) := (blk_cell BK151.out 1).trans rfl; have hcz19_2 : w15.cell? ⟨gb151, 2, none⟩ = some (.int .i64 0) := (blk_cell BK151.out 2).trans rfl; have hcz19_3 : w15.cell? ⟨gb151, 3, none⟩ = some (.string (⟨#[]⟩ : ByteArray)) := (blk_cell BK151.out 3).trans rfl; have hfz19_0 := blk_frozen BK151.out 0; have hfz19_1 := blk_frozen BK151.out 1; have hfz19_2 := blk_frozen BK151.out 2; have hfz19_3 := blk_frozen BK151.out 3; have hnb20 := NB149_147.out; have hnc20 := NB147_149.out; have hnb21 := NB149_148.out; have hnc21 := NB148_149.out; have hcz22_0 : w15.cell? ⟨gb149, 0, none⟩ = some (.string a0_0) := (blk_cell BK149.out 0).trans rfl; have hcz22_1 : w15.cell? ⟨gb149, 1, none⟩ = some (.int .i64 a0_1) := (blk_cell BK149.out 1).trans rfl; have hcz22_2 : w15.cell? ⟨gb149, 2, none⟩ = some (.int .i64 a0_2) := (blk_cell BK149.out 2).trans rfl; have hcz22_3 : w15.cell? ⟨gb149, 3, none⟩ = some (.int .i64 a0_3) := (blk_cell BK149.out 3).trans rfl; have hcz22_4 : w15.cell? ⟨gb149, 4, none⟩ = some (u150004) := (blk_cell BK149.out 4).trans rfl; have hfz22_0 := blk_frozen BK149.out 0; have hfz22_1 := blk_frozen BK149.out 1; have hfz22_2 := blk_frozen BK149.out 2; have hfz22_3 := blk_frozen BK149.out 3; have hfz22_4 := blk_frozen BK149.out 4) | ((with_reducible refine gate_builtin (b := .append) (xs := #[.tmp 23, .tmp 25]) rfl ?_); at_builtin; refine Kd.R_append k89 (w0 := w) w.heap.size rfl (.tmp 23) (.tmp 25) 22 89 (.agg #[(.int .i64 0), (.int .i64 0), (.int .i64 0), (.string ⟨#[]⟩)]) 40 rfl Try.underlying22 info89 rfl (by decide) (by omega) u150004 x150004_1 (⟨(rd_T39 l0_4 x18_1).f0, (rd_T39 l0_4 x18_1).f1, (rd_T39 l0_4 x18_1).f2, (rd_T39 l0_4 x18_1).f3⟩ : S89) [.int .i64 ((rd_T39 l0_4 x18_1).f0), .int .i64 ((rd_T39 l0_4 x18_1).f1), .int .i64 ((rd_T39 l0_4 x18_1).f2), .string ((rd_T39 l0_4 x18_1).f3)] (fun _ => True) (fun _ => False) rfl (by first | (go_simp; done) | (go_simp; rfl)) ?aP (fun _ hk => hk.elim) ?aF ?aO ?aB ?aS ?aL ?_; (case aP => exact k89_mkM _ _ _ (⟨(rd_T39 l0_4 x18_1).f0, (rd_T39 l0_4 x18_1).f1, (rd_T39 l0_4 x18_1).f2, (rd_T39 l0_4 x18_1).f3⟩ : S89)); (case aB => exact (by repeat (first | (with_reducible first | exact HB.out | apply below_alloc | apply pw_below_drewN | apply below_drew1 | refine below_set ?_ GE147.out | refine below_set ?_ GE148.out | refine below_set ?_ GE149.out | refine below_set ?_ GE151.out) | exact HB.out))); (case aF => exact (fun _ _ => trivial)); (case aO => exact (by (with_reducible repeat (first | apply Kd.R_alloc | apply Kd.R_drewN | apply Kd.R_drew)); exact Kd.R_mono (Kd.R_far (p := ⟨gb151, 3, none⟩) (Kd.R_far (p := ⟨gb151, 2, none⟩) (Kd.R_far (p := ⟨gb151, 1, none⟩) (Kd.R_far (p := ⟨gb151, 0, none⟩) (Kd.R_types HO_150004.out BK151.out (by decide)) (fun _ hk => hk.2) (.int .i64 ((rd_T39 l0_4 x18_1).f0))) (fun _ hk => hk.2) (.int .i64 ((rd_T39 l0_4 x18_1).f1))) (fun _ hk => hk.2) (.int .i64 ((rd_T39 l0_4 x18_1).f2))) (fun _ hk => hk.2) (.string ((rd_T39 l0_4 x18_1).f3))) (fun _ hk => trivial))); (case aS => exact (below_size (by repeat (first | (with_reducible first | exact HB.out | apply below_alloc | apply pw_below_drewN | apply below_drew1 | refine below_set ?_ GE147.out | refine below_set ?_ GE148.out | refine below_set ?_ GE149.out | refine below_set ?_ GE151.out) | exact HB.out)))); (case aL => have := LMc14.out; omega); intro v153 w23 ho hb hg hat; rw [← Ny152.out] at ho; have n0_ := Aside0.mk (blk_grown (g := gb147) (o := .cells #[.string a0_0, .int .i64 a0_1, .int .i64 a0_2, .int .i64 a0_3, .slice (some ad150) l0_4.length c0_4] 28 (0, 0)) (by (with_reducible repeat (first | refine blk_drewN ?_ _ | refine blk_drew ?_ | refine blk_alloc ?_ _)); refine blk_far ?_ NB147_151.out _; (with_reducible repeat (first | refine blk_drewN ?_ _ | refine blk_drew ?_ | refine blk_alloc ?_ _)); refine blk_far ?_ NB147_151.out _; (with_reducible repeat (first | refine blk_drewN ?_ _ | refine blk_drew ?_ | refine blk_alloc ?_ _)); refine blk_far ?_ NB147_151.out _; (with_reducible repeat (first | refine blk_drewN ?_ _ | refine blk_drew ?_ | refine blk_alloc ?_ _)); refine blk_far ?_ NB147_151.out _; (with_reducible repeat (first | refine blk_drewN ?_ _ | refine blk_drew ?_ | refine blk_alloc ?_ _)); exact BK147.out) hg (Kd.R_ne HO_150004.out BK147.out (by decide))); have n1_ := Aside0.mk (blk_grown (g := gb148) (o := .cells #[.string (⟨#[]⟩ : ByteArray), .int .i64 0, .int .i64 0, .int .i64 0, .slice none 0 0] 24 (0, 0)) (by (with_reducible repeat (first | refine blk_drewN ?_ _ | refine blk_drew ?_ | refine blk_alloc ?_ _)); refine blk_far ?_ NB148_151.out _; (with_reducible repeat (first | refine blk_drewN ?_ _ | refine blk_drew ?_ | refine blk_alloc ?_ _)); refine blk_far ?_ NB148_151.out _; (with_reducible repeat (first | refine blk_drewN ?_ _ | refine blk_drew ?_ | refine blk_alloc ?_ _)); refine blk_far ?_ NB148_151.out _; (with_reducible repeat (first | refine blk_drewN ?_ _ | refine blk_drew ?_ | refine blk_alloc ?_ _)); refine blk_far ?_ NB148_151.out _; (with_reducible repeat (first | refine blk_drewN ?_ _ | refine blk_drew ?_ | refine blk_alloc ?_ _)); exact BK148.out) hg (Kd.R_ne HO_150004.out BK148.out (by decide))); have n2_ := Aside0.mk (blk_grown (g := gb149) (o := .cells #[.string a0_0, .int .i64 a0_1, .int .i64 a0_2, .int .i64 a0_3, u150004] 24 (0, 0)) (by (with_reducible repeat (first | refine blk_drewN ?_ _ | refine blk_drew ?_ | refine blk_alloc ?_ _)); refine blk_far ?_ NB149_151.out _; (with_reducible repeat (first | refine blk_drewN ?_ _ | refine blk_drew ?_ | refine blk_alloc ?_ _)); refine blk_far ?_ NB149_151.out _; (with_reducible repeat (first | refine blk_drewN ?_ _ | refine blk_drew ?_ | refine blk_alloc ?_ _)); refine blk_far ?_ NB149_151.out _; (with_reducible repeat (first | refine blk_drewN ?_ _ | refine blk_drew ?_ | refine blk_alloc ?_ _)); refine blk_far ?_ NB149_151.out _; (with_reducible repeat (first | refine blk_drewN ?_ _ | refine blk_drew ?_ | refine blk_alloc ?_ _)); exact BK149.out) hg (Kd.R_ne HO_150004.out BK149.out (by decide))); have n3_ := Aside0.mk (blk_grown (g := gb151) (o := .cells #[.int .i64 ((rd_T39 l0_4 x18_1).f0), .int .i64 ((rd_T39 l0_4 x18_1).f1), .int .i64 ((rd_T39 l0_4 x18_1).f2), .string ((rd_T39 l0_4 x18_1).f3)] 39 (0, 0)) (by (with_reducible repeat (first | refine blk_drewN ?_ _ | refine blk_drew ?_ | refine blk_alloc ?_ _)); refine blk_put (cs := #[.int .i64 ((rd_T39 l0_4 x18_1).f0), .int .i64 ((rd_T39 l0_4 x18_1).f1), .int .i64 ((rd_T39 l0_4 x18_1).f2), .string (⟨#[]⟩ : ByteArray)]) ?_ 3 _ rfl; (with_reducible repeat (first | refine blk_drewN ?_ _ | refine blk_drew ?_ | refine blk_alloc ?_ _)); refine blk_put (cs := #[.int .i64 ((rd_T39 l0_4 x18_1).f0), .int .i64 ((rd_T39 l0_4 x18_1).f1), .int .i64 0, .string (⟨#[]⟩ : ByteArray)]) ?_ 2 _ rfl; (with_reducible repeat (first | refine blk_drewN ?_ _ | refine blk_drew ?_ | refine blk_alloc ?_ _)); refine blk_put (cs := #[.int .i64 ((rd_T39 l0_4 x18_1).f0), .int .i64 0, .int .i64 0, .string (⟨#[]⟩ : ByteArray)]) ?_ 1 _ rfl; (with_reducible repeat (first | refine blk_drewN ?_ _ | refine blk_drew ?_ | refine blk_alloc ?_ _)); refine blk_put (cs := #[.int .i64 0, .int .i64 0, .int .i64 0, .string (⟨#[]⟩ : ByteArray)]) ?_ 0 _ rfl; (with_reducible repeat (first | refine blk_drewN ?_ _ | refine blk_drew ?_ | refine blk_alloc ?_ _)); exact BK151.out) hg (Kd.R_ne HO_150004.out BK151.out (by decide))); have n4_ := Aside0.mk (hb); have n5_ := Aside0.mk (ho); clear BK147; clear BK148; clear BK149; clear BK151; clear HB; clear HO_150004; have BK147 := n0_; have BK148 := n1_; have BK149 := n2_; have BK151 := n3_; have HB := n4_; have HO154 := n5_; clear n0_ n1_ n2_ n3_ n4_ n5_; clear ho hb hg hat; obtain ⟨Ao24, co24, eo24⟩ := Kd.R_slice HO154.out; subst eo24; have hcz25_0 : w23.cell? ⟨gb149, 0, none⟩ = some (.string a0_0) := (blk_cell BK149.out 0).trans rfl; have hcz25_1 : w23.cell? ⟨gb149, 1, none⟩ = some (.int .i64 a0_1) := (blk_cell BK149.out 1).trans rfl; have hcz25_2 : w23.cell? ⟨gb149, 2, none⟩ = some (.int .i64 a0_2) := (blk_cell BK149.out 2).trans rfl; have hcz25_3 : w23.cell? ⟨gb149, 3, none⟩ = some (.int .i64 a0_3) := (blk_cell BK149.out 3).trans rfl; have hcz25_4 : w23.cell? ⟨gb149, 4, none⟩ = some (u150004) := (blk_cell BK149.out 4).trans rfl; have hfz25_0 := blk_frozen BK149.out 0; have hfz25_1 := blk_frozen BK149.out 1; have hfz25_2 := blk_frozen BK149.out 2; have hfz25_3 := blk_frozen BK149.out 3; have hfz25_4 := blk_frozen BK149.out 4))
              go_roundg k1
              case measure => have := HK1.out; omega
              case rel => exact ⟨(wrap64 (x18_1 + 1)), (y152), (.slice Ao24 y152.length co24), (by first | rfl | (simp; done) | (simp [*]; done)), H', ⟨by have := HK1.out; omega⟩, ⟨by (with_reducible repeat (first | apply Kd.R_alloc | apply Kd.R_drewN | apply Kd.R_drew)); exact Kd.R_mono (Kd.R_far (p := ⟨gb149, 4, none⟩) (Kd.R_types HO154.out BK149.out (by decide)) (fun _ hk => hk.2) (.slice Ao24 y152.length co24)) (fun _ hk => trivial)⟩, ⟨by (with_reducible repeat (first | refine blk_drewN ?_ _ | refine blk_drew ?_ | refine blk_alloc ?_ _)); refine blk_far ?_ NB147_149.out _; (with_reducible repeat (first | refine blk_drewN ?_ _ | refine blk_drew ?_ | refine blk_alloc ?_ _)); exact BK147.out⟩, ⟨by (with_reducible repeat (first | refine blk_drewN ?_ _ | refine blk_drew ?_ | refine blk_alloc ?_ _)); refine blk_far ?_ NB148_149.out _; (with_reducible repeat (first | refine blk_drewN ?_ _ | refine blk_drew ?_ | refine blk_alloc ?_ _)); exact BK148.out⟩, ⟨by (with_reducible repeat (first | refine blk_drewN ?_ _ | refine blk_drew ?_ | refine blk_alloc ?_ _)); refine blk_put (cs := #[.string a0_0, .int .i64 a0_1, .int .i64 a0_2, .int .i64 a0_3, u150004]) ?_ 4 _ rfl; (with_reducible repeat (first | refine blk_drewN ?_ _ | refine blk_drew ?_ | refine blk_alloc ?_ _)); exact BK149.out⟩, ⟨by repeat (first | (with_reducible first | exact HB.out | apply below_alloc | apply pw_below_drewN | apply below_drew1 | refine below_set ?_ GE147.out | refine below_set ?_ GE148.out | refine below_set ?_ GE149.out | refine below_set ?_ GE151.out) | exact HB.out)⟩⟩
            · rw [if_neg c14] at H
              exact absurd H (by simp)
          · rw [if_neg c13] at H
            exact absurd H (by simp)
        · rw [if_neg c12] at H
          exact absurd H (by simp)
      · rw [if_neg c11] at H
        have c11b0 : decide (x18_1 < (l0_4.length : Int)) = false := decide_eq_false c11
        clear c11
        simp only [Option.some.injEq, Prod.mk.injEq] at H
        obtain ⟨rfl, rfl, rfl, rfl, rfl⟩ := H
        have hnb26 := NB149_147.out
        have hnc26 := NB147_149.out
        have hnb27 := NB149_148.out
        have hnc27 := NB148_149.out
        have hcz28_0 : wr.cell? ⟨gb149, 0, none⟩ = some (.string a0_0) := (blk_cell BK149.out 0).trans rfl
        have hcz28_1 : wr.cell? ⟨gb149, 1, none⟩ = some (.int .i64 a0_1) := (blk_cell BK149.out 1).trans rfl
        have hcz28_2 : wr.cell? ⟨gb149, 2, none⟩ = some (.int .i64 a0_2) := (blk_cell BK149.out 2).trans rfl
        have hcz28_3 : wr.cell? ⟨gb149, 3, none⟩ = some (.int .i64 a0_3) := (blk_cell BK149.out 3).trans rfl
        have hcz28_4 : wr.cell? ⟨gb149, 4, none⟩ = some (u150004) := (blk_cell BK149.out 4).trans rfl
        have hfz28_0 := blk_frozen BK149.out 0
        have hfz28_1 := blk_frozen BK149.out 1
        have hfz28_2 := blk_frozen BK149.out 2
        have hfz28_3 := blk_frozen BK149.out 3
        have hfz28_4 := blk_frozen BK149.out 4
        have hnb29 := NB148_147.out
        have hnc29 := NB147_148.out
        have hcz30_0 : wr.cell? ⟨gb148, 0, none⟩ = some (.string (⟨#[]⟩ : ByteArray)) := (blk_cell BK148.out 0).trans rfl
        have hcz30_1 : wr.cell? ⟨gb148, 1, none⟩ = some (.int .i64 0) := (blk_cell BK148.out 1).trans rfl
        have hcz30_2 : wr.cell? ⟨gb148, 2, none⟩ = some (.int .i64 0) := (blk_cell BK148.out 2).trans rfl
        have hcz30_3 : wr.cell? ⟨gb148, 3, none⟩ = some (.int .i64 0) := (blk_cell BK148.out 3).trans rfl
        have hcz30_4 : wr.cell? ⟨gb148, 4, none⟩ = some (.slice none 0 0) := (blk_cell BK148.out 4).trans rfl
        have hfz30_0 := blk_frozen BK148.out 0
        have hfz30_1 := blk_frozen BK148.out 1
        have hfz30_2 := blk_frozen BK148.out 2
        have hfz30_3 := blk_frozen BK148.out 3
        have hfz30_4 := blk_frozen BK148.out 4
        obtain ⟨Ao31, co31, eo31⟩ := Kd.R_slice HO_150004.out
        subst eo31
        go_wp2
        refine bodyPost_ret (results_cell_row rfl _ _ gb148 24 #[.string a0_0, .int .i64 a0_1, .int .i64 a0_2, .int .i64 a0_3, .slice Ao31 x150004_1.length co31] (0, 0) _ rfl (by (with_reducible repeat (first | refine blk_drewN ?_ _ | refine blk_drew ?_ | refine blk_alloc ?_ _)); refine blk_put (cs := #[.string a0_0, .int .i64 a0_1, .int .i64 a0_2, .int .i64 a0_3, .slice none 0 0]) ?_ 4 _ rfl; (with_reducible repeat (first | refine blk_drewN ?_ _ | refine blk_drew ?_ | refine blk_alloc ?_ _)); refine blk_put (cs := #[.string a0_0, .int .i64 a0_1, .int .i64 a0_2, .int .i64 0, .slice none 0 0]) ?_ 3 _ rfl; (with_reducible repeat (first | refine blk_drewN ?_ _ | refine blk_drew ?_ | refine blk_alloc ?_ _)); refine blk_put (cs := #[.string a0_0, .int .i64 a0_1, .int .i64 0, .int .i64 0, .slice none 0 0]) ?_ 2 _ rfl; (with_reducible repeat (first | refine blk_drewN ?_ _ | refine blk_drew ?_ | refine blk_alloc ?_ _)); refine blk_put (cs := #[.string a0_0, .int .i64 0, .int .i64 0, .int .i64 0, .slice none 0 0]) ?_ 1 _ rfl; (with_reducible repeat (first | refine blk_drewN ?_ _ | refine blk_drew ?_ | refine blk_alloc ?_ _)); refine blk_put (cs := #[.string (⟨#[]⟩ : ByteArray), .int .i64 0, .int .i64 0, .int .i64 0, .slice none 0 0]) ?_ 0 _ rfl; (with_reducible repeat (first | refine blk_drewN ?_ _ | refine blk_drew ?_ | refine blk_alloc ?_ _)); exact BK148.out) Try.underlying24 rfl (by kernel_rfl)) rfl ?_
        exact ⟨_, by first | rfl | (simp [errW_none, errW_some] <;> rfl) | (simp [*, errW_none, errW_some] <;> rfl), by (with_reducible repeat (first | apply Kd.R_alloc | apply Kd.R_drewN | apply Kd.R_drew)); exact Kd.R_mono (Kd.R_far (p := ⟨gb148, 4, none⟩) (Kd.R_far (p := ⟨gb148, 3, none⟩) (Kd.R_far (p := ⟨gb148, 2, none⟩) (Kd.R_far (p := ⟨gb148, 1, none⟩) (Kd.R_far (p := ⟨gb148, 0, none⟩) (Kd.R_types HO_150004.out BK148.out (by decide)) (fun _ hk => hk.2) (.string a0_0)) (fun _ hk => hk.2) (.int .i64 a0_1)) (fun _ hk => hk.2) (.int .i64 a0_2)) (fun _ hk => hk.2) (.int .i64 a0_3)) (fun _ hk => hk.2) (.slice Ao31 x150004_1.length co31)) (fun _ hk => trivial), by repeat (first | (with_reducible first | exact HB.out | apply below_alloc | apply pw_below_drewN | apply below_drew1 | refine below_set ?_ GE147.out | refine below_set ?_ GE148.out | refine below_set ?_ GE149.out) | exact HB.out)⟩

end Go.Proofs.Ythdnaliahdohhaa.C
