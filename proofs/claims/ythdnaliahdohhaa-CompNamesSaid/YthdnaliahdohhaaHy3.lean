-- printed by a program of this session (wip/tools/pp.py) that runs the kit's printer over contracts proved by hand
import Derived.Test.YthdnaliahdohhaaHy0
import Derived.Test.YthdnaliahdohhaaHy1
namespace Go.Proofs.Ythdnaliahdohhaa.H
open Go.RowKit Go.Proofs.YthdnaliahdohhaaW.PrintWords Go.Proofs.YthdnaliahdohhaaW.PrintLast Go.Proofs.YthdnaliahdohhaaW.PrintMore
attribute [local go_sem] max2_int min2_int max_two min_two max_three min_three max_four min_four   -- for this text's walks alone
set_option linter.unusedVariables false
set_option linter.unusedSimpArgs false

attribute [local go_sem high] eqA89
/-! ### prolixref18_Same: function 21 -/
mutual
def prolixref18_Same.j0 : Nat → Bool → ByteArray → Int → Int → Int → List (S89) → ByteArray → Int → Int → Int → List (S89) → Option (Bool)
  | 0, _, _, _, _, _, _, _, _, _, _, _ => none
  | k + 1, x40, x118000, x118001, x118002, x118003, x118004, x119000, x119001, x119002, x119003, x119004 => if x40 = true then (some false) else (prolixref18_Same.l0 k (x118004.length : Int) 0 x118000 x118001 x118002 x118003 x118004 x119000 x119001 x119002 x119003 x119004)
def prolixref18_Same.l0 : Nat → Int → Int → ByteArray → Int → Int → Int → List (S89) → ByteArray → Int → Int → Int → List (S89) → Option (Bool)
  | 0, _, _, _, _, _, _, _, _, _, _, _, _ => none
  | k + 1, x43, x44, x118000, x118001, x118002, x118003, x118004, x119000, x119001, x119002, x119003, x119004 => if x44 < x43 then (if 0 ≤ x44 then (if x44 < (x118004.length : Int) then (if x44 < (x119004.length : Int) then (if (!(((rd_T89 x118004 x44).f0) == ((rd_T89 x119004 x44).f0)) || (!(((rd_T89 x118004 x44).f1) == ((rd_T89 x119004 x44).f1)) || (!(((rd_T89 x118004 x44).f2) == ((rd_T89 x119004 x44).f2)) || (!((((rd_T89 x118004 x44).f3).toList) == (((rd_T89 x119004 x44).f3).toList)))))) = true then (some false) else (prolixref18_Same.l0 k x43 (wrap64 (x44 + 1)) x118000 x118001 x118002 x118003 x118004 x119000 x119001 x119002 x119003 x119004)) else (none)) else (none)) else (none)) else (some true)
end
def prolixref18_Same.f (k : Nat) (a0_0 : ByteArray) (a0_1 : Int) (a0_2 : Int) (a0_3 : Int) (l0_4 : List (S89)) (a1_0 : ByteArray) (a1_1 : Int) (a1_2 : Int) (a1_3 : Int) (l1_4 : List (S89)) : Option (Bool) := if a0_0.toList = a1_0.toList then (if a0_1 = a1_1 then (if a0_2 = a1_2 then (if a0_3 = a1_3 then (prolixref18_Same.j0 k ((l0_4.length : Int) != (l1_4.length : Int)) a0_0 a0_1 a0_2 a0_3 l0_4 a1_0 a1_1 a1_2 a1_3 l1_4) else (prolixref18_Same.j0 k true a0_0 a0_1 a0_2 a0_3 l0_4 a1_0 a1_1 a1_2 a1_3 l1_4)) else (prolixref18_Same.j0 k true a0_0 a0_1 a0_2 a0_3 l0_4 a1_0 a1_1 a1_2 a1_3 l1_4)) else (prolixref18_Same.j0 k true a0_0 a0_1 a0_2 a0_3 l0_4 a1_0 a1_1 a1_2 a1_3 l1_4)) else (prolixref18_Same.j0 k true a0_0 a0_1 a0_2 a0_3 l0_4 a1_0 a1_1 a1_2 a1_3 l1_4)
theorem prolixref18_Same.mono_l : ∀ k, (∀ y0 y1 y2 y3 y4 y5 y6 y7 y8 y9 y10, LeO (prolixref18_Same.j0 k y0 y1 y2 y3 y4 y5 y6 y7 y8 y9 y10) (prolixref18_Same.j0 (k + 1) y0 y1 y2 y3 y4 y5 y6 y7 y8 y9 y10)) ∧ (∀ y0 y1 y2 y3 y4 y5 y6 y7 y8 y9 y10 y11, LeO (prolixref18_Same.l0 k y0 y1 y2 y3 y4 y5 y6 y7 y8 y9 y10 y11) (prolixref18_Same.l0 (k + 1) y0 y1 y2 y3 y4 y5 y6 y7 y8 y9 y10 y11))
  | 0 => ⟨fun _ _ _ _ _ _ _ _ _ _ _ r h => by simp [prolixref18_Same.j0] at h, fun _ _ _ _ _ _ _ _ _ _ _ _ r h => by simp [prolixref18_Same.l0] at h⟩
  | k + 1 => by
    obtain ⟨ih0, ih1⟩ := prolixref18_Same.mono_l k
    refine ⟨?_, ?_⟩
    · intro y0 y1 y2 y3 y4 y5 y6 y7 y8 y9 y10
      unfold prolixref18_Same.j0
      repeat' first
      | (with_reducible exact ih0 _ _ _ _ _ _ _ _ _ _ _)
      | (with_reducible exact ih1 _ _ _ _ _ _ _ _ _ _ _ _)
      | (with_reducible exact LeO.refl _)
      | (with_reducible exact LeO.none _)
      | (with_reducible refine LeO.ite ?_ ?_)
      | (with_reducible refine LeO.bind ?_ (fun _ => ?_))
      | exact ih0 _ _ _ _ _ _ _ _ _ _ _
      | exact ih1 _ _ _ _ _ _ _ _ _ _ _ _
      | exact LeO.none _
      | refine LeO.ite ?_ ?_
      | refine LeO.bind ?_ (fun _ => ?_)
    · intro y0 y1 y2 y3 y4 y5 y6 y7 y8 y9 y10 y11
      unfold prolixref18_Same.l0
      repeat' first
      | (with_reducible exact ih0 _ _ _ _ _ _ _ _ _ _ _)
      | (with_reducible exact ih1 _ _ _ _ _ _ _ _ _ _ _ _)
      | (with_reducible exact LeO.refl _)
      | (with_reducible exact LeO.none _)
      | (with_reducible refine LeO.ite ?_ ?_)
      | (with_reducible refine LeO.bind ?_ (fun _ => ?_))
      | exact ih0 _ _ _ _ _ _ _ _ _ _ _
      | exact ih1 _ _ _ _ _ _ _ _ _ _ _ _
      | exact LeO.none _
      | refine LeO.ite ?_ ?_
      | refine LeO.bind ?_ (fun _ => ?_)
theorem prolixref18_Same.mono : ∀ a0 a1 a2 a3 a4 a5 a6 a7 a8 a9 k, LeO (prolixref18_Same.f k a0 a1 a2 a3 a4 a5 a6 a7 a8 a9) (prolixref18_Same.f (k + 1) a0 a1 a2 a3 a4 a5 a6 a7 a8 a9) := by
  intro a0 a1 a2 a3 a4 a5 a6 a7 a8 a9 k
  obtain ⟨ih0, ih1⟩ := prolixref18_Same.mono_l k
  unfold prolixref18_Same.f
  repeat' first
      | (with_reducible exact ih0 _ _ _ _ _ _ _ _ _ _ _)
      | (with_reducible exact ih1 _ _ _ _ _ _ _ _ _ _ _ _)
      | (with_reducible exact LeO.refl _)
      | (with_reducible exact LeO.none _)
      | (with_reducible refine LeO.ite ?_ ?_)
      | (with_reducible refine LeO.bind ?_ (fun _ => ?_))
      | exact ih0 _ _ _ _ _ _ _ _ _ _ _
      | exact ih1 _ _ _ _ _ _ _ _ _ _ _ _
      | exact LeO.none _
      | refine LeO.ite ?_ ?_
      | refine LeO.bind ?_ (fun _ => ?_)
set_option maxHeartbeats 8000000 in
set_option maxRecDepth 100000 in
theorem prolixref18_Same.calls (k : Nat) (a0_0 : ByteArray) (a0_1 : Int) (a0_2 : Int) (a0_3 : Int) (A0_4 : Option Addr) (c0_4 : Nat) (l0_4 : List (S89)) (a1_0 : ByteArray) (a1_1 : Int) (a1_2 : Int) (a1_3 : Int) (A1_4 : Option Addr) (c1_4 : Nat) (l1_4 : List (S89)) (r : Bool) (w : World) (hr0_4 : Kd.C k89 w A0_4 l0_4.length l0_4) (hc0_4 : l0_4.length ≤ c0_4) (hr1_4 : Kd.C k89 w A1_4 l1_4.length l1_4) (hc1_4 : l1_4.length ≤ c1_4) (h : prolixref18_Same.f k a0_0 a0_1 a0_2 a0_3 l0_4 a1_0 a1_1 a1_2 a1_3 l1_4 = some r) :
    Calls Try.prog 21 #[.agg #[.string a0_0, .int .i64 a0_1, .int .i64 a0_2, .int .i64 a0_3, .slice A0_4 l0_4.length c0_4], .agg #[.string a1_0, .int .i64 a1_1, .int .i64 a1_2, .int .i64 a1_3, .slice A1_4 l1_4.length c1_4]] w fun e w' => e = .returned (.bool r) ∧ Below w.heap.size w w' := by
  have hu24 := Try.underlying24
  have hu89 := Try.underlying89
  have HR0_4 := Aside0.mk hr0_4
  have HC0_4 := Aside0.mk hc0_4
  clear hr0_4 hc0_4
  have HR1_4 := Aside0.mk hr1_4
  have HC1_4 := Aside0.mk hc1_4
  clear hr1_4 hc1_4
  have HB := Aside0.mk (Below.refl w.heap.size w)
  have H : (if a0_0.toList = a1_0.toList then (if a0_1 = a1_1 then (if a0_2 = a1_2 then (if a0_3 = a1_3 then (prolixref18_Same.j0 k ((l0_4.length : Int) != (l1_4.length : Int)) a0_0 a0_1 a0_2 a0_3 l0_4 a1_0 a1_1 a1_2 a1_3 l1_4) else (prolixref18_Same.j0 k true a0_0 a0_1 a0_2 a0_3 l0_4 a1_0 a1_1 a1_2 a1_3 l1_4)) else (prolixref18_Same.j0 k true a0_0 a0_1 a0_2 a0_3 l0_4 a1_0 a1_1 a1_2 a1_3 l1_4)) else (prolixref18_Same.j0 k true a0_0 a0_1 a0_2 a0_3 l0_4 a1_0 a1_1 a1_2 a1_3 l1_4)) else (prolixref18_Same.j0 k true a0_0 a0_1 a0_2 a0_3 l0_4 a1_0 a1_1 a1_2 a1_3 l1_4)) = some r := h
  clear h
  have HC3 := Aside0.mk H
  clear H
  go_enter Try.func21, Try.ntmps21
  go_upto_region 1 with (first | ((with_reducible refine gate_dst (N := 2) rfl ?_); (try (refine gate_guard (by rfl) ?_; dsimp only)); refine box_event ?hg (N := 2) ?hd (cs := #[.string a0_0, .int .i64 a0_1, .int .i64 a0_2, .int .i64 a0_3, .slice A0_4 l0_4.length c0_4]) (t := 24) ?hr ?_; (case hd => rfl); (case hg => rfl); (case hr => first | (go_simp; done) | (go_simp; rfl)); intro gb117 hg w4 hbox hb; have n0_ := Aside0.mk (below_step (by repeat (first | (with_reducible first | exact HB.out | apply below_alloc | apply pw_below_drewN | apply below_drew1) | exact HB.out)) hb); have n1_ := Aside0.mk (hbox); have n2_ := Aside0.mk ((by rw [hg]; exact (below_size (by repeat (first | (with_reducible first | exact HB.out | apply below_alloc | apply pw_below_drewN | apply below_drew1) | exact HB.out))) : w.heap.size ≤ gb117)); have n3_ := Aside0.mk ((by rw [hg]; exact (below_size (by repeat (first | (with_reducible first | exact HB.out | apply below_alloc | apply pw_below_drewN | apply below_drew1) | exact HB.out))) : w.heap.size ≤ gb117)); clear HB; have HB := n0_; have BK117 := n1_; have GW117 := n2_; have GE117 := n3_; clear n0_ n1_ n2_ n3_; clear hb hbox hg) | ((with_reducible refine gate_dst (N := 3) rfl ?_); (try (refine gate_guard (by rfl) ?_; dsimp only)); refine box_event ?hg (N := 3) ?hd (cs := #[.string a1_0, .int .i64 a1_1, .int .i64 a1_2, .int .i64 a1_3, .slice A1_4 l1_4.length c1_4]) (t := 24) ?hr ?_; (case hd => rfl); (case hg => rfl); (case hr => first | (go_simp; done) | (go_simp; rfl)); intro gb118 hg w5 hbox hb; have n0_ := Aside0.mk (blk_below (g := gb117) (o := .cells #[.string a0_0, .int .i64 a0_1, .int .i64 a0_2, .int .i64 a0_3, .slice A0_4 l0_4.length c0_4] 24 (0, 0)) (by (with_reducible repeat (first | refine blk_drewN ?_ _ | refine blk_drew ?_ | refine blk_alloc ?_ _)); exact BK117.out) hb); have n1_ := Aside0.mk (below_step (by repeat (first | (with_reducible first | exact HB.out | apply below_alloc | apply pw_below_drewN | apply below_drew1 | refine below_set ?_ GE117.out) | exact HB.out)) hb); have n2_ := Aside0.mk (hbox); have n3_ := Aside0.mk ((by rw [hg]; exact (below_size (by repeat (first | (with_reducible first | exact HB.out | apply below_alloc | apply pw_below_drewN | apply below_drew1 | refine below_set ?_ GE117.out) | exact HB.out))) : w.heap.size ≤ gb118)); have n4_ := Aside0.mk ((by rw [hg]; exact (below_size (by repeat (first | (with_reducible first | exact HB.out | apply below_alloc | apply pw_below_drewN | apply below_drew1 | refine below_set ?_ GE117.out) | exact HB.out))) : w.heap.size ≤ gb118)); have n5_ := Aside0.mk ((by rw [hg]; exact Nat.ne_of_lt (blk_lt (g := gb117) (o := .cells #[.string a0_0, .int .i64 a0_1, .int .i64 a0_2, .int .i64 a0_3, .slice A0_4 l0_4.length c0_4] 24 (0, 0)) (by (with_reducible repeat (first | refine blk_drewN ?_ _ | refine blk_drew ?_ | refine blk_alloc ?_ _)); exact BK117.out)) : gb117 ≠ gb118)); have n6_ := Aside0.mk ((by rw [hg]; exact Nat.ne_of_gt (blk_lt (g := gb117) (o := .cells #[.string a0_0, .int .i64 a0_1, .int .i64 a0_2, .int .i64 a0_3, .slice A0_4 l0_4.length c0_4] 24 (0, 0)) (by (with_reducible repeat (first | refine blk_drewN ?_ _ | refine blk_drew ?_ | refine blk_alloc ?_ _)); exact BK117.out)) : gb118 ≠ gb117)); clear BK117; clear HB; have BK117 := n0_; have HB := n1_; have BK118 := n2_; have GW118 := n3_; have GE118 := n4_; have NB117_118 := n5_; have NB118_117 := n6_; clear n0_ n1_ n2_ n3_ n4_ n5_ n6_; clear hb hbox hg))
  repeat (go_quiet (first | ((with_reducible refine gate_dst (N := 2) rfl ?_); (try (refine gate_guard (by rfl) ?_; dsimp only)); refine box_event ?hg (N := 2) ?hd (cs := #[.string a0_0, .int .i64 a0_1, .int .i64 a0_2, .int .i64 a0_3, .slice A0_4 l0_4.length c0_4]) (t := 24) ?hr ?_; (case hd => rfl); (case hg => rfl); (case hr => first | (go_simp; done) | (go_simp; rfl)); intro gb117 hg w4 hbox hb; have n0_ := Aside0.mk (below_step (by repeat (first | (with_reducible first | exact HB.out | apply below_alloc | apply pw_below_drewN | apply below_drew1) | exact HB.out)) hb); have n1_ := Aside0.mk (hbox); have n2_ := Aside0.mk ((by rw [hg]; exact (below_size (by repeat (first | (with_reducible first | exact HB.out | apply below_alloc | apply pw_below_drewN | apply below_drew1) | exact HB.out))) : w.heap.size ≤ gb117)); have n3_ := Aside0.mk ((by rw [hg]; exact (below_size (by repeat (first | (with_reducible first | exact HB.out | apply below_alloc | apply pw_below_drewN | apply below_drew1) | exact HB.out))) : w.heap.size ≤ gb117)); clear HB; have HB := n0_; have BK117 := n1_; have GW117 := n2_; have GE117 := n3_; clear n0_ n1_ n2_ n3_; clear hb hbox hg) | ((with_reducible refine gate_dst (N := 3) rfl ?_); (try (refine gate_guard (by rfl) ?_; dsimp only)); refine box_event ?hg (N := 3) ?hd (cs := #[.string a1_0, .int .i64 a1_1, .int .i64 a1_2, .int .i64 a1_3, .slice A1_4 l1_4.length c1_4]) (t := 24) ?hr ?_; (case hd => rfl); (case hg => rfl); (case hr => first | (go_simp; done) | (go_simp; rfl)); intro gb118 hg w5 hbox hb; have n0_ := Aside0.mk (blk_below (g := gb117) (o := .cells #[.string a0_0, .int .i64 a0_1, .int .i64 a0_2, .int .i64 a0_3, .slice A0_4 l0_4.length c0_4] 24 (0, 0)) (by (with_reducible repeat (first | refine blk_drewN ?_ _ | refine blk_drew ?_ | refine blk_alloc ?_ _)); exact BK117.out) hb); have n1_ := Aside0.mk (below_step (by repeat (first | (with_reducible first | exact HB.out | apply below_alloc | apply pw_below_drewN | apply below_drew1 | refine below_set ?_ GE117.out) | exact HB.out)) hb); have n2_ := Aside0.mk (hbox); have n3_ := Aside0.mk ((by rw [hg]; exact (below_size (by repeat (first | (with_reducible first | exact HB.out | apply below_alloc | apply pw_below_drewN | apply below_drew1 | refine below_set ?_ GE117.out) | exact HB.out))) : w.heap.size ≤ gb118)); have n4_ := Aside0.mk ((by rw [hg]; exact (below_size (by repeat (first | (with_reducible first | exact HB.out | apply below_alloc | apply pw_below_drewN | apply below_drew1 | refine below_set ?_ GE117.out) | exact HB.out))) : w.heap.size ≤ gb118)); have n5_ := Aside0.mk ((by rw [hg]; exact Nat.ne_of_lt (blk_lt (g := gb117) (o := .cells #[.string a0_0, .int .i64 a0_1, .int .i64 a0_2, .int .i64 a0_3, .slice A0_4 l0_4.length c0_4] 24 (0, 0)) (by (with_reducible repeat (first | refine blk_drewN ?_ _ | refine blk_drew ?_ | refine blk_alloc ?_ _)); exact BK117.out)) : gb117 ≠ gb118)); have n6_ := Aside0.mk ((by rw [hg]; exact Nat.ne_of_gt (blk_lt (g := gb117) (o := .cells #[.string a0_0, .int .i64 a0_1, .int .i64 a0_2, .int .i64 a0_3, .slice A0_4 l0_4.length c0_4] 24 (0, 0)) (by (with_reducible repeat (first | refine blk_drewN ?_ _ | refine blk_drew ?_ | refine blk_alloc ?_ _)); exact BK117.out)) : gb118 ≠ gb117)); clear BK117; clear HB; have BK117 := n0_; have HB := n1_; have BK118 := n2_; have GW118 := n3_; have GE118 := n4_; have NB117_118 := n5_; have NB118_117 := n6_; clear n0_ n1_ n2_ n3_ n4_ n5_ n6_; clear hb hbox hg)); go_upto_region 1 with (first | ((with_reducible refine gate_dst (N := 2) rfl ?_); (try (refine gate_guard (by rfl) ?_; dsimp only)); refine box_event ?hg (N := 2) ?hd (cs := #[.string a0_0, .int .i64 a0_1, .int .i64 a0_2, .int .i64 a0_3, .slice A0_4 l0_4.length c0_4]) (t := 24) ?hr ?_; (case hd => rfl); (case hg => rfl); (case hr => first | (go_simp; done) | (go_simp; rfl)); intro gb117 hg w4 hbox hb; have n0_ := Aside0.mk (below_step (by repeat (first | (with_reducible first | exact HB.out | apply below_alloc | apply pw_below_drewN | apply below_drew1) | exact HB.out)) hb); have n1_ := Aside0.mk (hbox); have n2_ := Aside0.mk ((by rw [hg]; exact (below_size (by repeat (first | (with_reducible first | exact HB.out | apply below_alloc | apply pw_below_drewN | apply below_drew1) | exact HB.out))) : w.heap.size ≤ gb117)); have n3_ := Aside0.mk ((by rw [hg]; exact (below_size (by repeat (first | (with_reducible first | exact HB.out | apply below_alloc | apply pw_below_drewN | apply below_drew1) | exact HB.out))) : w.heap.size ≤ gb117)); clear HB; have HB := n0_; have BK117 := n1_; have GW117 := n2_; have GE117 := n3_; clear n0_ n1_ n2_ n3_; clear hb hbox hg) | ((with_reducible refine gate_dst (N := 3) rfl ?_); (try (refine gate_guard (by rfl) ?_; dsimp only)); refine box_event ?hg (N := 3) ?hd (cs := #[.string a1_0, .int .i64 a1_1, .int .i64 a1_2, .int .i64 a1_3, .slice A1_4 l1_4.length c1_4]) (t := 24) ?hr ?_; (case hd => rfl); (case hg => rfl); (case hr => first | (go_simp; done) | (go_simp; rfl)); intro gb118 hg w5 hbox hb; have n0_ := Aside0.mk (blk_below (g := gb117) (o := .cells #[.string a0_0, .int .i64 a0_1, .int .i64 a0_2, .int .i64 a0_3, .slice A0_4 l0_4.length c0_4] 24 (0, 0)) (by (with_reducible repeat (first | refine blk_drewN ?_ _ | refine blk_drew ?_ | refine blk_alloc ?_ _)); exact BK117.out) hb); have n1_ := Aside0.mk (below_step (by repeat (first | (with_reducible first | exact HB.out | apply below_alloc | apply pw_below_drewN | apply below_drew1 | refine below_set ?_ GE117.out) | exact HB.out)) hb); have n2_ := Aside0.mk (hbox); have n3_ := Aside0.mk ((by rw [hg]; exact (below_size (by repeat (first | (with_reducible first | exact HB.out | apply below_alloc | apply pw_below_drewN | apply below_drew1 | refine below_set ?_ GE117.out) | exact HB.out))) : w.heap.size ≤ gb118)); have n4_ := Aside0.mk ((by rw [hg]; exact (below_size (by repeat (first | (with_reducible first | exact HB.out | apply below_alloc | apply pw_below_drewN | apply below_drew1 | refine below_set ?_ GE117.out) | exact HB.out))) : w.heap.size ≤ gb118)); have n5_ := Aside0.mk ((by rw [hg]; exact Nat.ne_of_lt (blk_lt (g := gb117) (o := .cells #[.string a0_0, .int .i64 a0_1, .int .i64 a0_2, .int .i64 a0_3, .slice A0_4 l0_4.length c0_4] 24 (0, 0)) (by (with_reducible repeat (first | refine blk_drewN ?_ _ | refine blk_drew ?_ | refine blk_alloc ?_ _)); exact BK117.out)) : gb117 ≠ gb118)); have n6_ := Aside0.mk ((by rw [hg]; exact Nat.ne_of_gt (blk_lt (g := gb117) (o := .cells #[.string a0_0, .int .i64 a0_1, .int .i64 a0_2, .int .i64 a0_3, .slice A0_4 l0_4.length c0_4] 24 (0, 0)) (by (with_reducible repeat (first | refine blk_drewN ?_ _ | refine blk_drew ?_ | refine blk_alloc ?_ _)); exact BK117.out)) : gb118 ≠ gb117)); clear BK117; clear HB; have BK117 := n0_; have HB := n1_; have BK118 := n2_; have GW118 := n3_; have GE118 := n4_; have NB117_118 := n5_; have NB118_117 := n6_; clear n0_ n1_ n2_ n3_ n4_ n5_ n6_; clear hb hbox hg)))
  (try simp only [Act.put, List.setIfInBounds_toArray, List.set_cons_zero, List.set_cons_succ])
  go_cut [40] (fun v40 wc => ∃ (kq : Nat) (x40_2 : Bool), v40 = .bool x40_2 ∧ Aside0 (prolixref18_Same.j0 kq x40_2 a0_0 a0_1 a0_2 a0_3 l0_4 a1_0 a1_1 a1_2 a1_3 l1_4 = some r) ∧ Aside0 (kq ≤ k) ∧ Aside0 (wc.heap[gb117]? = some (.cells #[.string a0_0, .int .i64 a0_1, .int .i64 a0_2, .int .i64 a0_3, (.slice A0_4 l0_4.length c0_4)] 24 (0, 0))) ∧ Aside0 (wc.heap[gb118]? = some (.cells #[.string a1_0, .int .i64 a1_1, .int .i64 a1_2, .int .i64 a1_3, (.slice A1_4 l1_4.length c1_4)] 24 (0, 0))) ∧ Aside0 (Below w.heap.size w wc))
  case first =>
    have H := HC3.out
    clear HC3
    by_cases c6 : a0_0.toList = a1_0.toList
    · rw [if_pos c6] at H
      have c6b0 : (a0_0.toList == a1_0.toList) = true := beq_iff_eq.mpr c6
      have c6b1 : (a0_0.toList != a1_0.toList) = false := bne_eq_false_iff_eq.mpr c6
      clear c6
      (first | rw [c6b0] | (simp only [i64_w, i32_w]; rw [c6b0]) | skip)
      by_cases c7 : a0_1 = a1_1
      · rw [if_pos c7] at H
        have c7b0 : (a0_1 == a1_1) = true := beq_iff_eq.mpr c7
        have c7b1 : (a0_1 != a1_1) = false := bne_eq_false_iff_eq.mpr c7
        clear c7
        by_cases c8 : a0_2 = a1_2
        · rw [if_pos c8] at H
          have c8b0 : (a0_2 == a1_2) = true := beq_iff_eq.mpr c8
          have c8b1 : (a0_2 != a1_2) = false := bne_eq_false_iff_eq.mpr c8
          clear c8
          by_cases c9 : a0_3 = a1_3
          · rw [if_pos c9] at H
            have c9b0 : (a0_3 == a1_3) = true := beq_iff_eq.mpr c9
            have c9b1 : (a0_3 != a1_3) = false := bne_eq_false_iff_eq.mpr c9
            clear c9
            have H' := Aside0.mk H
            clear H
            have hnb10 := NB117_118.out
            have hnc10 := NB118_117.out
            have hcz11_0 : w5.cell? ⟨gb117, 0, none⟩ = some (.string a0_0) := (blk_cell BK117.out 0).trans rfl
            have hcz11_1 : w5.cell? ⟨gb117, 1, none⟩ = some (.int .i64 a0_1) := (blk_cell BK117.out 1).trans rfl
            have hcz11_2 : w5.cell? ⟨gb117, 2, none⟩ = some (.int .i64 a0_2) := (blk_cell BK117.out 2).trans rfl
            have hcz11_3 : w5.cell? ⟨gb117, 3, none⟩ = some (.int .i64 a0_3) := (blk_cell BK117.out 3).trans rfl
            have hcz11_4 : w5.cell? ⟨gb117, 4, none⟩ = some (.slice A0_4 l0_4.length c0_4) := (blk_cell BK117.out 4).trans rfl
            have hfz11_0 := blk_frozen BK117.out 0
            have hfz11_1 := blk_frozen BK117.out 1
            have hfz11_2 := blk_frozen BK117.out 2
            have hfz11_3 := blk_frozen BK117.out 3
            have hfz11_4 := blk_frozen BK117.out 4
            have hcz12_0 : w5.cell? ⟨gb118, 0, none⟩ = some (.string a1_0) := (blk_cell BK118.out 0).trans rfl
            have hcz12_1 : w5.cell? ⟨gb118, 1, none⟩ = some (.int .i64 a1_1) := (blk_cell BK118.out 1).trans rfl
            have hcz12_2 : w5.cell? ⟨gb118, 2, none⟩ = some (.int .i64 a1_2) := (blk_cell BK118.out 2).trans rfl
            have hcz12_3 : w5.cell? ⟨gb118, 3, none⟩ = some (.int .i64 a1_3) := (blk_cell BK118.out 3).trans rfl
            have hcz12_4 : w5.cell? ⟨gb118, 4, none⟩ = some (.slice A1_4 l1_4.length c1_4) := (blk_cell BK118.out 4).trans rfl
            have hfz12_0 := blk_frozen BK118.out 0
            have hfz12_1 := blk_frozen BK118.out 1
            have hfz12_2 := blk_frozen BK118.out 2
            have hfz12_3 := blk_frozen BK118.out 3
            have hfz12_4 := blk_frozen BK118.out 4
            go_wp2
            repeat (go_quiet (fail); try go_wp2)
            go_meet
            case rel => exact ⟨_, (((l0_4.length : Int) != (l1_4.length : Int))), (by first | rfl | (simp; done) | (simp [*]; done)), H', ⟨by first | omega | exact Nat.le_refl _⟩, ⟨by (with_reducible repeat (first | refine blk_drewN ?_ _ | refine blk_drew ?_ | refine blk_alloc ?_ _)); exact BK117.out⟩, ⟨by (with_reducible repeat (first | refine blk_drewN ?_ _ | refine blk_drew ?_ | refine blk_alloc ?_ _)); exact BK118.out⟩, ⟨by repeat (first | (with_reducible first | exact HB.out | apply below_alloc | apply pw_below_drewN | apply below_drew1 | refine below_set ?_ GE117.out | refine below_set ?_ GE118.out) | exact HB.out)⟩⟩
          · rw [if_neg c9] at H
            have c9b0 : (a0_3 == a1_3) = false := beq_eq_false_iff_ne.mpr c9
            have c9b1 : (a0_3 != a1_3) = true := bne_iff_ne.mpr c9
            have H' := Aside0.mk H
            clear H
            have hnb13 := NB117_118.out
            have hnc13 := NB118_117.out
            have hcz14_0 : w5.cell? ⟨gb117, 0, none⟩ = some (.string a0_0) := (blk_cell BK117.out 0).trans rfl
            have hcz14_1 : w5.cell? ⟨gb117, 1, none⟩ = some (.int .i64 a0_1) := (blk_cell BK117.out 1).trans rfl
            have hcz14_2 : w5.cell? ⟨gb117, 2, none⟩ = some (.int .i64 a0_2) := (blk_cell BK117.out 2).trans rfl
            have hcz14_3 : w5.cell? ⟨gb117, 3, none⟩ = some (.int .i64 a0_3) := (blk_cell BK117.out 3).trans rfl
            have hcz14_4 : w5.cell? ⟨gb117, 4, none⟩ = some (.slice A0_4 l0_4.length c0_4) := (blk_cell BK117.out 4).trans rfl
            have hfz14_0 := blk_frozen BK117.out 0
            have hfz14_1 := blk_frozen BK117.out 1
            have hfz14_2 := blk_frozen BK117.out 2
            have hfz14_3 := blk_frozen BK117.out 3
            have hfz14_4 := blk_frozen BK117.out 4
            have hcz15_0 : w5.cell? ⟨gb118, 0, none⟩ = some (.string a1_0) := (blk_cell BK118.out 0).trans rfl
            have hcz15_1 : w5.cell? ⟨gb118, 1, none⟩ = some (.int .i64 a1_1) := (blk_cell BK118.out 1).trans rfl
            have hcz15_2 : w5.cell? ⟨gb118, 2, none⟩ = some (.int .i64 a1_2) := (blk_cell BK118.out 2).trans rfl
            have hcz15_3 : w5.cell? ⟨gb118, 3, none⟩ = some (.int .i64 a1_3) := (blk_cell BK118.out 3).trans rfl
            have hcz15_4 : w5.cell? ⟨gb118, 4, none⟩ = some (.slice A1_4 l1_4.length c1_4) := (blk_cell BK118.out 4).trans rfl
            have hfz15_0 := blk_frozen BK118.out 0
            have hfz15_1 := blk_frozen BK118.out 1
            have hfz15_2 := blk_frozen BK118.out 2
            have hfz15_3 := blk_frozen BK118.out 3
            have hfz15_4 := blk_frozen BK118.out 4
            go_wp2
            repeat (go_quiet (fail); try go_wp2)
            go_meet
            case rel => exact ⟨_, (true), (by first | rfl | (simp; done) | (simp [*]; done)), H', ⟨by first | omega | exact Nat.le_refl _⟩, ⟨by (with_reducible repeat (first | refine blk_drewN ?_ _ | refine blk_drew ?_ | refine blk_alloc ?_ _)); exact BK117.out⟩, ⟨by (with_reducible repeat (first | refine blk_drewN ?_ _ | refine blk_drew ?_ | refine blk_alloc ?_ _)); exact BK118.out⟩, ⟨by repeat (first | (with_reducible first | exact HB.out | apply below_alloc | apply pw_below_drewN | apply below_drew1 | refine below_set ?_ GE117.out | refine below_set ?_ GE118.out) | exact HB.out)⟩⟩
        · rw [if_neg c8] at H
          have c8b0 : (a0_2 == a1_2) = false := beq_eq_false_iff_ne.mpr c8
          have c8b1 : (a0_2 != a1_2) = true := bne_iff_ne.mpr c8
          have H' := Aside0.mk H
          clear H
          have hnb16 := NB117_118.out
          have hnc16 := NB118_117.out
          have hcz17_0 : w5.cell? ⟨gb117, 0, none⟩ = some (.string a0_0) := (blk_cell BK117.out 0).trans rfl
          have hcz17_1 : w5.cell? ⟨gb117, 1, none⟩ = some (.int .i64 a0_1) := (blk_cell BK117.out 1).trans rfl
          have hcz17_2 : w5.cell? ⟨gb117, 2, none⟩ = some (.int .i64 a0_2) := (blk_cell BK117.out 2).trans rfl
          have hcz17_3 : w5.cell? ⟨gb117, 3, none⟩ = some (.int .i64 a0_3) := (blk_cell BK117.out 3).trans rfl
          have hcz17_4 : w5.cell? ⟨gb117, 4, none⟩ = some (.slice A0_4 l0_4.length c0_4) := (blk_cell BK117.out 4).trans rfl
          have hfz17_0 := blk_frozen BK117.out 0
          have hfz17_1 := blk_frozen BK117.out 1
          have hfz17_2 := blk_frozen BK117.out 2
          have hfz17_3 := blk_frozen BK117.out 3
          have hfz17_4 := blk_frozen BK117.out 4
          have hcz18_0 : w5.cell? ⟨gb118, 0, none⟩ = some (.string a1_0) := (blk_cell BK118.out 0).trans rfl
          have hcz18_1 : w5.cell? ⟨gb118, 1, none⟩ = some (.int .i64 a1_1) := (blk_cell BK118.out 1).trans rfl
          have hcz18_2 : w5.cell? ⟨gb118, 2, none⟩ = some (.int .i64 a1_2) := (blk_cell BK118.out 2).trans rfl
          have hcz18_3 : w5.cell? ⟨gb118, 3, none⟩ = some (.int .i64 a1_3) := (blk_cell BK118.out 3).trans rfl
          have hcz18_4 : w5.cell? ⟨gb118, 4, none⟩ = some (.slice A1_4 l1_4.length c1_4) := (blk_cell BK118.out 4).trans rfl
          have hfz18_0 := blk_frozen BK118.out 0
          have hfz18_1 := blk_frozen BK118.out 1
          have hfz18_2 := blk_frozen BK118.out 2
          have hfz18_3 := blk_frozen BK118.out 3
          have hfz18_4 := blk_frozen BK118.out 4
          go_wp2
          repeat (go_quiet (fail); try go_wp2)
          go_meet
          case rel => exact ⟨_, (true), (by first | rfl | (simp; done) | (simp [*]; done)), H', ⟨by first | omega | exact Nat.le_refl _⟩, ⟨by (with_reducible repeat (first | refine blk_drewN ?_ _ | refine blk_drew ?_ | refine blk_alloc ?_ _)); exact BK117.out⟩, ⟨by (with_reducible repeat (first | refine blk_drewN ?_ _ | refine blk_drew ?_ | refine blk_alloc ?_ _)); exact BK118.out⟩, ⟨by repeat (first | (with_reducible first | exact HB.out | apply below_alloc | apply pw_below_drewN | apply below_drew1 | refine below_set ?_ GE117.out | refine below_set ?_ GE118.out) | exact HB.out)⟩⟩
      · rw [if_neg c7] at H
        have c7b0 : (a0_1 == a1_1) = false := beq_eq_false_iff_ne.mpr c7
        have c7b1 : (a0_1 != a1_1) = true := bne_iff_ne.mpr c7
        have H' := Aside0.mk H
        clear H
        have hnb19 := NB117_118.out
        have hnc19 := NB118_117.out
        have hcz20_0 : w5.cell? ⟨gb117, 0, none⟩ = some (.string a0_0) := (blk_cell BK117.out 0).trans rfl
        have hcz20_1 : w5.cell? ⟨gb117, 1, none⟩ = some (.int .i64 a0_1) := (blk_cell BK117.out 1).trans rfl
        have hcz20_2 : w5.cell? ⟨gb117, 2, none⟩ = some (.int .i64 a0_2) := (blk_cell BK117.out 2).trans rfl
        have hcz20_3 : w5.cell? ⟨gb117, 3, none⟩ = some (.int .i64 a0_3) := (blk_cell BK117.out 3).trans rfl
        have hcz20_4 : w5.cell? ⟨gb117, 4, none⟩ = some (.slice A0_4 l0_4.length c0_4) := (blk_cell BK117.out 4).trans rfl
        have hfz20_0 := blk_frozen BK117.out 0
        have hfz20_1 := blk_frozen BK117.out 1
        have hfz20_2 := blk_frozen BK117.out 2
        have hfz20_3 := blk_frozen BK117.out 3
        have hfz20_4 := blk_frozen BK117.out 4
        have hcz21_0 : w5.cell? ⟨gb118, 0, none⟩ = some (.string a1_0) := (blk_cell BK118.out 0).trans rfl
        have hcz21_1 : w5.cell? ⟨gb118, 1, none⟩ = some (.int .i64 a1_1) := (blk_cell BK118.out 1).trans rfl
        have hcz21_2 : w5.cell? ⟨gb118, 2, none⟩ = some (.int .i64 a1_2) := (blk_cell BK118.out 2).trans rfl
        have hcz21_3 : w5.cell? ⟨gb118, 3, none⟩ = some (.int .i64 a1_3) := (blk_cell BK118.out 3).trans rfl
        have hcz21_4 : w5.cell? ⟨gb118, 4, none⟩ = some (.slice A1_4 l1_4.length c1_4) := (blk_cell BK118.out 4).trans rfl
        have hfz21_0 := blk_frozen BK118.out 0
        have hfz21_1 := blk_frozen BK118.out 1
        have hfz21_2 := blk_frozen BK118.out 2
        have hfz21_3 := blk_frozen BK118.out 3
        have hfz21_4 := blk_frozen BK118.out 4
        go_wp2
        repeat (go_quiet (fail); try go_wp2)
        go_meet
        case rel => exact ⟨_, (true), (by first | rfl | (simp; done) | (simp [*]; done)), H', ⟨by first | omega | exact Nat.le_refl _⟩, ⟨by (with_reducible repeat (first | refine blk_drewN ?_ _ | refine blk_drew ?_ | refine blk_alloc ?_ _)); exact BK117.out⟩, ⟨by (with_reducible repeat (first | refine blk_drewN ?_ _ | refine blk_drew ?_ | refine blk_alloc ?_ _)); exact BK118.out⟩, ⟨by repeat (first | (with_reducible first | exact HB.out | apply below_alloc | apply pw_below_drewN | apply below_drew1 | refine below_set ?_ GE117.out | refine below_set ?_ GE118.out) | exact HB.out)⟩⟩
    · rw [if_neg c6] at H
      have c6b0 : (a0_0.toList == a1_0.toList) = false := beq_eq_false_iff_ne.mpr c6
      have c6b1 : (a0_0.toList != a1_0.toList) = true := bne_iff_ne.mpr c6
      (first | rw [c6b0] | (simp only [i64_w, i32_w]; rw [c6b0]) | skip)
      have H' := Aside0.mk H
      clear H
      have hnb22 := NB117_118.out
      have hnc22 := NB118_117.out
      have hcz23_0 : w5.cell? ⟨gb117, 0, none⟩ = some (.string a0_0) := (blk_cell BK117.out 0).trans rfl
      have hcz23_1 : w5.cell? ⟨gb117, 1, none⟩ = some (.int .i64 a0_1) := (blk_cell BK117.out 1).trans rfl
      have hcz23_2 : w5.cell? ⟨gb117, 2, none⟩ = some (.int .i64 a0_2) := (blk_cell BK117.out 2).trans rfl
      have hcz23_3 : w5.cell? ⟨gb117, 3, none⟩ = some (.int .i64 a0_3) := (blk_cell BK117.out 3).trans rfl
      have hcz23_4 : w5.cell? ⟨gb117, 4, none⟩ = some (.slice A0_4 l0_4.length c0_4) := (blk_cell BK117.out 4).trans rfl
      have hfz23_0 := blk_frozen BK117.out 0
      have hfz23_1 := blk_frozen BK117.out 1
      have hfz23_2 := blk_frozen BK117.out 2
      have hfz23_3 := blk_frozen BK117.out 3
      have hfz23_4 := blk_frozen BK117.out 4
      have hcz24_0 : w5.cell? ⟨gb118, 0, none⟩ = some (.string a1_0) := (blk_cell BK118.out 0).trans rfl
      have hcz24_1 : w5.cell? ⟨gb118, 1, none⟩ = some (.int .i64 a1_1) := (blk_cell BK118.out 1).trans rfl
      have hcz24_2 : w5.cell? ⟨gb118, 2, none⟩ = some (.int .i64 a1_2) := (blk_cell BK118.out 2).trans rfl
      have hcz24_3 : w5.cell? ⟨gb118, 3, none⟩ = some (.int .i64 a1_3) := (blk_cell BK118.out 3).trans rfl
      have hcz24_4 : w5.cell? ⟨gb118, 4, none⟩ = some (.slice A1_4 l1_4.length c1_4) := (blk_cell BK118.out 4).trans rfl
      have hfz24_0 := blk_frozen BK118.out 0
      have hfz24_1 := blk_frozen BK118.out 1
      have hfz24_2 := blk_frozen BK118.out 2
      have hfz24_3 := blk_frozen BK118.out 3
      have hfz24_4 := blk_frozen BK118.out 4
      go_wp2
      repeat (go_quiet (fail); try go_wp2)
      go_meet
      case rel => exact ⟨_, (true), (by first | rfl | (simp; done) | (simp [*]; done)), H', ⟨by first | omega | exact Nat.le_refl _⟩, ⟨by (with_reducible repeat (first | refine blk_drewN ?_ _ | refine blk_drew ?_ | refine blk_alloc ?_ _)); exact BK117.out⟩, ⟨by (with_reducible repeat (first | refine blk_drewN ?_ _ | refine blk_drew ?_ | refine blk_alloc ?_ _)); exact BK118.out⟩, ⟨by repeat (first | (with_reducible first | exact HB.out | apply below_alloc | apply pw_below_drewN | apply below_drew1 | refine below_set ?_ GE117.out | refine below_set ?_ GE118.out) | exact HB.out)⟩⟩
  case rest =>
    clear HC3
    try clear c1
    try clear c2
    try clear p2
    try clear c6
    try clear c6b0
    try clear c6b1
    try clear c7
    try clear c7b0
    try clear c7b1
    try clear c8
    try clear c8b0
    try clear c8b1
    try clear c9
    try clear c9b0
    try clear c9b1
    try clear c10
    try clear c13
    try clear c16
    try clear c19
    try clear c21
    try clear c22
    try clear hcz11_0
    try clear hcz11_1
    try clear hcz11_2
    try clear hcz11_3
    try clear hcz11_4
    try clear hcz12_0
    try clear hcz12_1
    try clear hcz12_2
    try clear hcz12_3
    try clear hcz12_4
    try clear hcz14_0
    try clear hcz14_1
    try clear hcz14_2
    try clear hcz14_3
    try clear hcz14_4
    try clear hcz15_0
    try clear hcz15_1
    try clear hcz15_2
    try clear hcz15_3
    try clear hcz15_4
    try clear hcz17_0
    try clear hcz17_1
    try clear hcz17_2
    try clear hcz17_3
    try clear hcz17_4
    try clear hcz18_0
    try clear hcz18_1
    try clear hcz18_2
    try clear hcz18_3
    try clear hcz18_4
    try clear hcz20_0
    try clear hcz20_1
    try clear hcz20_2
    try clear hcz20_3
    try clear hcz20_4
    try clear hcz21_0
    try clear hcz21_1
    try clear hcz21_2
    try clear hcz21_3
    try clear hcz21_4
    try clear hcz23_0
    try clear hcz23_1
    try clear hcz23_2
    try clear hcz23_3
    try clear hcz23_4
    try clear hcz24_0
    try clear hcz24_1
    try clear hcz24_2
    try clear hcz24_3
    try clear hcz24_4
    try clear hfz11_0
    try clear hfz11_1
    try clear hfz11_2
    try clear hfz11_3
    try clear hfz11_4
    try clear hfz12_0
    try clear hfz12_1
    try clear hfz12_2
    try clear hfz12_3
    try clear hfz12_4
    try clear hfz14_0
    try clear hfz14_1
    try clear hfz14_2
    try clear hfz14_3
    try clear hfz14_4
    try clear hfz15_0
    try clear hfz15_1
    try clear hfz15_2
    try clear hfz15_3
    try clear hfz15_4
    try clear hfz17_0
    try clear hfz17_1
    try clear hfz17_2
    try clear hfz17_3
    try clear hfz17_4
    try clear hfz18_0
    try clear hfz18_1
    try clear hfz18_2
    try clear hfz18_3
    try clear hfz18_4
    try clear hfz20_0
    try clear hfz20_1
    try clear hfz20_2
    try clear hfz20_3
    try clear hfz20_4
    try clear hfz21_0
    try clear hfz21_1
    try clear hfz21_2
    try clear hfz21_3
    try clear hfz21_4
    try clear hfz23_0
    try clear hfz23_1
    try clear hfz23_2
    try clear hfz23_3
    try clear hfz23_4
    try clear hfz24_0
    try clear hfz24_1
    try clear hfz24_2
    try clear hfz24_3
    try clear hfz24_4
    obtain ⟨kq, x40_2, rfl, HA, HJ2, BK117, BK118, HB⟩ := hcut
    cases kq with
    | zero => exact absurd HA.out (by simp [prolixref18_Same.j0])
    | succ kj2 =>
      have H := HA.out
      clear HA
      simp only [prolixref18_Same.j0] at H
      by_cases c25 : x40_2 = true
      · subst c25
        have H1 : (some false) = some r := by rw [if_pos rfl] at H; exact H
        clear H
        have H := H1
        clear H1
        obtain rfl := Option.some.inj H
        go_wp2
        repeat (go_quiet (fail); try go_wp2)
        go_ret
        exact ⟨by first | rfl | (simp [errW_none, errW_some] <;> rfl) | (simp [*, errW_none, errW_some] <;> rfl), by repeat (first | (with_reducible first | exact HB.out | apply below_alloc | apply pw_below_drewN | apply below_drew1 | refine below_set ?_ GE117.out | refine below_set ?_ GE118.out) | exact HB.out)⟩
      · replace c25 := Bool.eq_false_iff.mpr c25
        subst c25
        have H1 : (prolixref18_Same.l0 kj2 (l0_4.length : Int) 0 a0_0 a0_1 a0_2 a0_3 l0_4 a1_0 a1_1 a1_2 a1_3 l1_4) = some r := by rw [if_neg (show ¬ (false = true) by decide)] at H; exact H
        clear H
        have H := H1
        clear H1
        have H' := Aside0.mk H
        clear H
        have hnb26 := NB117_118.out
        have hnc26 := NB118_117.out
        have hcz27_0 : wc.cell? ⟨gb117, 0, none⟩ = some (.string a0_0) := (blk_cell BK117.out 0).trans rfl
        have hcz27_1 : wc.cell? ⟨gb117, 1, none⟩ = some (.int .i64 a0_1) := (blk_cell BK117.out 1).trans rfl
        have hcz27_2 : wc.cell? ⟨gb117, 2, none⟩ = some (.int .i64 a0_2) := (blk_cell BK117.out 2).trans rfl
        have hcz27_3 : wc.cell? ⟨gb117, 3, none⟩ = some (.int .i64 a0_3) := (blk_cell BK117.out 3).trans rfl
        have hcz27_4 : wc.cell? ⟨gb117, 4, none⟩ = some (.slice A0_4 l0_4.length c0_4) := (blk_cell BK117.out 4).trans rfl
        have hfz27_0 := blk_frozen BK117.out 0
        have hfz27_1 := blk_frozen BK117.out 1
        have hfz27_2 := blk_frozen BK117.out 2
        have hfz27_3 := blk_frozen BK117.out 3
        have hfz27_4 := blk_frozen BK117.out 4
        go_wp2
        repeat (go_quiet (fail); try go_wp2)
        go_loopg [44] kj2 (fun kq v44 w' => ∃ (x44_2 : Int), v44 = .int .i64 x44_2 ∧ Aside0 (prolixref18_Same.l0 kq (l0_4.length : Int) x44_2 a0_0 a0_1 a0_2 a0_3 l0_4 a1_0 a1_1 a1_2 a1_3 l1_4 = some r) ∧ Aside0 (kq ≤ kj2) ∧ Aside0 (w'.heap[gb117]? = some (.cells #[.string a0_0, .int .i64 a0_1, .int .i64 a0_2, .int .i64 a0_3, (.slice A0_4 l0_4.length c0_4)] 24 (0, 0))) ∧ Aside0 (w'.heap[gb118]? = some (.cells #[.string a1_0, .int .i64 a1_1, .int .i64 a1_2, .int .i64 a1_3, (.slice A1_4 l1_4.length c1_4)] 24 (0, 0))) ∧ Aside0 (Below w.heap.size w w'))
        case atStart => exact ⟨(0), (by first | rfl | (simp; done) | (simp [*]; done)), H', ⟨Nat.le_refl _⟩, ⟨by (with_reducible repeat (first | refine blk_drewN ?_ _ | refine blk_drew ?_ | refine blk_alloc ?_ _)); exact BK117.out⟩, ⟨by (with_reducible repeat (first | refine blk_drewN ?_ _ | refine blk_drew ?_ | refine blk_alloc ?_ _)); exact BK118.out⟩, ⟨by repeat (first | (with_reducible first | exact HB.out | apply below_alloc | apply pw_below_drewN | apply below_drew1 | refine below_set ?_ GE117.out | refine below_set ?_ GE118.out) | exact HB.out)⟩⟩
        case round =>
          clear H'
          try clear c1
          try clear c2
          try clear p2
          try clear c6
          try clear c6b0
          try clear c6b1
          try clear c7
          try clear c7b0
          try clear c7b1
          try clear c8
          try clear c8b0
          try clear c8b1
          try clear c9
          try clear c9b0
          try clear c9b1
          try clear c10
          try clear c13
          try clear c16
          try clear c19
          try clear c21
          try clear c22
          try clear c25
          try clear c26
          try clear hcz11_0
          try clear hcz11_1
          try clear hcz11_2
          try clear hcz11_3
          try clear hcz11_4
          try clear hcz12_0
          try clear hcz12_1
          try clear hcz12_2
          try clear hcz12_3
          try clear hcz12_4
          try clear hcz14_0
          try clear hcz14_1
          try clear hcz14_2
          try clear hcz14_3
          try clear hcz14_4
          try clear hcz15_0
          try clear hcz15_1
          try clear hcz15_2
          try clear hcz15_3
          try clear hcz15_4
          try clear hcz17_0
          try clear hcz17_1
          try clear hcz17_2
          try clear hcz17_3
          try clear hcz17_4
          try clear hcz18_0
          try clear hcz18_1
          try clear hcz18_2
          try clear hcz18_3
          try clear hcz18_4
          try clear hcz20_0
          try clear hcz20_1
          try clear hcz20_2
          try clear hcz20_3
          try clear hcz20_4
          try clear hcz21_0
          try clear hcz21_1
          try clear hcz21_2
          try clear hcz21_3
          try clear hcz21_4
          try clear hcz23_0
          try clear hcz23_1
          try clear hcz23_2
          try clear hcz23_3
          try clear hcz23_4
          try clear hcz24_0
          try clear hcz24_1
          try clear hcz24_2
          try clear hcz24_3
          try clear hcz24_4
          try clear hcz27_0
          try clear hcz27_1
          try clear hcz27_2
          try clear hcz27_3
          try clear hcz27_4
          try clear hfz11_0
          try clear hfz11_1
          try clear hfz11_2
          try clear hfz11_3
          try clear hfz11_4
          try clear hfz12_0
          try clear hfz12_1
          try clear hfz12_2
          try clear hfz12_3
          try clear hfz12_4
          try clear hfz14_0
          try clear hfz14_1
          try clear hfz14_2
          try clear hfz14_3
          try clear hfz14_4
          try clear hfz15_0
          try clear hfz15_1
          try clear hfz15_2
          try clear hfz15_3
          try clear hfz15_4
          try clear hfz17_0
          try clear hfz17_1
          try clear hfz17_2
          try clear hfz17_3
          try clear hfz17_4
          try clear hfz18_0
          try clear hfz18_1
          try clear hfz18_2
          try clear hfz18_3
          try clear hfz18_4
          try clear hfz20_0
          try clear hfz20_1
          try clear hfz20_2
          try clear hfz20_3
          try clear hfz20_4
          try clear hfz21_0
          try clear hfz21_1
          try clear hfz21_2
          try clear hfz21_3
          try clear hfz21_4
          try clear hfz23_0
          try clear hfz23_1
          try clear hfz23_2
          try clear hfz23_3
          try clear hfz23_4
          try clear hfz24_0
          try clear hfz24_1
          try clear hfz24_2
          try clear hfz24_3
          try clear hfz24_4
          try clear hfz27_0
          try clear hfz27_1
          try clear hfz27_2
          try clear hfz27_3
          try clear hfz27_4
          try clear p2
          obtain ⟨x44_2, rfl, HA, HK2, BK117, BK118, HB⟩ := hrel
          cases gk with
          | zero => exact absurd HA.out (by simp [prolixref18_Same.l0])
          | succ k2 =>
            have H := HA.out
            clear HA
            simp only [prolixref18_Same.l0] at H
            by_cases c28 : x44_2 < (l0_4.length : Int)
            · rw [if_pos c28] at H
              have c28b0 : decide (x44_2 < (l0_4.length : Int)) = true := decide_eq_true c28
              clear c28
              by_cases c29 : 0 ≤ x44_2
              · rw [if_pos c29] at H
                have c29b0 : decide (0 ≤ x44_2) = true := decide_eq_true c29
                clear c29
                by_cases c30 : x44_2 < (l0_4.length : Int)
                · rw [if_pos c30] at H
                  have c30b0 : decide (x44_2 < (l0_4.length : Int)) = true := decide_eq_true c30
                  clear c30
                  by_cases c31 : x44_2 < (l1_4.length : Int)
                  · rw [if_pos c31] at H
                    have c31b0 : decide (x44_2 < (l1_4.length : Int)) = true := decide_eq_true c31
                    clear c31
                    by_cases c32 : (!(((rd_T89 l0_4 x44_2).f0) == ((rd_T89 l1_4 x44_2).f0)) || (!(((rd_T89 l0_4 x44_2).f1) == ((rd_T89 l1_4 x44_2).f1)) || (!(((rd_T89 l0_4 x44_2).f2) == ((rd_T89 l1_4 x44_2).f2)) || (!((((rd_T89 l0_4 x44_2).f3).toList) == (((rd_T89 l1_4 x44_2).f3).toList)))))) = true
                    · rw [if_pos c32] at H
                      have c32b0 : (!(((rd_T89 l0_4 x44_2).f0) == ((rd_T89 l1_4 x44_2).f0)) || (!(((rd_T89 l0_4 x44_2).f1) == ((rd_T89 l1_4 x44_2).f1)) || (!(((rd_T89 l0_4 x44_2).f2) == ((rd_T89 l1_4 x44_2).f2)) || (!((((rd_T89 l0_4 x44_2).f3).toList) == (((rd_T89 l1_4 x44_2).f3).toList)))))) = true := c32
                      clear c32
                      obtain rfl := Option.some.inj H
                      have hnb33 := NB117_118.out
                      have hnc33 := NB118_117.out
                      have hcz34_0 : wr.cell? ⟨gb117, 0, none⟩ = some (.string a0_0) := (blk_cell BK117.out 0).trans rfl
                      have hcz34_1 : wr.cell? ⟨gb117, 1, none⟩ = some (.int .i64 a0_1) := (blk_cell BK117.out 1).trans rfl
                      have hcz34_2 : wr.cell? ⟨gb117, 2, none⟩ = some (.int .i64 a0_2) := (blk_cell BK117.out 2).trans rfl
                      have hcz34_3 : wr.cell? ⟨gb117, 3, none⟩ = some (.int .i64 a0_3) := (blk_cell BK117.out 3).trans rfl
                      have hcz34_4 : wr.cell? ⟨gb117, 4, none⟩ = some (.slice A0_4 l0_4.length c0_4) := (blk_cell BK117.out 4).trans rfl
                      have hfz34_0 := blk_frozen BK117.out 0
                      have hfz34_1 := blk_frozen BK117.out 1
                      have hfz34_2 := blk_frozen BK117.out 2
                      have hfz34_3 := blk_frozen BK117.out 3
                      have hfz34_4 := blk_frozen BK117.out 4
                      have p119 : 0 ≤ (x44_2 : Int) := of_decide_eq_true (by first | (with_reducible assumption) | assumption)
                      have q119 : x44_2 < (l0_4.length : Int) := of_decide_eq_true (by first | (with_reducible assumption) | assumption)
                      obtain ⟨ad119, e119, hx119_0, hx119_1, hx119_2, hx119_3⟩ := at_T89 HR0_4.out x44_2 p119 q119
                      cases e119
                      replace hx119_0 := (HB.out.cell (World.block_lt_of_cell? w _ hx119_0)).trans hx119_0
                      replace hx119_1 := (HB.out.cell (World.block_lt_of_cell? w _ hx119_1)).trans hx119_1
                      replace hx119_2 := (HB.out.cell (World.block_lt_of_cell? w _ hx119_2)).trans hx119_2
                      replace hx119_3 := (HB.out.cell (World.block_lt_of_cell? w _ hx119_3)).trans hx119_3
                      replace p119 := eq_true p119
                      replace q119 := eq_true q119
                      have hcz35_0 : wr.cell? ⟨gb118, 0, none⟩ = some (.string a1_0) := (blk_cell BK118.out 0).trans rfl
                      have hcz35_1 : wr.cell? ⟨gb118, 1, none⟩ = some (.int .i64 a1_1) := (blk_cell BK118.out 1).trans rfl
                      have hcz35_2 : wr.cell? ⟨gb118, 2, none⟩ = some (.int .i64 a1_2) := (blk_cell BK118.out 2).trans rfl
                      have hcz35_3 : wr.cell? ⟨gb118, 3, none⟩ = some (.int .i64 a1_3) := (blk_cell BK118.out 3).trans rfl
                      have hcz35_4 : wr.cell? ⟨gb118, 4, none⟩ = some (.slice A1_4 l1_4.length c1_4) := (blk_cell BK118.out 4).trans rfl
                      have hfz35_0 := blk_frozen BK118.out 0
                      have hfz35_1 := blk_frozen BK118.out 1
                      have hfz35_2 := blk_frozen BK118.out 2
                      have hfz35_3 := blk_frozen BK118.out 3
                      have hfz35_4 := blk_frozen BK118.out 4
                      have p120 : 0 ≤ (x44_2 : Int) := of_decide_eq_true (by first | (with_reducible assumption) | assumption)
                      have q120 : x44_2 < (l1_4.length : Int) := of_decide_eq_true (by first | (with_reducible assumption) | assumption)
                      obtain ⟨ad120, e120, hx120_0, hx120_1, hx120_2, hx120_3⟩ := at_T89 HR1_4.out x44_2 p120 q120
                      cases e120
                      replace hx120_0 := (HB.out.cell (World.block_lt_of_cell? w _ hx120_0)).trans hx120_0
                      replace hx120_1 := (HB.out.cell (World.block_lt_of_cell? w _ hx120_1)).trans hx120_1
                      replace hx120_2 := (HB.out.cell (World.block_lt_of_cell? w _ hx120_2)).trans hx120_2
                      replace hx120_3 := (HB.out.cell (World.block_lt_of_cell? w _ hx120_3)).trans hx120_3
                      replace p120 := eq_true p120
                      replace q120 := eq_true q120
                      go_wp2
                      repeat (go_quiet (fail); try go_wp2)
                      go_ret
                      exact ⟨by first | rfl | (simp [errW_none, errW_some] <;> rfl) | (simp [*, errW_none, errW_some] <;> rfl), by repeat (first | (with_reducible first | exact HB.out | apply below_alloc | apply pw_below_drewN | apply below_drew1 | refine below_set ?_ GE117.out | refine below_set ?_ GE118.out) | exact HB.out)⟩
                    · rw [if_neg c32] at H
                      have c32b0 : (!(((rd_T89 l0_4 x44_2).f0) == ((rd_T89 l1_4 x44_2).f0)) || (!(((rd_T89 l0_4 x44_2).f1) == ((rd_T89 l1_4 x44_2).f1)) || (!(((rd_T89 l0_4 x44_2).f2) == ((rd_T89 l1_4 x44_2).f2)) || (!((((rd_T89 l0_4 x44_2).f3).toList) == (((rd_T89 l1_4 x44_2).f3).toList)))))) = false := by simpa using c32
                      clear c32
                      have H' := Aside0.mk H
                      clear H
                      have hnb36 := NB117_118.out
                      have hnc36 := NB118_117.out
                      have hcz37_0 : wr.cell? ⟨gb117, 0, none⟩ = some (.string a0_0) := (blk_cell BK117.out 0).trans rfl
                      have hcz37_1 : wr.cell? ⟨gb117, 1, none⟩ = some (.int .i64 a0_1) := (blk_cell BK117.out 1).trans rfl
                      have hcz37_2 : wr.cell? ⟨gb117, 2, none⟩ = some (.int .i64 a0_2) := (blk_cell BK117.out 2).trans rfl
                      have hcz37_3 : wr.cell? ⟨gb117, 3, none⟩ = some (.int .i64 a0_3) := (blk_cell BK117.out 3).trans rfl
                      have hcz37_4 : wr.cell? ⟨gb117, 4, none⟩ = some (.slice A0_4 l0_4.length c0_4) := (blk_cell BK117.out 4).trans rfl
                      have hfz37_0 := blk_frozen BK117.out 0
                      have hfz37_1 := blk_frozen BK117.out 1
                      have hfz37_2 := blk_frozen BK117.out 2
                      have hfz37_3 := blk_frozen BK117.out 3
                      have hfz37_4 := blk_frozen BK117.out 4
                      have p119 : 0 ≤ (x44_2 : Int) := of_decide_eq_true (by first | (with_reducible assumption) | assumption)
                      have q119 : x44_2 < (l0_4.length : Int) := of_decide_eq_true (by first | (with_reducible assumption) | assumption)
                      obtain ⟨ad119, e119, hx119_0, hx119_1, hx119_2, hx119_3⟩ := at_T89 HR0_4.out x44_2 p119 q119
                      cases e119
                      replace hx119_0 := (HB.out.cell (World.block_lt_of_cell? w _ hx119_0)).trans hx119_0
                      replace hx119_1 := (HB.out.cell (World.block_lt_of_cell? w _ hx119_1)).trans hx119_1
                      replace hx119_2 := (HB.out.cell (World.block_lt_of_cell? w _ hx119_2)).trans hx119_2
                      replace hx119_3 := (HB.out.cell (World.block_lt_of_cell? w _ hx119_3)).trans hx119_3
                      replace p119 := eq_true p119
                      replace q119 := eq_true q119
                      have hcz38_0 : wr.cell? ⟨gb118, 0, none⟩ = some (.string a1_0) := (blk_cell BK118.out 0).trans rfl
                      have hcz38_1 : wr.cell? ⟨gb118, 1, none⟩ = some (.int .i64 a1_1) := (blk_cell BK118.out 1).trans rfl
                      have hcz38_2 : wr.cell? ⟨gb118, 2, none⟩ = some (.int .i64 a1_2) := (blk_cell BK118.out 2).trans rfl
                      have hcz38_3 : wr.cell? ⟨gb118, 3, none⟩ = some (.int .i64 a1_3) := (blk_cell BK118.out 3).trans rfl
                      have hcz38_4 : wr.cell? ⟨gb118, 4, none⟩ = some (.slice A1_4 l1_4.length c1_4) := (blk_cell BK118.out 4).trans rfl
                      have hfz38_0 := blk_frozen BK118.out 0
                      have hfz38_1 := blk_frozen BK118.out 1
                      have hfz38_2 := blk_frozen BK118.out 2
                      have hfz38_3 := blk_frozen BK118.out 3
                      have hfz38_4 := blk_frozen BK118.out 4
                      have p120 : 0 ≤ (x44_2 : Int) := of_decide_eq_true (by first | (with_reducible assumption) | assumption)
                      have q120 : x44_2 < (l1_4.length : Int) := of_decide_eq_true (by first | (with_reducible assumption) | assumption)
                      obtain ⟨ad120, e120, hx120_0, hx120_1, hx120_2, hx120_3⟩ := at_T89 HR1_4.out x44_2 p120 q120
                      cases e120
                      replace hx120_0 := (HB.out.cell (World.block_lt_of_cell? w _ hx120_0)).trans hx120_0
                      replace hx120_1 := (HB.out.cell (World.block_lt_of_cell? w _ hx120_1)).trans hx120_1
                      replace hx120_2 := (HB.out.cell (World.block_lt_of_cell? w _ hx120_2)).trans hx120_2
                      replace hx120_3 := (HB.out.cell (World.block_lt_of_cell? w _ hx120_3)).trans hx120_3
                      replace p120 := eq_true p120
                      replace q120 := eq_true q120
                      go_wp2
                      repeat (go_quiet (fail); try go_wp2)
                      go_roundg k2
                      case measure => have := HJ2.out; have := HK2.out; omega
                      case rel => exact ⟨(wrap64 (x44_2 + 1)), (by first | rfl | (simp; done) | (simp [*]; done)), H', ⟨by have := HJ2.out; have := HK2.out; omega⟩, ⟨by (with_reducible repeat (first | refine blk_drewN ?_ _ | refine blk_drew ?_ | refine blk_alloc ?_ _)); exact BK117.out⟩, ⟨by (with_reducible repeat (first | refine blk_drewN ?_ _ | refine blk_drew ?_ | refine blk_alloc ?_ _)); exact BK118.out⟩, ⟨by repeat (first | (with_reducible first | exact HB.out | apply below_alloc | apply pw_below_drewN | apply below_drew1 | refine below_set ?_ GE117.out | refine below_set ?_ GE118.out) | exact HB.out)⟩⟩
                  · rw [if_neg c31] at H
                    exact absurd H (by simp)
                · rw [if_neg c30] at H
                  exact absurd H (by simp)
              · rw [if_neg c29] at H
                exact absurd H (by simp)
            · rw [if_neg c28] at H
              have c28b0 : decide (x44_2 < (l0_4.length : Int)) = false := decide_eq_false c28
              clear c28
              obtain rfl := Option.some.inj H
              go_wp2
              repeat (go_quiet (fail); try go_wp2)
              go_ret
              exact ⟨by first | rfl | (simp [errW_none, errW_some] <;> rfl) | (simp [*, errW_none, errW_some] <;> rfl), by repeat (first | (with_reducible first | exact HB.out | apply below_alloc | apply pw_below_drewN | apply below_drew1 | refine below_set ?_ GE117.out | refine below_set ?_ GE118.out) | exact HB.out)⟩

end Go.Proofs.Ythdnaliahdohhaa.H
