-- printed by a program of this session (wip/tools/pp.py) that runs the kit's printer over contracts proved by hand
import Derived.Test.YthdnaliahdohhaaCx0
import Derived.Test.YthdnaliahdohhaaCx3
import Derived.Test.YthdnaliahdohhaaHCcodeCheck
namespace Go.Proofs.Ythdnaliahdohhaa.C
open Go.RowKit Go.Proofs.YthdnaliahdohhaaW.PrintWords Go.Proofs.YthdnaliahdohhaaW.PrintLast Go.Proofs.YthdnaliahdohhaaW.PrintMore
attribute [local go_sem] max2_int min2_int max_two min_two max_three min_three max_four min_four   -- for this text's walks alone
set_option linter.unusedVariables false
set_option linter.unusedSimpArgs false

/-! ### code_Check: function 17: by hand, in its own text -/

/-! ### prolixlaw18_example: function 57 -/
def prolixlaw18_example.f  : Option (ByteArray × Int × Int × Int × (List (S39))) := some ((⟨#[112]⟩ : ByteArray), 2, 1, 3, (([(⟨2, 0, 0, (⟨#[]⟩ : ByteArray)⟩ : S39), (⟨6, 1, 0, (⟨#[102]⟩ : ByteArray)⟩ : S39), (⟨3, 0, 0, (⟨#[]⟩ : ByteArray)⟩ : S39), (⟨5, 0, 0, (⟨#[113]⟩ : ByteArray)⟩ : S39)] : List (S39))))
set_option maxHeartbeats 8000000 in
set_option maxRecDepth 100000 in
theorem prolixlaw18_example.calls  (r1 : ByteArray) (r2 : Int) (r3 : Int) (r4 : Int) (r5 : List (S39)) (w : World) (h : prolixlaw18_example.f  = some (r1, r2, r3, r4, r5)) :
    Calls Try.prog 57 #[] w fun e w' => ∃ v4_ : Value, e = .returned (.agg #[.string r1, .int .i64 r2, .int .i64 r3, .int .i64 r4, v4_]) ∧ Kd.R k39 39 w' w.heap.size (fun _ => True) v4_ r5 ∧ Below w.heap.size w w' := by
  have hu28 := Try.underlying28
  have hu39 := Try.underlying39
  have HB := Aside0.mk (Below.refl w.heap.size w)
  have H : (some ((⟨#[112]⟩ : ByteArray), 2, 1, 3, (([(⟨2, 0, 0, (⟨#[]⟩ : ByteArray)⟩ : S39), (⟨6, 1, 0, (⟨#[102]⟩ : ByteArray)⟩ : S39), (⟨3, 0, 0, (⟨#[]⟩ : ByteArray)⟩ : S39), (⟨5, 0, 0, (⟨#[113]⟩ : ByteArray)⟩ : S39)] : List (S39))))) = some (r1, r2, r3, r4, r5) := h
  clear h
  obtain ⟨y112, hy112⟩ : ∃ y_ : List (S39), y_ = (([(⟨2, 0, 0, (⟨#[]⟩ : ByteArray)⟩ : S39), (⟨6, 1, 0, (⟨#[102]⟩ : ByteArray)⟩ : S39), (⟨3, 0, 0, (⟨#[]⟩ : ByteArray)⟩ : S39), (⟨5, 0, 0, (⟨#[113]⟩ : ByteArray)⟩ : S39)] : List (S39))) := ⟨_, rfl⟩
  replace H : (some ((⟨#[112]⟩ : ByteArray), 2, 1, 3, y112)) = some (r1, r2, r3, r4, r5) := by first | (rw [hy112]; with_reducible exact H) | (have H2_ := (Option.bind_some _ _).symm.trans H; rw [hy112]; with_reducible exact H2_) | (have H2_ := (Option.bind_some _ _).symm.trans H; with_reducible exact H2_) | with_reducible exact H | (rw [hy112]; exact H) | exact H
  have Ny112 := Aside0.mk hy112
  clear hy112
  simp only [Option.some.injEq, Prod.mk.injEq] at H
  obtain ⟨rfl, rfl, rfl, rfl, rfl⟩ := H
  go_enter Try.func57, Try.ntmps57
  go_wp2_with (first | ((with_reducible refine gate_dst (N := 0) rfl ?_); refine box_event ?hg (N := 0) ?hd (cs := #[.string (⟨#[]⟩ : ByteArray), .int .i64 0, .int .i64 0, .int .i64 0, .slice none 0 0]) (t := 28) ?hr ?_; (case hd => rfl); (case hg => rfl); (case hr => first | (go_simp; done) | (go_simp; rfl)); intro gb111 hg w1 hbox hb; have n0_ := Aside0.mk (below_step (by repeat (first | (with_reducible first | exact HB.out | apply below_alloc | apply pw_below_drewN | apply below_drew1) | exact HB.out)) hb); have n1_ := Aside0.mk (hbox); have n2_ := Aside0.mk ((by rw [hg]; exact (below_size (by repeat (first | (with_reducible first | exact HB.out | apply below_alloc | apply pw_below_drewN | apply below_drew1) | exact HB.out))) : w.heap.size ≤ gb111)); have n3_ := Aside0.mk ((by rw [hg]; exact (below_size (by repeat (first | (with_reducible first | exact HB.out | apply below_alloc | apply pw_below_drewN | apply below_drew1) | exact HB.out))) : w.heap.size ≤ gb111)); clear HB; have HB := n0_; have BK111 := n1_; have GW111 := n2_; have GE111 := n3_; clear n0_ n1_ n2_ n3_; clear hb hbox hg) | ((with_reducible refine gate_dst (N := 5) rfl ?_); refine Kd.R_lit k39 _ 39 ?hg (N := 5) ?hd (xs := ([(⟨2, 0, 0, (⟨#[]⟩ : ByteArray)⟩ : S39), (⟨6, 1, 0, (⟨#[102]⟩ : ByteArray)⟩ : S39), (⟨3, 0, 0, (⟨#[]⟩ : ByteArray)⟩ : S39), (⟨5, 0, 0, (⟨#[113]⟩ : ByteArray)⟩ : S39)] : List (S39))) (inner := [.int .i64 2, .int .i64 0, .int .i64 0, .string (⟨#[]⟩ : ByteArray), .int .i64 6, .int .i64 1, .int .i64 0, .string (⟨#[102]⟩ : ByteArray), .int .i64 3, .int .i64 0, .int .i64 0, .string (⟨#[]⟩ : ByteArray), .int .i64 5, .int .i64 0, .int .i64 0, .string (⟨#[113]⟩ : ByteArray)]) (ok := fun _ => True) (okp := fun _ => True) ?hr ?hp (fun _ hk => hk) trivial (Below.refl _ _) (Nat.le_refl _) (by simp) ?_; (case hd => rfl); (case hg => rfl); (case hr => first | (go_simp; done) | (go_simp; rfl)); (case hp => exact (Reps.c4 (show Kd.M k39 _ _ _ (⟨2, 0, 0, (⟨#[]⟩ : ByteArray)⟩ : S39) [.int .i64 2, .int .i64 0, .int .i64 0, .string (⟨#[]⟩ : ByteArray)] from (k39_mkM _ _ _ (⟨2, 0, 0, (⟨#[]⟩ : ByteArray)⟩ : S39) )) (Reps.c4 (show Kd.M k39 _ _ _ (⟨6, 1, 0, (⟨#[102]⟩ : ByteArray)⟩ : S39) [.int .i64 6, .int .i64 1, .int .i64 0, .string (⟨#[102]⟩ : ByteArray)] from (k39_mkM _ _ _ (⟨6, 1, 0, (⟨#[102]⟩ : ByteArray)⟩ : S39) )) (Reps.c4 (show Kd.M k39 _ _ _ (⟨3, 0, 0, (⟨#[]⟩ : ByteArray)⟩ : S39) [.int .i64 3, .int .i64 0, .int .i64 0, .string (⟨#[]⟩ : ByteArray)] from (k39_mkM _ _ _ (⟨3, 0, 0, (⟨#[]⟩ : ByteArray)⟩ : S39) )) (Reps.c4 (show Kd.M k39 _ _ _ (⟨5, 0, 0, (⟨#[113]⟩ : ByteArray)⟩ : S39) [.int .i64 5, .int .i64 0, .int .i64 0, .string (⟨#[113]⟩ : ByteArray)] from (k39_mkM _ _ _ (⟨5, 0, 0, (⟨#[113]⟩ : ByteArray)⟩ : S39) )) (Reps.none _ _)))))); intro v113 w2 ho3 hb hg_ hnew_; clear hg_ hnew_; (first | rw [← Ny112.out] at ho3 | (simp only [Int.reduceToNat] at ho3; rw [← Ny112.out] at ho3)); have n0_ := Aside0.mk (Kd.R_lower ho3 (below_size (by repeat (first | (with_reducible first | exact HB.out | apply below_alloc | apply pw_below_drewN | apply below_drew1 | refine below_set ?_ GE111.out) | exact HB.out)))); have n1_ := Aside0.mk (blk_below (g := gb111) (o := .cells #[.string (⟨#[]⟩ : ByteArray), .int .i64 0, .int .i64 0, .int .i64 0, .slice none 0 0] 28 (0, 0)) (by (with_reducible repeat (first | refine blk_drewN ?_ _ | refine blk_drew ?_ | refine blk_alloc ?_ _)); exact BK111.out) hb); have n2_ := Aside0.mk (below_step (by repeat (first | (with_reducible first | exact HB.out | apply below_alloc | apply pw_below_drewN | apply below_drew1 | refine below_set ?_ GE111.out) | exact HB.out)) hb); clear BK111; clear HB; have HO114 := n0_; have BK111 := n1_; have HB := n2_; clear n0_ n1_ n2_; clear hb ho3; obtain ⟨Ao4, co4, eo4⟩ := Kd.R_slice HO114.out; subst eo4; have hcz5_0 : w2.cell? ⟨gb111, 0, none⟩ = some (.string (⟨#[]⟩ : ByteArray)) := (blk_cell BK111.out 0).trans rfl; have hcz5_1 : w2.cell? ⟨gb111, 1, none⟩ = some (.int .i64 0) := (blk_cell BK111.out 1).trans rfl; have hcz5_2 : w2.cell? ⟨gb111, 2, none⟩ = some (.int .i64 0) := (blk_cell BK111.out 2).trans rfl; have hcz5_3 : w2.cell? ⟨gb111, 3, none⟩ = some (.int .i64 0) := (blk_cell BK111.out 3).trans rfl; have hcz5_4 : w2.cell? ⟨gb111, 4, none⟩ = some (.slice none 0 0) := (blk_cell BK111.out 4).trans rfl; have hfz5_0 := blk_frozen BK111.out 0; have hfz5_1 := blk_frozen BK111.out 1; have hfz5_2 := blk_frozen BK111.out 2; have hfz5_3 := blk_frozen BK111.out 3; have hfz5_4 := blk_frozen BK111.out 4))
  refine bodyPost_ret (results_cell_row rfl _ _ gb111 28 #[.string (⟨#[112]⟩ : ByteArray), .int .i64 2, .int .i64 1, .int .i64 3, .slice Ao4 y112.length co4] (0, 0) _ rfl (by (with_reducible repeat (first | refine blk_drewN ?_ _ | refine blk_drew ?_ | refine blk_alloc ?_ _)); refine blk_put (cs := #[.string (⟨#[112]⟩ : ByteArray), .int .i64 2, .int .i64 1, .int .i64 3, .slice none 0 0]) ?_ 4 _ rfl; (with_reducible repeat (first | refine blk_drewN ?_ _ | refine blk_drew ?_ | refine blk_alloc ?_ _)); refine blk_put (cs := #[.string (⟨#[112]⟩ : ByteArray), .int .i64 2, .int .i64 1, .int .i64 0, .slice none 0 0]) ?_ 3 _ rfl; (with_reducible repeat (first | refine blk_drewN ?_ _ | refine blk_drew ?_ | refine blk_alloc ?_ _)); refine blk_put (cs := #[.string (⟨#[112]⟩ : ByteArray), .int .i64 2, .int .i64 0, .int .i64 0, .slice none 0 0]) ?_ 2 _ rfl; (with_reducible repeat (first | refine blk_drewN ?_ _ | refine blk_drew ?_ | refine blk_alloc ?_ _)); refine blk_put (cs := #[.string (⟨#[112]⟩ : ByteArray), .int .i64 0, .int .i64 0, .int .i64 0, .slice none 0 0]) ?_ 1 _ rfl; (with_reducible repeat (first | refine blk_drewN ?_ _ | refine blk_drew ?_ | refine blk_alloc ?_ _)); refine blk_put (cs := #[.string (⟨#[]⟩ : ByteArray), .int .i64 0, .int .i64 0, .int .i64 0, .slice none 0 0]) ?_ 0 _ rfl; (with_reducible repeat (first | refine blk_drewN ?_ _ | refine blk_drew ?_ | refine blk_alloc ?_ _)); exact BK111.out) Try.underlying28 rfl (by kernel_rfl)) rfl ?_
  exact ⟨_, by first | rfl | (simp [errW_none, errW_some] <;> rfl) | (simp [*, errW_none, errW_some] <;> rfl), by (with_reducible repeat (first | apply Kd.R_alloc | apply Kd.R_drewN | apply Kd.R_drew)); exact Kd.R_mono (Kd.R_far (p := ⟨gb111, 4, none⟩) (Kd.R_far (p := ⟨gb111, 3, none⟩) (Kd.R_far (p := ⟨gb111, 2, none⟩) (Kd.R_far (p := ⟨gb111, 1, none⟩) (Kd.R_far (p := ⟨gb111, 0, none⟩) (Kd.R_types HO114.out BK111.out (by decide)) (fun _ hk => hk.2) (.string (⟨#[112]⟩ : ByteArray))) (fun _ hk => hk.2) (.int .i64 2)) (fun _ hk => hk.2) (.int .i64 1)) (fun _ hk => hk.2) (.int .i64 3)) (fun _ hk => hk.2) (.slice Ao4 y112.length co4)) (fun _ hk => trivial), by repeat (first | (with_reducible first | exact HB.out | apply below_alloc | apply pw_below_drewN | apply below_drew1 | refine below_set ?_ GE111.out) | exact HB.out)⟩

/-! ### prolixlaw18_alive: function 15 -/
def prolixlaw18_alive.f (k : Nat)  : Option (Bool) := (prolixlaw18_example.f).bind fun bt115 => ((code_Check.f k bt115.1 bt115.2.1 bt115.2.2.1 bt115.2.2.2.1 bt115.2.2.2.2).bind fun t123 => (if t123 = 0 then ((code_Skip.f k bt115.2.2.2.2 1).bind fun t124 => (if t124 = 3 then ((code_Skip.f k bt115.2.2.2.2 4).bind fun t125 => (if t125 = (-1) then ((code_Check.f k (⟨#[]⟩ : ByteArray) 0 0 0 ([] : List (S39))).bind fun t126 => (some (t126 == 2))) else (some false))) else (some false))) else (some false)))
theorem prolixlaw18_alive.mono : ∀ k, LeO (prolixlaw18_alive.f k ) (prolixlaw18_alive.f (k + 1) ) := by
  intro  k
  unfold prolixlaw18_alive.f
  repeat' first
      | (with_reducible exact code_Check.mono _ _ _ _ _ _)
      | (with_reducible exact code_Skip.mono _ _ _)
      | (with_reducible exact LeO.refl _)
      | (with_reducible exact LeO.none _)
      | (with_reducible refine LeO.ite ?_ ?_)
      | (with_reducible refine LeO.bind ?_ (fun _ => ?_))
      | exact code_Check.mono _ _ _ _ _ _
      | exact code_Skip.mono _ _ _
      | exact LeO.none _
      | refine LeO.ite ?_ ?_
      | refine LeO.bind ?_ (fun _ => ?_)
set_option maxHeartbeats 8000000 in
set_option maxRecDepth 100000 in
theorem prolixlaw18_alive.calls (k : Nat)  (r : Bool) (w : World) (h : prolixlaw18_alive.f k  = some r) :
    Calls Try.prog 15 #[] w fun e w' => e = .returned (.bool r) ∧ Below w.heap.size w w' := by
  have hu28 := Try.underlying28
  have HB := Aside0.mk (Below.refl w.heap.size w)
  have H : ((prolixlaw18_example.f).bind fun bt115 => ((code_Check.f k bt115.1 bt115.2.1 bt115.2.2.1 bt115.2.2.2.1 bt115.2.2.2.2).bind fun t123 => (if t123 = 0 then ((code_Skip.f k bt115.2.2.2.2 1).bind fun t124 => (if t124 = 3 then ((code_Skip.f k bt115.2.2.2.2 4).bind fun t125 => (if t125 = (-1) then ((code_Check.f k (⟨#[]⟩ : ByteArray) 0 0 0 ([] : List (S39))).bind fun t126 => (some (t126 == 2))) else (some false))) else (some false))) else (some false)))) = some r := h
  clear h
  replace H := Option.bind_eq_some_iff.mp H
  obtain ⟨⟨t115, t116, t117, t118, t119⟩, A10, H⟩ := H
  replace H : ((code_Check.f k t115 t116 t117 t118 t119).bind fun t123 => (if t123 = 0 then ((code_Skip.f k t119 1).bind fun t124 => (if t124 = 3 then ((code_Skip.f k t119 4).bind fun t125 => (if t125 = (-1) then ((code_Check.f k (⟨#[]⟩ : ByteArray) 0 0 0 ([] : List (S39))).bind fun t126 => (some (t126 == 2))) else (some false))) else (some false))) else (some false))) = some r := H
  have A1 := Aside0.mk A10
  clear A10
  replace H := Option.bind_eq_some_iff.mp H
  obtain ⟨t123, A20, H⟩ := H
  replace H : (if t123 = 0 then ((code_Skip.f k t119 1).bind fun t124 => (if t124 = 3 then ((code_Skip.f k t119 4).bind fun t125 => (if t125 = (-1) then ((code_Check.f k (⟨#[]⟩ : ByteArray) 0 0 0 ([] : List (S39))).bind fun t126 => (some (t126 == 2))) else (some false))) else (some false))) else (some false)) = some r := H
  have A2 := Aside0.mk A20
  clear A20
  by_cases c3 : t123 = 0
  · rw [if_pos c3] at H
    have c3b0 : (t123 == 0) = true := beq_iff_eq.mpr c3
    have c3b1 : (t123 != 0) = false := bne_eq_false_iff_eq.mpr c3
    clear c3
    replace H := Option.bind_eq_some_iff.mp H
    obtain ⟨t124, A40, H⟩ := H
    replace H : (if t124 = 3 then ((code_Skip.f k t119 4).bind fun t125 => (if t125 = (-1) then ((code_Check.f k (⟨#[]⟩ : ByteArray) 0 0 0 ([] : List (S39))).bind fun t126 => (some (t126 == 2))) else (some false))) else (some false)) = some r := H
    have A4 := Aside0.mk A40
    clear A40
    by_cases c5 : t124 = 3
    · rw [if_pos c5] at H
      have c5b0 : (t124 == 3) = true := beq_iff_eq.mpr c5
      have c5b1 : (t124 != 3) = false := bne_eq_false_iff_eq.mpr c5
      clear c5
      replace H := Option.bind_eq_some_iff.mp H
      obtain ⟨t125, A60, H⟩ := H
      replace H : (if t125 = (-1) then ((code_Check.f k (⟨#[]⟩ : ByteArray) 0 0 0 ([] : List (S39))).bind fun t126 => (some (t126 == 2))) else (some false)) = some r := H
      have A6 := Aside0.mk A60
      clear A60
      by_cases c7 : t125 = (-1)
      · rw [if_pos c7] at H
        have c7b0 : (t125 == (-1)) = true := beq_iff_eq.mpr c7
        have c7b1 : (t125 != (-1)) = false := bne_eq_false_iff_eq.mpr c7
        clear c7
        replace H := Option.bind_eq_some_iff.mp H
        obtain ⟨t126, A80, H⟩ := H
        replace H : (some (t126 == 2)) = some r := H
        have A8 := Aside0.mk A80
        clear A80
        obtain rfl := Option.some.inj H
        go_enter Try.func15, Try.ntmps15
        go_wp2_with (first | ((with_reducible refine gate_callee (f := 57) rfl ?_); refine goesL_ (some 2) rfl rfl Try.func57 (by kernel_rfl) rfl #[] rfl (by (try simp only [List.map_toArray, List.map_cons, List.map_nil]); first | done | rfl | (simp only [List.length_drop, List.length_take]; rfl)) ?_; (with_reducible refine (prolixlaw18_example.calls  t115 t116 t117 t118 t119 _ A1.out).mono ?_); rintro e w9 ⟨v120, rfl, ho0, hb⟩; refine ⟨_, rfl, ?_⟩; have n0_ := Aside0.mk (Kd.R_lower ho0 (below_size (by repeat (first | (with_reducible first | exact HB.out | apply below_alloc | apply pw_below_drewN | apply below_drew1) | exact HB.out)))); have n1_ := Aside0.mk (below_step (by repeat (first | (with_reducible first | exact HB.out | apply below_alloc | apply pw_below_drewN | apply below_drew1) | exact HB.out)) hb); clear HB; have HO121 := n0_; have HB := n1_; clear n0_ n1_; (try clear hb); (try clear hb2); (try clear hk); (try clear hi); (try clear ho0)) | ((with_reducible refine gate_dst (N := 1) rfl ?_); refine box_event ?hg (N := 1) ?hd (cs := #[.string (⟨#[]⟩ : ByteArray), .int .i64 0, .int .i64 0, .int .i64 0, .slice none 0 0]) (t := 28) ?hr ?_; (case hd => rfl); (case hg => rfl); (case hr => first | (go_simp; done) | (go_simp; rfl)); intro gb122 hg w10 hbox hb; have n0_ := Aside0.mk (Kd.R_below (by (with_reducible repeat (first | apply Kd.R_alloc | apply Kd.R_drewN | apply Kd.R_drew)); exact HO121.out) hb); have n1_ := Aside0.mk (below_step (by repeat (first | (with_reducible first | exact HB.out | apply below_alloc | apply pw_below_drewN | apply below_drew1) | exact HB.out)) hb); have n2_ := Aside0.mk (hbox); have n3_ := Aside0.mk ((by rw [hg]; exact (below_size (by repeat (first | (with_reducible first | exact HB.out | apply below_alloc | apply pw_below_drewN | apply below_drew1) | exact HB.out))) : w.heap.size ≤ gb122)); have n4_ := Aside0.mk ((by rw [hg]; exact (below_size (by repeat (first | (with_reducible first | exact HB.out | apply below_alloc | apply pw_below_drewN | apply below_drew1) | exact HB.out))) : w.heap.size ≤ gb122)); clear HO121; clear HB; have HO121 := n0_; have HB := n1_; have BK122 := n2_; have GW122 := n3_; have GE122 := n4_; clear n0_ n1_ n2_ n3_ n4_; clear hb hbox hg; have hcz11_0 : w10.cell? ⟨gb122, 0, none⟩ = some (.string (⟨#[]⟩ : ByteArray)) := (blk_cell BK122.out 0).trans rfl; have hcz11_1 : w10.cell? ⟨gb122, 1, none⟩ = some (.int .i64 0) := (blk_cell BK122.out 1).trans rfl; have hcz11_2 : w10.cell? ⟨gb122, 2, none⟩ = some (.int .i64 0) := (blk_cell BK122.out 2).trans rfl; have hcz11_3 : w10.cell? ⟨gb122, 3, none⟩ = some (.int .i64 0) := (blk_cell BK122.out 3).trans rfl; have hcz11_4 : w10.cell? ⟨gb122, 4, none⟩ = some (.slice none 0 0) := (blk_cell BK122.out 4).trans rfl; have hfz11_0 := blk_frozen BK122.out 0; have hfz11_1 := blk_frozen BK122.out 1; have hfz11_2 := blk_frozen BK122.out 2; have hfz11_3 := blk_frozen BK122.out 3; have hfz11_4 := blk_frozen BK122.out 4; obtain ⟨Ao12, co12, eo12⟩ := Kd.R_slice HO121.out; subst eo12) | ((with_reducible refine gate_callee (f := 17) rfl ?_); refine goesL_ (some 4) rfl rfl Try.func17 (by kernel_rfl) rfl #[.agg #[.string t115, .int .i64 t116, .int .i64 t117, .int .i64 t118, .slice Ao12 t119.length co12]] rfl (by (try simp only [List.map_toArray, List.map_cons, List.map_nil]); first | done | rfl | (simp only [List.length_drop, List.length_take]; rfl)) ?_; (with_reducible refine (code_Check.calls k t115 t116 t117 t118 _ _ t119 t123 _ ?side1 ?side2 A2.out).mono ?_); (case side1 => refine (Kd.R_reads' (e := 39) (base := w.heap.size) (ok := fun k_ => True) (n := t119.length) (c := co12) ?_).2.2; exact (by (with_reducible repeat (first | apply Kd.R_alloc | apply Kd.R_drewN | apply Kd.R_drew)); exact (Kd.R_mono (Kd.R_far (p := ⟨gb122, 4, none⟩) (Kd.R_far (p := ⟨gb122, 3, none⟩) (Kd.R_far (p := ⟨gb122, 2, none⟩) (Kd.R_far (p := ⟨gb122, 1, none⟩) (Kd.R_far (p := ⟨gb122, 0, none⟩) (Kd.R_types HO121.out BK122.out (by decide)) (fun _ hk => hk.2) (.string t115)) (fun _ hk => hk.2) (.int .i64 t116)) (fun _ hk => hk.2) (.int .i64 t117)) (fun _ hk => hk.2) (.int .i64 t118)) (fun _ hk => hk.2) (.slice Ao12 t119.length co12)) (fun _ h_ => h_.1)))); (case side2 => exact (Kd.R_reads' HO121.out).2.1); rintro e w13 ⟨rfl, hb⟩; refine ⟨_, rfl, ?_⟩; have n0_ := Aside0.mk (Kd.R_below (by (with_reducible repeat (first | apply Kd.R_alloc | apply Kd.R_drewN | apply Kd.R_drew)); exact (Kd.R_mono (Kd.R_far (p := ⟨gb122, 4, none⟩) (Kd.R_far (p := ⟨gb122, 3, none⟩) (Kd.R_far (p := ⟨gb122, 2, none⟩) (Kd.R_far (p := ⟨gb122, 1, none⟩) (Kd.R_far (p := ⟨gb122, 0, none⟩) (Kd.R_types HO121.out BK122.out (by decide)) (fun _ hk => hk.2) (.string t115)) (fun _ hk => hk.2) (.int .i64 t116)) (fun _ hk => hk.2) (.int .i64 t117)) (fun _ hk => hk.2) (.int .i64 t118)) (fun _ hk => hk.2) (.slice Ao12 t119.length co12)) (fun _ h_ => h_.1))) hb); have n1_ := Aside0.mk (blk_below (g := gb122) (o := .cells #[.string t115, .int .i64 t116, .int .i64 t117, .int .i64 t118, .slice Ao12 t119.length co12] 28 (0, 0)) (by (with_reducible repeat (first | refine blk_drewN ?_ _ | refine blk_drew ?_ | refine blk_alloc ?_ _)); refine blk_put (cs := #[.string t115, .int .i64 t116, .int .i64 t117, .int .i64 t118, .slice none 0 0]) ?_ 4 _ rfl; (with_reducible repeat (first | refine blk_drewN ?_ _ | refine blk_drew ?_ | refine blk_alloc ?_ _)); refine blk_put (cs := #[.string t115, .int .i64 t116, .int .i64 t117, .int .i64 0, .slice none 0 0]) ?_ 3 _ rfl; (with_reducible repeat (first | refine blk_drewN ?_ _ | refine blk_drew ?_ | refine blk_alloc ?_ _)); refine blk_put (cs := #[.string t115, .int .i64 t116, .int .i64 0, .int .i64 0, .slice none 0 0]) ?_ 2 _ rfl; (with_reducible repeat (first | refine blk_drewN ?_ _ | refine blk_drew ?_ | refine blk_alloc ?_ _)); refine blk_put (cs := #[.string t115, .int .i64 0, .int .i64 0, .int .i64 0, .slice none 0 0]) ?_ 1 _ rfl; (with_reducible repeat (first | refine blk_drewN ?_ _ | refine blk_drew ?_ | refine blk_alloc ?_ _)); refine blk_put (cs := #[.string (⟨#[]⟩ : ByteArray), .int .i64 0, .int .i64 0, .int .i64 0, .slice none 0 0]) ?_ 0 _ rfl; (with_reducible repeat (first | refine blk_drewN ?_ _ | refine blk_drew ?_ | refine blk_alloc ?_ _)); exact BK122.out) hb); have n2_ := Aside0.mk (below_step (by repeat (first | (with_reducible first | exact HB.out | apply below_alloc | apply pw_below_drewN | apply below_drew1 | refine below_set ?_ GE122.out) | exact HB.out)) hb); clear HO121; clear BK122; clear HB; have HO121 := n0_; have BK122 := n1_; have HB := n2_; clear n0_ n1_ n2_; (try clear hb); (try clear hb2); (try clear hk); (try clear hi); have hcz14_0 : w13.cell? ⟨gb122, 0, none⟩ = some (.string t115) := (blk_cell BK122.out 0).trans rfl; have hcz14_1 : w13.cell? ⟨gb122, 1, none⟩ = some (.int .i64 t116) := (blk_cell BK122.out 1).trans rfl; have hcz14_2 : w13.cell? ⟨gb122, 2, none⟩ = some (.int .i64 t117) := (blk_cell BK122.out 2).trans rfl; have hcz14_3 : w13.cell? ⟨gb122, 3, none⟩ = some (.int .i64 t118) := (blk_cell BK122.out 3).trans rfl; have hcz14_4 : w13.cell? ⟨gb122, 4, none⟩ = some (.slice Ao12 t119.length co12) := (blk_cell BK122.out 4).trans rfl; have hfz14_0 := blk_frozen BK122.out 0; have hfz14_1 := blk_frozen BK122.out 1; have hfz14_2 := blk_frozen BK122.out 2; have hfz14_3 := blk_frozen BK122.out 3; have hfz14_4 := blk_frozen BK122.out 4) | (go_at_call 19; (with_reducible refine (code_Skip.calls k _ _ t119 1 t124 _ ?side1 ?side2 A4.out).mono ?_); (case side1 => repeat (first | exact (Kd.R_reads' HO121.out).2.2 | (with_reducible refine Kd.C_alloc ?_ _) | (with_reducible refine Kd.C_drewN ?_ _) | (with_reducible refine Kd.C_drew ?_))); (case side2 => exact (Kd.R_reads' HO121.out).2.1); rintro e w15 ⟨rfl, hb⟩; have n0_ := Aside0.mk (Kd.R_below (by (with_reducible repeat (first | apply Kd.R_alloc | apply Kd.R_drewN | apply Kd.R_drew)); exact HO121.out) hb); have n1_ := Aside0.mk (blk_below (g := gb122) (o := .cells #[.string t115, .int .i64 t116, .int .i64 t117, .int .i64 t118, .slice Ao12 t119.length co12] 28 (0, 0)) (by (with_reducible repeat (first | refine blk_drewN ?_ _ | refine blk_drew ?_ | refine blk_alloc ?_ _)); exact BK122.out) hb); have n2_ := Aside0.mk (below_step (by repeat (first | (with_reducible first | exact HB.out | apply below_alloc | apply pw_below_drewN | apply below_drew1 | refine below_set ?_ GE122.out) | exact HB.out)) hb); clear HO121; clear BK122; clear HB; have HO121 := n0_; have BK122 := n1_; have HB := n2_; clear n0_ n1_ n2_; (try clear hb); (try clear hb2); (try clear hk); (try clear hi); have hcz16_0 : w15.cell? ⟨gb122, 0, none⟩ = some (.string t115) := (blk_cell BK122.out 0).trans rfl; have hcz16_1 : w15.cell? ⟨gb122, 1, none⟩ = some (.int .i64 t116) := (blk_cell BK122.out 1).trans rfl; have hcz16_2 : w15.cell? ⟨gb122, 2, none⟩ = some (.int .i64 t117) := (blk_cell BK122.out 2).trans rfl; have hcz16_3 : w15.cell? ⟨gb122, 3, none⟩ = some (.int .i64 t118) := (blk_cell BK122.out 3).trans rfl; have hcz16_4 : w15.cell? ⟨gb122, 4, none⟩ = some (.slice Ao12 t119.length co12) := (blk_cell BK122.out 4).trans rfl; have hfz16_0 := blk_frozen BK122.out 0; have hfz16_1 := blk_frozen BK122.out 1; have hfz16_2 := blk_frozen BK122.out 2; have hfz16_3 := blk_frozen BK122.out 3; have hfz16_4 := blk_frozen BK122.out 4) | (go_at_call 19; (with_reducible refine (code_Skip.calls k _ _ t119 4 t125 _ ?side1 ?side2 A6.out).mono ?_); (case side1 => repeat (first | exact (Kd.R_reads' HO121.out).2.2 | (with_reducible refine Kd.C_alloc ?_ _) | (with_reducible refine Kd.C_drewN ?_ _) | (with_reducible refine Kd.C_drew ?_))); (case side2 => exact (Kd.R_reads' HO121.out).2.1); rintro e w17 ⟨rfl, hb⟩; have n0_ := Aside0.mk (Kd.R_below (by (with_reducible repeat (first | apply Kd.R_alloc | apply Kd.R_drewN | apply Kd.R_drew)); exact HO121.out) hb); have n1_ := Aside0.mk (blk_below (g := gb122) (o := .cells #[.string t115, .int .i64 t116, .int .i64 t117, .int .i64 t118, .slice Ao12 t119.length co12] 28 (0, 0)) (by (with_reducible repeat (first | refine blk_drewN ?_ _ | refine blk_drew ?_ | refine blk_alloc ?_ _)); exact BK122.out) hb); have n2_ := Aside0.mk (below_step (by repeat (first | (with_reducible first | exact HB.out | apply below_alloc | apply pw_below_drewN | apply below_drew1 | refine below_set ?_ GE122.out) | exact HB.out)) hb); clear HO121; clear BK122; clear HB; have HO121 := n0_; have BK122 := n1_; have HB := n2_; clear n0_ n1_ n2_; (try clear hb); (try clear hb2); (try clear hk); (try clear hi)) | (go_at_call 17; (refine (code_Check.calls k (⟨#[]⟩ : ByteArray) 0 0 0 _ _ ([] : List (S39)) t126 _ ?side1 ?side2 A8.out).mono ?_); (case side1 => exact Kd.C_nil _ _); (case side2 => exact Nat.le_refl _); rintro e w18 ⟨rfl, hb⟩; have n0_ := Aside0.mk (Kd.R_below (by (with_reducible repeat (first | apply Kd.R_alloc | apply Kd.R_drewN | apply Kd.R_drew)); exact HO121.out) hb); have n1_ := Aside0.mk (blk_below (g := gb122) (o := .cells #[.string t115, .int .i64 t116, .int .i64 t117, .int .i64 t118, .slice Ao12 t119.length co12] 28 (0, 0)) (by (with_reducible repeat (first | refine blk_drewN ?_ _ | refine blk_drew ?_ | refine blk_alloc ?_ _)); exact BK122.out) hb); have n2_ := Aside0.mk (below_step (by repeat (first | (with_reducible first | exact HB.out | apply below_alloc | apply pw_below_drewN | apply below_drew1 | refine below_set ?_ GE122.out) | exact HB.out)) hb); clear HO121; clear BK122; clear HB; have HO121 := n0_; have BK122 := n1_; have HB := n2_; clear n0_ n1_ n2_; (try clear hb); (try clear hb2); (try clear hk); (try clear hi)))
        go_ret
        exact ⟨by first | rfl | (simp [errW_none, errW_some] <;> rfl) | (simp [*, errW_none, errW_some] <;> rfl), by repeat (first | (with_reducible first | exact HB.out | apply below_alloc | apply pw_below_drewN | apply below_drew1 | refine below_set ?_ GE122.out) | exact HB.out)⟩
      · rw [if_neg c7] at H
        have c7b0 : (t125 == (-1)) = false := beq_eq_false_iff_ne.mpr c7
        have c7b1 : (t125 != (-1)) = true := bne_iff_ne.mpr c7
        obtain rfl := Option.some.inj H
        go_enter Try.func15, Try.ntmps15
        go_wp2_with (first | ((with_reducible refine gate_callee (f := 57) rfl ?_); refine goesL_ (some 2) rfl rfl Try.func57 (by kernel_rfl) rfl #[] rfl (by (try simp only [List.map_toArray, List.map_cons, List.map_nil]); first | done | rfl | (simp only [List.length_drop, List.length_take]; rfl)) ?_; (with_reducible refine (prolixlaw18_example.calls  t115 t116 t117 t118 t119 _ A1.out).mono ?_); rintro e w19 ⟨v120, rfl, ho0, hb⟩; refine ⟨_, rfl, ?_⟩; have n0_ := Aside0.mk (Kd.R_lower ho0 (below_size (by repeat (first | (with_reducible first | exact HB.out | apply below_alloc | apply pw_below_drewN | apply below_drew1) | exact HB.out)))); have n1_ := Aside0.mk (below_step (by repeat (first | (with_reducible first | exact HB.out | apply below_alloc | apply pw_below_drewN | apply below_drew1) | exact HB.out)) hb); clear HB; have HO121 := n0_; have HB := n1_; clear n0_ n1_; (try clear hb); (try clear hb2); (try clear hk); (try clear hi); (try clear ho0)) | ((with_reducible refine gate_dst (N := 1) rfl ?_); refine box_event ?hg (N := 1) ?hd (cs := #[.string (⟨#[]⟩ : ByteArray), .int .i64 0, .int .i64 0, .int .i64 0, .slice none 0 0]) (t := 28) ?hr ?_; (case hd => rfl); (case hg => rfl); (case hr => first | (go_simp; done) | (go_simp; rfl)); intro gb122 hg w20 hbox hb; have n0_ := Aside0.mk (Kd.R_below (by (with_reducible repeat (first | apply Kd.R_alloc | apply Kd.R_drewN | apply Kd.R_drew)); exact HO121.out) hb); have n1_ := Aside0.mk (below_step (by repeat (first | (with_reducible first | exact HB.out | apply below_alloc | apply pw_below_drewN | apply below_drew1) | exact HB.out)) hb); have n2_ := Aside0.mk (hbox); have n3_ := Aside0.mk ((by rw [hg]; exact (below_size (by repeat (first | (with_reducible first | exact HB.out | apply below_alloc | apply pw_below_drewN | apply below_drew1) | exact HB.out))) : w.heap.size ≤ gb122)); have n4_ := Aside0.mk ((by rw [hg]; exact (below_size (by repeat (first | (with_reducible first | exact HB.out | apply below_alloc | apply pw_below_drewN | apply below_drew1) | exact HB.out))) : w.heap.size ≤ gb122)); clear HO121; clear HB; have HO121 := n0_; have HB := n1_; have BK122 := n2_; have GW122 := n3_; have GE122 := n4_; clear n0_ n1_ n2_ n3_ n4_; clear hb hbox hg; have hcz21_0 : w20.cell? ⟨gb122, 0, none⟩ = some (.string (⟨#[]⟩ : ByteArray)) := (blk_cell BK122.out 0).trans rfl; have hcz21_1 : w20.cell? ⟨gb122, 1, none⟩ = some (.int .i64 0) := (blk_cell BK122.out 1).trans rfl; have hcz21_2 : w20.cell? ⟨gb122, 2, none⟩ = some (.int .i64 0) := (blk_cell BK122.out 2).trans rfl; have hcz21_3 : w20.cell? ⟨gb122, 3, none⟩ = some (.int .i64 0) := (blk_cell BK122.out 3).trans rfl; have hcz21_4 : w20.cell? ⟨gb122, 4, none⟩ = some (.slice none 0 0) := (blk_cell BK122.out 4).trans rfl; have hfz21_0 := blk_frozen BK122.out 0; have hfz21_1 := blk_frozen BK122.out 1; have hfz21_2 := blk_frozen BK122.out 2; have hfz21_3 := blk_frozen BK122.out 3; have hfz21_4 := blk_frozen BK122.out 4; obtain ⟨Ao22, co22, eo22⟩ := Kd.R_slice HO121.out; subst eo22) | ((with_reducible refine gate_callee (f := 17) rfl ?_); refine goesL_ (some 4) rfl rfl Try.func17 (by kernel_rfl) rfl #[.agg #[.string t115, .int .i64 t116, .int .i64 t117, .int .i64 t118, .slice Ao22 t119.length co22]] rfl (by (try simp only [List.map_toArray, List.map_cons, List.map_nil]); first | done | rfl | (simp only [List.length_drop, List.length_take]; rfl)) ?_; (with_reducible refine (code_Check.calls k t115 t116 t117 t118 _ _ t119 t123 _ ?side1 ?side2 A2.out).mono ?_); (case side1 => refine (Kd.R_reads' (e := 39) (base := w.heap.size) (ok := fun k_ => True) (n := t119.length) (c := co22) ?_).2.2; exact (by (with_reducible repeat (first | apply Kd.R_alloc | apply Kd.R_drewN | apply Kd.R_drew)); exact (Kd.R_mono (Kd.R_far (p := ⟨gb122, 4, none⟩) (Kd.R_far (p := ⟨gb122, 3, none⟩) (Kd.R_far (p := ⟨gb122, 2, none⟩) (Kd.R_far (p := ⟨gb122, 1, none⟩) (Kd.R_far (p := ⟨gb122, 0, none⟩) (Kd.R_types HO121.out BK122.out (by decide)) (fun _ hk => hk.2) (.string t115)) (fun _ hk => hk.2) (.int .i64 t116)) (fun _ hk => hk.2) (.int .i64 t117)) (fun _ hk => hk.2) (.int .i64 t118)) (fun _ hk => hk.2) (.slice Ao22 t119.length co22)) (fun _ h_ => h_.1)))); (case side2 => exact (Kd.R_reads' HO121.out).2.1); rintro e w23 ⟨rfl, hb⟩; refine ⟨_, rfl, ?_⟩; have n0_ := Aside0.mk (Kd.R_below (by (with_reducible repeat (first | apply Kd.R_alloc | apply Kd.R_drewN | apply Kd.R_drew)); exact (Kd.R_mono (Kd.R_far (p := ⟨gb122, 4, none⟩) (Kd.R_far (p := ⟨gb122, 3, none⟩) (Kd.R_far (p := ⟨gb122, 2, none⟩) (Kd.R_far (p := ⟨gb122, 1, none⟩) (Kd.R_far (p := ⟨gb122, 0, none⟩) (Kd.R_types HO121.out BK122.out (by decide)) (fun _ hk => hk.2) (.string t115)) (fun _ hk => hk.2) (.int .i64 t116)) (fun _ hk => hk.2) (.int .i64 t117)) (fun _ hk => hk.2) (.int .i64 t118)) (fun _ hk => hk.2) (.slice Ao22 t119.length co22)) (fun _ h_ => h_.1))) hb); have n1_ := Aside0.mk (blk_below (g := gb122) (o := .cells #[.string t115, .int .i64 t116, .int .i64 t117, .int .i64 t118, .slice Ao22 t119.length co22] 28 (0, 0)) (by (with_reducible repeat (first | refine blk_drewN ?_ _ | refine blk_drew ?_ | refine blk_alloc ?_ _)); refine blk_put (cs := #[.string t115, .int .i64 t116, .int .i64 t117, .int .i64 t118, .slice none 0 0]) ?_ 4 _ rfl; (with_reducible repeat (first | refine blk_drewN ?_ _ | refine blk_drew ?_ | refine blk_alloc ?_ _)); refine blk_put (cs := #[.string t115, .int .i64 t116, .int .i64 t117, .int .i64 0, .slice none 0 0]) ?_ 3 _ rfl; (with_reducible repeat (first | refine blk_drewN ?_ _ | refine blk_drew ?_ | refine blk_alloc ?_ _)); refine blk_put (cs := #[.string t115, .int .i64 t116, .int .i64 0, .int .i64 0, .slice none 0 0]) ?_ 2 _ rfl; (with_reducible repeat (first | refine blk_drewN ?_ _ | refine blk_drew ?_ | refine blk_alloc ?_ _)); refine blk_put (cs := #[.string t115, .int .i64 0, .int .i64 0, .int .i64 0, .slice none 0 0]) ?_ 1 _ rfl; (with_reducible repeat (first | refine blk_drewN ?_ _ | refine blk_drew ?_ | refine blk_alloc ?_ _)); refine blk_put (cs := #[.string (⟨#[]⟩ : ByteArray), .int .i64 0, .int .i64 0, .int .i64 0, .slice none 0 0]) ?_ 0 _ rfl; (with_reducible repeat (first | refine blk_drewN ?_ _ | refine blk_drew ?_ | refine blk_alloc ?_ _)); exact BK122.out) hb); have n2_ := Aside0.mk (below_step (by repeat (first | (with_reducible first | exact HB.out | apply below_alloc | apply pw_below_drewN | apply below_drew1 | refine below_set ?_ GE122.out) | exact HB.out)) hb); clear HO121; clear BK122; clear HB; have HO121 := n0_; have BK122 := n1_; have HB := n2_; clear n0_ n1_ n2_; (try clear hb); (try clear hb2); (try clear hk); (try clear hi); have hcz24_0 : w23.cell? ⟨gb122, 0, none⟩ = some (.string t115) := (blk_cell BK122.out 0).trans rfl; have hcz24_1 : w23.cell? ⟨gb122, 1, none⟩ = some (.int .i64 t116) := (blk_cell BK122.out 1).trans rfl; have hcz24_2 : w23.cell? ⟨gb122, 2, none⟩ = some (.int .i64 t117) := (blk_cell BK122.out 2).trans rfl; have hcz24_3 : w23.cell? ⟨gb122, 3, none⟩ = some (.int .i64 t118) := (blk_cell BK122.out 3).trans rfl; have hcz24_4 : w23.cell? ⟨gb122, 4, none⟩ = some (.slice Ao22 t119.length co22) := (blk_cell BK122.out 4).trans rfl; have hfz24_0 := blk_frozen BK122.out 0; have hfz24_1 := blk_frozen BK122.out 1; have hfz24_2 := blk_frozen BK122.out 2; have hfz24_3 := blk_frozen BK122.out 3; have hfz24_4 := blk_frozen BK122.out 4) | (go_at_call 19; (with_reducible refine (code_Skip.calls k _ _ t119 1 t124 _ ?side1 ?side2 A4.out).mono ?_); (case side1 => repeat (first | exact (Kd.R_reads' HO121.out).2.2 | (with_reducible refine Kd.C_alloc ?_ _) | (with_reducible refine Kd.C_drewN ?_ _) | (with_reducible refine Kd.C_drew ?_))); (case side2 => exact (Kd.R_reads' HO121.out).2.1); rintro e w25 ⟨rfl, hb⟩; have n0_ := Aside0.mk (Kd.R_below (by (with_reducible repeat (first | apply Kd.R_alloc | apply Kd.R_drewN | apply Kd.R_drew)); exact HO121.out) hb); have n1_ := Aside0.mk (blk_below (g := gb122) (o := .cells #[.string t115, .int .i64 t116, .int .i64 t117, .int .i64 t118, .slice Ao22 t119.length co22] 28 (0, 0)) (by (with_reducible repeat (first | refine blk_drewN ?_ _ | refine blk_drew ?_ | refine blk_alloc ?_ _)); exact BK122.out) hb); have n2_ := Aside0.mk (below_step (by repeat (first | (with_reducible first | exact HB.out | apply below_alloc | apply pw_below_drewN | apply below_drew1 | refine below_set ?_ GE122.out) | exact HB.out)) hb); clear HO121; clear BK122; clear HB; have HO121 := n0_; have BK122 := n1_; have HB := n2_; clear n0_ n1_ n2_; (try clear hb); (try clear hb2); (try clear hk); (try clear hi); have hcz26_0 : w25.cell? ⟨gb122, 0, none⟩ = some (.string t115) := (blk_cell BK122.out 0).trans rfl; have hcz26_1 : w25.cell? ⟨gb122, 1, none⟩ = some (.int .i64 t116) := (blk_cell BK122.out 1).trans rfl; have hcz26_2 : w25.cell? ⟨gb122, 2, none⟩ = some (.int .i64 t117) := (blk_cell BK122.out 2).trans rfl; have hcz26_3 : w25.cell? ⟨gb122, 3, none⟩ = some (.int .i64 t118) := (blk_cell BK122.out 3).trans rfl; have hcz26_4 : w25.cell? ⟨gb122, 4, none⟩ = some (.slice Ao22 t119.length co22) := (blk_cell BK122.out 4).trans rfl; have hfz26_0 := blk_frozen BK122.out 0; have hfz26_1 := blk_frozen BK122.out 1; have hfz26_2 := blk_frozen BK122.out 2; have hfz26_3 := blk_frozen BK122.out 3; have hfz26_4 := blk_frozen BK122.out 4) | (go_at_call 19; (with_reducible refine (code_Skip.calls k _ _ t119 4 t125 _ ?side1 ?side2 A6.out).mono ?_); (case side1 => repeat (first | exact (Kd.R_reads' HO121.out).2.2 | (with_reducible refine Kd.C_alloc ?_ _) | (with_reducible refine Kd.C_drewN ?_ _) | (with_reducible refine Kd.C_drew ?_))); (case side2 => exact (Kd.R_reads' HO121.out).2.1); rintro e w27 ⟨rfl, hb⟩; have n0_ := Aside0.mk (Kd.R_below (by (with_reducible repeat (first | apply Kd.R_alloc | apply Kd.R_drewN | apply Kd.R_drew)); exact HO121.out) hb); have n1_ := Aside0.mk (blk_below (g := gb122) (o := .cells #[.string t115, .int .i64 t116, .int .i64 t117, .int .i64 t118, .slice Ao22 t119.length co22] 28 (0, 0)) (by (with_reducible repeat (first | refine blk_drewN ?_ _ | refine blk_drew ?_ | refine blk_alloc ?_ _)); exact BK122.out) hb); have n2_ := Aside0.mk (below_step (by repeat (first | (with_reducible first | exact HB.out | apply below_alloc | apply pw_below_drewN | apply below_drew1 | refine below_set ?_ GE122.out) | exact HB.out)) hb); clear HO121; clear BK122; clear HB; have HO121 := n0_; have BK122 := n1_; have HB := n2_; clear n0_ n1_ n2_; (try clear hb); (try clear hb2); (try clear hk); (try clear hi)))
        go_ret
        exact ⟨by first | rfl | (simp [errW_none, errW_some] <;> rfl) | (simp [*, errW_none, errW_some] <;> rfl), by repeat (first | (with_reducible first | exact HB.out | apply below_alloc | apply pw_below_drewN | apply below_drew1 | refine below_set ?_ GE122.out) | exact HB.out)⟩
    · rw [if_neg c5] at H
      have c5b0 : (t124 == 3) = false := beq_eq_false_iff_ne.mpr c5
      have c5b1 : (t124 != 3) = true := bne_iff_ne.mpr c5
      obtain rfl := Option.some.inj H
      go_enter Try.func15, Try.ntmps15
      go_wp2_with (first | ((with_reducible refine gate_callee (f := 57) rfl ?_); refine goesL_ (some 2) rfl rfl Try.func57 (by kernel_rfl) rfl #[] rfl (by (try simp only [List.map_toArray, List.map_cons, List.map_nil]); first | done | rfl | (simp only [List.length_drop, List.length_take]; rfl)) ?_; (with_reducible refine (prolixlaw18_example.calls  t115 t116 t117 t118 t119 _ A1.out).mono ?_); rintro e w28 ⟨v120, rfl, ho0, hb⟩; refine ⟨_, rfl, ?_⟩; have n0_ := Aside0.mk (Kd.R_lower ho0 (below_size (by repeat (first | (with_reducible first | exact HB.out | apply below_alloc | apply pw_below_drewN | apply below_drew1) | exact HB.out)))); have n1_ := Aside0.mk (below_step (by repeat (first | (with_reducible first | exact HB.out | apply below_alloc | apply pw_below_drewN | apply below_drew1) | exact HB.out)) hb); clear HB; have HO121 := n0_; have HB := n1_; clear n0_ n1_; (try clear hb); (try clear hb2); (try clear hk); (try clear hi); (try clear ho0)) | ((with_reducible refine gate_dst (N := 1) rfl ?_); refine box_event ?hg (N := 1) ?hd (cs := #[.string (⟨#[]⟩ : ByteArray), .int .i64 0, .int .i64 0, .int .i64 0, .slice none 0 0]) (t := 28) ?hr ?_; (case hd => rfl); (case hg => rfl); (case hr => first | (go_simp; done) | (go_simp; rfl)); intro gb122 hg w29 hbox hb; have n0_ := Aside0.mk (Kd.R_below (by (with_reducible repeat (first | apply Kd.R_alloc | apply Kd.R_drewN | apply Kd.R_drew)); exact HO121.out) hb); have n1_ := Aside0.mk (below_step (by repeat (first | (with_reducible first | exact HB.out | apply below_alloc | apply pw_below_drewN | apply below_drew1) | exact HB.out)) hb); have n2_ := Aside0.mk (hbox); have n3_ := Aside0.mk ((by rw [hg]; exact (below_size (by repeat (first | (with_reducible first | exact HB.out | apply below_alloc | apply pw_below_drewN | apply below_drew1) | exact HB.out))) : w.heap.size ≤ gb122)); have n4_ := Aside0.mk ((by rw [hg]; exact (below_size (by repeat (first | (with_reducible first | exact HB.out | apply below_alloc | apply pw_below_drewN | apply below_drew1) | exact HB.out))) : w.heap.size ≤ gb122)); clear HO121; clear HB; have HO121 := n0_; have HB := n1_; have BK122 := n2_; have GW122 := n3_; have GE122 := n4_; clear n0_ n1_ n2_ n3_ n4_; clear hb hbox hg; have hcz30_0 : w29.cell? ⟨gb122, 0, none⟩ = some (.string (⟨#[]⟩ : ByteArray)) := (blk_cell BK122.out 0).trans rfl; have hcz30_1 : w29.cell? ⟨gb122, 1, none⟩ = some (.int .i64 0) := (blk_cell BK122.out 1).trans rfl; have hcz30_2 : w29.cell? ⟨gb122, 2, none⟩ = some (.int .i64 0) := (blk_cell BK122.out 2).trans rfl; have hcz30_3 : w29.cell? ⟨gb122, 3, none⟩ = some (.int .i64 0) := (blk_cell BK122.out 3).trans rfl; have hcz30_4 : w29.cell? ⟨gb122, 4, none⟩ = some (.slice none 0 0) := (blk_cell BK122.out 4).trans rfl; have hfz30_0 := blk_frozen BK122.out 0; have hfz30_1 := blk_frozen BK122.out 1; have hfz30_2 := blk_frozen BK122.out 2; have hfz30_3 := blk_frozen BK122.out 3; have hfz30_4 := blk_frozen BK122.out 4; obtain ⟨Ao31, co31, eo31⟩ := Kd.R_slice HO121.out; subst eo31) | ((with_reducible refine gate_callee (f := 17) rfl ?_); refine goesL_ (some 4) rfl rfl Try.func17 (by kernel_rfl) rfl #[.agg #[.string t115, .int .i64 t116, .int .i64 t117, .int .i64 t118, .slice Ao31 t119.length co31]] rfl (by (try simp only [List.map_toArray, List.map_cons, List.map_nil]); first | done | rfl | (simp only [List.length_drop, List.length_take]; rfl)) ?_; (with_reducible refine (code_Check.calls k t115 t116 t117 t118 _ _ t119 t123 _ ?side1 ?side2 A2.out).mono ?_); (case side1 => refine (Kd.R_reads' (e := 39) (base := w.heap.size) (ok := fun k_ => True) (n := t119.length) (c := co31) ?_).2.2; exact (by (with_reducible repeat (first | apply Kd.R_alloc | apply Kd.R_drewN | apply Kd.R_drew)); exact (Kd.R_mono (Kd.R_far (p := ⟨gb122, 4, none⟩) (Kd.R_far (p := ⟨gb122, 3, none⟩) (Kd.R_far (p := ⟨gb122, 2, none⟩) (Kd.R_far (p := ⟨gb122, 1, none⟩) (Kd.R_far (p := ⟨gb122, 0, none⟩) (Kd.R_types HO121.out BK122.out (by decide)) (fun _ hk => hk.2) (.string t115)) (fun _ hk => hk.2) (.int .i64 t116)) (fun _ hk => hk.2) (.int .i64 t117)) (fun _ hk => hk.2) (.int .i64 t118)) (fun _ hk => hk.2) (.slice Ao31 t119.length co31)) (fun _ h_ => h_.1)))); (case side2 => exact (Kd.R_reads' HO121.out).2.1); rintro e w32 ⟨rfl, hb⟩; refine ⟨_, rfl, ?_⟩; have n0_ := Aside0.mk (Kd.R_below (by (with_reducible repeat (first | apply Kd.R_alloc | apply Kd.R_drewN | apply Kd.R_drew)); exact (Kd.R_mono (Kd.R_far (p := ⟨gb122, 4, none⟩) (Kd.R_far (p := ⟨gb122, 3, none⟩) (Kd.R_far (p := ⟨gb122, 2, none⟩) (Kd.R_far (p := ⟨gb122, 1, none⟩) (Kd.R_far (p := ⟨gb122, 0, none⟩) (Kd.R_types HO121.out BK122.out (by decide)) (fun _ hk => hk.2) (.string t115)) (fun _ hk => hk.2) (.int .i64 t116)) (fun _ hk => hk.2) (.int .i64 t117)) (fun _ hk => hk.2) (.int .i64 t118)) (fun _ hk => hk.2) (.slice Ao31 t119.length co31)) (fun _ h_ => h_.1))) hb); have n1_ := Aside0.mk (blk_below (g := gb122) (o := .cells #[.string t115, .int .i64 t116, .int .i64 t117, .int .i64 t118, .slice Ao31 t119.length co31] 28 (0, 0)) (by (with_reducible repeat (first | refine blk_drewN ?_ _ | refine blk_drew ?_ | refine blk_alloc ?_ _)); refine blk_put (cs := #[.string t115, .int .i64 t116, .int .i64 t117, .int .i64 t118, .slice none 0 0]) ?_ 4 _ rfl; (with_reducible repeat (first | refine blk_drewN ?_ _ | refine blk_drew ?_ | refine blk_alloc ?_ _)); refine blk_put (cs := #[.string t115, .int .i64 t116, .int .i64 t117, .int .i64 0, .slice none 0 0]) ?_ 3 _ rfl; (with_reducible repeat (first | refine blk_drewN ?_ _ | refine blk_drew ?_ | refine blk_alloc ?_ _)); refine blk_put (cs := #[.string t115, .int .i64 t116, .int .i64 0, .int .i64 0, .slice none 0 0]) ?_ 2 _ rfl; (with_reducible repeat (first | refine blk_drewN ?_ _ | refine blk_drew ?_ | refine blk_alloc ?_ _)); refine blk_put (cs := #[.string t115, .int .i64 0, .int .i64 0, .int .i64 0, .slice none 0 0]) ?_ 1 _ rfl; (with_reducible repeat (first | refine blk_drewN ?_ _ | refine blk_drew ?_ | refine blk_alloc ?_ _)); refine blk_put (cs := #[.string (⟨#[]⟩ : ByteArray), .int .i64 0, .int .i64 0, .int .i64 0, .slice none 0 0]) ?_ 0 _ rfl; (with_reducible repeat (first | refine blk_drewN ?_ _ | refine blk_drew ?_ | refine blk_alloc ?_ _)); exact BK122.out) hb); have n2_ := Aside0.mk (below_step (by repeat (first | (with_reducible first | exact HB.out | apply below_alloc | apply pw_below_drewN | apply below_drew1 | refine below_set ?_ GE122.out) | exact HB.out)) hb); clear HO121; clear BK122; clear HB; have HO121 := n0_; have BK122 := n1_; have HB := n2_; clear n0_ n1_ n2_; (try clear hb); (try clear hb2); (try clear hk); (try clear hi); have hcz33_0 : w32.cell? ⟨gb122, 0, none⟩ = some (.string t115) := (blk_cell BK122.out 0).trans rfl; have hcz33_1 : w32.cell? ⟨gb122, 1, none⟩ = some (.int .i64 t116) := (blk_cell BK122.out 1).trans rfl; have hcz33_2 : w32.cell? ⟨gb122, 2, none⟩ = some (.int .i64 t117) := (blk_cell BK122.out 2).trans rfl; have hcz33_3 : w32.cell? ⟨gb122, 3, none⟩ = some (.int .i64 t118) := (blk_cell BK122.out 3).trans rfl; have hcz33_4 : w32.cell? ⟨gb122, 4, none⟩ = some (.slice Ao31 t119.length co31) := (blk_cell BK122.out 4).trans rfl; have hfz33_0 := blk_frozen BK122.out 0; have hfz33_1 := blk_frozen BK122.out 1; have hfz33_2 := blk_frozen BK122.out 2; have hfz33_3 := blk_frozen BK122.out 3; have hfz33_4 := blk_frozen BK122.out 4) | (go_at_call 19; (with_reducible refine (code_Skip.calls k _ _ t119 1 t124 _ ?side1 ?side2 A4.out).mono ?_); (case side1 => repeat (first | exact (Kd.R_reads' HO121.out).2.2 | (with_reducible refine Kd.C_alloc ?_ _) | (with_reducible refine Kd.C_drewN ?_ _) | (with_reducible refine Kd.C_drew ?_))); (case side2 => exact (Kd.R_reads' HO121.out).2.1); rintro e w34 ⟨rfl, hb⟩; have n0_ := Aside0.mk (Kd.R_below (by (with_reducible repeat (first | apply Kd.R_alloc | apply Kd.R_drewN | apply Kd.R_drew)); exact HO121.out) hb); have n1_ := Aside0.mk (blk_below (g := gb122) (o := .cells #[.string t115, .int .i64 t116, .int .i64 t117, .int .i64 t118, .slice Ao31 t119.length co31] 28 (0, 0)) (by (with_reducible repeat (first | refine blk_drewN ?_ _ | refine blk_drew ?_ | refine blk_alloc ?_ _)); exact BK122.out) hb); have n2_ := Aside0.mk (below_step (by repeat (first | (with_reducible first | exact HB.out | apply below_alloc | apply pw_below_drewN | apply below_drew1 | refine below_set ?_ GE122.out) | exact HB.out)) hb); clear HO121; clear BK122; clear HB; have HO121 := n0_; have BK122 := n1_; have HB := n2_; clear n0_ n1_ n2_; (try clear hb); (try clear hb2); (try clear hk); (try clear hi)))
      go_ret
      exact ⟨by first | rfl | (simp [errW_none, errW_some] <;> rfl) | (simp [*, errW_none, errW_some] <;> rfl), by repeat (first | (with_reducible first | exact HB.out | apply below_alloc | apply pw_below_drewN | apply below_drew1 | refine below_set ?_ GE122.out) | exact HB.out)⟩
  · rw [if_neg c3] at H
    have c3b0 : (t123 == 0) = false := beq_eq_false_iff_ne.mpr c3
    have c3b1 : (t123 != 0) = true := bne_iff_ne.mpr c3
    obtain rfl := Option.some.inj H
    go_enter Try.func15, Try.ntmps15
    go_wp2_with (first | ((with_reducible refine gate_callee (f := 57) rfl ?_); refine goesL_ (some 2) rfl rfl Try.func57 (by kernel_rfl) rfl #[] rfl (by (try simp only [List.map_toArray, List.map_cons, List.map_nil]); first | done | rfl | (simp only [List.length_drop, List.length_take]; rfl)) ?_; (with_reducible refine (prolixlaw18_example.calls  t115 t116 t117 t118 t119 _ A1.out).mono ?_); rintro e w35 ⟨v120, rfl, ho0, hb⟩; refine ⟨_, rfl, ?_⟩; have n0_ := Aside0.mk (Kd.R_lower ho0 (below_size (by repeat (first | (with_reducible first | exact HB.out | apply below_alloc | apply pw_below_drewN | apply below_drew1) | exact HB.out)))); have n1_ := Aside0.mk (below_step (by repeat (first | (with_reducible first | exact HB.out | apply below_alloc | apply pw_below_drewN | apply below_drew1) | exact HB.out)) hb); clear HB; have HO121 := n0_; have HB := n1_; clear n0_ n1_; (try clear hb); (try clear hb2); (try clear hk); (try clear hi); (try clear ho0)) | ((with_reducible refine gate_dst (N := 1) rfl ?_); refine box_event ?hg (N := 1) ?hd (cs := #[.string (⟨#[]⟩ : ByteArray), .int .i64 0, .int .i64 0, .int .i64 0, .slice none 0 0]) (t := 28) ?hr ?_; (case hd => rfl); (case hg => rfl); (case hr => first | (go_simp; done) | (go_simp; rfl)); intro gb122 hg w36 hbox hb; have n0_ := Aside0.mk (Kd.R_below (by (with_reducible repeat (first | apply Kd.R_alloc | apply Kd.R_drewN | apply Kd.R_drew)); exact HO121.out) hb); have n1_ := Aside0.mk (below_step (by repeat (first | (with_reducible first | exact HB.out | apply below_alloc | apply pw_below_drewN | apply below_drew1) | exact HB.out)) hb); have n2_ := Aside0.mk (hbox); have n3_ := Aside0.mk ((by rw [hg]; exact (below_size (by repeat (first | (with_reducible first | exact HB.out | apply below_alloc | apply pw_below_drewN | apply below_drew1) | exact HB.out))) : w.heap.size ≤ gb122)); have n4_ := Aside0.mk ((by rw [hg]; exact (below_size (by repeat (first | (with_reducible first | exact HB.out | apply below_alloc | apply pw_below_drewN | apply below_drew1) | exact HB.out))) : w.heap.size ≤ gb122)); clear HO121; clear HB; have HO121 := n0_; have HB := n1_; have BK122 := n2_; have GW122 := n3_; have GE122 := n4_; clear n0_ n1_ n2_ n3_ n4_; clear hb hbox hg; have hcz37_0 : w36.cell? ⟨gb122, 0, none⟩ = some (.string (⟨#[]⟩ : ByteArray)) := (blk_cell BK122.out 0).trans rfl; have hcz37_1 : w36.cell? ⟨gb122, 1, none⟩ = some (.int .i64 0) := (blk_cell BK122.out 1).trans rfl; have hcz37_2 : w36.cell? ⟨gb122, 2, none⟩ = some (.int .i64 0) := (blk_cell BK122.out 2).trans rfl; have hcz37_3 : w36.cell? ⟨gb122, 3, none⟩ = some (.int .i64 0) := (blk_cell BK122.out 3).trans rfl; have hcz37_4 : w36.cell? ⟨gb122, 4, none⟩ = some (.slice none 0 0) := (blk_cell BK122.out 4).trans rfl; have hfz37_0 := blk_frozen BK122.out 0; have hfz37_1 := blk_frozen BK122.out 1; have hfz37_2 := blk_frozen BK122.out 2; have hfz37_3 := blk_frozen BK122.out 3; have hfz37_4 := blk_frozen BK122.out 4; obtain ⟨Ao38, co38, eo38⟩ := Kd.R_slice HO121.out; subst eo38) | ((with_reducible refine gate_callee (f := 17) rfl ?_); refine goesL_ (some 4) rfl rfl Try.func17 (by kernel_rfl) rfl #[.agg #[.string t115, .int .i64 t116, .int .i64 t117, .int .i64 t118, .slice Ao38 t119.length co38]] rfl (by (try simp only [List.map_toArray, List.map_cons, List.map_nil]); first | done | rfl | (simp only [List.length_drop, List.length_take]; rfl)) ?_; (with_reducible refine (code_Check.calls k t115 t116 t117 t118 _ _ t119 t123 _ ?side1 ?side2 A2.out).mono ?_); (case side1 => refine (Kd.R_reads' (e := 39) (base := w.heap.size) (ok := fun k_ => True) (n := t119.length) (c := co38) ?_).2.2; exact (by (with_reducible repeat (first | apply Kd.R_alloc | apply Kd.R_drewN | apply Kd.R_drew)); exact (Kd.R_mono (Kd.R_far (p := ⟨gb122, 4, none⟩) (Kd.R_far (p := ⟨gb122, 3, none⟩) (Kd.R_far (p := ⟨gb122, 2, none⟩) (Kd.R_far (p := ⟨gb122, 1, none⟩) (Kd.R_far (p := ⟨gb122, 0, none⟩) (Kd.R_types HO121.out BK122.out (by decide)) (fun _ hk => hk.2) (.string t115)) (fun _ hk => hk.2) (.int .i64 t116)) (fun _ hk => hk.2) (.int .i64 t117)) (fun _ hk => hk.2) (.int .i64 t118)) (fun _ hk => hk.2) (.slice Ao38 t119.length co38)) (fun _ h_ => h_.1)))); (case side2 => exact (Kd.R_reads' HO121.out).2.1); rintro e w39 ⟨rfl, hb⟩; refine ⟨_, rfl, ?_⟩; have n0_ := Aside0.mk (Kd.R_below (by (with_reducible repeat (first | apply Kd.R_alloc | apply Kd.R_drewN | apply Kd.R_drew)); exact (Kd.R_mono (Kd.R_far (p := ⟨gb122, 4, none⟩) (Kd.R_far (p := ⟨gb122, 3, none⟩) (Kd.R_far (p := ⟨gb122, 2, none⟩) (Kd.R_far (p := ⟨gb122, 1, none⟩) (Kd.R_far (p := ⟨gb122, 0, none⟩) (Kd.R_types HO121.out BK122.out (by decide)) (fun _ hk => hk.2) (.string t115)) (fun _ hk => hk.2) (.int .i64 t116)) (fun _ hk => hk.2) (.int .i64 t117)) (fun _ hk => hk.2) (.int .i64 t118)) (fun _ hk => hk.2) (.slice Ao38 t119.length co38)) (fun _ h_ => h_.1))) hb); have n1_ := Aside0.mk (blk_below (g := gb122) (o := .cells #[.string t115, .int .i64 t116, .int .i64 t117, .int .i64 t118, .slice Ao38 t119.length co38] 28 (0, 0)) (by (with_reducible repeat (first | refine blk_drewN ?_ _ | refine blk_drew ?_ | refine blk_alloc ?_ _)); refine blk_put (cs := #[.string t115, .int .i64 t116, .int .i64 t117, .int .i64 t118, .slice none 0 0]) ?_ 4 _ rfl; (with_reducible repeat (first | refine blk_drewN ?_ _ | refine blk_drew ?_ | refine blk_alloc ?_ _)); refine blk_put (cs := #[.string t115, .int .i64 t116, .int .i64 t117, .int .i64 0, .slice none 0 0]) ?_ 3 _ rfl; (with_reducible repeat (first | refine blk_drewN ?_ _ | refine blk_drew ?_ | refine blk_alloc ?_ _)); refine blk_put (cs := #[.string t115, .int .i64 t116, .int .i64 0, .int .i64 0, .slice none 0 0]) ?_ 2 _ rfl; (with_reducible repeat (first | refine blk_drewN ?_ _ | refine blk_drew ?_ | refine blk_alloc ?_ _)); refine blk_put (cs := #[.string t115, .int .i64 0, .int .i64 0, .int .i64 0, .slice none 0 0]) ?_ 1 _ rfl; (with_reducible repeat (first | refine blk_drewN ?_ _ | refine blk_drew ?_ | refine blk_alloc ?_ _)); refine blk_put (cs := #[.string (⟨#[]⟩ : ByteArray), .int .i64 0, .int .i64 0, .int .i64 0, .slice none 0 0]) ?_ 0 _ rfl; (with_reducible repeat (first | refine blk_drewN ?_ _ | refine blk_drew ?_ | refine blk_alloc ?_ _)); exact BK122.out) hb); have n2_ := Aside0.mk (below_step (by repeat (first | (with_reducible first | exact HB.out | apply below_alloc | apply pw_below_drewN | apply below_drew1 | refine below_set ?_ GE122.out) | exact HB.out)) hb); clear HO121; clear BK122; clear HB; have HO121 := n0_; have BK122 := n1_; have HB := n2_; clear n0_ n1_ n2_; (try clear hb); (try clear hb2); (try clear hk); (try clear hi)))
    go_ret
    exact ⟨by first | rfl | (simp [errW_none, errW_some] <;> rfl) | (simp [*, errW_none, errW_some] <;> rfl), by repeat (first | (with_reducible first | exact HB.out | apply below_alloc | apply pw_below_drewN | apply below_drew1 | refine below_set ?_ GE122.out) | exact HB.out)⟩

/-! ### prolixlaw18_To: function 16 -/
def prolixlaw18_To.l0 : Nat → List (S89) → Int → Int → ByteArray → Int → Int → Int → List (S39) → Option (ByteArray × Int × Int × Int × (List (S39)))
  | 0, _, _, _, _, _, _, _, _ => none
  | k + 1, x16, x17, x18, x130000, x130001, x130002, x130003, x130004 => if x18 < x17 then (if 0 ≤ x18 then (if x18 < (x16.length : Int) then (if x130004.length < 3518437208883 then (prolixlaw18_To.l0 k x16 x17 (wrap64 (x18 + 1)) x130000 x130001 x130002 x130003 (x130004 ++ [(⟨(rd_T89 x16 x18).f0, (rd_T89 x16 x18).f1, (rd_T89 x16 x18).f2, (rd_T89 x16 x18).f3⟩ : S39)])) else (none)) else (none)) else (none)) else (some (x130000, x130001, x130002, x130003, x130004))
def prolixlaw18_To.f (k : Nat) (a0_0 : ByteArray) (a0_1 : Int) (a0_2 : Int) (a0_3 : Int) (l0_4 : List (S89)) : Option (ByteArray × Int × Int × Int × (List (S39))) := prolixlaw18_To.l0 k l0_4 (l0_4.length : Int) 0 a0_0 a0_1 a0_2 a0_3 ([] : List (S39))
theorem prolixlaw18_To.mono_l : ∀ k, (∀ y0 y1 y2 y3 y4 y5 y6 y7, LeO (prolixlaw18_To.l0 k y0 y1 y2 y3 y4 y5 y6 y7) (prolixlaw18_To.l0 (k + 1) y0 y1 y2 y3 y4 y5 y6 y7))
  | 0 => fun _ _ _ _ _ _ _ _ r h => by simp [prolixlaw18_To.l0] at h
  | k + 1 => by
    have ih0 := prolixlaw18_To.mono_l k
    · intro y0 y1 y2 y3 y4 y5 y6 y7
      unfold prolixlaw18_To.l0
      repeat' first
      | (with_reducible exact ih0 _ _ _ _ _ _ _ _)
      | (with_reducible exact LeO.refl _)
      | (with_reducible exact LeO.none _)
      | (with_reducible refine LeO.ite ?_ ?_)
      | (with_reducible refine LeO.bind ?_ (fun _ => ?_))
      | exact ih0 _ _ _ _ _ _ _ _
      | exact LeO.none _
      | refine LeO.ite ?_ ?_
      | refine LeO.bind ?_ (fun _ => ?_)
theorem prolixlaw18_To.mono : ∀ a0 a1 a2 a3 a4 k, LeO (prolixlaw18_To.f k a0 a1 a2 a3 a4) (prolixlaw18_To.f (k + 1) a0 a1 a2 a3 a4) := by
  intro a0 a1 a2 a3 a4 k
  have ih0 := prolixlaw18_To.mono_l k
  unfold prolixlaw18_To.f
  repeat' first
      | (with_reducible exact ih0 _ _ _ _ _ _ _ _)
      | (with_reducible exact LeO.refl _)
      | (with_reducible exact LeO.none _)
      | (with_reducible refine LeO.ite ?_ ?_)
      | (with_reducible refine LeO.bind ?_ (fun _ => ?_))
      | exact ih0 _ _ _ _ _ _ _ _
      | exact LeO.none _
      | refine LeO.ite ?_ ?_
      | refine LeO.bind ?_ (fun _ => ?_)
set_option maxHeartbeats 8000000 in
set_option maxRecDepth 100000 in
theorem prolixlaw18_To.calls (k : Nat) (a0_0 : ByteArray) (a0_1 : Int) (a0_2 : Int) (a0_3 : Int) (A0_4 : Option Addr) (c0_4 : Nat) (l0_4 : List (S89)) (r1 : ByteArray) (r2 : Int) (r3 : Int) (r4 : Int) (r5 : List (S39)) (w : World) (hr0_4 : Kd.C k89 w A0_4 l0_4.length l0_4) (hc0_4 : l0_4.length ≤ c0_4) (h : prolixlaw18_To.f k a0_0 a0_1 a0_2 a0_3 l0_4 = some (r1, r2, r3, r4, r5)) :
    Calls Try.prog 16 #[.agg #[.string a0_0, .int .i64 a0_1, .int .i64 a0_2, .int .i64 a0_3, .slice A0_4 l0_4.length c0_4]] w fun e w' => ∃ v4_ : Value, e = .returned (.agg #[.string r1, .int .i64 r2, .int .i64 r3, .int .i64 r4, v4_]) ∧ Kd.R k39 39 w' w.heap.size (fun _ => True) v4_ r5 ∧ Below w.heap.size w w' := by
  have hu24 := Try.underlying24
  have hu28 := Try.underlying28
  have hu89 := Try.underlying89
  have HR0_4 := Aside0.mk hr0_4
  have HC0_4 := Aside0.mk hc0_4
  clear hr0_4 hc0_4
  have HB := Aside0.mk (Below.refl w.heap.size w)
  have H : (prolixlaw18_To.l0 k l0_4 (l0_4.length : Int) 0 a0_0 a0_1 a0_2 a0_3 ([] : List (S39))) = some (r1, r2, r3, r4, r5) := h
  clear h
  have H' := Aside0.mk H
  clear H
  go_enter Try.func16, Try.ntmps16
  go_wp2_with (first | ((with_reducible refine gate_dst (N := 1) rfl ?_); refine box_event ?hg (N := 1) ?hd (cs := #[.string a0_0, .int .i64 a0_1, .int .i64 a0_2, .int .i64 a0_3, .slice A0_4 l0_4.length c0_4]) (t := 24) ?hr ?_; (case hd => rfl); (case hg => rfl); (case hr => first | (go_simp; done) | (go_simp; rfl)); intro gb127 hg w2 hbox hb; have n0_ := Aside0.mk (below_step (by repeat (first | (with_reducible first | exact HB.out | apply below_alloc | apply pw_below_drewN | apply below_drew1) | exact HB.out)) hb); have n1_ := Aside0.mk (hbox); have n2_ := Aside0.mk ((by rw [hg]; exact (below_size (by repeat (first | (with_reducible first | exact HB.out | apply below_alloc | apply pw_below_drewN | apply below_drew1) | exact HB.out))) : w.heap.size ≤ gb127)); have n3_ := Aside0.mk ((by rw [hg]; exact (below_size (by repeat (first | (with_reducible first | exact HB.out | apply below_alloc | apply pw_below_drewN | apply below_drew1) | exact HB.out))) : w.heap.size ≤ gb127)); clear HB; have HB := n0_; have BK127 := n1_; have GW127 := n2_; have GE127 := n3_; clear n0_ n1_ n2_ n3_; clear hb hbox hg) | ((with_reducible refine gate_dst (N := 2) rfl ?_); refine box_event ?hg (N := 2) ?hd (cs := #[.string (⟨#[]⟩ : ByteArray), .int .i64 0, .int .i64 0, .int .i64 0, .slice none 0 0]) (t := 28) ?hr ?_; (case hd => rfl); (case hg => rfl); (case hr => first | (go_simp; done) | (go_simp; rfl)); intro gb128 hg w3 hbox hb; have n0_ := Aside0.mk (blk_below (g := gb127) (o := .cells #[.string a0_0, .int .i64 a0_1, .int .i64 a0_2, .int .i64 a0_3, .slice A0_4 l0_4.length c0_4] 24 (0, 0)) (by (with_reducible repeat (first | refine blk_drewN ?_ _ | refine blk_drew ?_ | refine blk_alloc ?_ _)); exact BK127.out) hb); have n1_ := Aside0.mk (below_step (by repeat (first | (with_reducible first | exact HB.out | apply below_alloc | apply pw_below_drewN | apply below_drew1 | refine below_set ?_ GE127.out) | exact HB.out)) hb); have n2_ := Aside0.mk (hbox); have n3_ := Aside0.mk ((by rw [hg]; exact (below_size (by repeat (first | (with_reducible first | exact HB.out | apply below_alloc | apply pw_below_drewN | apply below_drew1 | refine below_set ?_ GE127.out) | exact HB.out))) : w.heap.size ≤ gb128)); have n4_ := Aside0.mk ((by rw [hg]; exact (below_size (by repeat (first | (with_reducible first | exact HB.out | apply below_alloc | apply pw_below_drewN | apply below_drew1 | refine below_set ?_ GE127.out) | exact HB.out))) : w.heap.size ≤ gb128)); have n5_ := Aside0.mk ((by rw [hg]; exact Nat.ne_of_lt (blk_lt (g := gb127) (o := .cells #[.string a0_0, .int .i64 a0_1, .int .i64 a0_2, .int .i64 a0_3, .slice A0_4 l0_4.length c0_4] 24 (0, 0)) (by (with_reducible repeat (first | refine blk_drewN ?_ _ | refine blk_drew ?_ | refine blk_alloc ?_ _)); exact BK127.out)) : gb127 ≠ gb128)); have n6_ := Aside0.mk ((by rw [hg]; exact Nat.ne_of_gt (blk_lt (g := gb127) (o := .cells #[.string a0_0, .int .i64 a0_1, .int .i64 a0_2, .int .i64 a0_3, .slice A0_4 l0_4.length c0_4] 24 (0, 0)) (by (with_reducible repeat (first | refine blk_drewN ?_ _ | refine blk_drew ?_ | refine blk_alloc ?_ _)); exact BK127.out)) : gb128 ≠ gb127)); clear BK127; clear HB; have BK127 := n0_; have HB := n1_; have BK128 := n2_; have GW128 := n3_; have GE128 := n4_; have NB127_128 := n5_; have NB128_127 := n6_; clear n0_ n1_ n2_ n3_ n4_ n5_ n6_; clear hb hbox hg; have hnb4 := NB127_128.out; have hnc4 := NB128_127.out; have hcz5_0 : w3.cell? ⟨gb127, 0, none⟩ = some (.string a0_0) := (blk_cell BK127.out 0).trans rfl; have hcz5_1 : w3.cell? ⟨gb127, 1, none⟩ = some (.int .i64 a0_1) := (blk_cell BK127.out 1).trans rfl; have hcz5_2 : w3.cell? ⟨gb127, 2, none⟩ = some (.int .i64 a0_2) := (blk_cell BK127.out 2).trans rfl; have hcz5_3 : w3.cell? ⟨gb127, 3, none⟩ = some (.int .i64 a0_3) := (blk_cell BK127.out 3).trans rfl; have hcz5_4 : w3.cell? ⟨gb127, 4, none⟩ = some (.slice A0_4 l0_4.length c0_4) := (blk_cell BK127.out 4).trans rfl; have hfz5_0 := blk_frozen BK127.out 0; have hfz5_1 := blk_frozen BK127.out 1; have hfz5_2 := blk_frozen BK127.out 2; have hfz5_3 := blk_frozen BK127.out 3; have hfz5_4 := blk_frozen BK127.out 4) | ((with_reducible refine gate_dst (N := 3) rfl ?_); refine box_event ?hg (N := 3) ?hd (cs := #[.string (⟨#[]⟩ : ByteArray), .int .i64 0, .int .i64 0, .int .i64 0, .slice none 0 0]) (t := 28) ?hr ?_; (case hd => rfl); (case hg => rfl); (case hr => first | (go_simp; done) | (go_simp; rfl)); intro gb129 hg w6 hbox hb; have n0_ := Aside0.mk (blk_below (g := gb127) (o := .cells #[.string a0_0, .int .i64 a0_1, .int .i64 a0_2, .int .i64 a0_3, .slice A0_4 l0_4.length c0_4] 24 (0, 0)) (by (with_reducible repeat (first | refine blk_drewN ?_ _ | refine blk_drew ?_ | refine blk_alloc ?_ _)); exact BK127.out) hb); have n1_ := Aside0.mk (blk_below (g := gb128) (o := .cells #[.string (⟨#[]⟩ : ByteArray), .int .i64 0, .int .i64 0, .int .i64 0, .slice none 0 0] 28 (0, 0)) (by (with_reducible repeat (first | refine blk_drewN ?_ _ | refine blk_drew ?_ | refine blk_alloc ?_ _)); exact BK128.out) hb); have n2_ := Aside0.mk (below_step (by repeat (first | (with_reducible first | exact HB.out | apply below_alloc | apply pw_below_drewN | apply below_drew1 | refine below_set ?_ GE127.out | refine below_set ?_ GE128.out) | exact HB.out)) hb); have n3_ := Aside0.mk (hbox); have n4_ := Aside0.mk ((by rw [hg]; exact (below_size (by repeat (first | (with_reducible first | exact HB.out | apply below_alloc | apply pw_below_drewN | apply below_drew1 | refine below_set ?_ GE127.out | refine below_set ?_ GE128.out) | exact HB.out))) : w.heap.size ≤ gb129)); have n5_ := Aside0.mk ((by rw [hg]; exact (below_size (by repeat (first | (with_reducible first | exact HB.out | apply below_alloc | apply pw_below_drewN | apply below_drew1 | refine below_set ?_ GE127.out | refine below_set ?_ GE128.out) | exact HB.out))) : w.heap.size ≤ gb129)); have n6_ := Aside0.mk ((by rw [hg]; exact Nat.ne_of_lt (blk_lt (g := gb127) (o := .cells #[.string a0_0, .int .i64 a0_1, .int .i64 a0_2, .int .i64 a0_3, .slice A0_4 l0_4.length c0_4] 24 (0, 0)) (by (with_reducible repeat (first | refine blk_drewN ?_ _ | refine blk_drew ?_ | refine blk_alloc ?_ _)); exact BK127.out)) : gb127 ≠ gb129)); have n7_ := Aside0.mk ((by rw [hg]; exact Nat.ne_of_gt (blk_lt (g := gb127) (o := .cells #[.string a0_0, .int .i64 a0_1, .int .i64 a0_2, .int .i64 a0_3, .slice A0_4 l0_4.length c0_4] 24 (0, 0)) (by (with_reducible repeat (first | refine blk_drewN ?_ _ | refine blk_drew ?_ | refine blk_alloc ?_ _)); exact BK127.out)) : gb129 ≠ gb127)); have n8_ := Aside0.mk ((by rw [hg]; exact Nat.ne_of_lt (blk_lt (g := gb128) (o := .cells #[.string (⟨#[]⟩ : ByteArray), .int .i64 0, .int .i64 0, .int .i64 0, .slice none 0 0] 28 (0, 0)) (by (with_reducible repeat (first | refine blk_drewN ?_ _ | refine blk_drew ?_ | refine blk_alloc ?_ _)); exact BK128.out)) : gb128 ≠ gb129)); have n9_ := Aside0.mk ((by rw [hg]; exact Nat.ne_of_gt (blk_lt (g := gb128) (o := .cells #[.string (⟨#[]⟩ : ByteArray), .int .i64 0, .int .i64 0, .int .i64 0, .slice none 0 0] 28 (0, 0)) (by (with_reducible repeat (first | refine blk_drewN ?_ _ | refine blk_drew ?_ | refine blk_alloc ?_ _)); exact BK128.out)) : gb129 ≠ gb128)); clear BK127; clear BK128; clear HB; have BK127 := n0_; have BK128 := n1_; have HB := n2_; have BK129 := n3_; have GW129 := n4_; have GE129 := n5_; have NB127_129 := n6_; have NB129_127 := n7_; have NB128_129 := n8_; have NB129_128 := n9_; clear n0_ n1_ n2_ n3_ n4_ n5_ n6_ n7_ n8_ n9_; clear hb hbox hg; have hnb7 := NB129_127.out; have hnc7 := NB127_129.out; have hnb8 := NB129_128.out; have hnc8 := NB128_129.out; have hcz9_0 : w6.cell? ⟨gb129, 0, none⟩ = some (.string (⟨#[]⟩ : ByteArray)) := (blk_cell BK129.out 0).trans rfl; have hcz9_1 : w6.cell? ⟨gb129, 1, none⟩ = some (.int .i64 0) := (blk_cell BK129.out 1).trans rfl; have hcz9_2 : w6.cell? ⟨gb129, 2, none⟩ = some (.int .i64 0) := (blk_cell BK129.out 2).trans rfl; have hcz9_3 : w6.cell? ⟨gb129, 3, none⟩ = some (.int .i64 0) := (blk_cell BK129.out 3).trans rfl; have hcz9_4 : w6.cell? ⟨gb129, 4, none⟩ = some (.slice none 0 0) := (blk_cell BK129.out 4).trans rfl; have hfz9_0 := blk_frozen BK129.out 0; have hfz9_1 := blk_frozen BK129.out 1; have hfz9_2 := blk_frozen BK129.out 2; have hfz9_3 := blk_frozen BK129.out 3; have hfz9_4 := blk_frozen BK129.out 4; have hcz10_0 : w6.cell? ⟨gb127, 0, none⟩ = some (.string a0_0) := (blk_cell BK127.out 0).trans rfl; have hcz10_1 : w6.cell? ⟨gb127, 1, none⟩ = some (.int .i64 a0_1) := (blk_cell BK127.out 1).trans rfl; have hcz10_2 : w6.cell? ⟨gb127, 2, none⟩ = some (.int .i64 a0_2) := (blk_cell BK127.out 2).trans rfl; have hcz10_3 : w6.cell? ⟨gb127, 3, none⟩ = some (.int .i64 a0_3) := (blk_cell BK127.out 3).trans rfl; have hcz10_4 : w6.cell? ⟨gb127, 4, none⟩ = some (.slice A0_4 l0_4.length c0_4) := (blk_cell BK127.out 4).trans rfl; have hfz10_0 := blk_frozen BK127.out 0; have hfz10_1 := blk_frozen BK127.out 1; have hfz10_2 := blk_frozen BK127.out 2; have hfz10_3 := blk_frozen BK127.out 3; have hfz10_4 := blk_frozen BK127.out 4))
  go_loopg [18] k (fun kq v18 w' => ∃ (x18_1 : Int) (x130004_1 : List (S39)) (u130004 : Value), v18 = .int .i64 x18_1 ∧ Aside0 (prolixlaw18_To.l0 kq l0_4 (l0_4.length : Int) x18_1 a0_0 a0_1 a0_2 a0_3 x130004_1 = some (r1, r2, r3, r4, r5)) ∧ Aside0 (kq ≤ k) ∧ Aside0 (Kd.R k39 39 w' w.heap.size (fun _ => True) u130004 x130004_1) ∧ Aside0 (w'.heap[gb127]? = some (.cells #[.string a0_0, .int .i64 a0_1, .int .i64 a0_2, .int .i64 a0_3, (.slice A0_4 l0_4.length c0_4)] 24 (0, 0))) ∧ Aside0 (w'.heap[gb128]? = some (.cells #[.string (⟨#[]⟩ : ByteArray), .int .i64 0, .int .i64 0, .int .i64 0, (.slice none 0 0)] 28 (0, 0))) ∧ Aside0 (w'.heap[gb129]? = some (.cells #[.string a0_0, .int .i64 a0_1, .int .i64 a0_2, .int .i64 a0_3, u130004] 28 (0, 0))) ∧ Aside0 (Below w.heap.size w w'))
  case atStart => exact ⟨(0), (([] : List (S39))), (.slice none 0 0), (by first | rfl | (simp; done) | (simp [*]; done)), H', ⟨Nat.le_refl _⟩, ⟨by first | exact Kd.R_nil _ _ _ _ _ | exact Kd.N_nil _ _ _ _ _ | exact Kd.V_nil _ _ _ _ _ | exact Kd.Q_nil _ _ _ _ _ | exact Kd.S_nil _ _ _ _ _⟩, ⟨by (with_reducible repeat (first | refine blk_drewN ?_ _ | refine blk_drew ?_ | refine blk_alloc ?_ _)); refine blk_far ?_ NB127_129.out _; (with_reducible repeat (first | refine blk_drewN ?_ _ | refine blk_drew ?_ | refine blk_alloc ?_ _)); refine blk_far ?_ NB127_129.out _; (with_reducible repeat (first | refine blk_drewN ?_ _ | refine blk_drew ?_ | refine blk_alloc ?_ _)); refine blk_far ?_ NB127_129.out _; (with_reducible repeat (first | refine blk_drewN ?_ _ | refine blk_drew ?_ | refine blk_alloc ?_ _)); refine blk_far ?_ NB127_129.out _; (with_reducible repeat (first | refine blk_drewN ?_ _ | refine blk_drew ?_ | refine blk_alloc ?_ _)); refine blk_far ?_ NB127_129.out _; (with_reducible repeat (first | refine blk_drewN ?_ _ | refine blk_drew ?_ | refine blk_alloc ?_ _)); exact BK127.out⟩, ⟨by (with_reducible repeat (first | refine blk_drewN ?_ _ | refine blk_drew ?_ | refine blk_alloc ?_ _)); refine blk_far ?_ NB128_129.out _; (with_reducible repeat (first | refine blk_drewN ?_ _ | refine blk_drew ?_ | refine blk_alloc ?_ _)); refine blk_far ?_ NB128_129.out _; (with_reducible repeat (first | refine blk_drewN ?_ _ | refine blk_drew ?_ | refine blk_alloc ?_ _)); refine blk_far ?_ NB128_129.out _; (with_reducible repeat (first | refine blk_drewN ?_ _ | refine blk_drew ?_ | refine blk_alloc ?_ _)); refine blk_far ?_ NB128_129.out _; (with_reducible repeat (first | refine blk_drewN ?_ _ | refine blk_drew ?_ | refine blk_alloc ?_ _)); refine blk_far ?_ NB128_129.out _; (with_reducible repeat (first | refine blk_drewN ?_ _ | refine blk_drew ?_ | refine blk_alloc ?_ _)); exact BK128.out⟩, ⟨by (with_reducible repeat (first | refine blk_drewN ?_ _ | refine blk_drew ?_ | refine blk_alloc ?_ _)); refine blk_put (cs := #[.string a0_0, .int .i64 a0_1, .int .i64 a0_2, .int .i64 a0_3, .slice none 0 0]) ?_ 4 _ rfl; (with_reducible repeat (first | refine blk_drewN ?_ _ | refine blk_drew ?_ | refine blk_alloc ?_ _)); refine blk_put (cs := #[.string a0_0, .int .i64 a0_1, .int .i64 a0_2, .int .i64 0, .slice none 0 0]) ?_ 3 _ rfl; (with_reducible repeat (first | refine blk_drewN ?_ _ | refine blk_drew ?_ | refine blk_alloc ?_ _)); refine blk_put (cs := #[.string a0_0, .int .i64 a0_1, .int .i64 0, .int .i64 0, .slice none 0 0]) ?_ 2 _ rfl; (with_reducible repeat (first | refine blk_drewN ?_ _ | refine blk_drew ?_ | refine blk_alloc ?_ _)); refine blk_put (cs := #[.string a0_0, .int .i64 0, .int .i64 0, .int .i64 0, .slice none 0 0]) ?_ 1 _ rfl; (with_reducible repeat (first | refine blk_drewN ?_ _ | refine blk_drew ?_ | refine blk_alloc ?_ _)); refine blk_put (cs := #[.string (⟨#[]⟩ : ByteArray), .int .i64 0, .int .i64 0, .int .i64 0, .slice none 0 0]) ?_ 0 _ rfl; (with_reducible repeat (first | refine blk_drewN ?_ _ | refine blk_drew ?_ | refine blk_alloc ?_ _)); exact BK129.out⟩, ⟨by repeat (first | (with_reducible first | exact HB.out | apply below_alloc | apply pw_below_drewN | apply below_drew1 | refine below_set ?_ GE127.out | refine below_set ?_ GE128.out | refine below_set ?_ GE129.out) | exact HB.out)⟩⟩
  case round =>
    clear H'
    try clear c1
    try clear p2
    try clear c4
    try clear c7
    try clear c8
    try clear hcz10_0
    try clear hcz10_1
    try clear hcz10_2
    try clear hcz10_3
    try clear hcz10_4
    try clear hcz5_0
    try clear hcz5_1
    try clear hcz5_2
    try clear hcz5_3
    try clear hcz5_4
    try clear hcz9_0
    try clear hcz9_1
    try clear hcz9_2
    try clear hcz9_3
    try clear hcz9_4
    try clear hfz10_0
    try clear hfz10_1
    try clear hfz10_2
    try clear hfz10_3
    try clear hfz10_4
    try clear hfz5_0
    try clear hfz5_1
    try clear hfz5_2
    try clear hfz5_3
    try clear hfz5_4
    try clear hfz9_0
    try clear hfz9_1
    try clear hfz9_2
    try clear hfz9_3
    try clear hfz9_4
    obtain ⟨x18_1, x130004_1, u130004, rfl, HA, HK1, HO_130004, BK127, BK128, BK129, HB⟩ := hrel
    cases gk with
    | zero => exact absurd HA.out (by simp [prolixlaw18_To.l0])
    | succ k1 =>
      have H := HA.out
      clear HA
      simp only [prolixlaw18_To.l0] at H
      by_cases c11 : x18_1 < (l0_4.length : Int)
      · rw [if_pos c11] at H
        have c11b0 : decide (x18_1 < (l0_4.length : Int)) = true := decide_eq_true c11
        clear c11
        by_cases c12 : 0 ≤ x18_1
        · rw [if_pos c12] at H
          have c12b0 : decide (0 ≤ x18_1) = true := decide_eq_true c12
          clear c12
          by_cases c13 : x18_1 < (l0_4.length : Int)
          · rw [if_pos c13] at H
            have c13b0 : decide (x18_1 < (l0_4.length : Int)) = true := decide_eq_true c13
            clear c13
            by_cases c14 : x130004_1.length < 3518437208883
            · rw [if_pos c14] at H
              have LMc14 := Aside0.mk c14
              clear c14
              obtain ⟨y132, hy132⟩ : ∃ y_ : List (S39), y_ = (x130004_1 ++ [(⟨(rd_T89 l0_4 x18_1).f0, (rd_T89 l0_4 x18_1).f1, (rd_T89 l0_4 x18_1).f2, (rd_T89 l0_4 x18_1).f3⟩ : S39)]) := ⟨_, rfl⟩
              replace H : (prolixlaw18_To.l0 k1 l0_4 (l0_4.length : Int) (wrap64 (x18_1 + 1)) a0_0 a0_1 a0_2 a0_3 y132) = some (r1, r2, r3, r4, r5) := by first | (rw [hy132]; with_reducible exact H) | (have H2_ := (Option.bind_some _ _).symm.trans H; rw [hy132]; with_reducible exact H2_) | (have H2_ := (Option.bind_some _ _).symm.trans H; with_reducible exact H2_) | with_reducible exact H | (rw [hy132]; exact H) | exact H
              have Ny132 := Aside0.mk hy132
              clear hy132
              have H' := Aside0.mk H
              clear H
              have p130 : 0 ≤ (x18_1 : Int) := of_decide_eq_true (by first | (with_reducible assumption) | assumption)
              have q130 : x18_1 < (l0_4.length : Int) := of_decide_eq_true (by first | (with_reducible assumption) | assumption)
              obtain ⟨ad130, e130, hx130_0, hx130_1, hx130_2, hx130_3⟩ := at_T89 HR0_4.out x18_1 p130 q130
              cases e130
              replace hx130_0 := (HB.out.cell (World.block_lt_of_cell? w _ hx130_0)).trans hx130_0
              replace hx130_1 := (HB.out.cell (World.block_lt_of_cell? w _ hx130_1)).trans hx130_1
              replace hx130_2 := (HB.out.cell (World.block_lt_of_cell? w _ hx130_2)).trans hx130_2
              replace hx130_3 := (HB.out.cell (World.block_lt_of_cell? w _ hx130_3)).trans hx130_3
              replace p130 := eq_true p130
              replace q130 := eq_true q130
              go_wp2_with (first | ((with_reducible refine gate_dst (N := 5) rfl ?_); refine box_event ?hg (N := 5) ?hd (cs := #[.int .i64 0, .int .i64 0, .int .i64 0, .string (⟨#[]⟩ : ByteArray)]) (t := 89) ?hr ?_; (case hd => rfl); (case hg => rfl); (case hr => first | (go_simp; done) | (go_simp; rfl)); intro gb131 hg w15 hbox hb; have n0_ := Aside0.mk (Kd.R_below (by (with_reducible repeat (first | apply Kd.R_alloc | apply Kd.R_drewN | apply Kd.R_drew)); exact HO_130004.out) hb); have n1_ := Aside0.mk (blk_below (g := gb127) (o := .cells #[.string a0_0, .int .i64 a0_1, .int .i64 a0_2, .int .i64 a0_3, .slice (some ad130) l0_4.length c0_4] 24 (0, 0)) (by (with_reducible repeat (first | refine blk_drewN ?_ _ | refine blk_drew ?_ | refine blk_alloc ?_ _)); exact BK127.out) hb); have n2_ := Aside0.mk (blk_below (g := gb128) (o := .cells #[.string (⟨#[]⟩ : ByteArray), .int .i64 0, .int .i64 0, .int .i64 0, .slice none 0 0] 28 (0, 0)) (by (with_reducible repeat (first | refine blk_drewN ?_ _ | refine blk_drew ?_ | refine blk_alloc ?_ _)); exact BK128.out) hb); have n3_ := Aside0.mk (blk_below (g := gb129) (o := .cells #[.string a0_0, .int .i64 a0_1, .int .i64 a0_2, .int .i64 a0_3, u130004] 28 (0, 0)) (by (with_reducible repeat (first | refine blk_drewN ?_ _ | refine blk_drew ?_ | refine blk_alloc ?_ _)); exact BK129.out) hb); have n4_ := Aside0.mk (below_step (by repeat (first | (with_reducible first | exact HB.out | apply below_alloc | apply pw_below_drewN | apply below_drew1 | refine below_set ?_ GE127.out | refine below_set ?_ GE128.out | refine below_set ?_ GE129.out) | exact HB.out)) hb); have n5_ := Aside0.mk (hbox); have n6_ := Aside0.mk ((by rw [hg]; exact (below_size (by repeat (first | (with_reducible first | exact HB.out | apply below_alloc | apply pw_below_drewN | apply below_drew1 | refine below_set ?_ GE127.out | refine below_set ?_ GE128.out | refine below_set ?_ GE129.out) | exact HB.out))) : w.heap.size ≤ gb131)); have n7_ := Aside0.mk ((by rw [hg]; exact (below_size (by repeat (first | (with_reducible first | exact HB.out | apply below_alloc | apply pw_below_drewN | apply below_drew1 | refine below_set ?_ GE127.out | refine below_set ?_ GE128.out | refine below_set ?_ GE129.out) | exact HB.out))) : w.heap.size ≤ gb131)); have n8_ := Aside0.mk ((by rw [hg]; exact Nat.ne_of_lt (blk_lt (g := gb127) (o := .cells #[.string a0_0, .int .i64 a0_1, .int .i64 a0_2, .int .i64 a0_3, .slice (some ad130) l0_4.length c0_4] 24 (0, 0)) (by (with_reducible repeat (first | refine blk_drewN ?_ _ | refine blk_drew ?_ | refine blk_alloc ?_ _)); exact BK127.out)) : gb127 ≠ gb131)); have n9_ := Aside0.mk ((by rw [hg]; exact Nat.ne_of_gt (blk_lt (g := gb127) (o := .cells #[.string a0_0, .int .i64 a0_1, .int .i64 a0_2, .int .i64 a0_3, .slice (some ad130) l0_4.length c0_4] 24 (0, 0)) (by (with_reducible repeat (first | refine blk_drewN ?_ _ | refine blk_drew ?_ | refine blk_alloc ?_ _)); exact BK127.out)) : gb131 ≠ gb127)); have n10_ := Aside0.mk ((by rw [hg]; exact Nat.ne_of_lt (blk_lt (g := gb128) (o := .cells #[.string (⟨#[]⟩ : ByteArray), .int .i64 0, .int .i64 0, .int .i64 0, .slice none 0 0] 28 (0, 0)) (by (with_reducible repeat (first | refine blk_drewN ?_ _ | refine blk_drew ?_ | refine blk_alloc ?_ _)); exact BK128.out)) : gb128 ≠ gb131)); have n11_ := Aside0.mk ((by rw [hg]; exact Nat.ne_of_gt (blk_lt (g := gb128) (o := .cells #[.string (⟨#[]⟩ : ByteArray), .int .i64 0, .int .i64 0, .int .i64 0, .slice none 0 0] 28 (0, 0)) (by (with_reducible repeat (first | refine blk_drewN ?_ _ | refine blk_drew ?_ | refine blk_alloc ?_ _)); exact BK128.out)) : gb131 ≠ gb128)); have n12_ := Aside0.mk ((by rw [hg]; exact Nat.ne_of_lt (blk_lt (g := gb129) (o := .cells #[.string a0_0, .int .i64 a0_1, .int .i64 a0_2, .int .i64 a0_3, u130004] 28 (0, 0)) (by (with_reducible repeat (first | refine blk_drewN ?_ _ | refine blk_drew ?_ | refine blk_alloc ?_ _)); exact BK129.out)) : gb129 ≠ gb131)); have n13_ := Aside0.mk ((by rw [hg]; exact Nat.ne_of_gt (blk_lt (g := gb129) (o := .cells #[.string a0_0, .int .i64 a0_1, .int .i64 a0_2, .int .i64 a0_3, u130004] 28 (0, 0)) (by (with_reducible repeat (first | refine blk_drewN ?_ _ | refine blk_drew ?_ | refine blk_alloc ?_ _)); exact BK129.out)) : gb131 ≠ gb129)); clear HO_130004; clear BK127; clear BK128; clear BK129; clear HB; have HO_130004 := n0_; have BK127 := n1_; have BK128 := n2_; have BK129 := n3_; have HB := n4_; have BK131 := n5_; have GW131 := n6_; have GE131 := n7_; have NB127_131 := n8_; have NB131_127 := n9_; have NB128_131 := n10_; have NB131_128 := n11_; have NB129_131 := n12_; have NB131_129 := n13_; clear n0_ n1_ n2_ n3_ n4_ n5_ n6_ n7_ n8_ n9_ n10_ n11_ n12_ n13_; clear hb hbox hg; have hnb16 := NB131_127.out; have hnc16 := NB127_131.out; have hnb17 := NB131_128.out; have hnc17 := NB128_131.out; have hnb18 := NB131_129.out; have hnc18 := NB129_131.out; have hcz19_0 : w15.cell? ⟨gb131, 0, none⟩ = some (.int .i64 0) := (blk_cell BK131.out 0).trans rfl; have hcz19_1 : w15.cell? ⟨gb131, 1, none⟩ = some (.int .i64 0) := (blk_cell BK131.out 1).trans rfl; have hcz19_2 : w15.cell? ⟨gb131, 2, none⟩ = some (.int .i64 0) := (blk_cell BK131.out 2).trans rfl; have hcz19_3 : w15.cell? ⟨gb131, 3, none⟩ = some (.string (⟨#[]⟩ : ByteArray)) := (blk_cell BK131.out 3).trans rfl; have hfz19_0 := blk_frozen BK131.out 0; have hfz19_1 := blk_frozen BK131.out 1; have hfz19_2 := blk_frozen BK131.out 2; have hfz19_3 := blk_frozen BK131.out 3; have hnb20 := NB129_127.out; have hnc20 := NB127_129.out; have hnb21 := NB129_128.out; have hnc21 := NB128_129.out; have hcz22_0 : w15.cell? ⟨gb129, 0, none⟩ = some (.string a0_0) := (blk_cell BK129.out 0).trans rfl; have hcz22_1 : w15.cell? ⟨gb129, 1, none⟩ = some (.int .i64 a0_1) := (blk_cell BK129.out 1).trans rfl; have hcz22_2 : w15.cell? ⟨gb129, 2, none⟩ = some (.int .i64 a0_2) := (blk_cell BK129.out 2).trans rfl; have hcz22_3 : w15.cell? ⟨gb129, 3, none⟩ = some (.int .i64 a0_3) := (blk_cell BK129.out 3).trans rfl; have hcz22_4 : w15.cell? ⟨gb129, 4, none⟩ = some (u130004) := (blk_cell BK129.out 4).trans rfl; have hfz22_0 := blk_frozen BK129.out 0; have hfz22_1 := blk_frozen BK129.out 1; have hfz22_2 := blk_frozen BK129.out 2; have hfz22_3 := blk_frozen BK129.out 3; have hfz22_4 := blk_frozen BK129.out 4) | ((with_reducible refine gate_builtin (b := .append) (xs := #[.tmp 23, .tmp 25]) rfl ?_); at_builtin; refine Kd.R_append k39 (w0 := w) w.heap.size rfl (.tmp 23) (.tmp 25) 26 39 (.agg #[(.int .i64 0), (.int .i64 0), (.int .i64 0), (.string ⟨#[]⟩)]) 40 rfl Try.underlying26 info39 rfl (by decide) (by omega) u130004 x130004_1 (⟨(rd_T89 l0_4 x18_1).f0, (rd_T89 l0_4 x18_1).f1, (rd_T89 l0_4 x18_1).f2, (rd_T89 l0_4 x18_1).f3⟩ : S39) [.int .i64 ((rd_T89 l0_4 x18_1).f0), .int .i64 ((rd_T89 l0_4 x18_1).f1), .int .i64 ((rd_T89 l0_4 x18_1).f2), .string ((rd_T89 l0_4 x18_1).f3)] (fun _ => True) (fun _ => False) rfl (by first | (go_simp; done) | (go_simp; rfl)) ?aP (fun _ hk => hk.elim) ?aF ?aO ?aB ?aS ?aL ?_; (case aP => exact k39_mkM _ _ _ (⟨(rd_T89 l0_4 x18_1).f0, (rd_T89 l0_4 x18_1).f1, (rd_T89 l0_4 x18_1).f2, (rd_T89 l0_4 x18_1).f3⟩ : S39)); (case aB => exact (by repeat (first | (with_reducible first | exact HB.out | apply below_alloc | apply pw_below_drewN | apply below_drew1 | refine below_set ?_ GE127.out | refine below_set ?_ GE128.out | refine below_set ?_ GE129.out | refine below_set ?_ GE131.out) | exact HB.out))); (case aF => exact (fun _ _ => trivial)); (case aO => exact (by (with_reducible repeat (first | apply Kd.R_alloc | apply Kd.R_drewN | apply Kd.R_drew)); exact Kd.R_mono (Kd.R_far (p := ⟨gb131, 3, none⟩) (Kd.R_far (p := ⟨gb131, 2, none⟩) (Kd.R_far (p := ⟨gb131, 1, none⟩) (Kd.R_far (p := ⟨gb131, 0, none⟩) (Kd.R_types HO_130004.out BK131.out (by decide)) (fun _ hk => hk.2) (.int .i64 ((rd_T89 l0_4 x18_1).f0))) (fun _ hk => hk.2) (.int .i64 ((rd_T89 l0_4 x18_1).f1))) (fun _ hk => hk.2) (.int .i64 ((rd_T89 l0_4 x18_1).f2))) (fun _ hk => hk.2) (.string ((rd_T89 l0_4 x18_1).f3))) (fun _ hk => trivial))); (case aS => exact (below_size (by repeat (first | (with_reducible first | exact HB.out | apply below_alloc | apply pw_below_drewN | apply below_drew1 | refine below_set ?_ GE127.out | refine below_set ?_ GE128.out | refine below_set ?_ GE129.out | refine below_set ?_ GE131.out) | exact HB.out)))); (case aL => have := LMc14.out; omega); intro v133 w23 ho hb hg hat; rw [← Ny132.out] at ho; have n0_ := Aside0.mk (blk_grown (g := gb127) (o := .cells #[.string a0_0, .int .i64 a0_1, .int .i64 a0_2, .int .i64 a0_3, .slice (some ad130) l0_4.length c0_4] 24 (0, 0)) (by (with_reducible repeat (first | refine blk_drewN ?_ _ | refine blk_drew ?_ | refine blk_alloc ?_ _)); refine blk_far ?_ NB127_131.out _; (with_reducible repeat (first | refine blk_drewN ?_ _ | refine blk_drew ?_ | refine blk_alloc ?_ _)); refine blk_far ?_ NB127_131.out _; (with_reducible repeat (first | refine blk_drewN ?_ _ | refine blk_drew ?_ | refine blk_alloc ?_ _)); refine blk_far ?_ NB127_131.out _; (with_reducible repeat (first | refine blk_drewN ?_ _ | refine blk_drew ?_ | refine blk_alloc ?_ _)); refine blk_far ?_ NB127_131.out _; (with_reducible repeat (first | refine blk_drewN ?_ _ | refine blk_drew ?_ | refine blk_alloc ?_ _)); exact BK127.out) hg (Kd.R_ne HO_130004.out BK127.out (by decide))); have n1_ := Aside0.mk (blk_grown (g := gb128) (o := .cells #[.string (⟨#[]⟩ : ByteArray), .int .i64 0, .int .i64 0, .int .i64 0, .slice none 0 0] 28 (0, 0)) (by (with_reducible repeat (first | refine blk_drewN ?_ _ | refine blk_drew ?_ | refine blk_alloc ?_ _)); refine blk_far ?_ NB128_131.out _; (with_reducible repeat (first | refine blk_drewN ?_ _ | refine blk_drew ?_ | refine blk_alloc ?_ _)); refine blk_far ?_ NB128_131.out _; (with_reducible repeat (first | refine blk_drewN ?_ _ | refine blk_drew ?_ | refine blk_alloc ?_ _)); refine blk_far ?_ NB128_131.out _; (with_reducible repeat (first | refine blk_drewN ?_ _ | refine blk_drew ?_ | refine blk_alloc ?_ _)); refine blk_far ?_ NB128_131.out _; (with_reducible repeat (first | refine blk_drewN ?_ _ | refine blk_drew ?_ | refine blk_alloc ?_ _)); exact BK128.out) hg (Kd.R_ne HO_130004.out BK128.out (by decide))); have n2_ := Aside0.mk (blk_grown (g := gb129) (o := .cells #[.string a0_0, .int .i64 a0_1, .int .i64 a0_2, .int .i64 a0_3, u130004] 28 (0, 0)) (by (with_reducible repeat (first | refine blk_drewN ?_ _ | refine blk_drew ?_ | refine blk_alloc ?_ _)); refine blk_far ?_ NB129_131.out _; (with_reducible repeat (first | refine blk_drewN ?_ _ | refine blk_drew ?_ | refine blk_alloc ?_ _)); refine blk_far ?_ NB129_131.out _; (with_reducible repeat (first | refine blk_drewN ?_ _ | refine blk_drew ?_ | refine blk_alloc ?_ _)); refine blk_far ?_ NB129_131.out _; (with_reducible repeat (first | refine blk_drewN ?_ _ | refine blk_drew ?_ | refine blk_alloc ?_ _)); refine blk_far ?_ NB129_131.out _; (with_reducible repeat (first | refine blk_drewN ?_ _ | refine blk_drew ?_ | refine blk_alloc ?_ _)); exact BK129.out) hg (Kd.R_ne HO_130004.out BK129.out (by decide))); have n3_ := Aside0.mk (blk_grown (g := gb131) (o := .cells #[.int .i64 ((rd_T89 l0_4 x18_1).f0), .int .i64 ((rd_T89 l0_4 x18_1).f1), .int .i64 ((rd_T89 l0_4 x18_1).f2), .string ((rd_T89 l0_4 x18_1).f3)] 89 (0, 0)) (by (with_reducible repeat (first | refine blk_drewN ?_ _ | refine blk_drew ?_ | refine blk_alloc ?_ _)); refine blk_put (cs := #[.int .i64 ((rd_T89 l0_4 x18_1).f0), .int .i64 ((rd_T89 l0_4 x18_1).f1), .int .i64 ((rd_T89 l0_4 x18_1).f2), .string (⟨#[]⟩ : ByteArray)]) ?_ 3 _ rfl; (with_reducible repeat (first | refine blk_drewN ?_ _ | refine blk_drew ?_ | refine blk_alloc ?_ _)); refine blk_put (cs := #[.int .i64 ((rd_T89 l0_4 x18_1).f0), .int .i64 ((rd_T89 l0_4 x18_1).f1), .int .i64 0, .string (⟨#[]⟩ : ByteArray)]) ?_ 2 _ rfl; (with_reducible repeat (first | refine blk_drewN ?_ _ | refine blk_drew ?_ | refine blk_alloc ?_ _)); refine blk_put (cs := #[.int .i64 ((rd_T89 l0_4 x18_1).f0), .int .i64 0, .int .i64 0, .string (⟨#[]⟩ : ByteArray)]) ?_ 1 _ rfl; (with_reducible repeat (first | refine blk_drewN ?_ _ | refine blk_drew ?_ | refine blk_alloc ?_ _)); refine blk_put (cs := #[.int .i64 0, .int .i64 0, .int .i64 0, .string (⟨#[]⟩ : ByteArray)]) ?_ 0 _ rfl; (with_reducible repeat (first | refine blk_drewN ?_ _ | refine blk_drew ?_ | refine blk_alloc ?_ _)); exact BK131.out) hg (Kd.R_ne HO_130004.out BK131.out (by decide))); have n4_ := Aside0.mk (hb); have n5_ := Aside0.mk (ho); clear BK127; clear BK128; clear BK129; clear BK131; clear HB; clear HO_130004; have BK127 := n0_; have BK128 := n1_; have BK129 := n2_; have BK131 := n3_; have HB := n4_; have HO134 := n5_; clear n0_ n1_ n2_ n3_ n4_ n5_; clear ho hb hg hat; obtain ⟨Ao24, co24, eo24⟩ := Kd.R_slice HO134.out; subst eo24; have hcz25_0 : w23.cell? ⟨gb129, 0, none⟩ = some (.string a0_0) := (blk_cell BK129.out 0).trans rfl; have hcz25_1 : w23.cell? ⟨gb129, 1, none⟩ = some (.int .i64 a0_1) := (blk_cell BK129.out 1).trans rfl; have hcz25_2 : w23.cell? ⟨gb129, 2, none⟩ = some (.int .i64 a0_2) := (blk_cell BK129.out 2).trans rfl; have hcz25_3 : w23.cell? ⟨gb129, 3, none⟩ = some (.int .i64 a0_3) := (blk_cell BK129.out 3).trans rfl; have hcz25_4 : w23.cell? ⟨gb129, 4, none⟩ = some (u130004) := (blk_cell BK129.out 4).trans rfl; have hfz25_0 := blk_frozen BK129.out 0; have hfz25_1 := blk_frozen BK129.out 1; have hfz25_2 := blk_frozen BK129.out 2; have hfz25_3 := blk_frozen BK129.out 3; have hfz25_4 := blk_frozen BK129.out 4))
              go_roundg k1
              case measure => have := HK1.out; omega
              case rel => exact ⟨(wrap64 (x18_1 + 1)), (y132), (.slice Ao24 y132.length co24), (by first | rfl | (simp; done) | (simp [*]; done)), H', ⟨by have := HK1.out; omega⟩, ⟨by (with_reducible repeat (first | apply Kd.R_alloc | apply Kd.R_drewN | apply Kd.R_drew)); exact Kd.R_mono (Kd.R_far (p := ⟨gb129, 4, none⟩) (Kd.R_types HO134.out BK129.out (by decide)) (fun _ hk => hk.2) (.slice Ao24 y132.length co24)) (fun _ hk => trivial)⟩, ⟨by (with_reducible repeat (first | refine blk_drewN ?_ _ | refine blk_drew ?_ | refine blk_alloc ?_ _)); refine blk_far ?_ NB127_129.out _; (with_reducible repeat (first | refine blk_drewN ?_ _ | refine blk_drew ?_ | refine blk_alloc ?_ _)); exact BK127.out⟩, ⟨by (with_reducible repeat (first | refine blk_drewN ?_ _ | refine blk_drew ?_ | refine blk_alloc ?_ _)); refine blk_far ?_ NB128_129.out _; (with_reducible repeat (first | refine blk_drewN ?_ _ | refine blk_drew ?_ | refine blk_alloc ?_ _)); exact BK128.out⟩, ⟨by (with_reducible repeat (first | refine blk_drewN ?_ _ | refine blk_drew ?_ | refine blk_alloc ?_ _)); refine blk_put (cs := #[.string a0_0, .int .i64 a0_1, .int .i64 a0_2, .int .i64 a0_3, u130004]) ?_ 4 _ rfl; (with_reducible repeat (first | refine blk_drewN ?_ _ | refine blk_drew ?_ | refine blk_alloc ?_ _)); exact BK129.out⟩, ⟨by repeat (first | (with_reducible first | exact HB.out | apply below_alloc | apply pw_below_drewN | apply below_drew1 | refine below_set ?_ GE127.out | refine below_set ?_ GE128.out | refine below_set ?_ GE129.out | refine below_set ?_ GE131.out) | exact HB.out)⟩⟩
            · rw [if_neg c14] at H
              exact absurd H (by simp)
          · rw [if_neg c13] at H
            exact absurd H (by simp)
        · rw [if_neg c12] at H
          exact absurd H (by simp)
      · rw [if_neg c11] at H
        have c11b0 : decide (x18_1 < (l0_4.length : Int)) = false := decide_eq_false c11
        clear c11
        simp only [Option.some.injEq, Prod.mk.injEq] at H
        obtain ⟨rfl, rfl, rfl, rfl, rfl⟩ := H
        have hnb26 := NB129_127.out
        have hnc26 := NB127_129.out
        have hnb27 := NB129_128.out
        have hnc27 := NB128_129.out
        have hcz28_0 : wr.cell? ⟨gb129, 0, none⟩ = some (.string a0_0) := (blk_cell BK129.out 0).trans rfl
        have hcz28_1 : wr.cell? ⟨gb129, 1, none⟩ = some (.int .i64 a0_1) := (blk_cell BK129.out 1).trans rfl
        have hcz28_2 : wr.cell? ⟨gb129, 2, none⟩ = some (.int .i64 a0_2) := (blk_cell BK129.out 2).trans rfl
        have hcz28_3 : wr.cell? ⟨gb129, 3, none⟩ = some (.int .i64 a0_3) := (blk_cell BK129.out 3).trans rfl
        have hcz28_4 : wr.cell? ⟨gb129, 4, none⟩ = some (u130004) := (blk_cell BK129.out 4).trans rfl
        have hfz28_0 := blk_frozen BK129.out 0
        have hfz28_1 := blk_frozen BK129.out 1
        have hfz28_2 := blk_frozen BK129.out 2
        have hfz28_3 := blk_frozen BK129.out 3
        have hfz28_4 := blk_frozen BK129.out 4
        have hnb29 := NB128_127.out
        have hnc29 := NB127_128.out
        have hcz30_0 : wr.cell? ⟨gb128, 0, none⟩ = some (.string (⟨#[]⟩ : ByteArray)) := (blk_cell BK128.out 0).trans rfl
        have hcz30_1 : wr.cell? ⟨gb128, 1, none⟩ = some (.int .i64 0) := (blk_cell BK128.out 1).trans rfl
        have hcz30_2 : wr.cell? ⟨gb128, 2, none⟩ = some (.int .i64 0) := (blk_cell BK128.out 2).trans rfl
        have hcz30_3 : wr.cell? ⟨gb128, 3, none⟩ = some (.int .i64 0) := (blk_cell BK128.out 3).trans rfl
        have hcz30_4 : wr.cell? ⟨gb128, 4, none⟩ = some (.slice none 0 0) := (blk_cell BK128.out 4).trans rfl
        have hfz30_0 := blk_frozen BK128.out 0
        have hfz30_1 := blk_frozen BK128.out 1
        have hfz30_2 := blk_frozen BK128.out 2
        have hfz30_3 := blk_frozen BK128.out 3
        have hfz30_4 := blk_frozen BK128.out 4
        obtain ⟨Ao31, co31, eo31⟩ := Kd.R_slice HO_130004.out
        subst eo31
        go_wp2
        refine bodyPost_ret (results_cell_row rfl _ _ gb128 28 #[.string a0_0, .int .i64 a0_1, .int .i64 a0_2, .int .i64 a0_3, .slice Ao31 x130004_1.length co31] (0, 0) _ rfl (by (with_reducible repeat (first | refine blk_drewN ?_ _ | refine blk_drew ?_ | refine blk_alloc ?_ _)); refine blk_put (cs := #[.string a0_0, .int .i64 a0_1, .int .i64 a0_2, .int .i64 a0_3, .slice none 0 0]) ?_ 4 _ rfl; (with_reducible repeat (first | refine blk_drewN ?_ _ | refine blk_drew ?_ | refine blk_alloc ?_ _)); refine blk_put (cs := #[.string a0_0, .int .i64 a0_1, .int .i64 a0_2, .int .i64 0, .slice none 0 0]) ?_ 3 _ rfl; (with_reducible repeat (first | refine blk_drewN ?_ _ | refine blk_drew ?_ | refine blk_alloc ?_ _)); refine blk_put (cs := #[.string a0_0, .int .i64 a0_1, .int .i64 0, .int .i64 0, .slice none 0 0]) ?_ 2 _ rfl; (with_reducible repeat (first | refine blk_drewN ?_ _ | refine blk_drew ?_ | refine blk_alloc ?_ _)); refine blk_put (cs := #[.string a0_0, .int .i64 0, .int .i64 0, .int .i64 0, .slice none 0 0]) ?_ 1 _ rfl; (with_reducible repeat (first | refine blk_drewN ?_ _ | refine blk_drew ?_ | refine blk_alloc ?_ _)); refine blk_put (cs := #[.string (⟨#[]⟩ : ByteArray), .int .i64 0, .int .i64 0, .int .i64 0, .slice none 0 0]) ?_ 0 _ rfl; (with_reducible repeat (first | refine blk_drewN ?_ _ | refine blk_drew ?_ | refine blk_alloc ?_ _)); exact BK128.out) Try.underlying28 rfl (by kernel_rfl)) rfl ?_
        exact ⟨_, by first | rfl | (simp [errW_none, errW_some] <;> rfl) | (simp [*, errW_none, errW_some] <;> rfl), by (with_reducible repeat (first | apply Kd.R_alloc | apply Kd.R_drewN | apply Kd.R_drew)); exact Kd.R_mono (Kd.R_far (p := ⟨gb128, 4, none⟩) (Kd.R_far (p := ⟨gb128, 3, none⟩) (Kd.R_far (p := ⟨gb128, 2, none⟩) (Kd.R_far (p := ⟨gb128, 1, none⟩) (Kd.R_far (p := ⟨gb128, 0, none⟩) (Kd.R_types HO_130004.out BK128.out (by decide)) (fun _ hk => hk.2) (.string a0_0)) (fun _ hk => hk.2) (.int .i64 a0_1)) (fun _ hk => hk.2) (.int .i64 a0_2)) (fun _ hk => hk.2) (.int .i64 a0_3)) (fun _ hk => hk.2) (.slice Ao31 x130004_1.length co31)) (fun _ hk => trivial), by repeat (first | (with_reducible first | exact HB.out | apply below_alloc | apply pw_below_drewN | apply below_drew1 | refine below_set ?_ GE127.out | refine below_set ?_ GE128.out | refine below_set ?_ GE129.out) | exact HB.out)⟩

/-! ### prolixref18_Skip: function 20 -/
mutual
def prolixref18_Skip.j0 : Nat → List (S89) → Int → Bool → Option (Int)
  | 0, _, _, _ => none
  | k + 1, x0, x1, x14 => if x14 = true then (some (-1)) else (prolixref18_Skip.l0 k x0 x1 1)
def prolixref18_Skip.l0 : Nat → List (S89) → Int → Int → Option (Int)
  | 0, _, _, _ => none
  | k + 1, x0, x1, x5 => if x5 > 0 then (if x1 ≥ (x0.length : Int) then (some (-1)) else (if 0 ≤ x1 then (if x1 < (x0.length : Int) then (if ((rd_T89 x0 x1).f0) < 1 then (prolixref18_Skip.j2 k x0 x1 x5 true ((rd_T89 x0 x1).f0) ((rd_T89 x0 x1).f1) ((rd_T89 x0 x1).f2) ((rd_T89 x0 x1).f3)) else (if ((rd_T89 x0 x1).f0) > 6 then (prolixref18_Skip.j2 k x0 x1 x5 true ((rd_T89 x0 x1).f0) ((rd_T89 x0 x1).f1) ((rd_T89 x0 x1).f2) ((rd_T89 x0 x1).f3)) else (if ((rd_T89 x0 x1).f0) = 6 then (if ((rd_T89 x0 x1).f1) < 1 then (prolixref18_Skip.j2 k x0 x1 x5 true ((rd_T89 x0 x1).f0) ((rd_T89 x0 x1).f1) ((rd_T89 x0 x1).f2) ((rd_T89 x0 x1).f3)) else (prolixref18_Skip.j2 k x0 x1 x5 (decide (((rd_T89 x0 x1).f1) > 255)) ((rd_T89 x0 x1).f0) ((rd_T89 x0 x1).f1) ((rd_T89 x0 x1).f2) ((rd_T89 x0 x1).f3))) else (prolixref18_Skip.j2 k x0 x1 x5 false ((rd_T89 x0 x1).f0) ((rd_T89 x0 x1).f1) ((rd_T89 x0 x1).f2) ((rd_T89 x0 x1).f3))))) else (none)) else (none))) else (some x1)
def prolixref18_Skip.j2 : Nat → List (S89) → Int → Int → Bool → Int → Int → Int → ByteArray → Option (Int)
  | 0, _, _, _, _, _, _, _, _ => none
  | k + 1, x0, x1, x5, x47, x137000, x137001, x137002, x137003 => if x47 = true then (some (-1)) else (if x137000 = 6 then (prolixref18_Skip.l0 k x0 (wrap64 (x1 + 1)) (wrap64 ((wrap64 (x5 - 1)) + x137001))) else (prolixref18_Skip.l0 k x0 (wrap64 (x1 + 1)) (wrap64 (x5 - 1))))
end
def prolixref18_Skip.f (k : Nat) (l0 : List (S89)) (a1 : Int) : Option (Int) := if a1 < 0 then (prolixref18_Skip.j0 k l0 a1 true) else (prolixref18_Skip.j0 k l0 a1 (decide (a1 ≥ (l0.length : Int))))
theorem prolixref18_Skip.mono_l : ∀ k, (∀ y0 y1 y2, LeO (prolixref18_Skip.j0 k y0 y1 y2) (prolixref18_Skip.j0 (k + 1) y0 y1 y2)) ∧ (∀ y0 y1 y2, LeO (prolixref18_Skip.l0 k y0 y1 y2) (prolixref18_Skip.l0 (k + 1) y0 y1 y2)) ∧ (∀ y0 y1 y2 y3 y4 y5 y6 y7, LeO (prolixref18_Skip.j2 k y0 y1 y2 y3 y4 y5 y6 y7) (prolixref18_Skip.j2 (k + 1) y0 y1 y2 y3 y4 y5 y6 y7))
  | 0 => ⟨fun _ _ _ r h => by simp [prolixref18_Skip.j0] at h, fun _ _ _ r h => by simp [prolixref18_Skip.l0] at h, fun _ _ _ _ _ _ _ _ r h => by simp [prolixref18_Skip.j2] at h⟩
  | k + 1 => by
    obtain ⟨ih0, ih1, ih2⟩ := prolixref18_Skip.mono_l k
    refine ⟨?_, ?_, ?_⟩
    · intro y0 y1 y2
      unfold prolixref18_Skip.j0
      repeat' first
      | (with_reducible exact ih0 _ _ _)
      | (with_reducible exact ih1 _ _ _)
      | (with_reducible exact ih2 _ _ _ _ _ _ _ _)
      | (with_reducible exact LeO.refl _)
      | (with_reducible exact LeO.none _)
      | (with_reducible refine LeO.ite ?_ ?_)
      | (with_reducible refine LeO.bind ?_ (fun _ => ?_))
      | exact ih0 _ _ _
      | exact ih1 _ _ _
      | exact ih2 _ _ _ _ _ _ _ _
      | exact LeO.none _
      | refine LeO.ite ?_ ?_
      | refine LeO.bind ?_ (fun _ => ?_)
    · intro y0 y1 y2
      unfold prolixref18_Skip.l0
      repeat' first
      | (with_reducible exact ih0 _ _ _)
      | (with_reducible exact ih1 _ _ _)
      | (with_reducible exact ih2 _ _ _ _ _ _ _ _)
      | (with_reducible exact LeO.refl _)
      | (with_reducible exact LeO.none _)
      | (with_reducible refine LeO.ite ?_ ?_)
      | (with_reducible refine LeO.bind ?_ (fun _ => ?_))
      | exact ih0 _ _ _
      | exact ih1 _ _ _
      | exact ih2 _ _ _ _ _ _ _ _
      | exact LeO.none _
      | refine LeO.ite ?_ ?_
      | refine LeO.bind ?_ (fun _ => ?_)
    · intro y0 y1 y2 y3 y4 y5 y6 y7
      unfold prolixref18_Skip.j2
      repeat' first
      | (with_reducible exact ih0 _ _ _)
      | (with_reducible exact ih1 _ _ _)
      | (with_reducible exact ih2 _ _ _ _ _ _ _ _)
      | (with_reducible exact LeO.refl _)
      | (with_reducible exact LeO.none _)
      | (with_reducible refine LeO.ite ?_ ?_)
      | (with_reducible refine LeO.bind ?_ (fun _ => ?_))
      | exact ih0 _ _ _
      | exact ih1 _ _ _
      | exact ih2 _ _ _ _ _ _ _ _
      | exact LeO.none _
      | refine LeO.ite ?_ ?_
      | refine LeO.bind ?_ (fun _ => ?_)
theorem prolixref18_Skip.mono : ∀ a0 a1 k, LeO (prolixref18_Skip.f k a0 a1) (prolixref18_Skip.f (k + 1) a0 a1) := by
  intro a0 a1 k
  obtain ⟨ih0, ih1, ih2⟩ := prolixref18_Skip.mono_l k
  unfold prolixref18_Skip.f
  repeat' first
      | (with_reducible exact ih0 _ _ _)
      | (with_reducible exact ih1 _ _ _)
      | (with_reducible exact ih2 _ _ _ _ _ _ _ _)
      | (with_reducible exact LeO.refl _)
      | (with_reducible exact LeO.none _)
      | (with_reducible refine LeO.ite ?_ ?_)
      | (with_reducible refine LeO.bind ?_ (fun _ => ?_))
      | exact ih0 _ _ _
      | exact ih1 _ _ _
      | exact ih2 _ _ _ _ _ _ _ _
      | exact LeO.none _
      | refine LeO.ite ?_ ?_
      | refine LeO.bind ?_ (fun _ => ?_)
set_option maxHeartbeats 8000000 in
set_option maxRecDepth 100000 in
theorem prolixref18_Skip.calls (k : Nat) (A0 : Option Addr) (c0 : Nat) (l0 : List (S89)) (a1 : Int) (r : Int) (w : World) (hr0 : Kd.C k89 w A0 l0.length l0) (hc0 : l0.length ≤ c0) (h : prolixref18_Skip.f k l0 a1 = some r) :
    Calls Try.prog 20 #[.slice A0 l0.length c0, .int .i64 a1] w fun e w' => e = .returned (.int .i64 r) ∧ Below w.heap.size w w' := by
  have hu89 := Try.underlying89
  have HR0 := Aside0.mk hr0
  have HC0 := Aside0.mk hc0
  clear hr0 hc0
  have HB := Aside0.mk (Below.refl w.heap.size w)
  have H : (if a1 < 0 then (prolixref18_Skip.j0 k l0 a1 true) else (prolixref18_Skip.j0 k l0 a1 (decide (a1 ≥ (l0.length : Int))))) = some r := h
  clear h
  have HC3 := Aside0.mk H
  clear H
  go_enter Try.func20, Try.ntmps20
  go_upto_region 1 with (fail)
  go_cut [14] (fun v14 wc => ∃ (kq : Nat) (x14_2 : Bool), v14 = .bool x14_2 ∧ Aside0 (prolixref18_Skip.j0 kq l0 a1 x14_2 = some r) ∧ Aside0 (kq ≤ k) ∧ Aside0 (Below w.heap.size w wc))
  case first =>
    have H := HC3.out
    clear HC3
    by_cases c4 : a1 < 0
    · rw [if_pos c4] at H
      have c4b0 : decide (a1 < 0) = true := decide_eq_true c4
      clear c4
      (first | rw [c4b0] | (simp only [i64_w, i32_w]; rw [c4b0]) | skip)
      have H' := Aside0.mk H
      clear H
      go_wp2
      go_meet
      case rel => exact ⟨_, (true), (by first | rfl | (simp; done) | (simp [*]; done)), H', ⟨by first | omega | exact Nat.le_refl _⟩, ⟨by repeat (first | (with_reducible first | exact HB.out | apply below_alloc | apply pw_below_drewN | apply below_drew1) | exact HB.out)⟩⟩
    · rw [if_neg c4] at H
      have c4b0 : decide (a1 < 0) = false := decide_eq_false c4
      clear c4
      (first | rw [c4b0] | (simp only [i64_w, i32_w]; rw [c4b0]) | skip)
      have H' := Aside0.mk H
      clear H
      go_wp2
      go_meet
      case rel => exact ⟨_, (decide (a1 ≥ (l0.length : Int))), (by first | rfl | (simp; done) | (simp [*]; done)), H', ⟨by first | omega | exact Nat.le_refl _⟩, ⟨by repeat (first | (with_reducible first | exact HB.out | apply below_alloc | apply pw_below_drewN | apply below_drew1) | exact HB.out)⟩⟩
  case rest =>
    clear HC3
    try clear c2
    try clear p2
    try clear c4
    try clear c4b0
    obtain ⟨kq, x14_2, rfl, HA, HJ2, HB⟩ := hcut
    cases kq with
    | zero => exact absurd HA.out (by simp [prolixref18_Skip.j0])
    | succ kj2 =>
      have H := HA.out
      clear HA
      simp only [prolixref18_Skip.j0] at H
      by_cases c5 : x14_2 = true
      · subst c5
        have H1 : (some (-1)) = some r := by rw [if_pos rfl] at H; exact H
        clear H
        have H := H1
        clear H1
        obtain rfl := Option.some.inj H
        go_wp2
        go_ret
        exact ⟨by first | rfl | (simp [errW_none, errW_some] <;> rfl) | (simp [*, errW_none, errW_some] <;> rfl), by repeat (first | (with_reducible first | exact HB.out | apply below_alloc | apply pw_below_drewN | apply below_drew1) | exact HB.out)⟩
      · replace c5 := Bool.eq_false_iff.mpr c5
        subst c5
        have H1 : (prolixref18_Skip.l0 kj2 l0 a1 1) = some r := by rw [if_neg (show ¬ (false = true) by decide)] at H; exact H
        clear H
        have H := H1
        clear H1
        have H' := Aside0.mk H
        clear H
        go_wp2
        go_loopg [1, 5] kj2 (fun kq v1 v5 w' => ∃ (x1_2 : Int) (x5_2 : Int), v1 = .int .i64 x1_2 ∧ v5 = .int .i64 x5_2 ∧ Aside0 (prolixref18_Skip.l0 kq l0 x1_2 x5_2 = some r) ∧ Aside0 (kq ≤ kj2) ∧ Aside0 (Below w.heap.size w w'))
        case atStart => exact ⟨(a1), (1), (by first | rfl | (simp; done) | (simp [*]; done)), (by first | rfl | (simp; done) | (simp [*]; done)), H', ⟨Nat.le_refl _⟩, ⟨by repeat (first | (with_reducible first | exact HB.out | apply below_alloc | apply pw_below_drewN | apply below_drew1) | exact HB.out)⟩⟩
        case round =>
          clear H'
          try clear c2
          try clear p2
          try clear c4
          try clear c4b0
          try clear c5
          try clear p2
          obtain ⟨x1_2, x5_2, rfl, rfl, HA, HK2, HB⟩ := hrel
          cases gk with
          | zero => exact absurd HA.out (by simp [prolixref18_Skip.l0])
          | succ k2 =>
            have H := HA.out
            clear HA
            simp only [prolixref18_Skip.l0] at H
            by_cases c6 : x5_2 > 0
            · rw [if_pos c6] at H
              have c6b0 : decide (0 < x5_2) = true := decide_eq_true c6
              clear c6
              by_cases c7 : x1_2 ≥ (l0.length : Int)
              · rw [if_pos c7] at H
                have c7b0 : decide ((l0.length : Int) ≤ x1_2) = true := decide_eq_true c7
                clear c7
                obtain rfl := Option.some.inj H
                go_wp2
                go_ret
                exact ⟨by first | rfl | (simp [errW_none, errW_some] <;> rfl) | (simp [*, errW_none, errW_some] <;> rfl), by repeat (first | (with_reducible first | exact HB.out | apply below_alloc | apply pw_below_drewN | apply below_drew1) | exact HB.out)⟩
              · rw [if_neg c7] at H
                have c7b0 : decide ((l0.length : Int) ≤ x1_2) = false := decide_eq_false c7
                clear c7
                by_cases c8 : 0 ≤ x1_2
                · rw [if_pos c8] at H
                  have c8b0 : decide (0 ≤ x1_2) = true := decide_eq_true c8
                  clear c8
                  by_cases c9 : x1_2 < (l0.length : Int)
                  · rw [if_pos c9] at H
                    have c9b0 : decide (x1_2 < (l0.length : Int)) = true := decide_eq_true c9
                    clear c9
                    have HC10 := Aside0.mk H
                    clear H
                    have p135 : 0 ≤ (x1_2 : Int) := of_decide_eq_true (by first | (with_reducible assumption) | assumption)
                    have q135 : x1_2 < (l0.length : Int) := of_decide_eq_true (by first | (with_reducible assumption) | assumption)
                    obtain ⟨ad135, e135, hx135_0, hx135_1, hx135_2, hx135_3⟩ := at_T89 HR0.out x1_2 p135 q135
                    cases e135
                    replace hx135_0 := (HB.out.cell (World.block_lt_of_cell? w _ hx135_0)).trans hx135_0
                    replace hx135_1 := (HB.out.cell (World.block_lt_of_cell? w _ hx135_1)).trans hx135_1
                    replace hx135_2 := (HB.out.cell (World.block_lt_of_cell? w _ hx135_2)).trans hx135_2
                    replace hx135_3 := (HB.out.cell (World.block_lt_of_cell? w _ hx135_3)).trans hx135_3
                    replace p135 := eq_true p135
                    replace q135 := eq_true q135
                    go_upto_region 8 with (first | ((with_reducible refine gate_dst (N := 6) rfl ?_); (try (refine gate_guard (by rfl) ?_; dsimp only)); refine box_event ?hg (N := 6) ?hd (cs := #[.int .i64 0, .int .i64 0, .int .i64 0, .string (⟨#[]⟩ : ByteArray)]) (t := 89) ?hr ?_; (case hd => rfl); (case hg => rfl); (case hr => first | (go_simp; done) | (go_simp; rfl)); intro gb136 hg w11 hbox hb; have n0_ := Aside0.mk (below_step (by repeat (first | (with_reducible first | exact HB.out | apply below_alloc | apply pw_below_drewN | apply below_drew1) | exact HB.out)) hb); have n1_ := Aside0.mk (hbox); have n2_ := Aside0.mk ((by rw [hg]; exact (below_size (by repeat (first | (with_reducible first | exact HB.out | apply below_alloc | apply pw_below_drewN | apply below_drew1) | exact HB.out))) : w.heap.size ≤ gb136)); have n3_ := Aside0.mk ((by rw [hg]; exact (below_size (by repeat (first | (with_reducible first | exact HB.out | apply below_alloc | apply pw_below_drewN | apply below_drew1) | exact HB.out))) : w.heap.size ≤ gb136)); clear HB; have HB := n0_; have BK136 := n1_; have GW136 := n2_; have GE136 := n3_; clear n0_ n1_ n2_ n3_; clear hb hbox hg; have hcz12_0 : w11.cell? ⟨gb136, 0, none⟩ = some (.int .i64 0) := (blk_cell BK136.out 0).trans rfl; have hcz12_1 : w11.cell? ⟨gb136, 1, none⟩ = some (.int .i64 0) := (blk_cell BK136.out 1).trans rfl; have hcz12_2 : w11.cell? ⟨gb136, 2, none⟩ = some (.int .i64 0) := (blk_cell BK136.out 2).trans rfl; have hcz12_3 : w11.cell? ⟨gb136, 3, none⟩ = some (.string (⟨#[]⟩ : ByteArray)) := (blk_cell BK136.out 3).trans rfl; have hfz12_0 := blk_frozen BK136.out 0; have hfz12_1 := blk_frozen BK136.out 1; have hfz12_2 := blk_frozen BK136.out 2; have hfz12_3 := blk_frozen BK136.out 3))
                    (try simp only [Act.put, List.setIfInBounds_toArray, List.set_cons_zero, List.set_cons_succ])
                    go_cut [47] (fun v47 wc => ∃ (kq : Nat) (x47_9 : Bool), v47 = .bool x47_9 ∧ Aside0 (prolixref18_Skip.j2 kq l0 x1_2 x5_2 x47_9 ((rd_T89 l0 x1_2).f0) ((rd_T89 l0 x1_2).f1) ((rd_T89 l0 x1_2).f2) ((rd_T89 l0 x1_2).f3) = some r) ∧ Aside0 (kq ≤ k2) ∧ Aside0 (wc.heap[gb136]? = some (.cells #[.int .i64 ((rd_T89 l0 x1_2).f0), .int .i64 ((rd_T89 l0 x1_2).f1), .int .i64 ((rd_T89 l0 x1_2).f2), .string ((rd_T89 l0 x1_2).f3)] 89 (0, 0))) ∧ Aside0 (Below w.heap.size w wc))
                    case first =>
                      have H := HC10.out
                      clear HC10
                      by_cases c13 : ((rd_T89 l0 x1_2).f0) < 1
                      · rw [if_pos c13] at H
                        have c13b0 : decide (((rd_T89 l0 x1_2).f0) < 1) = true := decide_eq_true c13
                        clear c13
                        (first | rw [c13b0] | (simp only [i64_w, i32_w]; rw [c13b0]) | skip)
                        have H' := Aside0.mk H
                        clear H
                        have hcz14_0 : w11.cell? ⟨gb136, 0, none⟩ = some (.int .i64 0) := (blk_cell BK136.out 0).trans rfl
                        have hcz14_1 : w11.cell? ⟨gb136, 1, none⟩ = some (.int .i64 0) := (blk_cell BK136.out 1).trans rfl
                        have hcz14_2 : w11.cell? ⟨gb136, 2, none⟩ = some (.int .i64 0) := (blk_cell BK136.out 2).trans rfl
                        have hcz14_3 : w11.cell? ⟨gb136, 3, none⟩ = some (.string (⟨#[]⟩ : ByteArray)) := (blk_cell BK136.out 3).trans rfl
                        have hfz14_0 := blk_frozen BK136.out 0
                        have hfz14_1 := blk_frozen BK136.out 1
                        have hfz14_2 := blk_frozen BK136.out 2
                        have hfz14_3 := blk_frozen BK136.out 3
                        go_wp2
                        go_meet
                        case rel => exact ⟨_, (true), (by first | rfl | (simp; done) | (simp [*]; done)), H', ⟨by have := HJ2.out; have := HK2.out; first | omega | exact Nat.le_refl _⟩, ⟨by (with_reducible repeat (first | refine blk_drewN ?_ _ | refine blk_drew ?_ | refine blk_alloc ?_ _)); refine blk_put (cs := #[.int .i64 ((rd_T89 l0 x1_2).f0), .int .i64 ((rd_T89 l0 x1_2).f1), .int .i64 ((rd_T89 l0 x1_2).f2), .string (⟨#[]⟩ : ByteArray)]) ?_ 3 _ rfl; (with_reducible repeat (first | refine blk_drewN ?_ _ | refine blk_drew ?_ | refine blk_alloc ?_ _)); refine blk_put (cs := #[.int .i64 ((rd_T89 l0 x1_2).f0), .int .i64 ((rd_T89 l0 x1_2).f1), .int .i64 0, .string (⟨#[]⟩ : ByteArray)]) ?_ 2 _ rfl; (with_reducible repeat (first | refine blk_drewN ?_ _ | refine blk_drew ?_ | refine blk_alloc ?_ _)); refine blk_put (cs := #[.int .i64 ((rd_T89 l0 x1_2).f0), .int .i64 0, .int .i64 0, .string (⟨#[]⟩ : ByteArray)]) ?_ 1 _ rfl; (with_reducible repeat (first | refine blk_drewN ?_ _ | refine blk_drew ?_ | refine blk_alloc ?_ _)); refine blk_put (cs := #[.int .i64 0, .int .i64 0, .int .i64 0, .string (⟨#[]⟩ : ByteArray)]) ?_ 0 _ rfl; (with_reducible repeat (first | refine blk_drewN ?_ _ | refine blk_drew ?_ | refine blk_alloc ?_ _)); exact BK136.out⟩, ⟨by repeat (first | (with_reducible first | exact HB.out | apply below_alloc | apply pw_below_drewN | apply below_drew1 | refine below_set ?_ GE136.out) | exact HB.out)⟩⟩
                      · rw [if_neg c13] at H
                        have c13b0 : decide (((rd_T89 l0 x1_2).f0) < 1) = false := decide_eq_false c13
                        clear c13
                        (first | rw [c13b0] | (simp only [i64_w, i32_w]; rw [c13b0]) | skip)
                        by_cases c15 : ((rd_T89 l0 x1_2).f0) > 6
                        · rw [if_pos c15] at H
                          have c15b0 : decide (6 < ((rd_T89 l0 x1_2).f0)) = true := decide_eq_true c15
                          clear c15
                          have H' := Aside0.mk H
                          clear H
                          have hcz16_0 : w11.cell? ⟨gb136, 0, none⟩ = some (.int .i64 0) := (blk_cell BK136.out 0).trans rfl
                          have hcz16_1 : w11.cell? ⟨gb136, 1, none⟩ = some (.int .i64 0) := (blk_cell BK136.out 1).trans rfl
                          have hcz16_2 : w11.cell? ⟨gb136, 2, none⟩ = some (.int .i64 0) := (blk_cell BK136.out 2).trans rfl
                          have hcz16_3 : w11.cell? ⟨gb136, 3, none⟩ = some (.string (⟨#[]⟩ : ByteArray)) := (blk_cell BK136.out 3).trans rfl
                          have hfz16_0 := blk_frozen BK136.out 0
                          have hfz16_1 := blk_frozen BK136.out 1
                          have hfz16_2 := blk_frozen BK136.out 2
                          have hfz16_3 := blk_frozen BK136.out 3
                          go_wp2
                          go_meet
                          case rel => exact ⟨_, (true), (by first | rfl | (simp; done) | (simp [*]; done)), H', ⟨by have := HJ2.out; have := HK2.out; first | omega | exact Nat.le_refl _⟩, ⟨by (with_reducible repeat (first | refine blk_drewN ?_ _ | refine blk_drew ?_ | refine blk_alloc ?_ _)); refine blk_put (cs := #[.int .i64 ((rd_T89 l0 x1_2).f0), .int .i64 ((rd_T89 l0 x1_2).f1), .int .i64 ((rd_T89 l0 x1_2).f2), .string (⟨#[]⟩ : ByteArray)]) ?_ 3 _ rfl; (with_reducible repeat (first | refine blk_drewN ?_ _ | refine blk_drew ?_ | refine blk_alloc ?_ _)); refine blk_put (cs := #[.int .i64 ((rd_T89 l0 x1_2).f0), .int .i64 ((rd_T89 l0 x1_2).f1), .int .i64 0, .string (⟨#[]⟩ : ByteArray)]) ?_ 2 _ rfl; (with_reducible repeat (first | refine blk_drewN ?_ _ | refine blk_drew ?_ | refine blk_alloc ?_ _)); refine blk_put (cs := #[.int .i64 ((rd_T89 l0 x1_2).f0), .int .i64 0, .int .i64 0, .string (⟨#[]⟩ : ByteArray)]) ?_ 1 _ rfl; (with_reducible repeat (first | refine blk_drewN ?_ _ | refine blk_drew ?_ | refine blk_alloc ?_ _)); refine blk_put (cs := #[.int .i64 0, .int .i64 0, .int .i64 0, .string (⟨#[]⟩ : ByteArray)]) ?_ 0 _ rfl; (with_reducible repeat (first | refine blk_drewN ?_ _ | refine blk_drew ?_ | refine blk_alloc ?_ _)); exact BK136.out⟩, ⟨by repeat (first | (with_reducible first | exact HB.out | apply below_alloc | apply pw_below_drewN | apply below_drew1 | refine below_set ?_ GE136.out) | exact HB.out)⟩⟩
                        · rw [if_neg c15] at H
                          have c15b0 : decide (6 < ((rd_T89 l0 x1_2).f0)) = false := decide_eq_false c15
                          clear c15
                          by_cases c17 : ((rd_T89 l0 x1_2).f0) = 6
                          · rw [if_pos c17] at H
                            have c17b0 : (((rd_T89 l0 x1_2).f0) == 6) = true := beq_iff_eq.mpr c17
                            have c17b1 : (((rd_T89 l0 x1_2).f0) != 6) = false := bne_eq_false_iff_eq.mpr c17
                            clear c17
                            by_cases c18 : ((rd_T89 l0 x1_2).f1) < 1
                            · rw [if_pos c18] at H
                              have c18b0 : decide (((rd_T89 l0 x1_2).f1) < 1) = true := decide_eq_true c18
                              clear c18
                              have H' := Aside0.mk H
                              clear H
                              have hcz19_0 : w11.cell? ⟨gb136, 0, none⟩ = some (.int .i64 0) := (blk_cell BK136.out 0).trans rfl
                              have hcz19_1 : w11.cell? ⟨gb136, 1, none⟩ = some (.int .i64 0) := (blk_cell BK136.out 1).trans rfl
                              have hcz19_2 : w11.cell? ⟨gb136, 2, none⟩ = some (.int .i64 0) := (blk_cell BK136.out 2).trans rfl
                              have hcz19_3 : w11.cell? ⟨gb136, 3, none⟩ = some (.string (⟨#[]⟩ : ByteArray)) := (blk_cell BK136.out 3).trans rfl
                              have hfz19_0 := blk_frozen BK136.out 0
                              have hfz19_1 := blk_frozen BK136.out 1
                              have hfz19_2 := blk_frozen BK136.out 2
                              have hfz19_3 := blk_frozen BK136.out 3
                              go_wp2
                              go_meet
                              case rel => exact ⟨_, (true), (by first | rfl | (simp; done) | (simp [*]; done)), H', ⟨by have := HJ2.out; have := HK2.out; first | omega | exact Nat.le_refl _⟩, ⟨by (with_reducible repeat (first | refine blk_drewN ?_ _ | refine blk_drew ?_ | refine blk_alloc ?_ _)); refine blk_put (cs := #[.int .i64 ((rd_T89 l0 x1_2).f0), .int .i64 ((rd_T89 l0 x1_2).f1), .int .i64 ((rd_T89 l0 x1_2).f2), .string (⟨#[]⟩ : ByteArray)]) ?_ 3 _ rfl; (with_reducible repeat (first | refine blk_drewN ?_ _ | refine blk_drew ?_ | refine blk_alloc ?_ _)); refine blk_put (cs := #[.int .i64 ((rd_T89 l0 x1_2).f0), .int .i64 ((rd_T89 l0 x1_2).f1), .int .i64 0, .string (⟨#[]⟩ : ByteArray)]) ?_ 2 _ rfl; (with_reducible repeat (first | refine blk_drewN ?_ _ | refine blk_drew ?_ | refine blk_alloc ?_ _)); refine blk_put (cs := #[.int .i64 ((rd_T89 l0 x1_2).f0), .int .i64 0, .int .i64 0, .string (⟨#[]⟩ : ByteArray)]) ?_ 1 _ rfl; (with_reducible repeat (first | refine blk_drewN ?_ _ | refine blk_drew ?_ | refine blk_alloc ?_ _)); refine blk_put (cs := #[.int .i64 0, .int .i64 0, .int .i64 0, .string (⟨#[]⟩ : ByteArray)]) ?_ 0 _ rfl; (with_reducible repeat (first | refine blk_drewN ?_ _ | refine blk_drew ?_ | refine blk_alloc ?_ _)); exact BK136.out⟩, ⟨by repeat (first | (with_reducible first | exact HB.out | apply below_alloc | apply pw_below_drewN | apply below_drew1 | refine below_set ?_ GE136.out) | exact HB.out)⟩⟩
                            · rw [if_neg c18] at H
                              have c18b0 : decide (((rd_T89 l0 x1_2).f1) < 1) = false := decide_eq_false c18
                              clear c18
                              have H' := Aside0.mk H
                              clear H
                              have hcz20_0 : w11.cell? ⟨gb136, 0, none⟩ = some (.int .i64 0) := (blk_cell BK136.out 0).trans rfl
                              have hcz20_1 : w11.cell? ⟨gb136, 1, none⟩ = some (.int .i64 0) := (blk_cell BK136.out 1).trans rfl
                              have hcz20_2 : w11.cell? ⟨gb136, 2, none⟩ = some (.int .i64 0) := (blk_cell BK136.out 2).trans rfl
                              have hcz20_3 : w11.cell? ⟨gb136, 3, none⟩ = some (.string (⟨#[]⟩ : ByteArray)) := (blk_cell BK136.out 3).trans rfl
                              have hfz20_0 := blk_frozen BK136.out 0
                              have hfz20_1 := blk_frozen BK136.out 1
                              have hfz20_2 := blk_frozen BK136.out 2
                              have hfz20_3 := blk_frozen BK136.out 3
                              go_wp2
                              go_meet
                              case rel => exact ⟨_, (decide (((rd_T89 l0 x1_2).f1) > 255)), (by first | rfl | (simp; done) | (simp [*]; done)), H', ⟨by have := HJ2.out; have := HK2.out; first | omega | exact Nat.le_refl _⟩, ⟨by (with_reducible repeat (first | refine blk_drewN ?_ _ | refine blk_drew ?_ | refine blk_alloc ?_ _)); refine blk_put (cs := #[.int .i64 ((rd_T89 l0 x1_2).f0), .int .i64 ((rd_T89 l0 x1_2).f1), .int .i64 ((rd_T89 l0 x1_2).f2), .string (⟨#[]⟩ : ByteArray)]) ?_ 3 _ rfl; (with_reducible repeat (first | refine blk_drewN ?_ _ | refine blk_drew ?_ | refine blk_alloc ?_ _)); refine blk_put (cs := #[.int .i64 ((rd_T89 l0 x1_2).f0), .int .i64 ((rd_T89 l0 x1_2).f1), .int .i64 0, .string (⟨#[]⟩ : ByteArray)]) ?_ 2 _ rfl; (with_reducible repeat (first | refine blk_drewN ?_ _ | refine blk_drew ?_ | refine blk_alloc ?_ _)); refine blk_put (cs := #[.int .i64 ((rd_T89 l0 x1_2).f0), .int .i64 0, .int .i64 0, .string (⟨#[]⟩ : ByteArray)]) ?_ 1 _ rfl; (with_reducible repeat (first | refine blk_drewN ?_ _ | refine blk_drew ?_ | refine blk_alloc ?_ _)); refine blk_put (cs := #[.int .i64 0, .int .i64 0, .int .i64 0, .string (⟨#[]⟩ : ByteArray)]) ?_ 0 _ rfl; (with_reducible repeat (first | refine blk_drewN ?_ _ | refine blk_drew ?_ | refine blk_alloc ?_ _)); exact BK136.out⟩, ⟨by repeat (first | (with_reducible first | exact HB.out | apply below_alloc | apply pw_below_drewN | apply below_drew1 | refine below_set ?_ GE136.out) | exact HB.out)⟩⟩
                          · rw [if_neg c17] at H
                            have c17b0 : (((rd_T89 l0 x1_2).f0) == 6) = false := beq_eq_false_iff_ne.mpr c17
                            have c17b1 : (((rd_T89 l0 x1_2).f0) != 6) = true := bne_iff_ne.mpr c17
                            have H' := Aside0.mk H
                            clear H
                            have hcz21_0 : w11.cell? ⟨gb136, 0, none⟩ = some (.int .i64 0) := (blk_cell BK136.out 0).trans rfl
                            have hcz21_1 : w11.cell? ⟨gb136, 1, none⟩ = some (.int .i64 0) := (blk_cell BK136.out 1).trans rfl
                            have hcz21_2 : w11.cell? ⟨gb136, 2, none⟩ = some (.int .i64 0) := (blk_cell BK136.out 2).trans rfl
                            have hcz21_3 : w11.cell? ⟨gb136, 3, none⟩ = some (.string (⟨#[]⟩ : ByteArray)) := (blk_cell BK136.out 3).trans rfl
                            have hfz21_0 := blk_frozen BK136.out 0
                            have hfz21_1 := blk_frozen BK136.out 1
                            have hfz21_2 := blk_frozen BK136.out 2
                            have hfz21_3 := blk_frozen BK136.out 3
                            go_wp2
                            go_meet
                            case rel => exact ⟨_, (false), (by first | rfl | (simp; done) | (simp [*]; done)), H', ⟨by have := HJ2.out; have := HK2.out; first | omega | exact Nat.le_refl _⟩, ⟨by (with_reducible repeat (first | refine blk_drewN ?_ _ | refine blk_drew ?_ | refine blk_alloc ?_ _)); refine blk_put (cs := #[.int .i64 ((rd_T89 l0 x1_2).f0), .int .i64 ((rd_T89 l0 x1_2).f1), .int .i64 ((rd_T89 l0 x1_2).f2), .string (⟨#[]⟩ : ByteArray)]) ?_ 3 _ rfl; (with_reducible repeat (first | refine blk_drewN ?_ _ | refine blk_drew ?_ | refine blk_alloc ?_ _)); refine blk_put (cs := #[.int .i64 ((rd_T89 l0 x1_2).f0), .int .i64 ((rd_T89 l0 x1_2).f1), .int .i64 0, .string (⟨#[]⟩ : ByteArray)]) ?_ 2 _ rfl; (with_reducible repeat (first | refine blk_drewN ?_ _ | refine blk_drew ?_ | refine blk_alloc ?_ _)); refine blk_put (cs := #[.int .i64 ((rd_T89 l0 x1_2).f0), .int .i64 0, .int .i64 0, .string (⟨#[]⟩ : ByteArray)]) ?_ 1 _ rfl; (with_reducible repeat (first | refine blk_drewN ?_ _ | refine blk_drew ?_ | refine blk_alloc ?_ _)); refine blk_put (cs := #[.int .i64 0, .int .i64 0, .int .i64 0, .string (⟨#[]⟩ : ByteArray)]) ?_ 0 _ rfl; (with_reducible repeat (first | refine blk_drewN ?_ _ | refine blk_drew ?_ | refine blk_alloc ?_ _)); exact BK136.out⟩, ⟨by repeat (first | (with_reducible first | exact HB.out | apply below_alloc | apply pw_below_drewN | apply below_drew1 | refine below_set ?_ GE136.out) | exact HB.out)⟩⟩
                    case rest =>
                      clear HC10
                      try clear c1
                      try clear p1
                      try clear q1
                      try clear hx1
                      try clear c2
                      try clear p2
                      try clear c4
                      try clear c4b0
                      try clear c5
                      try clear c6
                      try clear c6b0
                      try clear c7
                      try clear c7b0
                      try clear c8
                      try clear c8b0
                      try clear c9
                      try clear c9b0
                      try clear c13
                      try clear c13b0
                      try clear p13
                      try clear q13
                      try clear hx13
                      try clear c15
                      try clear c15b0
                      try clear c17
                      try clear c17b0
                      try clear c17b1
                      try clear c18
                      try clear c18b0
                      try clear c20
                      try clear hcz12_0
                      try clear hcz12_1
                      try clear hcz12_2
                      try clear hcz12_3
                      try clear hcz14_0
                      try clear hcz14_1
                      try clear hcz14_2
                      try clear hcz14_3
                      try clear hcz16_0
                      try clear hcz16_1
                      try clear hcz16_2
                      try clear hcz16_3
                      try clear hcz19_0
                      try clear hcz19_1
                      try clear hcz19_2
                      try clear hcz19_3
                      try clear hcz20_0
                      try clear hcz20_1
                      try clear hcz20_2
                      try clear hcz20_3
                      try clear hcz21_0
                      try clear hcz21_1
                      try clear hcz21_2
                      try clear hcz21_3
                      try clear hfz12_0
                      try clear hfz12_1
                      try clear hfz12_2
                      try clear hfz12_3
                      try clear hfz14_0
                      try clear hfz14_1
                      try clear hfz14_2
                      try clear hfz14_3
                      try clear hfz16_0
                      try clear hfz16_1
                      try clear hfz16_2
                      try clear hfz16_3
                      try clear hfz19_0
                      try clear hfz19_1
                      try clear hfz19_2
                      try clear hfz19_3
                      try clear hfz20_0
                      try clear hfz20_1
                      try clear hfz20_2
                      try clear hfz20_3
                      try clear hfz21_0
                      try clear hfz21_1
                      try clear hfz21_2
                      try clear hfz21_3
                      try clear hx135_0
                      try clear hx135_1
                      try clear hx135_2
                      try clear hx135_3
                      try clear p135
                      try clear p2
                      try clear q135
                      obtain ⟨kq, x47_9, rfl, HA, HJ9, BK136, HB⟩ := hcut
                      cases kq with
                      | zero => exact absurd HA.out (by simp [prolixref18_Skip.j2])
                      | succ kj9 =>
                        have H := HA.out
                        clear HA
                        simp only [prolixref18_Skip.j2] at H
                        by_cases c22 : x47_9 = true
                        · subst c22
                          have H1 : (some (-1)) = some r := by rw [if_pos rfl] at H; exact H
                          clear H
                          have H := H1
                          clear H1
                          obtain rfl := Option.some.inj H
                          go_wp2
                          go_ret
                          exact ⟨by first | rfl | (simp [errW_none, errW_some] <;> rfl) | (simp [*, errW_none, errW_some] <;> rfl), by repeat (first | (with_reducible first | exact HB.out | apply below_alloc | apply pw_below_drewN | apply below_drew1 | refine below_set ?_ GE136.out) | exact HB.out)⟩
                        · replace c22 := Bool.eq_false_iff.mpr c22
                          subst c22
                          have H1 : (if ((rd_T89 l0 x1_2).f0) = 6 then (prolixref18_Skip.l0 kj9 l0 (wrap64 (x1_2 + 1)) (wrap64 ((wrap64 (x5_2 - 1)) + ((rd_T89 l0 x1_2).f1)))) else (prolixref18_Skip.l0 kj9 l0 (wrap64 (x1_2 + 1)) (wrap64 (x5_2 - 1)))) = some r := by rw [if_neg (show ¬ (false = true) by decide)] at H; exact H
                          clear H
                          have H := H1
                          clear H1
                          by_cases c23 : ((rd_T89 l0 x1_2).f0) = 6
                          · rw [if_pos c23] at H
                            have c23b0 : (((rd_T89 l0 x1_2).f0) == 6) = true := beq_iff_eq.mpr c23
                            have c23b1 : (((rd_T89 l0 x1_2).f0) != 6) = false := bne_eq_false_iff_eq.mpr c23
                            clear c23
                            have H' := Aside0.mk H
                            clear H
                            have hcz24_0 : wc.cell? ⟨gb136, 0, none⟩ = some (.int .i64 ((rd_T89 l0 x1_2).f0)) := (blk_cell BK136.out 0).trans rfl
                            have hcz24_1 : wc.cell? ⟨gb136, 1, none⟩ = some (.int .i64 ((rd_T89 l0 x1_2).f1)) := (blk_cell BK136.out 1).trans rfl
                            have hcz24_2 : wc.cell? ⟨gb136, 2, none⟩ = some (.int .i64 ((rd_T89 l0 x1_2).f2)) := (blk_cell BK136.out 2).trans rfl
                            have hcz24_3 : wc.cell? ⟨gb136, 3, none⟩ = some (.string ((rd_T89 l0 x1_2).f3)) := (blk_cell BK136.out 3).trans rfl
                            have hfz24_0 := blk_frozen BK136.out 0
                            have hfz24_1 := blk_frozen BK136.out 1
                            have hfz24_2 := blk_frozen BK136.out 2
                            have hfz24_3 := blk_frozen BK136.out 3
                            go_wp2
                            go_roundg kj9
                            case measure => have := HJ2.out; have := HK2.out; have := HJ9.out; omega
                            case rel => exact ⟨(wrap64 (x1_2 + 1)), (wrap64 ((wrap64 (x5_2 - 1)) + ((rd_T89 l0 x1_2).f1))), (by first | rfl | (simp; done) | (simp [*]; done)), (by first | rfl | (simp; done) | (simp [*]; done)), H', ⟨by have := HJ2.out; have := HK2.out; have := HJ9.out; omega⟩, ⟨by repeat (first | (with_reducible first | exact HB.out | apply below_alloc | apply pw_below_drewN | apply below_drew1 | refine below_set ?_ GE136.out) | exact HB.out)⟩⟩
                          · rw [if_neg c23] at H
                            have c23b0 : (((rd_T89 l0 x1_2).f0) == 6) = false := beq_eq_false_iff_ne.mpr c23
                            have c23b1 : (((rd_T89 l0 x1_2).f0) != 6) = true := bne_iff_ne.mpr c23
                            have H' := Aside0.mk H
                            clear H
                            have hcz25_0 : wc.cell? ⟨gb136, 0, none⟩ = some (.int .i64 ((rd_T89 l0 x1_2).f0)) := (blk_cell BK136.out 0).trans rfl
                            have hcz25_1 : wc.cell? ⟨gb136, 1, none⟩ = some (.int .i64 ((rd_T89 l0 x1_2).f1)) := (blk_cell BK136.out 1).trans rfl
                            have hcz25_2 : wc.cell? ⟨gb136, 2, none⟩ = some (.int .i64 ((rd_T89 l0 x1_2).f2)) := (blk_cell BK136.out 2).trans rfl
                            have hcz25_3 : wc.cell? ⟨gb136, 3, none⟩ = some (.string ((rd_T89 l0 x1_2).f3)) := (blk_cell BK136.out 3).trans rfl
                            have hfz25_0 := blk_frozen BK136.out 0
                            have hfz25_1 := blk_frozen BK136.out 1
                            have hfz25_2 := blk_frozen BK136.out 2
                            have hfz25_3 := blk_frozen BK136.out 3
                            go_wp2
                            go_roundg kj9
                            case measure => have := HJ2.out; have := HK2.out; have := HJ9.out; omega
                            case rel => exact ⟨(wrap64 (x1_2 + 1)), (wrap64 (x5_2 - 1)), (by first | rfl | (simp; done) | (simp [*]; done)), (by first | rfl | (simp; done) | (simp [*]; done)), H', ⟨by have := HJ2.out; have := HK2.out; have := HJ9.out; omega⟩, ⟨by repeat (first | (with_reducible first | exact HB.out | apply below_alloc | apply pw_below_drewN | apply below_drew1 | refine below_set ?_ GE136.out) | exact HB.out)⟩⟩
                  · rw [if_neg c9] at H
                    exact absurd H (by simp)
                · rw [if_neg c8] at H
                  exact absurd H (by simp)
            · rw [if_neg c6] at H
              have c6b0 : decide (0 < x5_2) = false := decide_eq_false c6
              clear c6
              obtain rfl := Option.some.inj H
              go_wp2
              go_ret
              exact ⟨by first | rfl | (simp [errW_none, errW_some] <;> rfl) | (simp [*, errW_none, errW_some] <;> rfl), by repeat (first | (with_reducible first | exact HB.out | apply below_alloc | apply pw_below_drewN | apply below_drew1) | exact HB.out)⟩

end Go.Proofs.Ythdnaliahdohhaa.C
