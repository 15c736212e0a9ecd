-- printed by a program of this session (wip/tools/pp.py) that runs the kit's printer over contracts proved by hand
import Derived.Test.YthdnaliahdohhaaDx0
import Derived.Test.YthdnaliahdohhaaDx1
namespace Go.Proofs.Ythdnaliahdohhaa.D
open Go.RowKit Go.Proofs.YthdnaliahdohhaaW.PrintWords Go.Proofs.YthdnaliahdohhaaW.PrintLast Go.Proofs.YthdnaliahdohhaaW.PrintMore
attribute [local go_sem] max2_int min2_int max_two min_two max_three min_three max_four min_four   -- for this text's walks alone
set_option linter.unusedVariables false
set_option linter.unusedSimpArgs false

attribute [local go_sem high] eqA39
/-- A state of type 107 at block g of W; what its slices lead to came in by w0. -/
def IsS107 (w0 W : World) (g : Nat) (f0 : Int) : Prop := W.heap[g]? = some (.cells #[.int .i64 f0] 107 (0, 0)) ∧ w0.heap.size ≤ g
theorem IsS107.grown {w0 W : World} {g : Nat} {f0 : Int} {W1 : World} {row : Option Nat} (h : IsS107 w0 W g f0) (hw : W.grownBy W1 row) (hne : some g ≠ row) : IsS107 w0 W1 g f0 := by
  obtain ⟨hb, hg⟩ := h
  exact ⟨blk_grown hb hw hne, hg⟩
theorem IsS107.own_neN {w0 W : World} {g : Nat} {f0 : Int} {α : Type} {d : Kd α} {e : Nat} {base : Nat} {ok : Nat → Prop} {v : Value} {xs : List α} (h : IsS107 w0 W g f0) (ho : Kd.N d e W base ok v xs) (ht : e ≠ 107) : some g ≠ v.ownBlock := by
  obtain ⟨hb, hg⟩ := h
  exact Kd.N_ne ho hb ht
theorem IsS107.fresh {w0 W : World} {g : Nat} {f0 : Int} (h : IsS107 w0 W g f0) : ∀ k, W.heap.size ≤ k → k ≠ g := by
  obtain ⟨hb, hg⟩ := h
  exact Kd.freshB hb
theorem IsS107.kept {w0 W : World} {g : Nat} {f0 : Int} {W1 : World} {S : Nat → Prop} (h : IsS107 w0 W g f0) (hk : Kept W W1 S) (hne : ¬ S g) : IsS107 w0 W1 g f0 := by
  obtain ⟨hb, hg⟩ := h
  exact ⟨blk_kept hb hk hne, hg⟩
theorem IsS107.below {w0 W : World} {g : Nat} {f0 : Int} {W1 : World} (h : IsS107 w0 W g f0) (hw : Below W.heap.size W W1) : IsS107 w0 W1 g f0 := h.grown (grown_of_below hw none) (by simp)
theorem IsS107.alloc {w0 W : World} {g : Nat} {f0 : Int} (h : IsS107 w0 W g f0) (o : Obj) : IsS107 w0 (W.alloc o) g f0 := h.below (below_alloc (Below.refl _ _) o)
theorem IsS107.drewN {w0 W : World} {g : Nat} {f0 : Int} (h : IsS107 w0 W g f0) (m : Nat) : IsS107 w0 (W.drewN m) g f0 := h
theorem IsS107.drew {w0 W : World} {g : Nat} {f0 : Int} (h : IsS107 w0 W g f0) : IsS107 w0 W.drew g f0 := h
theorem IsS107.at_ {w0 W : World} {g : Nat} {f0 : Int} {w' : World} {m : Nat} (hq : W.drewN m = w') (h : IsS107 w0 W g f0) : IsS107 w0 w' g f0 := by subst hq; exact IsS107.drewN h m
theorem IsS107.apart {w0 W : World} {g : Nat} {f0 : Int} {α : Type} {d : Kd α} {e : Nat} {base : Nat} {ok : Nat → Prop} {v : Value} {xs : List α} (h : IsS107 w0 W g f0) (ho : d.R e W base ok v xs) (ht : ∀ q, q ∈ e :: d.E → q ≠ 107) : d.R e W base (fun k => ok k ∧ k ≠ g) v xs := by
  obtain ⟨hb, hg⟩ := h
  exact Kd.R_types ho hb ht
theorem IsS107.own_ne {w0 W : World} {g : Nat} {f0 : Int} {α : Type} {d : Kd α} {e : Nat} {base : Nat} {ok : Nat → Prop} {v : Value} {xs : List α} (h : IsS107 w0 W g f0) (ho : d.R e W base ok v xs) (ht : e ≠ 107) : some g ≠ v.ownBlock := by
  obtain ⟨hb, hg⟩ := h
  exact Kd.R_ne ho hb ht
theorem IsS107.apartQ {w0 W : World} {g : Nat} {f0 : Int} {α : Type} {d : Kd α} {e : Nat} {base : Nat} {ok : Nat → Prop} {v : Value} {xs : List α} (h : IsS107 w0 W g f0) (ho : d.Q e W base ok v xs) (ht : ∀ q, q ∈ e :: d.E → q ≠ 107) : d.Q e W base (fun k => ok k ∧ k ≠ g) v xs := by
  obtain ⟨hb, hg⟩ := h
  exact Kd.Q_types ho hb ht
theorem IsS107.own_neQ {w0 W : World} {g : Nat} {f0 : Int} {α : Type} {d : Kd α} {e : Nat} {base : Nat} {ok : Nat → Prop} {v : Value} {xs : List α} (h : IsS107 w0 W g f0) (ho : d.Q e W base ok v xs) (ht : e ≠ 107) : some g ≠ v.ownBlock := by
  obtain ⟨hb, hg⟩ := h
  exact Kd.Q_ne ho hb ht
theorem IsS107.apartS {w0 W : World} {g : Nat} {f0 : Int} {α : Type} {d : Kd α} {e : Nat} {base : Nat} {ok : Nat → Prop} {v : Value} {xs : List α} (h : IsS107 w0 W g f0) (ho : d.S e W base ok v xs) (ht : ∀ q, q ∈ e :: d.E → q ≠ 107) : d.S e W base (fun k => ok k ∧ k ≠ g) v xs := by
  obtain ⟨hb, hg⟩ := h
  exact Kd.S_types ho hb ht
theorem IsS107.own_neS {w0 W : World} {g : Nat} {f0 : Int} {α : Type} {d : Kd α} {e : Nat} {base : Nat} {ok : Nat → Prop} {v : Value} {xs : List α} (h : IsS107 w0 W g f0) (ho : d.S e W base ok v xs) (ht : e ≠ 107) : some g ≠ v.ownBlock := by
  obtain ⟨hb, hg⟩ := h
  exact Kd.S_ne ho hb ht
theorem IsS107.lt {w0 W : World} {g : Nat} {f0 : Int} (h : IsS107 w0 W g f0) : g < W.heap.size := by
  obtain ⟨hb, hg⟩ := h
  exact blk_lt hb
theorem IsS107.ge {w0 W : World} {g : Nat} {f0 : Int} (h : IsS107 w0 W g f0) : w0.heap.size ≤ g := by
  obtain ⟨hb, hg⟩ := h
  exact hg
theorem IsS107.ne_blk {w0 W : World} {g : Nat} {f0 : Int} {a : Nat} {cs : Array Value} {t : TypeId} {fr : Nat × Nat} (h : IsS107 w0 W g f0) (hb2 : W.heap[a]? = some (.cells cs t fr)) (ht : t ≠ 107) : g ≠ a := by
  obtain ⟨hb, hg⟩ := h
  rintro rfl
  rw [hb] at hb2
  injection hb2 with hb2
  injection hb2 with _ ht2
  exact ht ht2.symm
theorem IsS107.far {w0 W : World} {g : Nat} {f0 : Int} {p : Addr} (h : IsS107 w0 W g f0) (hne : g ≠ p.block) (u : Value) : IsS107 w0 (W.setCell p u) g f0 := by
  obtain ⟨hb, hg⟩ := h
  exact ⟨blk_far hb hne u, hg⟩
theorem cellS107_0 {W : World} {g : Nat} {f0 : Int} (h : W.heap[g]? = some (.cells #[.int .i64 f0] 107 (0, 0))) : W.cell? ⟨g, 0, none⟩ = some (.int .i64 f0) := (blk_cell h 0).trans rfl
theorem IsS107.set_0 {w0 W : World} {g : Nat} {f0 : Int} (h : IsS107 w0 W g f0) (x : Int) : IsS107 w0 (W.setCell ⟨g, 0, none⟩ (.int .i64 x)) g x := by
  obtain ⟨hb, hg⟩ := h
  exact ⟨by simpa using blk_set hb 0 (.int .i64 x), hg⟩
theorem IsS107.new (w0 W : World) (f0 : Int) (hB : Below w0.heap.size w0 W) : IsS107 w0 (W.alloc (.cells #[.int .i64 f0] 107)) W.heap.size f0 := ⟨by simpa using heap_alloc_new W _, hB.size⟩

/-! ### code_checker_any: function 58 -/
def code_checker_any.f (s0_0 : Int) (a1_0 : Int) (a1_1 : Int) (a1_2 : Int) (a1_3 : ByteArray) : Option (Bool × Int) := some ((a1_0 == 1 && (a1_1 == 0 && (a1_2 == 0 && (a1_3.toList == ([] : List UInt8))))), s0_0)
set_option maxHeartbeats 8000000 in
set_option maxRecDepth 100000 in
theorem code_checker_any.calls (g : Nat) (s0_0 : Int) (a1_0 : Int) (a1_1 : Int) (a1_2 : Int) (a1_3 : ByteArray) (r1 : Bool) (r2 : Int) (w0 w : World) (hI : IsS107 w0 w g s0_0) (hB : Below w0.heap.size w0 w) (h : code_checker_any.f s0_0 a1_0 a1_1 a1_2 a1_3 = some (r1, r2)) :
    Calls Try.prog 58 #[.pointer (some ⟨g, 0, none⟩), .agg #[.int .i64 a1_0, .int .i64 a1_1, .int .i64 a1_2, .string a1_3]] w fun e w' => e = .returned (.bool r1) ∧ IsS107 w0 w' g r2 ∧ Below w0.heap.size w0 w' ∧ KeepBut w w' g none := by
  have hu39 := Try.underlying39
  have HI0 := Aside0.mk hI
  have HK := Aside0.mk (KeepBut.refl w g none)
  have HL := Aside0.mk hB.size
  clear hI
  have HW0 := Aside0.mk hB.size
  have HB := Aside0.mk hB
  clear hB
  have H : (some ((a1_0 == 1 && (a1_1 == 0 && (a1_2 == 0 && (a1_3.toList == ([] : List UInt8))))), s0_0)) = some (r1, r2) := h
  clear h
  simp only [Option.some.injEq, Prod.mk.injEq] at H
  obtain ⟨rfl, rfl⟩ := H
  go_enter Try.func58, Try.ntmps58
  go_wp2_with (first | ((with_reducible refine gate_dst (N := 3) rfl ?_); refine box_event ?hg (N := 3) ?hd (cs := #[.int .i64 a1_0, .int .i64 a1_1, .int .i64 a1_2, .string a1_3]) (t := 39) ?hr ?_; (case hd => rfl); (case hg => rfl); (case hr => first | (go_simp; done) | (go_simp; rfl)); intro gb101 hg w3 hbox hb; have n0_ := Aside0.mk (IsS107.below (by repeat (first | (with_reducible first | exact HI0.out | apply IsS107.alloc | apply IsS107.drewN | apply IsS107.drew | apply IsS107.set_0) | exact HI0.out)) hb); have n1_ := Aside0.mk (KeepBut.trans (by repeat (first | (with_reducible first | exact HK.out | apply KeepBut.set_ | apply keep_drewN | apply keep_drew | apply keep_alloc) | exact HK.out)) (KeepBut.of_below hb g none) (.inl rfl)); have n2_ := Aside0.mk (below_step (by repeat (first | (with_reducible first | exact HB.out | apply below_alloc | apply pw_below_drewN | apply below_drew1 | refine below_set ?_ (IsS107.ge HI0.out)) | exact HB.out)) hb); have n3_ := Aside0.mk (hbox); have n4_ := Aside0.mk ((by rw [hg]; exact (keep_size (w := w) (g := g) (row := none) (by repeat (first | (with_reducible first | exact HK.out | apply KeepBut.set_ | apply keep_drewN | apply keep_drew | apply keep_alloc) | exact HK.out))) : w.heap.size ≤ gb101)); have n5_ := Aside0.mk ((Nat.le_trans HW0.out (by rw [hg]; exact (keep_size (w := w) (g := g) (row := none) (by repeat (first | (with_reducible first | exact HK.out | apply KeepBut.set_ | apply keep_drewN | apply keep_drew | apply keep_alloc) | exact HK.out))) : w.heap.size ≤ gb101) : w0.heap.size ≤ gb101)); have n6_ := Aside0.mk ((by rw [hg]; exact Nat.ne_of_lt (IsS107.lt (show IsS107 w0 _ g s0_0 from by repeat (first | (with_reducible first | exact HI0.out | apply IsS107.alloc | apply IsS107.drewN | apply IsS107.drew | apply IsS107.set_0) | exact HI0.out))) : g ≠ gb101)); have n7_ := Aside0.mk ((by rw [hg]; exact Nat.ne_of_gt (IsS107.lt (show IsS107 w0 _ g s0_0 from by repeat (first | (with_reducible first | exact HI0.out | apply IsS107.alloc | apply IsS107.drewN | apply IsS107.drew | apply IsS107.set_0) | exact HI0.out))) : gb101 ≠ g)); clear HI0; clear HK; clear HB; have HI0 := n0_; have HK := n1_; have HB := n2_; have BK101 := n3_; have GW101 := n4_; have GE101 := n5_; have NB0_101 := n6_; have NB101_0 := n7_; clear n0_ n1_ n2_ n3_ n4_ n5_ n6_ n7_; clear hb hbox hg; have hnb4 := NB101_0.out; have hnc4 := NB0_101.out; have hcz5_0 : w3.cell? ⟨gb101, 0, none⟩ = some (.int .i64 a1_0) := (blk_cell BK101.out 0).trans rfl; have hcz5_1 : w3.cell? ⟨gb101, 1, none⟩ = some (.int .i64 a1_1) := (blk_cell BK101.out 1).trans rfl; have hcz5_2 : w3.cell? ⟨gb101, 2, none⟩ = some (.int .i64 a1_2) := (blk_cell BK101.out 2).trans rfl; have hcz5_3 : w3.cell? ⟨gb101, 3, none⟩ = some (.string a1_3) := (blk_cell BK101.out 3).trans rfl; have hfz5_0 := blk_frozen BK101.out 0; have hfz5_1 := blk_frozen BK101.out 1; have hfz5_2 := blk_frozen BK101.out 2; have hfz5_3 := blk_frozen BK101.out 3))
  go_ret
  exact ⟨by first | rfl | (simp [errW_none, errW_some] <;> rfl) | (simp [*, errW_none, errW_some] <;> rfl), by repeat (first | (with_reducible first | exact HI0.out | apply IsS107.alloc | apply IsS107.drewN | apply IsS107.drew | apply IsS107.set_0 | refine IsS107.far ?_ NB0_101.out _) | exact HI0.out), by repeat (first | (with_reducible first | exact HB.out | apply below_alloc | apply pw_below_drewN | apply below_drew1 | refine below_set ?_ (IsS107.ge HI0.out) | refine below_set ?_ GE101.out) | exact HB.out), by repeat (first | (with_reducible first | exact HK.out | apply KeepBut.set_ | apply keep_drewN | apply keep_drew | apply keep_alloc | refine keep_far ?_ GW101.out _) | exact HK.out)⟩

/-! ### code_checker_first: function 59 -/
def code_checker_first.f (s0_0 : Int) (a1_0 : Int) (a1_1 : Int) (a1_2 : Int) (a1_3 : ByteArray) : Option (Bool × Int) := some ((a1_0 == 2 && (a1_1 == (wrap64 ((wrap64 (s0_0 + 1)) - 1)) && (a1_2 == 0 && (a1_3.toList == ([] : List UInt8))))), wrap64 (s0_0 + 1))
set_option maxHeartbeats 8000000 in
set_option maxRecDepth 100000 in
theorem code_checker_first.calls (g : Nat) (s0_0 : Int) (a1_0 : Int) (a1_1 : Int) (a1_2 : Int) (a1_3 : ByteArray) (r1 : Bool) (r2 : Int) (w0 w : World) (hI : IsS107 w0 w g s0_0) (hB : Below w0.heap.size w0 w) (h : code_checker_first.f s0_0 a1_0 a1_1 a1_2 a1_3 = some (r1, r2)) :
    Calls Try.prog 59 #[.pointer (some ⟨g, 0, none⟩), .agg #[.int .i64 a1_0, .int .i64 a1_1, .int .i64 a1_2, .string a1_3]] w fun e w' => e = .returned (.bool r1) ∧ IsS107 w0 w' g r2 ∧ Below w0.heap.size w0 w' ∧ KeepBut w w' g none := by
  have hu39 := Try.underlying39
  have HI0 := Aside0.mk hI
  have HK := Aside0.mk (KeepBut.refl w g none)
  have HL := Aside0.mk hB.size
  clear hI
  have HW0 := Aside0.mk hB.size
  have HB := Aside0.mk hB
  clear hB
  have H : (some ((a1_0 == 2 && (a1_1 == (wrap64 ((wrap64 (s0_0 + 1)) - 1)) && (a1_2 == 0 && (a1_3.toList == ([] : List UInt8))))), wrap64 (s0_0 + 1))) = some (r1, r2) := h
  clear h
  simp only [Option.some.injEq, Prod.mk.injEq] at H
  obtain ⟨rfl, rfl⟩ := H
  go_enter Try.func59, Try.ntmps59
  go_wp2_with (first | ((with_reducible refine gate_dst (N := 3) rfl ?_); refine box_event ?hg (N := 3) ?hd (cs := #[.int .i64 a1_0, .int .i64 a1_1, .int .i64 a1_2, .string a1_3]) (t := 39) ?hr ?_; (case hd => rfl); (case hg => rfl); (case hr => first | (go_simp; done) | (go_simp; rfl)); intro gb102 hg w3 hbox hb; have n0_ := Aside0.mk (IsS107.below (by repeat (first | (with_reducible first | exact HI0.out | apply IsS107.alloc | apply IsS107.drewN | apply IsS107.drew | apply IsS107.set_0) | exact HI0.out)) hb); have n1_ := Aside0.mk (KeepBut.trans (by repeat (first | (with_reducible first | exact HK.out | apply KeepBut.set_ | apply keep_drewN | apply keep_drew | apply keep_alloc) | exact HK.out)) (KeepBut.of_below hb g none) (.inl rfl)); have n2_ := Aside0.mk (below_step (by repeat (first | (with_reducible first | exact HB.out | apply below_alloc | apply pw_below_drewN | apply below_drew1 | refine below_set ?_ (IsS107.ge HI0.out)) | exact HB.out)) hb); have n3_ := Aside0.mk (hbox); have n4_ := Aside0.mk ((by rw [hg]; exact (keep_size (w := w) (g := g) (row := none) (by repeat (first | (with_reducible first | exact HK.out | apply KeepBut.set_ | apply keep_drewN | apply keep_drew | apply keep_alloc) | exact HK.out))) : w.heap.size ≤ gb102)); have n5_ := Aside0.mk ((Nat.le_trans HW0.out (by rw [hg]; exact (keep_size (w := w) (g := g) (row := none) (by repeat (first | (with_reducible first | exact HK.out | apply KeepBut.set_ | apply keep_drewN | apply keep_drew | apply keep_alloc) | exact HK.out))) : w.heap.size ≤ gb102) : w0.heap.size ≤ gb102)); have n6_ := Aside0.mk ((by rw [hg]; exact Nat.ne_of_lt (IsS107.lt (show IsS107 w0 _ g s0_0 from by repeat (first | (with_reducible first | exact HI0.out | apply IsS107.alloc | apply IsS107.drewN | apply IsS107.drew | apply IsS107.set_0) | exact HI0.out))) : g ≠ gb102)); have n7_ := Aside0.mk ((by rw [hg]; exact Nat.ne_of_gt (IsS107.lt (show IsS107 w0 _ g s0_0 from by repeat (first | (with_reducible first | exact HI0.out | apply IsS107.alloc | apply IsS107.drewN | apply IsS107.drew | apply IsS107.set_0) | exact HI0.out))) : gb102 ≠ g)); clear HI0; clear HK; clear HB; have HI0 := n0_; have HK := n1_; have HB := n2_; have BK102 := n3_; have GW102 := n4_; have GE102 := n5_; have NB0_102 := n6_; have NB102_0 := n7_; clear n0_ n1_ n2_ n3_ n4_ n5_ n6_ n7_; clear hb hbox hg; obtain ⟨HGz4, hgz4⟩ := HI0.out; have hcz4_0 := cellS107_0 HGz4; have hfz4_0 := blk_frozen HGz4 0; clear HGz4 hgz4; have hnb5 := NB102_0.out; have hnc5 := NB0_102.out; have hcz6_0 : w3.cell? ⟨gb102, 0, none⟩ = some (.int .i64 a1_0) := (blk_cell BK102.out 0).trans rfl; have hcz6_1 : w3.cell? ⟨gb102, 1, none⟩ = some (.int .i64 a1_1) := (blk_cell BK102.out 1).trans rfl; have hcz6_2 : w3.cell? ⟨gb102, 2, none⟩ = some (.int .i64 a1_2) := (blk_cell BK102.out 2).trans rfl; have hcz6_3 : w3.cell? ⟨gb102, 3, none⟩ = some (.string a1_3) := (blk_cell BK102.out 3).trans rfl; have hfz6_0 := blk_frozen BK102.out 0; have hfz6_1 := blk_frozen BK102.out 1; have hfz6_2 := blk_frozen BK102.out 2; have hfz6_3 := blk_frozen BK102.out 3))
  repeat (go_quiet (first | ((with_reducible refine gate_dst (N := 3) rfl ?_); refine box_event ?hg (N := 3) ?hd (cs := #[.int .i64 a1_0, .int .i64 a1_1, .int .i64 a1_2, .string a1_3]) (t := 39) ?hr ?_; (case hd => rfl); (case hg => rfl); (case hr => first | (go_simp; done) | (go_simp; rfl)); intro gb102 hg w3 hbox hb; have n0_ := Aside0.mk (IsS107.below (by repeat (first | (with_reducible first | exact HI0.out | apply IsS107.alloc | apply IsS107.drewN | apply IsS107.drew | apply IsS107.set_0) | exact HI0.out)) hb); have n1_ := Aside0.mk (KeepBut.trans (by repeat (first | (with_reducible first | exact HK.out | apply KeepBut.set_ | apply keep_drewN | apply keep_drew | apply keep_alloc) | exact HK.out)) (KeepBut.of_below hb g none) (.inl rfl)); have n2_ := Aside0.mk (below_step (by repeat (first | (with_reducible first | exact HB.out | apply below_alloc | apply pw_below_drewN | apply below_drew1 | refine below_set ?_ (IsS107.ge HI0.out)) | exact HB.out)) hb); have n3_ := Aside0.mk (hbox); have n4_ := Aside0.mk ((by rw [hg]; exact (keep_size (w := w) (g := g) (row := none) (by repeat (first | (with_reducible first | exact HK.out | apply KeepBut.set_ | apply keep_drewN | apply keep_drew | apply keep_alloc) | exact HK.out))) : w.heap.size ≤ gb102)); have n5_ := Aside0.mk ((Nat.le_trans HW0.out (by rw [hg]; exact (keep_size (w := w) (g := g) (row := none) (by repeat (first | (with_reducible first | exact HK.out | apply KeepBut.set_ | apply keep_drewN | apply keep_drew | apply keep_alloc) | exact HK.out))) : w.heap.size ≤ gb102) : w0.heap.size ≤ gb102)); have n6_ := Aside0.mk ((by rw [hg]; exact Nat.ne_of_lt (IsS107.lt (show IsS107 w0 _ g s0_0 from by repeat (first | (with_reducible first | exact HI0.out | apply IsS107.alloc | apply IsS107.drewN | apply IsS107.drew | apply IsS107.set_0) | exact HI0.out))) : g ≠ gb102)); have n7_ := Aside0.mk ((by rw [hg]; exact Nat.ne_of_gt (IsS107.lt (show IsS107 w0 _ g s0_0 from by repeat (first | (with_reducible first | exact HI0.out | apply IsS107.alloc | apply IsS107.drewN | apply IsS107.drew | apply IsS107.set_0) | exact HI0.out))) : gb102 ≠ g)); clear HI0; clear HK; clear HB; have HI0 := n0_; have HK := n1_; have HB := n2_; have BK102 := n3_; have GW102 := n4_; have GE102 := n5_; have NB0_102 := n6_; have NB102_0 := n7_; clear n0_ n1_ n2_ n3_ n4_ n5_ n6_ n7_; clear hb hbox hg; obtain ⟨HGz4, hgz4⟩ := HI0.out; have hcz4_0 := cellS107_0 HGz4; have hfz4_0 := blk_frozen HGz4 0; clear HGz4 hgz4; have hnb5 := NB102_0.out; have hnc5 := NB0_102.out; have hcz6_0 : w3.cell? ⟨gb102, 0, none⟩ = some (.int .i64 a1_0) := (blk_cell BK102.out 0).trans rfl; have hcz6_1 : w3.cell? ⟨gb102, 1, none⟩ = some (.int .i64 a1_1) := (blk_cell BK102.out 1).trans rfl; have hcz6_2 : w3.cell? ⟨gb102, 2, none⟩ = some (.int .i64 a1_2) := (blk_cell BK102.out 2).trans rfl; have hcz6_3 : w3.cell? ⟨gb102, 3, none⟩ = some (.string a1_3) := (blk_cell BK102.out 3).trans rfl; have hfz6_0 := blk_frozen BK102.out 0; have hfz6_1 := blk_frozen BK102.out 1; have hfz6_2 := blk_frozen BK102.out 2; have hfz6_3 := blk_frozen BK102.out 3)); try go_wp2_with (first | ((with_reducible refine gate_dst (N := 3) rfl ?_); refine box_event ?hg (N := 3) ?hd (cs := #[.int .i64 a1_0, .int .i64 a1_1, .int .i64 a1_2, .string a1_3]) (t := 39) ?hr ?_; (case hd => rfl); (case hg => rfl); (case hr => first | (go_simp; done) | (go_simp; rfl)); intro gb102 hg w3 hbox hb; have n0_ := Aside0.mk (IsS107.below (by repeat (first | (with_reducible first | exact HI0.out | apply IsS107.alloc | apply IsS107.drewN | apply IsS107.drew | apply IsS107.set_0) | exact HI0.out)) hb); have n1_ := Aside0.mk (KeepBut.trans (by repeat (first | (with_reducible first | exact HK.out | apply KeepBut.set_ | apply keep_drewN | apply keep_drew | apply keep_alloc) | exact HK.out)) (KeepBut.of_below hb g none) (.inl rfl)); have n2_ := Aside0.mk (below_step (by repeat (first | (with_reducible first | exact HB.out | apply below_alloc | apply pw_below_drewN | apply below_drew1 | refine below_set ?_ (IsS107.ge HI0.out)) | exact HB.out)) hb); have n3_ := Aside0.mk (hbox); have n4_ := Aside0.mk ((by rw [hg]; exact (keep_size (w := w) (g := g) (row := none) (by repeat (first | (with_reducible first | exact HK.out | apply KeepBut.set_ | apply keep_drewN | apply keep_drew | apply keep_alloc) | exact HK.out))) : w.heap.size ≤ gb102)); have n5_ := Aside0.mk ((Nat.le_trans HW0.out (by rw [hg]; exact (keep_size (w := w) (g := g) (row := none) (by repeat (first | (with_reducible first | exact HK.out | apply KeepBut.set_ | apply keep_drewN | apply keep_drew | apply keep_alloc) | exact HK.out))) : w.heap.size ≤ gb102) : w0.heap.size ≤ gb102)); have n6_ := Aside0.mk ((by rw [hg]; exact Nat.ne_of_lt (IsS107.lt (show IsS107 w0 _ g s0_0 from by repeat (first | (with_reducible first | exact HI0.out | apply IsS107.alloc | apply IsS107.drewN | apply IsS107.drew | apply IsS107.set_0) | exact HI0.out))) : g ≠ gb102)); have n7_ := Aside0.mk ((by rw [hg]; exact Nat.ne_of_gt (IsS107.lt (show IsS107 w0 _ g s0_0 from by repeat (first | (with_reducible first | exact HI0.out | apply IsS107.alloc | apply IsS107.drewN | apply IsS107.drew | apply IsS107.set_0) | exact HI0.out))) : gb102 ≠ g)); clear HI0; clear HK; clear HB; have HI0 := n0_; have HK := n1_; have HB := n2_; have BK102 := n3_; have GW102 := n4_; have GE102 := n5_; have NB0_102 := n6_; have NB102_0 := n7_; clear n0_ n1_ n2_ n3_ n4_ n5_ n6_ n7_; clear hb hbox hg; obtain ⟨HGz4, hgz4⟩ := HI0.out; have hcz4_0 := cellS107_0 HGz4; have hfz4_0 := blk_frozen HGz4 0; clear HGz4 hgz4; have hnb5 := NB102_0.out; have hnc5 := NB0_102.out; have hcz6_0 : w3.cell? ⟨gb102, 0, none⟩ = some (.int .i64 a1_0) := (blk_cell BK102.out 0).trans rfl; have hcz6_1 : w3.cell? ⟨gb102, 1, none⟩ = some (.int .i64 a1_1) := (blk_cell BK102.out 1).trans rfl; have hcz6_2 : w3.cell? ⟨gb102, 2, none⟩ = some (.int .i64 a1_2) := (blk_cell BK102.out 2).trans rfl; have hcz6_3 : w3.cell? ⟨gb102, 3, none⟩ = some (.string a1_3) := (blk_cell BK102.out 3).trans rfl; have hfz6_0 := blk_frozen BK102.out 0; have hfz6_1 := blk_frozen BK102.out 1; have hfz6_2 := blk_frozen BK102.out 2; have hfz6_3 := blk_frozen BK102.out 3)))
  go_ret
  exact ⟨by first | rfl | (simp [errW_none, errW_some] <;> rfl) | (simp [*, errW_none, errW_some] <;> rfl), by repeat (first | (with_reducible first | exact HI0.out | apply IsS107.alloc | apply IsS107.drewN | apply IsS107.drew | apply IsS107.set_0 | refine IsS107.far ?_ NB0_102.out _) | exact HI0.out), by repeat (first | (with_reducible first | exact HB.out | apply below_alloc | apply pw_below_drewN | apply below_drew1 | refine below_set ?_ (IsS107.ge HI0.out) | refine below_set ?_ GE102.out) | exact HB.out), by repeat (first | (with_reducible first | exact HK.out | apply KeepBut.set_ | apply keep_drewN | apply keep_drew | apply keep_alloc | refine keep_far ?_ GW102.out _) | exact HK.out)⟩

/-! ### code_checker_again: function 60 -/
def code_checker_again.f (s0_0 : Int) (a1_0 : Int) (a1_1 : Int) (a1_2 : Int) (a1_3 : ByteArray) : Option (Bool × Int) := if (a1_0 == 3 && (a1_2 == 0 && (a1_3.toList == ([] : List UInt8)))) = true then (if a1_1 ≥ 0 then (some (decide (a1_1 < s0_0), s0_0)) else (some (false, s0_0))) else (some (false, s0_0))
set_option maxHeartbeats 8000000 in
set_option maxRecDepth 100000 in
theorem code_checker_again.calls (g : Nat) (s0_0 : Int) (a1_0 : Int) (a1_1 : Int) (a1_2 : Int) (a1_3 : ByteArray) (r1 : Bool) (r2 : Int) (w0 w : World) (hI : IsS107 w0 w g s0_0) (hB : Below w0.heap.size w0 w) (h : code_checker_again.f s0_0 a1_0 a1_1 a1_2 a1_3 = some (r1, r2)) :
    Calls Try.prog 60 #[.pointer (some ⟨g, 0, none⟩), .agg #[.int .i64 a1_0, .int .i64 a1_1, .int .i64 a1_2, .string a1_3]] w fun e w' => e = .returned (.bool r1) ∧ IsS107 w0 w' g r2 ∧ Below w0.heap.size w0 w' ∧ KeepBut w w' g none := by
  have hu39 := Try.underlying39
  have HI0 := Aside0.mk hI
  have HK := Aside0.mk (KeepBut.refl w g none)
  have HL := Aside0.mk hB.size
  clear hI
  have HW0 := Aside0.mk hB.size
  have HB := Aside0.mk hB
  clear hB
  have H : (if (a1_0 == 3 && (a1_2 == 0 && (a1_3.toList == ([] : List UInt8)))) = true then (if a1_1 ≥ 0 then (some (decide (a1_1 < s0_0), s0_0)) else (some (false, s0_0))) else (some (false, s0_0))) = some (r1, r2) := h
  clear h
  by_cases c3 : (a1_0 == 3 && (a1_2 == 0 && (a1_3.toList == ([] : List UInt8)))) = true
  · rw [if_pos c3] at H
    have c3b0 : (a1_0 == 3 && (a1_2 == 0 && (a1_3.toList == ([] : List UInt8)))) = true := c3
    (try (have c3b1 : decide (a1_0 = 3 && (a1_2 == 0 && (a1_3.toList == ([] : List UInt8)))) = true := by simpa using c3))
    (try (have c3b2 : (a1_0 == 3 && (a1_2 == 0 && (a1_3.toList == ([] : List UInt8)))) = true := by simpa using c3))
    (try (have c3b3 : (a1_0 == 3 && (a1_2 == 0 && (a1_3.toList.isEmpty))) = true := by simpa using c3))
    clear c3
    by_cases c4 : a1_1 ≥ 0
    · rw [if_pos c4] at H
      have c4b0 : decide (0 ≤ a1_1) = true := decide_eq_true c4
      clear c4
      simp only [Option.some.injEq, Prod.mk.injEq] at H
      obtain ⟨rfl, rfl⟩ := H
      go_enter Try.func60, Try.ntmps60
      go_wp2_with (first | ((with_reducible refine gate_dst (N := 3) rfl ?_); refine box_event ?hg (N := 3) ?hd (cs := #[.int .i64 a1_0, .int .i64 a1_1, .int .i64 a1_2, .string a1_3]) (t := 39) ?hr ?_; (case hd => rfl); (case hg => rfl); (case hr => first | (go_simp; done) | (go_simp; rfl)); intro gb103 hg w5 hbox hb; have n0_ := Aside0.mk (IsS107.below (by repeat (first | (with_reducible first | exact HI0.out | apply IsS107.alloc | apply IsS107.drewN | apply IsS107.drew | apply IsS107.set_0) | exact HI0.out)) hb); have n1_ := Aside0.mk (KeepBut.trans (by repeat (first | (with_reducible first | exact HK.out | apply KeepBut.set_ | apply keep_drewN | apply keep_drew | apply keep_alloc) | exact HK.out)) (KeepBut.of_below hb g none) (.inl rfl)); have n2_ := Aside0.mk (below_step (by repeat (first | (with_reducible first | exact HB.out | apply below_alloc | apply pw_below_drewN | apply below_drew1 | refine below_set ?_ (IsS107.ge HI0.out)) | exact HB.out)) hb); have n3_ := Aside0.mk (hbox); have n4_ := Aside0.mk ((by rw [hg]; exact (keep_size (w := w) (g := g) (row := none) (by repeat (first | (with_reducible first | exact HK.out | apply KeepBut.set_ | apply keep_drewN | apply keep_drew | apply keep_alloc) | exact HK.out))) : w.heap.size ≤ gb103)); have n5_ := Aside0.mk ((Nat.le_trans HW0.out (by rw [hg]; exact (keep_size (w := w) (g := g) (row := none) (by repeat (first | (with_reducible first | exact HK.out | apply KeepBut.set_ | apply keep_drewN | apply keep_drew | apply keep_alloc) | exact HK.out))) : w.heap.size ≤ gb103) : w0.heap.size ≤ gb103)); have n6_ := Aside0.mk ((by rw [hg]; exact Nat.ne_of_lt (IsS107.lt (show IsS107 w0 _ g s0_0 from by repeat (first | (with_reducible first | exact HI0.out | apply IsS107.alloc | apply IsS107.drewN | apply IsS107.drew | apply IsS107.set_0) | exact HI0.out))) : g ≠ gb103)); have n7_ := Aside0.mk ((by rw [hg]; exact Nat.ne_of_gt (IsS107.lt (show IsS107 w0 _ g s0_0 from by repeat (first | (with_reducible first | exact HI0.out | apply IsS107.alloc | apply IsS107.drewN | apply IsS107.drew | apply IsS107.set_0) | exact HI0.out))) : gb103 ≠ g)); clear HI0; clear HK; clear HB; have HI0 := n0_; have HK := n1_; have HB := n2_; have BK103 := n3_; have GW103 := n4_; have GE103 := n5_; have NB0_103 := n6_; have NB103_0 := n7_; clear n0_ n1_ n2_ n3_ n4_ n5_ n6_ n7_; clear hb hbox hg; have hnb6 := NB103_0.out; have hnc6 := NB0_103.out; have hcz7_0 : w5.cell? ⟨gb103, 0, none⟩ = some (.int .i64 a1_0) := (blk_cell BK103.out 0).trans rfl; have hcz7_1 : w5.cell? ⟨gb103, 1, none⟩ = some (.int .i64 a1_1) := (blk_cell BK103.out 1).trans rfl; have hcz7_2 : w5.cell? ⟨gb103, 2, none⟩ = some (.int .i64 a1_2) := (blk_cell BK103.out 2).trans rfl; have hcz7_3 : w5.cell? ⟨gb103, 3, none⟩ = some (.string a1_3) := (blk_cell BK103.out 3).trans rfl; have hfz7_0 := blk_frozen BK103.out 0; have hfz7_1 := blk_frozen BK103.out 1; have hfz7_2 := blk_frozen BK103.out 2; have hfz7_3 := blk_frozen BK103.out 3; obtain ⟨HGz8, hgz8⟩ := HI0.out; have hcz8_0 := cellS107_0 HGz8; have hfz8_0 := blk_frozen HGz8 0; clear HGz8 hgz8))
      repeat (go_quiet (first | ((with_reducible refine gate_dst (N := 3) rfl ?_); refine box_event ?hg (N := 3) ?hd (cs := #[.int .i64 a1_0, .int .i64 a1_1, .int .i64 a1_2, .string a1_3]) (t := 39) ?hr ?_; (case hd => rfl); (case hg => rfl); (case hr => first | (go_simp; done) | (go_simp; rfl)); intro gb103 hg w5 hbox hb; have n0_ := Aside0.mk (IsS107.below (by repeat (first | (with_reducible first | exact HI0.out | apply IsS107.alloc | apply IsS107.drewN | apply IsS107.drew | apply IsS107.set_0) | exact HI0.out)) hb); have n1_ := Aside0.mk (KeepBut.trans (by repeat (first | (with_reducible first | exact HK.out | apply KeepBut.set_ | apply keep_drewN | apply keep_drew | apply keep_alloc) | exact HK.out)) (KeepBut.of_below hb g none) (.inl rfl)); have n2_ := Aside0.mk (below_step (by repeat (first | (with_reducible first | exact HB.out | apply below_alloc | apply pw_below_drewN | apply below_drew1 | refine below_set ?_ (IsS107.ge HI0.out)) | exact HB.out)) hb); have n3_ := Aside0.mk (hbox); have n4_ := Aside0.mk ((by rw [hg]; exact (keep_size (w := w) (g := g) (row := none) (by repeat (first | (with_reducible first | exact HK.out | apply KeepBut.set_ | apply keep_drewN | apply keep_drew | apply keep_alloc) | exact HK.out))) : w.heap.size ≤ gb103)); have n5_ := Aside0.mk ((Nat.le_trans HW0.out (by rw [hg]; exact (keep_size (w := w) (g := g) (row := none) (by repeat (first | (with_reducible first | exact HK.out | apply KeepBut.set_ | apply keep_drewN | apply keep_drew | apply keep_alloc) | exact HK.out))) : w.heap.size ≤ gb103) : w0.heap.size ≤ gb103)); have n6_ := Aside0.mk ((by rw [hg]; exact Nat.ne_of_lt (IsS107.lt (show IsS107 w0 _ g s0_0 from by repeat (first | (with_reducible first | exact HI0.out | apply IsS107.alloc | apply IsS107.drewN | apply IsS107.drew | apply IsS107.set_0) | exact HI0.out))) : g ≠ gb103)); have n7_ := Aside0.mk ((by rw [hg]; exact Nat.ne_of_gt (IsS107.lt (show IsS107 w0 _ g s0_0 from by repeat (first | (with_reducible first | exact HI0.out | apply IsS107.alloc | apply IsS107.drewN | apply IsS107.drew | apply IsS107.set_0) | exact HI0.out))) : gb103 ≠ g)); clear HI0; clear HK; clear HB; have HI0 := n0_; have HK := n1_; have HB := n2_; have BK103 := n3_; have GW103 := n4_; have GE103 := n5_; have NB0_103 := n6_; have NB103_0 := n7_; clear n0_ n1_ n2_ n3_ n4_ n5_ n6_ n7_; clear hb hbox hg; have hnb6 := NB103_0.out; have hnc6 := NB0_103.out; have hcz7_0 : w5.cell? ⟨gb103, 0, none⟩ = some (.int .i64 a1_0) := (blk_cell BK103.out 0).trans rfl; have hcz7_1 : w5.cell? ⟨gb103, 1, none⟩ = some (.int .i64 a1_1) := (blk_cell BK103.out 1).trans rfl; have hcz7_2 : w5.cell? ⟨gb103, 2, none⟩ = some (.int .i64 a1_2) := (blk_cell BK103.out 2).trans rfl; have hcz7_3 : w5.cell? ⟨gb103, 3, none⟩ = some (.string a1_3) := (blk_cell BK103.out 3).trans rfl; have hfz7_0 := blk_frozen BK103.out 0; have hfz7_1 := blk_frozen BK103.out 1; have hfz7_2 := blk_frozen BK103.out 2; have hfz7_3 := blk_frozen BK103.out 3; obtain ⟨HGz8, hgz8⟩ := HI0.out; have hcz8_0 := cellS107_0 HGz8; have hfz8_0 := blk_frozen HGz8 0; clear HGz8 hgz8)); try go_wp2_with (first | ((with_reducible refine gate_dst (N := 3) rfl ?_); refine box_event ?hg (N := 3) ?hd (cs := #[.int .i64 a1_0, .int .i64 a1_1, .int .i64 a1_2, .string a1_3]) (t := 39) ?hr ?_; (case hd => rfl); (case hg => rfl); (case hr => first | (go_simp; done) | (go_simp; rfl)); intro gb103 hg w5 hbox hb; have n0_ := Aside0.mk (IsS107.below (by repeat (first | (with_reducible first | exact HI0.out | apply IsS107.alloc | apply IsS107.drewN | apply IsS107.drew | apply IsS107.set_0) | exact HI0.out)) hb); have n1_ := Aside0.mk (KeepBut.trans (by repeat (first | (with_reducible first | exact HK.out | apply KeepBut.set_ | apply keep_drewN | apply keep_drew | apply keep_alloc) | exact HK.out)) (KeepBut.of_below hb g none) (.inl rfl)); have n2_ := Aside0.mk (below_step (by repeat (first | (with_reducible first | exact HB.out | apply below_alloc | apply pw_below_drewN | apply below_drew1 | refine below_set ?_ (IsS107.ge HI0.out)) | exact HB.out)) hb); have n3_ := Aside0.mk (hbox); have n4_ := Aside0.mk ((by rw [hg]; exact (keep_size (w := w) (g := g) (row := none) (by repeat (first | (with_reducible first | exact HK.out | apply KeepBut.set_ | apply keep_drewN | apply keep_drew | apply keep_alloc) | exact HK.out))) : w.heap.size ≤ gb103)); have n5_ := Aside0.mk ((Nat.le_trans HW0.out (by rw [hg]; exact (keep_size (w := w) (g := g) (row := none) (by repeat (first | (with_reducible first | exact HK.out | apply KeepBut.set_ | apply keep_drewN | apply keep_drew | apply keep_alloc) | exact HK.out))) : w.heap.size ≤ gb103) : w0.heap.size ≤ gb103)); have n6_ := Aside0.mk ((by rw [hg]; exact Nat.ne_of_lt (IsS107.lt (show IsS107 w0 _ g s0_0 from by repeat (first | (with_reducible first | exact HI0.out | apply IsS107.alloc | apply IsS107.drewN | apply IsS107.drew | apply IsS107.set_0) | exact HI0.out))) : g ≠ gb103)); have n7_ := Aside0.mk ((by rw [hg]; exact Nat.ne_of_gt (IsS107.lt (show IsS107 w0 _ g s0_0 from by repeat (first | (with_reducible first | exact HI0.out | apply IsS107.alloc | apply IsS107.drewN | apply IsS107.drew | apply IsS107.set_0) | exact HI0.out))) : gb103 ≠ g)); clear HI0; clear HK; clear HB; have HI0 := n0_; have HK := n1_; have HB := n2_; have BK103 := n3_; have GW103 := n4_; have GE103 := n5_; have NB0_103 := n6_; have NB103_0 := n7_; clear n0_ n1_ n2_ n3_ n4_ n5_ n6_ n7_; clear hb hbox hg; have hnb6 := NB103_0.out; have hnc6 := NB0_103.out; have hcz7_0 : w5.cell? ⟨gb103, 0, none⟩ = some (.int .i64 a1_0) := (blk_cell BK103.out 0).trans rfl; have hcz7_1 : w5.cell? ⟨gb103, 1, none⟩ = some (.int .i64 a1_1) := (blk_cell BK103.out 1).trans rfl; have hcz7_2 : w5.cell? ⟨gb103, 2, none⟩ = some (.int .i64 a1_2) := (blk_cell BK103.out 2).trans rfl; have hcz7_3 : w5.cell? ⟨gb103, 3, none⟩ = some (.string a1_3) := (blk_cell BK103.out 3).trans rfl; have hfz7_0 := blk_frozen BK103.out 0; have hfz7_1 := blk_frozen BK103.out 1; have hfz7_2 := blk_frozen BK103.out 2; have hfz7_3 := blk_frozen BK103.out 3; obtain ⟨HGz8, hgz8⟩ := HI0.out; have hcz8_0 := cellS107_0 HGz8; have hfz8_0 := blk_frozen HGz8 0; clear HGz8 hgz8)))
      go_ret
      exact ⟨by first | rfl | (simp [errW_none, errW_some] <;> rfl) | (simp [*, errW_none, errW_some] <;> rfl), by repeat (first | (with_reducible first | exact HI0.out | apply IsS107.alloc | apply IsS107.drewN | apply IsS107.drew | apply IsS107.set_0 | refine IsS107.far ?_ NB0_103.out _) | exact HI0.out), by repeat (first | (with_reducible first | exact HB.out | apply below_alloc | apply pw_below_drewN | apply below_drew1 | refine below_set ?_ (IsS107.ge HI0.out) | refine below_set ?_ GE103.out) | exact HB.out), by repeat (first | (with_reducible first | exact HK.out | apply KeepBut.set_ | apply keep_drewN | apply keep_drew | apply keep_alloc | refine keep_far ?_ GW103.out _) | exact HK.out)⟩
    · rw [if_neg c4] at H
      have c4b0 : decide (0 ≤ a1_1) = false := decide_eq_false c4
      clear c4
      simp only [Option.some.injEq, Prod.mk.injEq] at H
      obtain ⟨rfl, rfl⟩ := H
      go_enter Try.func60, Try.ntmps60
      go_wp2_with (first | ((with_reducible refine gate_dst (N := 3) rfl ?_); refine box_event ?hg (N := 3) ?hd (cs := #[.int .i64 a1_0, .int .i64 a1_1, .int .i64 a1_2, .string a1_3]) (t := 39) ?hr ?_; (case hd => rfl); (case hg => rfl); (case hr => first | (go_simp; done) | (go_simp; rfl)); intro gb103 hg w9 hbox hb; have n0_ := Aside0.mk (IsS107.below (by repeat (first | (with_reducible first | exact HI0.out | apply IsS107.alloc | apply IsS107.drewN | apply IsS107.drew | apply IsS107.set_0) | exact HI0.out)) hb); have n1_ := Aside0.mk (KeepBut.trans (by repeat (first | (with_reducible first | exact HK.out | apply KeepBut.set_ | apply keep_drewN | apply keep_drew | apply keep_alloc) | exact HK.out)) (KeepBut.of_below hb g none) (.inl rfl)); have n2_ := Aside0.mk (below_step (by repeat (first | (with_reducible first | exact HB.out | apply below_alloc | apply pw_below_drewN | apply below_drew1 | refine below_set ?_ (IsS107.ge HI0.out)) | exact HB.out)) hb); have n3_ := Aside0.mk (hbox); have n4_ := Aside0.mk ((by rw [hg]; exact (keep_size (w := w) (g := g) (row := none) (by repeat (first | (with_reducible first | exact HK.out | apply KeepBut.set_ | apply keep_drewN | apply keep_drew | apply keep_alloc) | exact HK.out))) : w.heap.size ≤ gb103)); have n5_ := Aside0.mk ((Nat.le_trans HW0.out (by rw [hg]; exact (keep_size (w := w) (g := g) (row := none) (by repeat (first | (with_reducible first | exact HK.out | apply KeepBut.set_ | apply keep_drewN | apply keep_drew | apply keep_alloc) | exact HK.out))) : w.heap.size ≤ gb103) : w0.heap.size ≤ gb103)); have n6_ := Aside0.mk ((by rw [hg]; exact Nat.ne_of_lt (IsS107.lt (show IsS107 w0 _ g s0_0 from by repeat (first | (with_reducible first | exact HI0.out | apply IsS107.alloc | apply IsS107.drewN | apply IsS107.drew | apply IsS107.set_0) | exact HI0.out))) : g ≠ gb103)); have n7_ := Aside0.mk ((by rw [hg]; exact Nat.ne_of_gt (IsS107.lt (show IsS107 w0 _ g s0_0 from by repeat (first | (with_reducible first | exact HI0.out | apply IsS107.alloc | apply IsS107.drewN | apply IsS107.drew | apply IsS107.set_0) | exact HI0.out))) : gb103 ≠ g)); clear HI0; clear HK; clear HB; have HI0 := n0_; have HK := n1_; have HB := n2_; have BK103 := n3_; have GW103 := n4_; have GE103 := n5_; have NB0_103 := n6_; have NB103_0 := n7_; clear n0_ n1_ n2_ n3_ n4_ n5_ n6_ n7_; clear hb hbox hg; have hnb10 := NB103_0.out; have hnc10 := NB0_103.out; have hcz11_0 : w9.cell? ⟨gb103, 0, none⟩ = some (.int .i64 a1_0) := (blk_cell BK103.out 0).trans rfl; have hcz11_1 : w9.cell? ⟨gb103, 1, none⟩ = some (.int .i64 a1_1) := (blk_cell BK103.out 1).trans rfl; have hcz11_2 : w9.cell? ⟨gb103, 2, none⟩ = some (.int .i64 a1_2) := (blk_cell BK103.out 2).trans rfl; have hcz11_3 : w9.cell? ⟨gb103, 3, none⟩ = some (.string a1_3) := (blk_cell BK103.out 3).trans rfl; have hfz11_0 := blk_frozen BK103.out 0; have hfz11_1 := blk_frozen BK103.out 1; have hfz11_2 := blk_frozen BK103.out 2; have hfz11_3 := blk_frozen BK103.out 3))
      repeat (go_quiet (first | ((with_reducible refine gate_dst (N := 3) rfl ?_); refine box_event ?hg (N := 3) ?hd (cs := #[.int .i64 a1_0, .int .i64 a1_1, .int .i64 a1_2, .string a1_3]) (t := 39) ?hr ?_; (case hd => rfl); (case hg => rfl); (case hr => first | (go_simp; done) | (go_simp; rfl)); intro gb103 hg w9 hbox hb; have n0_ := Aside0.mk (IsS107.below (by repeat (first | (with_reducible first | exact HI0.out | apply IsS107.alloc | apply IsS107.drewN | apply IsS107.drew | apply IsS107.set_0) | exact HI0.out)) hb); have n1_ := Aside0.mk (KeepBut.trans (by repeat (first | (with_reducible first | exact HK.out | apply KeepBut.set_ | apply keep_drewN | apply keep_drew | apply keep_alloc) | exact HK.out)) (KeepBut.of_below hb g none) (.inl rfl)); have n2_ := Aside0.mk (below_step (by repeat (first | (with_reducible first | exact HB.out | apply below_alloc | apply pw_below_drewN | apply below_drew1 | refine below_set ?_ (IsS107.ge HI0.out)) | exact HB.out)) hb); have n3_ := Aside0.mk (hbox); have n4_ := Aside0.mk ((by rw [hg]; exact (keep_size (w := w) (g := g) (row := none) (by repeat (first | (with_reducible first | exact HK.out | apply KeepBut.set_ | apply keep_drewN | apply keep_drew | apply keep_alloc) | exact HK.out))) : w.heap.size ≤ gb103)); have n5_ := Aside0.mk ((Nat.le_trans HW0.out (by rw [hg]; exact (keep_size (w := w) (g := g) (row := none) (by repeat (first | (with_reducible first | exact HK.out | apply KeepBut.set_ | apply keep_drewN | apply keep_drew | apply keep_alloc) | exact HK.out))) : w.heap.size ≤ gb103) : w0.heap.size ≤ gb103)); have n6_ := Aside0.mk ((by rw [hg]; exact Nat.ne_of_lt (IsS107.lt (show IsS107 w0 _ g s0_0 from by repeat (first | (with_reducible first | exact HI0.out | apply IsS107.alloc | apply IsS107.drewN | apply IsS107.drew | apply IsS107.set_0) | exact HI0.out))) : g ≠ gb103)); have n7_ := Aside0.mk ((by rw [hg]; exact Nat.ne_of_gt (IsS107.lt (show IsS107 w0 _ g s0_0 from by repeat (first | (with_reducible first | exact HI0.out | apply IsS107.alloc | apply IsS107.drewN | apply IsS107.drew | apply IsS107.set_0) | exact HI0.out))) : gb103 ≠ g)); clear HI0; clear HK; clear HB; have HI0 := n0_; have HK := n1_; have HB := n2_; have BK103 := n3_; have GW103 := n4_; have GE103 := n5_; have NB0_103 := n6_; have NB103_0 := n7_; clear n0_ n1_ n2_ n3_ n4_ n5_ n6_ n7_; clear hb hbox hg; have hnb10 := NB103_0.out; have hnc10 := NB0_103.out; have hcz11_0 : w9.cell? ⟨gb103, 0, none⟩ = some (.int .i64 a1_0) := (blk_cell BK103.out 0).trans rfl; have hcz11_1 : w9.cell? ⟨gb103, 1, none⟩ = some (.int .i64 a1_1) := (blk_cell BK103.out 1).trans rfl; have hcz11_2 : w9.cell? ⟨gb103, 2, none⟩ = some (.int .i64 a1_2) := (blk_cell BK103.out 2).trans rfl; have hcz11_3 : w9.cell? ⟨gb103, 3, none⟩ = some (.string a1_3) := (blk_cell BK103.out 3).trans rfl; have hfz11_0 := blk_frozen BK103.out 0; have hfz11_1 := blk_frozen BK103.out 1; have hfz11_2 := blk_frozen BK103.out 2; have hfz11_3 := blk_frozen BK103.out 3)); try go_wp2_with (first | ((with_reducible refine gate_dst (N := 3) rfl ?_); refine box_event ?hg (N := 3) ?hd (cs := #[.int .i64 a1_0, .int .i64 a1_1, .int .i64 a1_2, .string a1_3]) (t := 39) ?hr ?_; (case hd => rfl); (case hg => rfl); (case hr => first | (go_simp; done) | (go_simp; rfl)); intro gb103 hg w9 hbox hb; have n0_ := Aside0.mk (IsS107.below (by repeat (first | (with_reducible first | exact HI0.out | apply IsS107.alloc | apply IsS107.drewN | apply IsS107.drew | apply IsS107.set_0) | exact HI0.out)) hb); have n1_ := Aside0.mk (KeepBut.trans (by repeat (first | (with_reducible first | exact HK.out | apply KeepBut.set_ | apply keep_drewN | apply keep_drew | apply keep_alloc) | exact HK.out)) (KeepBut.of_below hb g none) (.inl rfl)); have n2_ := Aside0.mk (below_step (by repeat (first | (with_reducible first | exact HB.out | apply below_alloc | apply pw_below_drewN | apply below_drew1 | refine below_set ?_ (IsS107.ge HI0.out)) | exact HB.out)) hb); have n3_ := Aside0.mk (hbox); have n4_ := Aside0.mk ((by rw [hg]; exact (keep_size (w := w) (g := g) (row := none) (by repeat (first | (with_reducible first | exact HK.out | apply KeepBut.set_ | apply keep_drewN | apply keep_drew | apply keep_alloc) | exact HK.out))) : w.heap.size ≤ gb103)); have n5_ := Aside0.mk ((Nat.le_trans HW0.out (by rw [hg]; exact (keep_size (w := w) (g := g) (row := none) (by repeat (first | (with_reducible first | exact HK.out | apply KeepBut.set_ | apply keep_drewN | apply keep_drew | apply keep_alloc) | exact HK.out))) : w.heap.size ≤ gb103) : w0.heap.size ≤ gb103)); have n6_ := Aside0.mk ((by rw [hg]; exact Nat.ne_of_lt (IsS107.lt (show IsS107 w0 _ g s0_0 from by repeat (first | (with_reducible first | exact HI0.out | apply IsS107.alloc | apply IsS107.drewN | apply IsS107.drew | apply IsS107.set_0) | exact HI0.out))) : g ≠ gb103)); have n7_ := Aside0.mk ((by rw [hg]; exact Nat.ne_of_gt (IsS107.lt (show IsS107 w0 _ g s0_0 from by repeat (first | (with_reducible first | exact HI0.out | apply IsS107.alloc | apply IsS107.drewN | apply IsS107.drew | apply IsS107.set_0) | exact HI0.out))) : gb103 ≠ g)); clear HI0; clear HK; clear HB; have HI0 := n0_; have HK := n1_; have HB := n2_; have BK103 := n3_; have GW103 := n4_; have GE103 := n5_; have NB0_103 := n6_; have NB103_0 := n7_; clear n0_ n1_ n2_ n3_ n4_ n5_ n6_ n7_; clear hb hbox hg; have hnb10 := NB103_0.out; have hnc10 := NB0_103.out; have hcz11_0 : w9.cell? ⟨gb103, 0, none⟩ = some (.int .i64 a1_0) := (blk_cell BK103.out 0).trans rfl; have hcz11_1 : w9.cell? ⟨gb103, 1, none⟩ = some (.int .i64 a1_1) := (blk_cell BK103.out 1).trans rfl; have hcz11_2 : w9.cell? ⟨gb103, 2, none⟩ = some (.int .i64 a1_2) := (blk_cell BK103.out 2).trans rfl; have hcz11_3 : w9.cell? ⟨gb103, 3, none⟩ = some (.string a1_3) := (blk_cell BK103.out 3).trans rfl; have hfz11_0 := blk_frozen BK103.out 0; have hfz11_1 := blk_frozen BK103.out 1; have hfz11_2 := blk_frozen BK103.out 2; have hfz11_3 := blk_frozen BK103.out 3)))
      go_ret
      exact ⟨by first | rfl | (simp [errW_none, errW_some] <;> rfl) | (simp [*, errW_none, errW_some] <;> rfl), by repeat (first | (with_reducible first | exact HI0.out | apply IsS107.alloc | apply IsS107.drewN | apply IsS107.drew | apply IsS107.set_0 | refine IsS107.far ?_ NB0_103.out _) | exact HI0.out), by repeat (first | (with_reducible first | exact HB.out | apply below_alloc | apply pw_below_drewN | apply below_drew1 | refine below_set ?_ (IsS107.ge HI0.out) | refine below_set ?_ GE103.out) | exact HB.out), by repeat (first | (with_reducible first | exact HK.out | apply KeepBut.set_ | apply keep_drewN | apply keep_drew | apply keep_alloc | refine keep_far ?_ GW103.out _) | exact HK.out)⟩
  · rw [if_neg c3] at H
    have c3b0 : (a1_0 == 3 && (a1_2 == 0 && (a1_3.toList == ([] : List UInt8)))) = false := by simpa using c3
    (try (have c3b1 : decide (a1_0 = 3 && (a1_2 == 0 && (a1_3.toList == ([] : List UInt8)))) = false := by simpa using c3))
    (try (have c3b2 : (a1_0 == 3 && (a1_2 == 0 && (a1_3.toList == ([] : List UInt8)))) = false := by simpa using c3))
    (try (have c3b3 : ¬ (a1_0 = 3 && (a1_2 == 0 && (a1_3.toList == ([] : List UInt8)))) := by simpa using c3))
    (try (have c3b4 : (a1_0 == 3 && (a1_2 == 0 && (a1_3.toList.isEmpty))) = false := by simpa using c3))
    clear c3
    simp only [Option.some.injEq, Prod.mk.injEq] at H
    obtain ⟨rfl, rfl⟩ := H
    go_enter Try.func60, Try.ntmps60
    go_wp2_with (first | ((with_reducible refine gate_dst (N := 3) rfl ?_); refine box_event ?hg (N := 3) ?hd (cs := #[.int .i64 a1_0, .int .i64 a1_1, .int .i64 a1_2, .string a1_3]) (t := 39) ?hr ?_; (case hd => rfl); (case hg => rfl); (case hr => first | (go_simp; done) | (go_simp; rfl)); intro gb103 hg w12 hbox hb; have n0_ := Aside0.mk (IsS107.below (by repeat (first | (with_reducible first | exact HI0.out | apply IsS107.alloc | apply IsS107.drewN | apply IsS107.drew | apply IsS107.set_0) | exact HI0.out)) hb); have n1_ := Aside0.mk (KeepBut.trans (by repeat (first | (with_reducible first | exact HK.out | apply KeepBut.set_ | apply keep_drewN | apply keep_drew | apply keep_alloc) | exact HK.out)) (KeepBut.of_below hb g none) (.inl rfl)); have n2_ := Aside0.mk (below_step (by repeat (first | (with_reducible first | exact HB.out | apply below_alloc | apply pw_below_drewN | apply below_drew1 | refine below_set ?_ (IsS107.ge HI0.out)) | exact HB.out)) hb); have n3_ := Aside0.mk (hbox); have n4_ := Aside0.mk ((by rw [hg]; exact (keep_size (w := w) (g := g) (row := none) (by repeat (first | (with_reducible first | exact HK.out | apply KeepBut.set_ | apply keep_drewN | apply keep_drew | apply keep_alloc) | exact HK.out))) : w.heap.size ≤ gb103)); have n5_ := Aside0.mk ((Nat.le_trans HW0.out (by rw [hg]; exact (keep_size (w := w) (g := g) (row := none) (by repeat (first | (with_reducible first | exact HK.out | apply KeepBut.set_ | apply keep_drewN | apply keep_drew | apply keep_alloc) | exact HK.out))) : w.heap.size ≤ gb103) : w0.heap.size ≤ gb103)); have n6_ := Aside0.mk ((by rw [hg]; exact Nat.ne_of_lt (IsS107.lt (show IsS107 w0 _ g s0_0 from by repeat (first | (with_reducible first | exact HI0.out | apply IsS107.alloc | apply IsS107.drewN | apply IsS107.drew | apply IsS107.set_0) | exact HI0.out))) : g ≠ gb103)); have n7_ := Aside0.mk ((by rw [hg]; exact Nat.ne_of_gt (IsS107.lt (show IsS107 w0 _ g s0_0 from by repeat (first | (with_reducible first | exact HI0.out | apply IsS107.alloc | apply IsS107.drewN | apply IsS107.drew | apply IsS107.set_0) | exact HI0.out))) : gb103 ≠ g)); clear HI0; clear HK; clear HB; have HI0 := n0_; have HK := n1_; have HB := n2_; have BK103 := n3_; have GW103 := n4_; have GE103 := n5_; have NB0_103 := n6_; have NB103_0 := n7_; clear n0_ n1_ n2_ n3_ n4_ n5_ n6_ n7_; clear hb hbox hg; have hnb13 := NB103_0.out; have hnc13 := NB0_103.out; have hcz14_0 : w12.cell? ⟨gb103, 0, none⟩ = some (.int .i64 a1_0) := (blk_cell BK103.out 0).trans rfl; have hcz14_1 : w12.cell? ⟨gb103, 1, none⟩ = some (.int .i64 a1_1) := (blk_cell BK103.out 1).trans rfl; have hcz14_2 : w12.cell? ⟨gb103, 2, none⟩ = some (.int .i64 a1_2) := (blk_cell BK103.out 2).trans rfl; have hcz14_3 : w12.cell? ⟨gb103, 3, none⟩ = some (.string a1_3) := (blk_cell BK103.out 3).trans rfl; have hfz14_0 := blk_frozen BK103.out 0; have hfz14_1 := blk_frozen BK103.out 1; have hfz14_2 := blk_frozen BK103.out 2; have hfz14_3 := blk_frozen BK103.out 3))
    repeat (go_quiet (first | ((with_reducible refine gate_dst (N := 3) rfl ?_); refine box_event ?hg (N := 3) ?hd (cs := #[.int .i64 a1_0, .int .i64 a1_1, .int .i64 a1_2, .string a1_3]) (t := 39) ?hr ?_; (case hd => rfl); (case hg => rfl); (case hr => first | (go_simp; done) | (go_simp; rfl)); intro gb103 hg w12 hbox hb; have n0_ := Aside0.mk (IsS107.below (by repeat (first | (with_reducible first | exact HI0.out | apply IsS107.alloc | apply IsS107.drewN | apply IsS107.drew | apply IsS107.set_0) | exact HI0.out)) hb); have n1_ := Aside0.mk (KeepBut.trans (by repeat (first | (with_reducible first | exact HK.out | apply KeepBut.set_ | apply keep_drewN | apply keep_drew | apply keep_alloc) | exact HK.out)) (KeepBut.of_below hb g none) (.inl rfl)); have n2_ := Aside0.mk (below_step (by repeat (first | (with_reducible first | exact HB.out | apply below_alloc | apply pw_below_drewN | apply below_drew1 | refine below_set ?_ (IsS107.ge HI0.out)) | exact HB.out)) hb); have n3_ := Aside0.mk (hbox); have n4_ := Aside0.mk ((by rw [hg]; exact (keep_size (w := w) (g := g) (row := none) (by repeat (first | (with_reducible first | exact HK.out | apply KeepBut.set_ | apply keep_drewN | apply keep_drew | apply keep_alloc) | exact HK.out))) : w.heap.size ≤ gb103)); have n5_ := Aside0.mk ((Nat.le_trans HW0.out (by rw [hg]; exact (keep_size (w := w) (g := g) (row := none) (by repeat (first | (with_reducible first | exact HK.out | apply KeepBut.set_ | apply keep_drewN | apply keep_drew | apply keep_alloc) | exact HK.out))) : w.heap.size ≤ gb103) : w0.heap.size ≤ gb103)); have n6_ := Aside0.mk ((by rw [hg]; exact Nat.ne_of_lt (IsS107.lt (show IsS107 w0 _ g s0_0 from by repeat (first | (with_reducible first | exact HI0.out | apply IsS107.alloc | apply IsS107.drewN | apply IsS107.drew | apply IsS107.set_0) | exact HI0.out))) : g ≠ gb103)); have n7_ := Aside0.mk ((by rw [hg]; exact Nat.ne_of_gt (IsS107.lt (show IsS107 w0 _ g s0_0 from by repeat (first | (with_reducible first | exact HI0.out | apply IsS107.alloc | apply IsS107.drewN | apply IsS107.drew | apply IsS107.set_0) | exact HI0.out))) : gb103 ≠ g)); clear HI0; clear HK; clear HB; have HI0 := n0_; have HK := n1_; have HB := n2_; have BK103 := n3_; have GW103 := n4_; have GE103 := n5_; have NB0_103 := n6_; have NB103_0 := n7_; clear n0_ n1_ n2_ n3_ n4_ n5_ n6_ n7_; clear hb hbox hg; have hnb13 := NB103_0.out; have hnc13 := NB0_103.out; have hcz14_0 : w12.cell? ⟨gb103, 0, none⟩ = some (.int .i64 a1_0) := (blk_cell BK103.out 0).trans rfl; have hcz14_1 : w12.cell? ⟨gb103, 1, none⟩ = some (.int .i64 a1_1) := (blk_cell BK103.out 1).trans rfl; have hcz14_2 : w12.cell? ⟨gb103, 2, none⟩ = some (.int .i64 a1_2) := (blk_cell BK103.out 2).trans rfl; have hcz14_3 : w12.cell? ⟨gb103, 3, none⟩ = some (.string a1_3) := (blk_cell BK103.out 3).trans rfl; have hfz14_0 := blk_frozen BK103.out 0; have hfz14_1 := blk_frozen BK103.out 1; have hfz14_2 := blk_frozen BK103.out 2; have hfz14_3 := blk_frozen BK103.out 3)); try go_wp2_with (first | ((with_reducible refine gate_dst (N := 3) rfl ?_); refine box_event ?hg (N := 3) ?hd (cs := #[.int .i64 a1_0, .int .i64 a1_1, .int .i64 a1_2, .string a1_3]) (t := 39) ?hr ?_; (case hd => rfl); (case hg => rfl); (case hr => first | (go_simp; done) | (go_simp; rfl)); intro gb103 hg w12 hbox hb; have n0_ := Aside0.mk (IsS107.below (by repeat (first | (with_reducible first | exact HI0.out | apply IsS107.alloc | apply IsS107.drewN | apply IsS107.drew | apply IsS107.set_0) | exact HI0.out)) hb); have n1_ := Aside0.mk (KeepBut.trans (by repeat (first | (with_reducible first | exact HK.out | apply KeepBut.set_ | apply keep_drewN | apply keep_drew | apply keep_alloc) | exact HK.out)) (KeepBut.of_below hb g none) (.inl rfl)); have n2_ := Aside0.mk (below_step (by repeat (first | (with_reducible first | exact HB.out | apply below_alloc | apply pw_below_drewN | apply below_drew1 | refine below_set ?_ (IsS107.ge HI0.out)) | exact HB.out)) hb); have n3_ := Aside0.mk (hbox); have n4_ := Aside0.mk ((by rw [hg]; exact (keep_size (w := w) (g := g) (row := none) (by repeat (first | (with_reducible first | exact HK.out | apply KeepBut.set_ | apply keep_drewN | apply keep_drew | apply keep_alloc) | exact HK.out))) : w.heap.size ≤ gb103)); have n5_ := Aside0.mk ((Nat.le_trans HW0.out (by rw [hg]; exact (keep_size (w := w) (g := g) (row := none) (by repeat (first | (with_reducible first | exact HK.out | apply KeepBut.set_ | apply keep_drewN | apply keep_drew | apply keep_alloc) | exact HK.out))) : w.heap.size ≤ gb103) : w0.heap.size ≤ gb103)); have n6_ := Aside0.mk ((by rw [hg]; exact Nat.ne_of_lt (IsS107.lt (show IsS107 w0 _ g s0_0 from by repeat (first | (with_reducible first | exact HI0.out | apply IsS107.alloc | apply IsS107.drewN | apply IsS107.drew | apply IsS107.set_0) | exact HI0.out))) : g ≠ gb103)); have n7_ := Aside0.mk ((by rw [hg]; exact Nat.ne_of_gt (IsS107.lt (show IsS107 w0 _ g s0_0 from by repeat (first | (with_reducible first | exact HI0.out | apply IsS107.alloc | apply IsS107.drewN | apply IsS107.drew | apply IsS107.set_0) | exact HI0.out))) : gb103 ≠ g)); clear HI0; clear HK; clear HB; have HI0 := n0_; have HK := n1_; have HB := n2_; have BK103 := n3_; have GW103 := n4_; have GE103 := n5_; have NB0_103 := n6_; have NB103_0 := n7_; clear n0_ n1_ n2_ n3_ n4_ n5_ n6_ n7_; clear hb hbox hg; have hnb13 := NB103_0.out; have hnc13 := NB0_103.out; have hcz14_0 : w12.cell? ⟨gb103, 0, none⟩ = some (.int .i64 a1_0) := (blk_cell BK103.out 0).trans rfl; have hcz14_1 : w12.cell? ⟨gb103, 1, none⟩ = some (.int .i64 a1_1) := (blk_cell BK103.out 1).trans rfl; have hcz14_2 : w12.cell? ⟨gb103, 2, none⟩ = some (.int .i64 a1_2) := (blk_cell BK103.out 2).trans rfl; have hcz14_3 : w12.cell? ⟨gb103, 3, none⟩ = some (.string a1_3) := (blk_cell BK103.out 3).trans rfl; have hfz14_0 := blk_frozen BK103.out 0; have hfz14_1 := blk_frozen BK103.out 1; have hfz14_2 := blk_frozen BK103.out 2; have hfz14_3 := blk_frozen BK103.out 3)))
    go_ret
    exact ⟨by first | rfl | (simp [errW_none, errW_some] <;> rfl) | (simp [*, errW_none, errW_some] <;> rfl), by repeat (first | (with_reducible first | exact HI0.out | apply IsS107.alloc | apply IsS107.drewN | apply IsS107.drew | apply IsS107.set_0 | refine IsS107.far ?_ NB0_103.out _) | exact HI0.out), by repeat (first | (with_reducible first | exact HB.out | apply below_alloc | apply pw_below_drewN | apply below_drew1 | refine below_set ?_ (IsS107.ge HI0.out) | refine below_set ?_ GE103.out) | exact HB.out), by repeat (first | (with_reducible first | exact HK.out | apply KeepBut.set_ | apply keep_drewN | apply keep_drew | apply keep_alloc | refine keep_far ?_ GW103.out _) | exact HK.out)⟩

/-! ### code_checker_num: function 61 -/
def code_checker_num.f (s0_0 : Int) (a1_0 : Int) (a1_1 : Int) (a1_2 : Int) (a1_3 : ByteArray) : Option (Bool × Int) := some ((a1_0 == 4 && (a1_1 == 0 && (a1_3.toList == ([] : List UInt8)))), s0_0)
set_option maxHeartbeats 8000000 in
set_option maxRecDepth 100000 in
theorem code_checker_num.calls (g : Nat) (s0_0 : Int) (a1_0 : Int) (a1_1 : Int) (a1_2 : Int) (a1_3 : ByteArray) (r1 : Bool) (r2 : Int) (w0 w : World) (hI : IsS107 w0 w g s0_0) (hB : Below w0.heap.size w0 w) (h : code_checker_num.f s0_0 a1_0 a1_1 a1_2 a1_3 = some (r1, r2)) :
    Calls Try.prog 61 #[.pointer (some ⟨g, 0, none⟩), .agg #[.int .i64 a1_0, .int .i64 a1_1, .int .i64 a1_2, .string a1_3]] w fun e w' => e = .returned (.bool r1) ∧ IsS107 w0 w' g r2 ∧ Below w0.heap.size w0 w' ∧ KeepBut w w' g none := by
  have hu39 := Try.underlying39
  have HI0 := Aside0.mk hI
  have HK := Aside0.mk (KeepBut.refl w g none)
  have HL := Aside0.mk hB.size
  clear hI
  have HW0 := Aside0.mk hB.size
  have HB := Aside0.mk hB
  clear hB
  have H : (some ((a1_0 == 4 && (a1_1 == 0 && (a1_3.toList == ([] : List UInt8)))), s0_0)) = some (r1, r2) := h
  clear h
  simp only [Option.some.injEq, Prod.mk.injEq] at H
  obtain ⟨rfl, rfl⟩ := H
  go_enter Try.func61, Try.ntmps61
  go_wp2_with (first | ((with_reducible refine gate_dst (N := 3) rfl ?_); refine box_event ?hg (N := 3) ?hd (cs := #[.int .i64 a1_0, .int .i64 a1_1, .int .i64 a1_2, .string a1_3]) (t := 39) ?hr ?_; (case hd => rfl); (case hg => rfl); (case hr => first | (go_simp; done) | (go_simp; rfl)); intro gb104 hg w3 hbox hb; have n0_ := Aside0.mk (IsS107.below (by repeat (first | (with_reducible first | exact HI0.out | apply IsS107.alloc | apply IsS107.drewN | apply IsS107.drew | apply IsS107.set_0) | exact HI0.out)) hb); have n1_ := Aside0.mk (KeepBut.trans (by repeat (first | (with_reducible first | exact HK.out | apply KeepBut.set_ | apply keep_drewN | apply keep_drew | apply keep_alloc) | exact HK.out)) (KeepBut.of_below hb g none) (.inl rfl)); have n2_ := Aside0.mk (below_step (by repeat (first | (with_reducible first | exact HB.out | apply below_alloc | apply pw_below_drewN | apply below_drew1 | refine below_set ?_ (IsS107.ge HI0.out)) | exact HB.out)) hb); have n3_ := Aside0.mk (hbox); have n4_ := Aside0.mk ((by rw [hg]; exact (keep_size (w := w) (g := g) (row := none) (by repeat (first | (with_reducible first | exact HK.out | apply KeepBut.set_ | apply keep_drewN | apply keep_drew | apply keep_alloc) | exact HK.out))) : w.heap.size ≤ gb104)); have n5_ := Aside0.mk ((Nat.le_trans HW0.out (by rw [hg]; exact (keep_size (w := w) (g := g) (row := none) (by repeat (first | (with_reducible first | exact HK.out | apply KeepBut.set_ | apply keep_drewN | apply keep_drew | apply keep_alloc) | exact HK.out))) : w.heap.size ≤ gb104) : w0.heap.size ≤ gb104)); have n6_ := Aside0.mk ((by rw [hg]; exact Nat.ne_of_lt (IsS107.lt (show IsS107 w0 _ g s0_0 from by repeat (first | (with_reducible first | exact HI0.out | apply IsS107.alloc | apply IsS107.drewN | apply IsS107.drew | apply IsS107.set_0) | exact HI0.out))) : g ≠ gb104)); have n7_ := Aside0.mk ((by rw [hg]; exact Nat.ne_of_gt (IsS107.lt (show IsS107 w0 _ g s0_0 from by repeat (first | (with_reducible first | exact HI0.out | apply IsS107.alloc | apply IsS107.drewN | apply IsS107.drew | apply IsS107.set_0) | exact HI0.out))) : gb104 ≠ g)); clear HI0; clear HK; clear HB; have HI0 := n0_; have HK := n1_; have HB := n2_; have BK104 := n3_; have GW104 := n4_; have GE104 := n5_; have NB0_104 := n6_; have NB104_0 := n7_; clear n0_ n1_ n2_ n3_ n4_ n5_ n6_ n7_; clear hb hbox hg; have hnb4 := NB104_0.out; have hnc4 := NB0_104.out; have hcz5_0 : w3.cell? ⟨gb104, 0, none⟩ = some (.int .i64 a1_0) := (blk_cell BK104.out 0).trans rfl; have hcz5_1 : w3.cell? ⟨gb104, 1, none⟩ = some (.int .i64 a1_1) := (blk_cell BK104.out 1).trans rfl; have hcz5_2 : w3.cell? ⟨gb104, 2, none⟩ = some (.int .i64 a1_2) := (blk_cell BK104.out 2).trans rfl; have hcz5_3 : w3.cell? ⟨gb104, 3, none⟩ = some (.string a1_3) := (blk_cell BK104.out 3).trans rfl; have hfz5_0 := blk_frozen BK104.out 0; have hfz5_1 := blk_frozen BK104.out 1; have hfz5_2 := blk_frozen BK104.out 2; have hfz5_3 := blk_frozen BK104.out 3))
  go_ret
  exact ⟨by first | rfl | (simp [errW_none, errW_some] <;> rfl) | (simp [*, errW_none, errW_some] <;> rfl), by repeat (first | (with_reducible first | exact HI0.out | apply IsS107.alloc | apply IsS107.drewN | apply IsS107.drew | apply IsS107.set_0 | refine IsS107.far ?_ NB0_104.out _) | exact HI0.out), by repeat (first | (with_reducible first | exact HB.out | apply below_alloc | apply pw_below_drewN | apply below_drew1 | refine below_set ?_ (IsS107.ge HI0.out) | refine below_set ?_ GE104.out) | exact HB.out), by repeat (first | (with_reducible first | exact HK.out | apply KeepBut.set_ | apply keep_drewN | apply keep_drew | apply keep_alloc | refine keep_far ?_ GW104.out _) | exact HK.out)⟩

/-! ### code_checker_name: function 62 -/
def code_checker_name.f (s0_0 : Int) (a1_0 : Int) (a1_1 : Int) (a1_2 : Int) (a1_3 : ByteArray) : Option (Bool × Int) := if (a1_0 == 5 && (a1_1 == 0 && (a1_2 == 0))) = true then (some (decide ((a1_3.size : Int) ≤ 1000), s0_0)) else (some (false, s0_0))
set_option maxHeartbeats 8000000 in
set_option maxRecDepth 100000 in
theorem code_checker_name.calls (g : Nat) (s0_0 : Int) (a1_0 : Int) (a1_1 : Int) (a1_2 : Int) (a1_3 : ByteArray) (r1 : Bool) (r2 : Int) (w0 w : World) (hI : IsS107 w0 w g s0_0) (hB : Below w0.heap.size w0 w) (h : code_checker_name.f s0_0 a1_0 a1_1 a1_2 a1_3 = some (r1, r2)) :
    Calls Try.prog 62 #[.pointer (some ⟨g, 0, none⟩), .agg #[.int .i64 a1_0, .int .i64 a1_1, .int .i64 a1_2, .string a1_3]] w fun e w' => e = .returned (.bool r1) ∧ IsS107 w0 w' g r2 ∧ Below w0.heap.size w0 w' ∧ KeepBut w w' g none := by
  have hu39 := Try.underlying39
  have HI0 := Aside0.mk hI
  have HK := Aside0.mk (KeepBut.refl w g none)
  have HL := Aside0.mk hB.size
  clear hI
  have HW0 := Aside0.mk hB.size
  have HB := Aside0.mk hB
  clear hB
  have H : (if (a1_0 == 5 && (a1_1 == 0 && (a1_2 == 0))) = true then (some (decide ((a1_3.size : Int) ≤ 1000), s0_0)) else (some (false, s0_0))) = some (r1, r2) := h
  clear h
  by_cases c3 : (a1_0 == 5 && (a1_1 == 0 && (a1_2 == 0))) = true
  · rw [if_pos c3] at H
    have c3b0 : (a1_0 == 5 && (a1_1 == 0 && (a1_2 == 0))) = true := c3
    (try (have c3b1 : decide (a1_0 = 5 && (a1_1 == 0 && (a1_2 == 0))) = true := by simpa using c3))
    (try (have c3b2 : (a1_0 == 5 && (a1_1 == 0 && (a1_2 == 0))) = true := by simpa using c3))
    clear c3
    simp only [Option.some.injEq, Prod.mk.injEq] at H
    obtain ⟨rfl, rfl⟩ := H
    go_enter Try.func62, Try.ntmps62
    go_wp2_with (first | ((with_reducible refine gate_dst (N := 3) rfl ?_); (try (refine gate_guard (by rfl) ?_; dsimp only)); refine box_event ?hg (N := 3) ?hd (cs := #[.int .i64 a1_0, .int .i64 a1_1, .int .i64 a1_2, .string a1_3]) (t := 39) ?hr ?_; (case hd => rfl); (case hg => rfl); (case hr => first | (go_simp; done) | (go_simp; rfl)); intro gb105 hg w4 hbox hb; have n0_ := Aside0.mk (IsS107.below (by repeat (first | (with_reducible first | exact HI0.out | apply IsS107.alloc | apply IsS107.drewN | apply IsS107.drew | apply IsS107.set_0) | exact HI0.out)) hb); have n1_ := Aside0.mk (KeepBut.trans (by repeat (first | (with_reducible first | exact HK.out | apply KeepBut.set_ | apply keep_drewN | apply keep_drew | apply keep_alloc) | exact HK.out)) (KeepBut.of_below hb g none) (.inl rfl)); have n2_ := Aside0.mk (below_step (by repeat (first | (with_reducible first | exact HB.out | apply below_alloc | apply pw_below_drewN | apply below_drew1 | refine below_set ?_ (IsS107.ge HI0.out)) | exact HB.out)) hb); have n3_ := Aside0.mk (hbox); have n4_ := Aside0.mk ((by rw [hg]; exact (keep_size (w := w) (g := g) (row := none) (by repeat (first | (with_reducible first | exact HK.out | apply KeepBut.set_ | apply keep_drewN | apply keep_drew | apply keep_alloc) | exact HK.out))) : w.heap.size ≤ gb105)); have n5_ := Aside0.mk ((Nat.le_trans HW0.out (by rw [hg]; exact (keep_size (w := w) (g := g) (row := none) (by repeat (first | (with_reducible first | exact HK.out | apply KeepBut.set_ | apply keep_drewN | apply keep_drew | apply keep_alloc) | exact HK.out))) : w.heap.size ≤ gb105) : w0.heap.size ≤ gb105)); have n6_ := Aside0.mk ((by rw [hg]; exact Nat.ne_of_lt (IsS107.lt (show IsS107 w0 _ g s0_0 from by repeat (first | (with_reducible first | exact HI0.out | apply IsS107.alloc | apply IsS107.drewN | apply IsS107.drew | apply IsS107.set_0) | exact HI0.out))) : g ≠ gb105)); have n7_ := Aside0.mk ((by rw [hg]; exact Nat.ne_of_gt (IsS107.lt (show IsS107 w0 _ g s0_0 from by repeat (first | (with_reducible first | exact HI0.out | apply IsS107.alloc | apply IsS107.drewN | apply IsS107.drew | apply IsS107.set_0) | exact HI0.out))) : gb105 ≠ g)); clear HI0; clear HK; clear HB; have HI0 := n0_; have HK := n1_; have HB := n2_; have BK105 := n3_; have GW105 := n4_; have GE105 := n5_; have NB0_105 := n6_; have NB105_0 := n7_; clear n0_ n1_ n2_ n3_ n4_ n5_ n6_ n7_; clear hb hbox hg; have hnb5 := NB105_0.out; have hnc5 := NB0_105.out; have hcz6_0 : w4.cell? ⟨gb105, 0, none⟩ = some (.int .i64 a1_0) := (blk_cell BK105.out 0).trans rfl; have hcz6_1 : w4.cell? ⟨gb105, 1, none⟩ = some (.int .i64 a1_1) := (blk_cell BK105.out 1).trans rfl; have hcz6_2 : w4.cell? ⟨gb105, 2, none⟩ = some (.int .i64 a1_2) := (blk_cell BK105.out 2).trans rfl; have hcz6_3 : w4.cell? ⟨gb105, 3, none⟩ = some (.string a1_3) := (blk_cell BK105.out 3).trans rfl; have hfz6_0 := blk_frozen BK105.out 0; have hfz6_1 := blk_frozen BK105.out 1; have hfz6_2 := blk_frozen BK105.out 2; have hfz6_3 := blk_frozen BK105.out 3))
    go_ret
    exact ⟨by first | rfl | (simp [errW_none, errW_some] <;> rfl) | (simp [*, errW_none, errW_some] <;> rfl), by repeat (first | (with_reducible first | exact HI0.out | apply IsS107.alloc | apply IsS107.drewN | apply IsS107.drew | apply IsS107.set_0 | refine IsS107.far ?_ NB0_105.out _) | exact HI0.out), by repeat (first | (with_reducible first | exact HB.out | apply below_alloc | apply pw_below_drewN | apply below_drew1 | refine below_set ?_ (IsS107.ge HI0.out) | refine below_set ?_ GE105.out) | exact HB.out), by repeat (first | (with_reducible first | exact HK.out | apply KeepBut.set_ | apply keep_drewN | apply keep_drew | apply keep_alloc | refine keep_far ?_ GW105.out _) | exact HK.out)⟩
  · rw [if_neg c3] at H
    have c3b0 : (a1_0 == 5 && (a1_1 == 0 && (a1_2 == 0))) = false := by simpa using c3
    (try (have c3b1 : decide (a1_0 = 5 && (a1_1 == 0 && (a1_2 == 0))) = false := by simpa using c3))
    (try (have c3b2 : (a1_0 == 5 && (a1_1 == 0 && (a1_2 == 0))) = false := by simpa using c3))
    (try (have c3b3 : ¬ (a1_0 = 5 && (a1_1 == 0 && (a1_2 == 0))) := by simpa using c3))
    clear c3
    simp only [Option.some.injEq, Prod.mk.injEq] at H
    obtain ⟨rfl, rfl⟩ := H
    go_enter Try.func62, Try.ntmps62
    go_wp2_with (first | ((with_reducible refine gate_dst (N := 3) rfl ?_); (try (refine gate_guard (by rfl) ?_; dsimp only)); refine box_event ?hg (N := 3) ?hd (cs := #[.int .i64 a1_0, .int .i64 a1_1, .int .i64 a1_2, .string a1_3]) (t := 39) ?hr ?_; (case hd => rfl); (case hg => rfl); (case hr => first | (go_simp; done) | (go_simp; rfl)); intro gb105 hg w7 hbox hb; have n0_ := Aside0.mk (IsS107.below (by repeat (first | (with_reducible first | exact HI0.out | apply IsS107.alloc | apply IsS107.drewN | apply IsS107.drew | apply IsS107.set_0) | exact HI0.out)) hb); have n1_ := Aside0.mk (KeepBut.trans (by repeat (first | (with_reducible first | exact HK.out | apply KeepBut.set_ | apply keep_drewN | apply keep_drew | apply keep_alloc) | exact HK.out)) (KeepBut.of_below hb g none) (.inl rfl)); have n2_ := Aside0.mk (below_step (by repeat (first | (with_reducible first | exact HB.out | apply below_alloc | apply pw_below_drewN | apply below_drew1 | refine below_set ?_ (IsS107.ge HI0.out)) | exact HB.out)) hb); have n3_ := Aside0.mk (hbox); have n4_ := Aside0.mk ((by rw [hg]; exact (keep_size (w := w) (g := g) (row := none) (by repeat (first | (with_reducible first | exact HK.out | apply KeepBut.set_ | apply keep_drewN | apply keep_drew | apply keep_alloc) | exact HK.out))) : w.heap.size ≤ gb105)); have n5_ := Aside0.mk ((Nat.le_trans HW0.out (by rw [hg]; exact (keep_size (w := w) (g := g) (row := none) (by repeat (first | (with_reducible first | exact HK.out | apply KeepBut.set_ | apply keep_drewN | apply keep_drew | apply keep_alloc) | exact HK.out))) : w.heap.size ≤ gb105) : w0.heap.size ≤ gb105)); have n6_ := Aside0.mk ((by rw [hg]; exact Nat.ne_of_lt (IsS107.lt (show IsS107 w0 _ g s0_0 from by repeat (first | (with_reducible first | exact HI0.out | apply IsS107.alloc | apply IsS107.drewN | apply IsS107.drew | apply IsS107.set_0) | exact HI0.out))) : g ≠ gb105)); have n7_ := Aside0.mk ((by rw [hg]; exact Nat.ne_of_gt (IsS107.lt (show IsS107 w0 _ g s0_0 from by repeat (first | (with_reducible first | exact HI0.out | apply IsS107.alloc | apply IsS107.drewN | apply IsS107.drew | apply IsS107.set_0) | exact HI0.out))) : gb105 ≠ g)); clear HI0; clear HK; clear HB; have HI0 := n0_; have HK := n1_; have HB := n2_; have BK105 := n3_; have GW105 := n4_; have GE105 := n5_; have NB0_105 := n6_; have NB105_0 := n7_; clear n0_ n1_ n2_ n3_ n4_ n5_ n6_ n7_; clear hb hbox hg; have hnb8 := NB105_0.out; have hnc8 := NB0_105.out; have hcz9_0 : w7.cell? ⟨gb105, 0, none⟩ = some (.int .i64 a1_0) := (blk_cell BK105.out 0).trans rfl; have hcz9_1 : w7.cell? ⟨gb105, 1, none⟩ = some (.int .i64 a1_1) := (blk_cell BK105.out 1).trans rfl; have hcz9_2 : w7.cell? ⟨gb105, 2, none⟩ = some (.int .i64 a1_2) := (blk_cell BK105.out 2).trans rfl; have hcz9_3 : w7.cell? ⟨gb105, 3, none⟩ = some (.string a1_3) := (blk_cell BK105.out 3).trans rfl; have hfz9_0 := blk_frozen BK105.out 0; have hfz9_1 := blk_frozen BK105.out 1; have hfz9_2 := blk_frozen BK105.out 2; have hfz9_3 := blk_frozen BK105.out 3))
    go_ret
    exact ⟨by first | rfl | (simp [errW_none, errW_some] <;> rfl) | (simp [*, errW_none, errW_some] <;> rfl), by repeat (first | (with_reducible first | exact HI0.out | apply IsS107.alloc | apply IsS107.drewN | apply IsS107.drew | apply IsS107.set_0 | refine IsS107.far ?_ NB0_105.out _) | exact HI0.out), by repeat (first | (with_reducible first | exact HB.out | apply below_alloc | apply pw_below_drewN | apply below_drew1 | refine below_set ?_ (IsS107.ge HI0.out) | refine below_set ?_ GE105.out) | exact HB.out), by repeat (first | (with_reducible first | exact HK.out | apply KeepBut.set_ | apply keep_drewN | apply keep_drew | apply keep_alloc | refine keep_far ?_ GW105.out _) | exact HK.out)⟩

/-! ### code_checker_comp: function 63 -/
def code_checker_comp.f (s0_0 : Int) (a1_0 : Int) (a1_1 : Int) (a1_2 : Int) (a1_3 : ByteArray) : Option (Bool × Int) := if (a1_0 == 6 && (a1_2 == 0)) = true then (some (decide ((a1_3.size : Int) ≤ 1000), s0_0)) else (some (false, s0_0))
set_option maxHeartbeats 8000000 in
set_option maxRecDepth 100000 in
theorem code_checker_comp.calls (g : Nat) (s0_0 : Int) (a1_0 : Int) (a1_1 : Int) (a1_2 : Int) (a1_3 : ByteArray) (r1 : Bool) (r2 : Int) (w0 w : World) (hI : IsS107 w0 w g s0_0) (hB : Below w0.heap.size w0 w) (h : code_checker_comp.f s0_0 a1_0 a1_1 a1_2 a1_3 = some (r1, r2)) :
    Calls Try.prog 63 #[.pointer (some ⟨g, 0, none⟩), .agg #[.int .i64 a1_0, .int .i64 a1_1, .int .i64 a1_2, .string a1_3]] w fun e w' => e = .returned (.bool r1) ∧ IsS107 w0 w' g r2 ∧ Below w0.heap.size w0 w' ∧ KeepBut w w' g none := by
  have hu39 := Try.underlying39
  have HI0 := Aside0.mk hI
  have HK := Aside0.mk (KeepBut.refl w g none)
  have HL := Aside0.mk hB.size
  clear hI
  have HW0 := Aside0.mk hB.size
  have HB := Aside0.mk hB
  clear hB
  have H : (if (a1_0 == 6 && (a1_2 == 0)) = true then (some (decide ((a1_3.size : Int) ≤ 1000), s0_0)) else (some (false, s0_0))) = some (r1, r2) := h
  clear h
  by_cases c3 : (a1_0 == 6 && (a1_2 == 0)) = true
  · rw [if_pos c3] at H
    have c3b0 : (a1_0 == 6 && (a1_2 == 0)) = true := c3
    (try (have c3b1 : decide (a1_0 = 6 && (a1_2 == 0)) = true := by simpa using c3))
    (try (have c3b2 : (a1_0 == 6 && (a1_2 == 0)) = true := by simpa using c3))
    clear c3
    simp only [Option.some.injEq, Prod.mk.injEq] at H
    obtain ⟨rfl, rfl⟩ := H
    go_enter Try.func63, Try.ntmps63
    go_wp2_with (first | ((with_reducible refine gate_dst (N := 3) rfl ?_); (try (refine gate_guard (by rfl) ?_; dsimp only)); refine box_event ?hg (N := 3) ?hd (cs := #[.int .i64 a1_0, .int .i64 a1_1, .int .i64 a1_2, .string a1_3]) (t := 39) ?hr ?_; (case hd => rfl); (case hg => rfl); (case hr => first | (go_simp; done) | (go_simp; rfl)); intro gb106 hg w4 hbox hb; have n0_ := Aside0.mk (IsS107.below (by repeat (first | (with_reducible first | exact HI0.out | apply IsS107.alloc | apply IsS107.drewN | apply IsS107.drew | apply IsS107.set_0) | exact HI0.out)) hb); have n1_ := Aside0.mk (KeepBut.trans (by repeat (first | (with_reducible first | exact HK.out | apply KeepBut.set_ | apply keep_drewN | apply keep_drew | apply keep_alloc) | exact HK.out)) (KeepBut.of_below hb g none) (.inl rfl)); have n2_ := Aside0.mk (below_step (by repeat (first | (with_reducible first | exact HB.out | apply below_alloc | apply pw_below_drewN | apply below_drew1 | refine below_set ?_ (IsS107.ge HI0.out)) | exact HB.out)) hb); have n3_ := Aside0.mk (hbox); have n4_ := Aside0.mk ((by rw [hg]; exact (keep_size (w := w) (g := g) (row := none) (by repeat (first | (with_reducible first | exact HK.out | apply KeepBut.set_ | apply keep_drewN | apply keep_drew | apply keep_alloc) | exact HK.out))) : w.heap.size ≤ gb106)); have n5_ := Aside0.mk ((Nat.le_trans HW0.out (by rw [hg]; exact (keep_size (w := w) (g := g) (row := none) (by repeat (first | (with_reducible first | exact HK.out | apply KeepBut.set_ | apply keep_drewN | apply keep_drew | apply keep_alloc) | exact HK.out))) : w.heap.size ≤ gb106) : w0.heap.size ≤ gb106)); have n6_ := Aside0.mk ((by rw [hg]; exact Nat.ne_of_lt (IsS107.lt (show IsS107 w0 _ g s0_0 from by repeat (first | (with_reducible first | exact HI0.out | apply IsS107.alloc | apply IsS107.drewN | apply IsS107.drew | apply IsS107.set_0) | exact HI0.out))) : g ≠ gb106)); have n7_ := Aside0.mk ((by rw [hg]; exact Nat.ne_of_gt (IsS107.lt (show IsS107 w0 _ g s0_0 from by repeat (first | (with_reducible first | exact HI0.out | apply IsS107.alloc | apply IsS107.drewN | apply IsS107.drew | apply IsS107.set_0) | exact HI0.out))) : gb106 ≠ g)); clear HI0; clear HK; clear HB; have HI0 := n0_; have HK := n1_; have HB := n2_; have BK106 := n3_; have GW106 := n4_; have GE106 := n5_; have NB0_106 := n6_; have NB106_0 := n7_; clear n0_ n1_ n2_ n3_ n4_ n5_ n6_ n7_; clear hb hbox hg; have hnb5 := NB106_0.out; have hnc5 := NB0_106.out; have hcz6_0 : w4.cell? ⟨gb106, 0, none⟩ = some (.int .i64 a1_0) := (blk_cell BK106.out 0).trans rfl; have hcz6_1 : w4.cell? ⟨gb106, 1, none⟩ = some (.int .i64 a1_1) := (blk_cell BK106.out 1).trans rfl; have hcz6_2 : w4.cell? ⟨gb106, 2, none⟩ = some (.int .i64 a1_2) := (blk_cell BK106.out 2).trans rfl; have hcz6_3 : w4.cell? ⟨gb106, 3, none⟩ = some (.string a1_3) := (blk_cell BK106.out 3).trans rfl; have hfz6_0 := blk_frozen BK106.out 0; have hfz6_1 := blk_frozen BK106.out 1; have hfz6_2 := blk_frozen BK106.out 2; have hfz6_3 := blk_frozen BK106.out 3))
    go_ret
    exact ⟨by first | rfl | (simp [errW_none, errW_some] <;> rfl) | (simp [*, errW_none, errW_some] <;> rfl), by repeat (first | (with_reducible first | exact HI0.out | apply IsS107.alloc | apply IsS107.drewN | apply IsS107.drew | apply IsS107.set_0 | refine IsS107.far ?_ NB0_106.out _) | exact HI0.out), by repeat (first | (with_reducible first | exact HB.out | apply below_alloc | apply pw_below_drewN | apply below_drew1 | refine below_set ?_ (IsS107.ge HI0.out) | refine below_set ?_ GE106.out) | exact HB.out), by repeat (first | (with_reducible first | exact HK.out | apply KeepBut.set_ | apply keep_drewN | apply keep_drew | apply keep_alloc | refine keep_far ?_ GW106.out _) | exact HK.out)⟩
  · rw [if_neg c3] at H
    have c3b0 : (a1_0 == 6 && (a1_2 == 0)) = false := by simpa using c3
    (try (have c3b1 : decide (a1_0 = 6 && (a1_2 == 0)) = false := by simpa using c3))
    (try (have c3b2 : (a1_0 == 6 && (a1_2 == 0)) = false := by simpa using c3))
    (try (have c3b3 : ¬ (a1_0 = 6 && (a1_2 == 0)) := by simpa using c3))
    clear c3
    simp only [Option.some.injEq, Prod.mk.injEq] at H
    obtain ⟨rfl, rfl⟩ := H
    go_enter Try.func63, Try.ntmps63
    go_wp2_with (first | ((with_reducible refine gate_dst (N := 3) rfl ?_); (try (refine gate_guard (by rfl) ?_; dsimp only)); refine box_event ?hg (N := 3) ?hd (cs := #[.int .i64 a1_0, .int .i64 a1_1, .int .i64 a1_2, .string a1_3]) (t := 39) ?hr ?_; (case hd => rfl); (case hg => rfl); (case hr => first | (go_simp; done) | (go_simp; rfl)); intro gb106 hg w7 hbox hb; have n0_ := Aside0.mk (IsS107.below (by repeat (first | (with_reducible first | exact HI0.out | apply IsS107.alloc | apply IsS107.drewN | apply IsS107.drew | apply IsS107.set_0) | exact HI0.out)) hb); have n1_ := Aside0.mk (KeepBut.trans (by repeat (first | (with_reducible first | exact HK.out | apply KeepBut.set_ | apply keep_drewN | apply keep_drew | apply keep_alloc) | exact HK.out)) (KeepBut.of_below hb g none) (.inl rfl)); have n2_ := Aside0.mk (below_step (by repeat (first | (with_reducible first | exact HB.out | apply below_alloc | apply pw_below_drewN | apply below_drew1 | refine below_set ?_ (IsS107.ge HI0.out)) | exact HB.out)) hb); have n3_ := Aside0.mk (hbox); have n4_ := Aside0.mk ((by rw [hg]; exact (keep_size (w := w) (g := g) (row := none) (by repeat (first | (with_reducible first | exact HK.out | apply KeepBut.set_ | apply keep_drewN | apply keep_drew | apply keep_alloc) | exact HK.out))) : w.heap.size ≤ gb106)); have n5_ := Aside0.mk ((Nat.le_trans HW0.out (by rw [hg]; exact (keep_size (w := w) (g := g) (row := none) (by repeat (first | (with_reducible first | exact HK.out | apply KeepBut.set_ | apply keep_drewN | apply keep_drew | apply keep_alloc) | exact HK.out))) : w.heap.size ≤ gb106) : w0.heap.size ≤ gb106)); have n6_ := Aside0.mk ((by rw [hg]; exact Nat.ne_of_lt (IsS107.lt (show IsS107 w0 _ g s0_0 from by repeat (first | (with_reducible first | exact HI0.out | apply IsS107.alloc | apply IsS107.drewN | apply IsS107.drew | apply IsS107.set_0) | exact HI0.out))) : g ≠ gb106)); have n7_ := Aside0.mk ((by rw [hg]; exact Nat.ne_of_gt (IsS107.lt (show IsS107 w0 _ g s0_0 from by repeat (first | (with_reducible first | exact HI0.out | apply IsS107.alloc | apply IsS107.drewN | apply IsS107.drew | apply IsS107.set_0) | exact HI0.out))) : gb106 ≠ g)); clear HI0; clear HK; clear HB; have HI0 := n0_; have HK := n1_; have HB := n2_; have BK106 := n3_; have GW106 := n4_; have GE106 := n5_; have NB0_106 := n6_; have NB106_0 := n7_; clear n0_ n1_ n2_ n3_ n4_ n5_ n6_ n7_; clear hb hbox hg; have hnb8 := NB106_0.out; have hnc8 := NB0_106.out; have hcz9_0 : w7.cell? ⟨gb106, 0, none⟩ = some (.int .i64 a1_0) := (blk_cell BK106.out 0).trans rfl; have hcz9_1 : w7.cell? ⟨gb106, 1, none⟩ = some (.int .i64 a1_1) := (blk_cell BK106.out 1).trans rfl; have hcz9_2 : w7.cell? ⟨gb106, 2, none⟩ = some (.int .i64 a1_2) := (blk_cell BK106.out 2).trans rfl; have hcz9_3 : w7.cell? ⟨gb106, 3, none⟩ = some (.string a1_3) := (blk_cell BK106.out 3).trans rfl; have hfz9_0 := blk_frozen BK106.out 0; have hfz9_1 := blk_frozen BK106.out 1; have hfz9_2 := blk_frozen BK106.out 2; have hfz9_3 := blk_frozen BK106.out 3))
    go_ret
    exact ⟨by first | rfl | (simp [errW_none, errW_some] <;> rfl) | (simp [*, errW_none, errW_some] <;> rfl), by repeat (first | (with_reducible first | exact HI0.out | apply IsS107.alloc | apply IsS107.drewN | apply IsS107.drew | apply IsS107.set_0 | refine IsS107.far ?_ NB0_106.out _) | exact HI0.out), by repeat (first | (with_reducible first | exact HB.out | apply below_alloc | apply pw_below_drewN | apply below_drew1 | refine below_set ?_ (IsS107.ge HI0.out) | refine below_set ?_ GE106.out) | exact HB.out), by repeat (first | (with_reducible first | exact HK.out | apply KeepBut.set_ | apply keep_drewN | apply keep_drew | apply keep_alloc | refine keep_far ?_ GW106.out _) | exact HK.out)⟩

/-! ### code_Instr_parts: function 65 -/
mutual
def code_Instr_parts.j0 : Nat → Bool → Int → Int → Int → ByteArray → Option (Int)
  | 0, _, _, _, _, _ => none
  | k + 1, x3, x108000, x108001, x108002, x108003 => if x3 = true then (some (-1)) else (if x108000 < 6 then (some 0) else (if x108001 < 1 then (code_Instr_parts.j1 k true x108000 x108001 x108002 x108003) else (code_Instr_parts.j1 k (decide (x108001 > 255)) x108000 x108001 x108002 x108003)))
def code_Instr_parts.j1 : Nat → Bool → Int → Int → Int → ByteArray → Option (Int)
  | 0, _, _, _, _, _ => none
  | k + 1, x16, x108000, x108001, x108002, x108003 => if x16 = true then (some (-1)) else (some x108001)
end
def code_Instr_parts.f (k : Nat) (a0_0 : Int) (a0_1 : Int) (a0_2 : Int) (a0_3 : ByteArray) : Option (Int) := if a0_0 < 1 then (code_Instr_parts.j0 k true a0_0 a0_1 a0_2 a0_3) else (code_Instr_parts.j0 k (decide (a0_0 > 6)) a0_0 a0_1 a0_2 a0_3)
theorem code_Instr_parts.mono_l : ∀ k, (∀ y0 y1 y2 y3 y4, LeO (code_Instr_parts.j0 k y0 y1 y2 y3 y4) (code_Instr_parts.j0 (k + 1) y0 y1 y2 y3 y4)) ∧ (∀ y0 y1 y2 y3 y4, LeO (code_Instr_parts.j1 k y0 y1 y2 y3 y4) (code_Instr_parts.j1 (k + 1) y0 y1 y2 y3 y4))
  | 0 => ⟨fun _ _ _ _ _ r h => by simp [code_Instr_parts.j0] at h, fun _ _ _ _ _ r h => by simp [code_Instr_parts.j1] at h⟩
  | k + 1 => by
    obtain ⟨ih0, ih1⟩ := code_Instr_parts.mono_l k
    refine ⟨?_, ?_⟩
    · intro y0 y1 y2 y3 y4
      unfold code_Instr_parts.j0
      repeat' first
      | (with_reducible exact ih0 _ _ _ _ _)
      | (with_reducible exact ih1 _ _ _ _ _)
      | (with_reducible exact LeO.refl _)
      | (with_reducible exact LeO.none _)
      | (with_reducible refine LeO.ite ?_ ?_)
      | (with_reducible refine LeO.bind ?_ (fun _ => ?_))
      | exact ih0 _ _ _ _ _
      | exact ih1 _ _ _ _ _
      | exact LeO.none _
      | refine LeO.ite ?_ ?_
      | refine LeO.bind ?_ (fun _ => ?_)
    · intro y0 y1 y2 y3 y4
      unfold code_Instr_parts.j1
      repeat' first
      | (with_reducible exact ih0 _ _ _ _ _)
      | (with_reducible exact ih1 _ _ _ _ _)
      | (with_reducible exact LeO.refl _)
      | (with_reducible exact LeO.none _)
      | (with_reducible refine LeO.ite ?_ ?_)
      | (with_reducible refine LeO.bind ?_ (fun _ => ?_))
      | exact ih0 _ _ _ _ _
      | exact ih1 _ _ _ _ _
      | exact LeO.none _
      | refine LeO.ite ?_ ?_
      | refine LeO.bind ?_ (fun _ => ?_)
theorem code_Instr_parts.mono : ∀ a0 a1 a2 a3 k, LeO (code_Instr_parts.f k a0 a1 a2 a3) (code_Instr_parts.f (k + 1) a0 a1 a2 a3) := by
  intro a0 a1 a2 a3 k
  obtain ⟨ih0, ih1⟩ := code_Instr_parts.mono_l k
  unfold code_Instr_parts.f
  repeat' first
      | (with_reducible exact ih0 _ _ _ _ _)
      | (with_reducible exact ih1 _ _ _ _ _)
      | (with_reducible exact LeO.refl _)
      | (with_reducible exact LeO.none _)
      | (with_reducible refine LeO.ite ?_ ?_)
      | (with_reducible refine LeO.bind ?_ (fun _ => ?_))
      | exact ih0 _ _ _ _ _
      | exact ih1 _ _ _ _ _
      | exact LeO.none _
      | refine LeO.ite ?_ ?_
      | refine LeO.bind ?_ (fun _ => ?_)
set_option maxHeartbeats 8000000 in
set_option maxRecDepth 100000 in
theorem code_Instr_parts.calls (k : Nat) (a0_0 : Int) (a0_1 : Int) (a0_2 : Int) (a0_3 : ByteArray) (r : Int) (w : World) (h : code_Instr_parts.f k a0_0 a0_1 a0_2 a0_3 = some r) :
    Calls Try.prog 65 #[.agg #[.int .i64 a0_0, .int .i64 a0_1, .int .i64 a0_2, .string a0_3]] w fun e w' => e = .returned (.int .i64 r) ∧ Below w.heap.size w w' := by
  have hu39 := Try.underlying39
  have HB := Aside0.mk (Below.refl w.heap.size w)
  have H : (if a0_0 < 1 then (code_Instr_parts.j0 k true a0_0 a0_1 a0_2 a0_3) else (code_Instr_parts.j0 k (decide (a0_0 > 6)) a0_0 a0_1 a0_2 a0_3)) = some r := h
  clear h
  have HC2 := Aside0.mk H
  clear H
  go_enter Try.func65, Try.ntmps65
  go_upto_region 1 with (first | ((with_reducible refine gate_dst (N := 1) rfl ?_); refine box_event ?hg (N := 1) ?hd (cs := #[.int .i64 a0_0, .int .i64 a0_1, .int .i64 a0_2, .string a0_3]) (t := 39) ?hr ?_; (case hd => rfl); (case hg => rfl); (case hr => first | (go_simp; done) | (go_simp; rfl)); intro gb107 hg w3 hbox hb; have n0_ := Aside0.mk (below_step (by repeat (first | (with_reducible first | exact HB.out | apply below_alloc | apply pw_below_drewN | apply below_drew1) | exact HB.out)) hb); have n1_ := Aside0.mk (hbox); have n2_ := Aside0.mk ((by rw [hg]; exact (below_size (by repeat (first | (with_reducible first | exact HB.out | apply below_alloc | apply pw_below_drewN | apply below_drew1) | exact HB.out))) : w.heap.size ≤ gb107)); have n3_ := Aside0.mk ((by rw [hg]; exact (below_size (by repeat (first | (with_reducible first | exact HB.out | apply below_alloc | apply pw_below_drewN | apply below_drew1) | exact HB.out))) : w.heap.size ≤ gb107)); clear HB; have HB := n0_; have BK107 := n1_; have GW107 := n2_; have GE107 := n3_; clear n0_ n1_ n2_ n3_; clear hb hbox hg))
  (try simp only [Act.put, List.setIfInBounds_toArray, List.set_cons_zero, List.set_cons_succ])
  go_cut [3] (fun v3 wc => ∃ (kq : Nat) (x3_1 : Bool), v3 = .bool x3_1 ∧ Aside0 (code_Instr_parts.j0 kq x3_1 a0_0 a0_1 a0_2 a0_3 = some r) ∧ Aside0 (kq ≤ k) ∧ Aside0 (wc.heap[gb107]? = some (.cells #[.int .i64 a0_0, .int .i64 a0_1, .int .i64 a0_2, .string a0_3] 39 (0, 0))) ∧ Aside0 (Below w.heap.size w wc))
  case first =>
    have H := HC2.out
    clear HC2
    by_cases c4 : a0_0 < 1
    · rw [if_pos c4] at H
      have c4b0 : decide (a0_0 < 1) = true := decide_eq_true c4
      clear c4
      (first | rw [c4b0] | (simp only [i64_w, i32_w]; rw [c4b0]) | skip)
      have H' := Aside0.mk H
      clear H
      have hcz5_0 : w3.cell? ⟨gb107, 0, none⟩ = some (.int .i64 a0_0) := (blk_cell BK107.out 0).trans rfl
      have hcz5_1 : w3.cell? ⟨gb107, 1, none⟩ = some (.int .i64 a0_1) := (blk_cell BK107.out 1).trans rfl
      have hcz5_2 : w3.cell? ⟨gb107, 2, none⟩ = some (.int .i64 a0_2) := (blk_cell BK107.out 2).trans rfl
      have hcz5_3 : w3.cell? ⟨gb107, 3, none⟩ = some (.string a0_3) := (blk_cell BK107.out 3).trans rfl
      have hfz5_0 := blk_frozen BK107.out 0
      have hfz5_1 := blk_frozen BK107.out 1
      have hfz5_2 := blk_frozen BK107.out 2
      have hfz5_3 := blk_frozen BK107.out 3
      go_wp2
      go_meet
      case rel => exact ⟨_, (true), (by first | rfl | (simp; done) | (simp [*]; done)), H', ⟨by first | omega | exact Nat.le_refl _⟩, ⟨by (with_reducible repeat (first | refine blk_drewN ?_ _ | refine blk_drew ?_ | refine blk_alloc ?_ _)); exact BK107.out⟩, ⟨by repeat (first | (with_reducible first | exact HB.out | apply below_alloc | apply pw_below_drewN | apply below_drew1 | refine below_set ?_ GE107.out) | exact HB.out)⟩⟩
    · rw [if_neg c4] at H
      have c4b0 : decide (a0_0 < 1) = false := decide_eq_false c4
      clear c4
      (first | rw [c4b0] | (simp only [i64_w, i32_w]; rw [c4b0]) | skip)
      have H' := Aside0.mk H
      clear H
      have hcz6_0 : w3.cell? ⟨gb107, 0, none⟩ = some (.int .i64 a0_0) := (blk_cell BK107.out 0).trans rfl
      have hcz6_1 : w3.cell? ⟨gb107, 1, none⟩ = some (.int .i64 a0_1) := (blk_cell BK107.out 1).trans rfl
      have hcz6_2 : w3.cell? ⟨gb107, 2, none⟩ = some (.int .i64 a0_2) := (blk_cell BK107.out 2).trans rfl
      have hcz6_3 : w3.cell? ⟨gb107, 3, none⟩ = some (.string a0_3) := (blk_cell BK107.out 3).trans rfl
      have hfz6_0 := blk_frozen BK107.out 0
      have hfz6_1 := blk_frozen BK107.out 1
      have hfz6_2 := blk_frozen BK107.out 2
      have hfz6_3 := blk_frozen BK107.out 3
      go_wp2
      go_meet
      case rel => exact ⟨_, (decide (a0_0 > 6)), (by first | rfl | (simp; done) | (simp [*]; done)), H', ⟨by first | omega | exact Nat.le_refl _⟩, ⟨by (with_reducible repeat (first | refine blk_drewN ?_ _ | refine blk_drew ?_ | refine blk_alloc ?_ _)); exact BK107.out⟩, ⟨by repeat (first | (with_reducible first | exact HB.out | apply below_alloc | apply pw_below_drewN | apply below_drew1 | refine below_set ?_ GE107.out) | exact HB.out)⟩⟩
  case rest =>
    clear HC2
    try clear p2
    try clear c4
    try clear c4b0
    try clear c6
    try clear hcz5_0
    try clear hcz5_1
    try clear hcz5_2
    try clear hcz5_3
    try clear hcz6_0
    try clear hcz6_1
    try clear hcz6_2
    try clear hcz6_3
    try clear hfz5_0
    try clear hfz5_1
    try clear hfz5_2
    try clear hfz5_3
    try clear hfz6_0
    try clear hfz6_1
    try clear hfz6_2
    try clear hfz6_3
    obtain ⟨kq, x3_1, rfl, HA, HJ1, BK107, HB⟩ := hcut
    cases kq with
    | zero => exact absurd HA.out (by simp [code_Instr_parts.j0])
    | succ kj1 =>
      have H := HA.out
      clear HA
      simp only [code_Instr_parts.j0] at H
      by_cases c7 : x3_1 = true
      · subst c7
        have H1 : (some (-1)) = some r := by rw [if_pos rfl] at H; exact H
        clear H
        have H := H1
        clear H1
        obtain rfl := Option.some.inj H
        go_wp2
        go_ret
        exact ⟨by first | rfl | (simp [errW_none, errW_some] <;> rfl) | (simp [*, errW_none, errW_some] <;> rfl), by repeat (first | (with_reducible first | exact HB.out | apply below_alloc | apply pw_below_drewN | apply below_drew1 | refine below_set ?_ GE107.out) | exact HB.out)⟩
      · replace c7 := Bool.eq_false_iff.mpr c7
        subst c7
        have H1 : (if a0_0 < 6 then (some 0) else (if a0_1 < 1 then (code_Instr_parts.j1 kj1 true a0_0 a0_1 a0_2 a0_3) else (code_Instr_parts.j1 kj1 (decide (a0_1 > 255)) a0_0 a0_1 a0_2 a0_3))) = some r := by rw [if_neg (show ¬ (false = true) by decide)] at H; exact H
        clear H
        have H := H1
        clear H1
        by_cases c8 : a0_0 < 6
        · rw [if_pos c8] at H
          have c8b0 : decide (a0_0 < 6) = true := decide_eq_true c8
          clear c8
          obtain rfl := Option.some.inj H
          have hcz9_0 : wc.cell? ⟨gb107, 0, none⟩ = some (.int .i64 a0_0) := (blk_cell BK107.out 0).trans rfl
          have hcz9_1 : wc.cell? ⟨gb107, 1, none⟩ = some (.int .i64 a0_1) := (blk_cell BK107.out 1).trans rfl
          have hcz9_2 : wc.cell? ⟨gb107, 2, none⟩ = some (.int .i64 a0_2) := (blk_cell BK107.out 2).trans rfl
          have hcz9_3 : wc.cell? ⟨gb107, 3, none⟩ = some (.string a0_3) := (blk_cell BK107.out 3).trans rfl
          have hfz9_0 := blk_frozen BK107.out 0
          have hfz9_1 := blk_frozen BK107.out 1
          have hfz9_2 := blk_frozen BK107.out 2
          have hfz9_3 := blk_frozen BK107.out 3
          go_wp2
          go_ret
          exact ⟨by first | rfl | (simp [errW_none, errW_some] <;> rfl) | (simp [*, errW_none, errW_some] <;> rfl), by repeat (first | (with_reducible first | exact HB.out | apply below_alloc | apply pw_below_drewN | apply below_drew1 | refine below_set ?_ GE107.out) | exact HB.out)⟩
        · rw [if_neg c8] at H
          have c8b0 : decide (a0_0 < 6) = false := decide_eq_false c8
          clear c8
          have HC10 := Aside0.mk H
          clear H
          have hcz11_0 : wc.cell? ⟨gb107, 0, none⟩ = some (.int .i64 a0_0) := (blk_cell BK107.out 0).trans rfl
          have hcz11_1 : wc.cell? ⟨gb107, 1, none⟩ = some (.int .i64 a0_1) := (blk_cell BK107.out 1).trans rfl
          have hcz11_2 : wc.cell? ⟨gb107, 2, none⟩ = some (.int .i64 a0_2) := (blk_cell BK107.out 2).trans rfl
          have hcz11_3 : wc.cell? ⟨gb107, 3, none⟩ = some (.string a0_3) := (blk_cell BK107.out 3).trans rfl
          have hfz11_0 := blk_frozen BK107.out 0
          have hfz11_1 := blk_frozen BK107.out 1
          have hfz11_2 := blk_frozen BK107.out 2
          have hfz11_3 := blk_frozen BK107.out 3
          go_upto_region 5 with (fail)
          go_cut [16] (fun v16 wc => ∃ (kq : Nat) (x16_9 : Bool), v16 = .bool x16_9 ∧ Aside0 (code_Instr_parts.j1 kq x16_9 a0_0 a0_1 a0_2 a0_3 = some r) ∧ Aside0 (kq ≤ kj1) ∧ Aside0 (wc.heap[gb107]? = some (.cells #[.int .i64 a0_0, .int .i64 a0_1, .int .i64 a0_2, .string a0_3] 39 (0, 0))) ∧ Aside0 (Below w.heap.size w wc))
          case first =>
            have H := HC10.out
            clear HC10
            by_cases c12 : a0_1 < 1
            · rw [if_pos c12] at H
              have c12b0 : decide (a0_1 < 1) = true := decide_eq_true c12
              clear c12
              (first | rw [c12b0] | (simp only [i64_w, i32_w]; rw [c12b0]) | skip)
              have H' := Aside0.mk H
              clear H
              have hcz13_0 : wc.cell? ⟨gb107, 0, none⟩ = some (.int .i64 a0_0) := (blk_cell BK107.out 0).trans rfl
              have hcz13_1 : wc.cell? ⟨gb107, 1, none⟩ = some (.int .i64 a0_1) := (blk_cell BK107.out 1).trans rfl
              have hcz13_2 : wc.cell? ⟨gb107, 2, none⟩ = some (.int .i64 a0_2) := (blk_cell BK107.out 2).trans rfl
              have hcz13_3 : wc.cell? ⟨gb107, 3, none⟩ = some (.string a0_3) := (blk_cell BK107.out 3).trans rfl
              have hfz13_0 := blk_frozen BK107.out 0
              have hfz13_1 := blk_frozen BK107.out 1
              have hfz13_2 := blk_frozen BK107.out 2
              have hfz13_3 := blk_frozen BK107.out 3
              go_wp2
              go_meet
              case rel => exact ⟨_, (true), (by first | rfl | (simp; done) | (simp [*]; done)), H', ⟨by have := HJ1.out; first | omega | exact Nat.le_refl _⟩, ⟨by (with_reducible repeat (first | refine blk_drewN ?_ _ | refine blk_drew ?_ | refine blk_alloc ?_ _)); exact BK107.out⟩, ⟨by repeat (first | (with_reducible first | exact HB.out | apply below_alloc | apply pw_below_drewN | apply below_drew1 | refine below_set ?_ GE107.out) | exact HB.out)⟩⟩
            · rw [if_neg c12] at H
              have c12b0 : decide (a0_1 < 1) = false := decide_eq_false c12
              clear c12
              (first | rw [c12b0] | (simp only [i64_w, i32_w]; rw [c12b0]) | skip)
              have H' := Aside0.mk H
              clear H
              have hcz14_0 : wc.cell? ⟨gb107, 0, none⟩ = some (.int .i64 a0_0) := (blk_cell BK107.out 0).trans rfl
              have hcz14_1 : wc.cell? ⟨gb107, 1, none⟩ = some (.int .i64 a0_1) := (blk_cell BK107.out 1).trans rfl
              have hcz14_2 : wc.cell? ⟨gb107, 2, none⟩ = some (.int .i64 a0_2) := (blk_cell BK107.out 2).trans rfl
              have hcz14_3 : wc.cell? ⟨gb107, 3, none⟩ = some (.string a0_3) := (blk_cell BK107.out 3).trans rfl
              have hfz14_0 := blk_frozen BK107.out 0
              have hfz14_1 := blk_frozen BK107.out 1
              have hfz14_2 := blk_frozen BK107.out 2
              have hfz14_3 := blk_frozen BK107.out 3
              go_wp2
              go_meet
              case rel => exact ⟨_, (decide (a0_1 > 255)), (by first | rfl | (simp; done) | (simp [*]; done)), H', ⟨by have := HJ1.out; first | omega | exact Nat.le_refl _⟩, ⟨by (with_reducible repeat (first | refine blk_drewN ?_ _ | refine blk_drew ?_ | refine blk_alloc ?_ _)); exact BK107.out⟩, ⟨by repeat (first | (with_reducible first | exact HB.out | apply below_alloc | apply pw_below_drewN | apply below_drew1 | refine below_set ?_ GE107.out) | exact HB.out)⟩⟩
          case rest =>
            clear HC10
            try clear c1
            try clear p2
            try clear c4
            try clear c4b0
            try clear c6
            try clear c7
            try clear c8
            try clear c8b0
            try clear c12
            try clear c12b0
            try clear hcz11_0
            try clear hcz11_1
            try clear hcz11_2
            try clear hcz11_3
            try clear hcz13_0
            try clear hcz13_1
            try clear hcz13_2
            try clear hcz13_3
            try clear hcz14_0
            try clear hcz14_1
            try clear hcz14_2
            try clear hcz14_3
            try clear hcz5_0
            try clear hcz5_1
            try clear hcz5_2
            try clear hcz5_3
            try clear hcz6_0
            try clear hcz6_1
            try clear hcz6_2
            try clear hcz6_3
            try clear hcz9_0
            try clear hcz9_1
            try clear hcz9_2
            try clear hcz9_3
            try clear hfz11_0
            try clear hfz11_1
            try clear hfz11_2
            try clear hfz11_3
            try clear hfz13_0
            try clear hfz13_1
            try clear hfz13_2
            try clear hfz13_3
            try clear hfz14_0
            try clear hfz14_1
            try clear hfz14_2
            try clear hfz14_3
            try clear hfz5_0
            try clear hfz5_1
            try clear hfz5_2
            try clear hfz5_3
            try clear hfz6_0
            try clear hfz6_1
            try clear hfz6_2
            try clear hfz6_3
            try clear hfz9_0
            try clear hfz9_1
            try clear hfz9_2
            try clear hfz9_3
            try clear p2
            obtain ⟨kq, x16_9, rfl, HA, HJ9, BK107, HB⟩ := hcut
            cases kq with
            | zero => exact absurd HA.out (by simp [code_Instr_parts.j1])
            | succ kj9 =>
              have H := HA.out
              clear HA
              simp only [code_Instr_parts.j1] at H
              by_cases c15 : x16_9 = true
              · subst c15
                have H1 : (some (-1)) = some r := by rw [if_pos rfl] at H; exact H
                clear H
                have H := H1
                clear H1
                obtain rfl := Option.some.inj H
                go_wp2
                go_ret
                exact ⟨by first | rfl | (simp [errW_none, errW_some] <;> rfl) | (simp [*, errW_none, errW_some] <;> rfl), by repeat (first | (with_reducible first | exact HB.out | apply below_alloc | apply pw_below_drewN | apply below_drew1 | refine below_set ?_ GE107.out) | exact HB.out)⟩
              · replace c15 := Bool.eq_false_iff.mpr c15
                subst c15
                have H1 : (some a0_1) = some r := by rw [if_neg (show ¬ (false = true) by decide)] at H; exact H
                clear H
                have H := H1
                clear H1
                obtain rfl := Option.some.inj H
                have hcz16_0 : wc.cell? ⟨gb107, 0, none⟩ = some (.int .i64 a0_0) := (blk_cell BK107.out 0).trans rfl
                have hcz16_1 : wc.cell? ⟨gb107, 1, none⟩ = some (.int .i64 a0_1) := (blk_cell BK107.out 1).trans rfl
                have hcz16_2 : wc.cell? ⟨gb107, 2, none⟩ = some (.int .i64 a0_2) := (blk_cell BK107.out 2).trans rfl
                have hcz16_3 : wc.cell? ⟨gb107, 3, none⟩ = some (.string a0_3) := (blk_cell BK107.out 3).trans rfl
                have hfz16_0 := blk_frozen BK107.out 0
                have hfz16_1 := blk_frozen BK107.out 1
                have hfz16_2 := blk_frozen BK107.out 2
                have hfz16_3 := blk_frozen BK107.out 3
                go_wp2
                go_ret
                exact ⟨by first | rfl | (simp [errW_none, errW_some] <;> rfl) | (simp [*, errW_none, errW_some] <;> rfl), by repeat (first | (with_reducible first | exact HB.out | apply below_alloc | apply pw_below_drewN | apply below_drew1 | refine below_set ?_ GE107.out) | exact HB.out)⟩

/-! ### code_Skip: function 19 -/
mutual
def code_Skip.j0 : Nat → List (S39) → Int → Bool → Option (Int)
  | 0, _, _, _ => none
  | k + 1, x0, x1, x13 => if x13 = true then (some (-1)) else (if 0 ≤ x1 then (if x1 < (x0.length : Int) then ((code_Instr_parts.f k ((rd_T39 x0 x1).f0) ((rd_T39 x0 x1).f1) ((rd_T39 x0 x1).f2) ((rd_T39 x0 x1).f3)).bind fun t109 => (code_Skip.l0 k x0 (wrap64 (x1 + 1)) t109)) else (none)) else (none))
def code_Skip.l0 : Nat → List (S39) → Int → Int → Option (Int)
  | 0, _, _, _ => none
  | k + 1, x0, x1, x5 => if x5 > 0 then ((code_Skip.f k x0 x1).bind fun t110 => (if t110 < 0 then (some (-1)) else (code_Skip.l0 k x0 t110 (wrap64 (x5 - 1))))) else (if x5 < 0 then (some (-1)) else (some x1))
def code_Skip.f : Nat → List (S39) → Int → Option (Int)
  | 0, _, _ => none
  | k + 1, l0, a1 => if a1 < 0 then (code_Skip.j0 k l0 a1 true) else (code_Skip.j0 k l0 a1 (decide (a1 ≥ (l0.length : Int))))
end
theorem code_Skip.mono_l : ∀ k, (∀ y0 y1, LeO (code_Skip.f k y0 y1) (code_Skip.f (k + 1) y0 y1)) ∧ (∀ y0 y1 y2, LeO (code_Skip.j0 k y0 y1 y2) (code_Skip.j0 (k + 1) y0 y1 y2)) ∧ (∀ y0 y1 y2, LeO (code_Skip.l0 k y0 y1 y2) (code_Skip.l0 (k + 1) y0 y1 y2))
  | 0 => ⟨fun _ _ r h => by simp [code_Skip.f] at h, fun _ _ _ r h => by simp [code_Skip.j0] at h, fun _ _ _ r h => by simp [code_Skip.l0] at h⟩
  | k + 1 => by
    obtain ⟨ih0, ih1, ih2⟩ := code_Skip.mono_l k
    refine ⟨?_, ?_, ?_⟩
    · intro y0 y1
      unfold code_Skip.f
      repeat' first
      | (with_reducible exact ih0 _ _)
      | (with_reducible exact ih1 _ _ _)
      | (with_reducible exact ih2 _ _ _)
      | (with_reducible exact code_Instr_parts.mono _ _ _ _ _)
      | (with_reducible exact LeO.refl _)
      | (with_reducible exact LeO.none _)
      | (with_reducible refine LeO.ite ?_ ?_)
      | (with_reducible refine LeO.bind ?_ (fun _ => ?_))
      | exact ih0 _ _
      | exact ih1 _ _ _
      | exact ih2 _ _ _
      | exact code_Instr_parts.mono _ _ _ _ _
      | exact LeO.none _
      | refine LeO.ite ?_ ?_
      | refine LeO.bind ?_ (fun _ => ?_)
    · intro y0 y1 y2
      unfold code_Skip.j0
      repeat' first
      | (with_reducible exact ih0 _ _)
      | (with_reducible exact ih1 _ _ _)
      | (with_reducible exact ih2 _ _ _)
      | (with_reducible exact code_Instr_parts.mono _ _ _ _ _)
      | (with_reducible exact LeO.refl _)
      | (with_reducible exact LeO.none _)
      | (with_reducible refine LeO.ite ?_ ?_)
      | (with_reducible refine LeO.bind ?_ (fun _ => ?_))
      | exact ih0 _ _
      | exact ih1 _ _ _
      | exact ih2 _ _ _
      | exact code_Instr_parts.mono _ _ _ _ _
      | exact LeO.none _
      | refine LeO.ite ?_ ?_
      | refine LeO.bind ?_ (fun _ => ?_)
    · intro y0 y1 y2
      unfold code_Skip.l0
      repeat' first
      | (with_reducible exact ih0 _ _)
      | (with_reducible exact ih1 _ _ _)
      | (with_reducible exact ih2 _ _ _)
      | (with_reducible exact code_Instr_parts.mono _ _ _ _ _)
      | (with_reducible exact LeO.refl _)
      | (with_reducible exact LeO.none _)
      | (with_reducible refine LeO.ite ?_ ?_)
      | (with_reducible refine LeO.bind ?_ (fun _ => ?_))
      | exact ih0 _ _
      | exact ih1 _ _ _
      | exact ih2 _ _ _
      | exact code_Instr_parts.mono _ _ _ _ _
      | exact LeO.none _
      | refine LeO.ite ?_ ?_
      | refine LeO.bind ?_ (fun _ => ?_)
theorem code_Skip.mono : ∀ a0 a1 k, LeO (code_Skip.f k a0 a1) (code_Skip.f (k + 1) a0 a1) := by
  intro a0 a1 k
  obtain ⟨ih0, ih1, ih2⟩ := code_Skip.mono_l k
  exact ih0 a0 a1
set_option maxHeartbeats 8000000 in
set_option maxRecDepth 100000 in
theorem code_Skip.calls (k : Nat) : ∀ (A0 : Option Addr) (c0 : Nat) (l0 : List (S39)) (a1 : Int) (r : Int) (w : World) (hr0 : Kd.C k39 w A0 l0.length l0) (hc0 : l0.length ≤ c0) (h : code_Skip.f k l0 a1 = some r),
    Calls Try.prog 19 #[.slice A0 l0.length c0, .int .i64 a1] w fun e w' => e = .returned (.int .i64 r) ∧ Below w.heap.size w w' := by
  induction k using Nat.strongRecOn with
  | _ k ih =>
  intro A0 c0 l0 a1 r w hr0 hc0 h
  cases k with
  | zero => exact absurd h (by simp [code_Skip.f])
  | succ k =>
  simp only [code_Skip.f] at h
  have hu39 := Try.underlying39
  have HR0 := Aside0.mk hr0
  have HC0 := Aside0.mk hc0
  clear hr0 hc0
  have HB := Aside0.mk (Below.refl w.heap.size w)
  have H : (if a1 < 0 then (code_Skip.j0 k l0 a1 true) else (code_Skip.j0 k l0 a1 (decide (a1 ≥ (l0.length : Int))))) = some r := h
  clear h
  have HC3 := Aside0.mk H
  clear H
  go_enter Try.func19, Try.ntmps19
  go_upto_region 1 with (fail)
  go_cut [13] (fun v13 wc => ∃ (kq : Nat) (x13_2 : Bool), v13 = .bool x13_2 ∧ Aside0 (code_Skip.j0 kq l0 a1 x13_2 = some r) ∧ Aside0 (kq ≤ k) ∧ Aside0 (Below w.heap.size w wc))
  case first =>
    have H := HC3.out
    clear HC3
    by_cases c4 : a1 < 0
    · rw [if_pos c4] at H
      have c4b0 : decide (a1 < 0) = true := decide_eq_true c4
      clear c4
      (first | rw [c4b0] | (simp only [i64_w, i32_w]; rw [c4b0]) | skip)
      have H' := Aside0.mk H
      clear H
      go_wp2
      go_meet
      case rel => exact ⟨_, (true), (by first | rfl | (simp; done) | (simp [*]; done)), H', ⟨by first | omega | exact Nat.le_refl _⟩, ⟨by repeat (first | (with_reducible first | exact HB.out | apply below_alloc | apply pw_below_drewN | apply below_drew1) | exact HB.out)⟩⟩
    · rw [if_neg c4] at H
      have c4b0 : decide (a1 < 0) = false := decide_eq_false c4
      clear c4
      (first | rw [c4b0] | (simp only [i64_w, i32_w]; rw [c4b0]) | skip)
      have H' := Aside0.mk H
      clear H
      go_wp2
      go_meet
      case rel => exact ⟨_, (decide (a1 ≥ (l0.length : Int))), (by first | rfl | (simp; done) | (simp [*]; done)), H', ⟨by first | omega | exact Nat.le_refl _⟩, ⟨by repeat (first | (with_reducible first | exact HB.out | apply below_alloc | apply pw_below_drewN | apply below_drew1) | exact HB.out)⟩⟩
  case rest =>
    clear HC3
    try clear c1
    try clear p2
    try clear c4
    try clear c4b0
    obtain ⟨kq, x13_2, rfl, HA, HJ2, HB⟩ := hcut
    cases kq with
    | zero => exact absurd HA.out (by simp [code_Skip.j0])
    | succ kj2 =>
      have H := HA.out
      clear HA
      simp only [code_Skip.j0] at H
      by_cases c5 : x13_2 = true
      · subst c5
        have H1 : (some (-1)) = some r := by rw [if_pos rfl] at H; exact H
        clear H
        have H := H1
        clear H1
        obtain rfl := Option.some.inj H
        go_wp2
        go_ret
        exact ⟨by first | rfl | (simp [errW_none, errW_some] <;> rfl) | (simp [*, errW_none, errW_some] <;> rfl), by repeat (first | (with_reducible first | exact HB.out | apply below_alloc | apply pw_below_drewN | apply below_drew1) | exact HB.out)⟩
      · replace c5 := Bool.eq_false_iff.mpr c5
        subst c5
        have H1 : (if 0 ≤ a1 then (if a1 < (l0.length : Int) then ((code_Instr_parts.f kj2 ((rd_T39 l0 a1).f0) ((rd_T39 l0 a1).f1) ((rd_T39 l0 a1).f2) ((rd_T39 l0 a1).f3)).bind fun t109 => (code_Skip.l0 kj2 l0 (wrap64 (a1 + 1)) t109)) else (none)) else (none)) = some r := by rw [if_neg (show ¬ (false = true) by decide)] at H; exact H
        clear H
        have H := H1
        clear H1
        by_cases c6 : 0 ≤ a1
        · rw [if_pos c6] at H
          have c6b0 : decide (0 ≤ a1) = true := decide_eq_true c6
          clear c6
          by_cases c7 : a1 < (l0.length : Int)
          · rw [if_pos c7] at H
            have c7b0 : decide (a1 < (l0.length : Int)) = true := decide_eq_true c7
            clear c7
            replace H := Option.bind_eq_some_iff.mp H
            obtain ⟨t109, A80, H⟩ := H
            replace H : (code_Skip.l0 kj2 l0 (wrap64 (a1 + 1)) t109) = some r := H
            have A8 := Aside0.mk A80
            clear A80
            have H' := Aside0.mk H
            clear H
            have p108 : 0 ≤ (a1 : Int) := of_decide_eq_true (by first | (with_reducible assumption) | assumption)
            have q108 : a1 < (l0.length : Int) := of_decide_eq_true (by first | (with_reducible assumption) | assumption)
            obtain ⟨ad108, e108, hx108_0, hx108_1, hx108_2, hx108_3⟩ := at_T39 HR0.out a1 p108 q108
            cases e108
            replace hx108_0 := (HB.out.cell (World.block_lt_of_cell? w _ hx108_0)).trans hx108_0
            replace hx108_1 := (HB.out.cell (World.block_lt_of_cell? w _ hx108_1)).trans hx108_1
            replace hx108_2 := (HB.out.cell (World.block_lt_of_cell? w _ hx108_2)).trans hx108_2
            replace hx108_3 := (HB.out.cell (World.block_lt_of_cell? w _ hx108_3)).trans hx108_3
            replace p108 := eq_true p108
            replace q108 := eq_true q108
            go_wp2_with (first | ((with_reducible refine gate_callee (f := 65) rfl ?_); refine goesL_ (some 18) rfl rfl Try.func65 (by kernel_rfl) rfl #[.agg #[.int .i64 ((rd_T39 l0 a1).f0), .int .i64 ((rd_T39 l0 a1).f1), .int .i64 ((rd_T39 l0 a1).f2), .string ((rd_T39 l0 a1).f3)]] rfl (by (try simp only [List.map_toArray, List.map_cons, List.map_nil]); first | done | rfl | (simp only [List.length_drop, List.length_take]; rfl)) ?_; (with_reducible refine (code_Instr_parts.calls kj2 ((rd_T39 l0 a1).f0) ((rd_T39 l0 a1).f1) ((rd_T39 l0 a1).f2) ((rd_T39 l0 a1).f3) t109 _ A8.out).mono ?_); rintro e w9 ⟨rfl, hb⟩; refine ⟨_, rfl, ?_⟩; have n0_ := Aside0.mk (below_step (by repeat (first | (with_reducible first | exact HB.out | apply below_alloc | apply pw_below_drewN | apply below_drew1) | exact HB.out)) hb); clear HB; have HB := n0_; clear n0_; (try clear hb); (try clear hb2); (try clear hk); (try clear hi)))
            go_loopg [1, 5] kj2 (fun kq v1 v5 w' => ∃ (x1_2 : Int) (x5_2 : Int), v1 = .int .i64 x1_2 ∧ v5 = .int .i64 x5_2 ∧ Aside0 (code_Skip.l0 kq l0 x1_2 x5_2 = some r) ∧ Aside0 (kq ≤ kj2) ∧ Aside0 (Below w.heap.size w w'))
            case atStart => exact ⟨(wrap64 (a1 + 1)), (t109), (by first | rfl | (simp; done) | (simp [*]; done)), (by first | rfl | (simp; done) | (simp [*]; done)), H', ⟨Nat.le_refl _⟩, ⟨by repeat (first | (with_reducible first | exact HB.out | apply below_alloc | apply pw_below_drewN | apply below_drew1) | exact HB.out)⟩⟩
            case round =>
              clear H'
              try clear c1
              try clear p1
              try clear q1
              try clear hx1
              try clear p2
              try clear c4
              try clear c4b0
              try clear c5
              try clear c6
              try clear c6b0
              try clear p6
              try clear c7
              try clear c7b0
              try clear hx108_0
              try clear hx108_1
              try clear hx108_2
              try clear hx108_3
              try clear p108
              try clear p2
              try clear q108
              obtain ⟨x1_2, x5_2, rfl, rfl, HA, HK2, HB⟩ := hrel
              cases gk with
              | zero => exact absurd HA.out (by simp [code_Skip.l0])
              | succ k2 =>
                have H := HA.out
                clear HA
                simp only [code_Skip.l0] at H
                by_cases c10 : x5_2 > 0
                · rw [if_pos c10] at H
                  have c10b0 : decide (0 < x5_2) = true := decide_eq_true c10
                  clear c10
                  replace H := Option.bind_eq_some_iff.mp H
                  obtain ⟨t110, A110, H⟩ := H
                  replace H : (if t110 < 0 then (some (-1)) else (code_Skip.l0 k2 l0 t110 (wrap64 (x5_2 - 1)))) = some r := H
                  have A11 := Aside0.mk A110
                  clear A110
                  by_cases c12 : t110 < 0
                  · rw [if_pos c12] at H
                    have c12b0 : decide (t110 < 0) = true := decide_eq_true c12
                    clear c12
                    obtain rfl := Option.some.inj H
                    go_wp2_with (first | ((with_reducible refine gate_callee (f := 19) rfl ?_); refine goesL_ (some 27) rfl rfl Try.func19 (by kernel_rfl) rfl #[.slice (some ad108) l0.length c0, .int .i64 x1_2] rfl (by (try simp only [List.map_toArray, List.map_cons, List.map_nil]); first | done | rfl | (simp only [List.length_drop, List.length_take]; rfl)) ?_; (with_reducible refine (ih k2 (by have := HJ2.out; have := HK2.out; omega) _ _ l0 x1_2 t110 _ ?side1 ?side2 A11.out).mono ?_); (case side1 => repeat (first | exact (Kd.C_below HR0.out HB.out) | (with_reducible refine Kd.C_alloc ?_ _) | (with_reducible refine Kd.C_drewN ?_ _) | (with_reducible refine Kd.C_drew ?_))); (case side2 => exact HC0.out); rintro e w13 ⟨rfl, hb⟩; refine ⟨_, rfl, ?_⟩; have n0_ := Aside0.mk (below_step (by repeat (first | (with_reducible first | exact HB.out | apply below_alloc | apply pw_below_drewN | apply below_drew1) | exact HB.out)) hb); clear HB; have HB := n0_; clear n0_; (try clear hb); (try clear hb2); (try clear hk); (try clear hi)))
                    go_ret
                    exact ⟨by first | rfl | (simp [errW_none, errW_some] <;> rfl) | (simp [*, errW_none, errW_some] <;> rfl), by repeat (first | (with_reducible first | exact HB.out | apply below_alloc | apply pw_below_drewN | apply below_drew1) | exact HB.out)⟩
                  · rw [if_neg c12] at H
                    have c12b0 : decide (t110 < 0) = false := decide_eq_false c12
                    clear c12
                    have H' := Aside0.mk H
                    clear H
                    go_wp2_with (first | ((with_reducible refine gate_callee (f := 19) rfl ?_); refine goesL_ (some 27) rfl rfl Try.func19 (by kernel_rfl) rfl #[.slice (some ad108) l0.length c0, .int .i64 x1_2] rfl (by (try simp only [List.map_toArray, List.map_cons, List.map_nil]); first | done | rfl | (simp only [List.length_drop, List.length_take]; rfl)) ?_; (with_reducible refine (ih k2 (by have := HJ2.out; have := HK2.out; omega) _ _ l0 x1_2 t110 _ ?side1 ?side2 A11.out).mono ?_); (case side1 => repeat (first | exact (Kd.C_below HR0.out HB.out) | (with_reducible refine Kd.C_alloc ?_ _) | (with_reducible refine Kd.C_drewN ?_ _) | (with_reducible refine Kd.C_drew ?_))); (case side2 => exact HC0.out); rintro e w14 ⟨rfl, hb⟩; refine ⟨_, rfl, ?_⟩; have n0_ := Aside0.mk (below_step (by repeat (first | (with_reducible first | exact HB.out | apply below_alloc | apply pw_below_drewN | apply below_drew1) | exact HB.out)) hb); clear HB; have HB := n0_; clear n0_; (try clear hb); (try clear hb2); (try clear hk); (try clear hi)))
                    go_roundg k2
                    case measure => have := HJ2.out; have := HK2.out; omega
                    case rel => exact ⟨(t110), (wrap64 (x5_2 - 1)), (by first | rfl | (simp; done) | (simp [*]; done)), (by first | rfl | (simp; done) | (simp [*]; done)), H', ⟨by have := HJ2.out; have := HK2.out; omega⟩, ⟨by repeat (first | (with_reducible first | exact HB.out | apply below_alloc | apply pw_below_drewN | apply below_drew1) | exact HB.out)⟩⟩
                · rw [if_neg c10] at H
                  have c10b0 : decide (0 < x5_2) = false := decide_eq_false c10
                  clear c10
                  by_cases c15 : x5_2 < 0
                  · rw [if_pos c15] at H
                    have c15b0 : decide (x5_2 < 0) = true := decide_eq_true c15
                    clear c15
                    obtain rfl := Option.some.inj H
                    go_wp2
                    go_ret
                    exact ⟨by first | rfl | (simp [errW_none, errW_some] <;> rfl) | (simp [*, errW_none, errW_some] <;> rfl), by repeat (first | (with_reducible first | exact HB.out | apply below_alloc | apply pw_below_drewN | apply below_drew1) | exact HB.out)⟩
                  · rw [if_neg c15] at H
                    have c15b0 : decide (x5_2 < 0) = false := decide_eq_false c15
                    clear c15
                    obtain rfl := Option.some.inj H
                    go_wp2
                    go_ret
                    exact ⟨by first | rfl | (simp [errW_none, errW_some] <;> rfl) | (simp [*, errW_none, errW_some] <;> rfl), by repeat (first | (with_reducible first | exact HB.out | apply below_alloc | apply pw_below_drewN | apply below_drew1) | exact HB.out)⟩
          · rw [if_neg c7] at H
            exact absurd H (by simp)
        · rw [if_neg c6] at H
          exact absurd H (by simp)

end Go.Proofs.Ythdnaliahdohhaa.D
