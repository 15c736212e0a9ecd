/- comp: the compiler's state; a variable's instruction. -/
import Derived.Test.YthdnaliahdohhaaHHcount
namespace Go.Proofs.Ythdnaliahdohhaa.H
open Go.RowKit Go.Proofs.YthdnaliahdohhaaW.PrintWords Go.Proofs.YthdnaliahdohhaaW.PrintLast Go.Proofs.YthdnaliahdohhaaW.PrintMore Go.Proofs.Ythdnaliahdohhaa.Map
attribute [local go_sem] max2_int min2_int max_two min_two max_three min_three max_four min_four
set_option linter.unusedVariables false
set_option linter.unusedSimpArgs false
/-- The compiler in memory: its instructions L (a row of its own), how often variables are met (T), their slots (S). -/
structure CS (w0 w : World) (g mt ms : Nat) (v : Value) (L : List S39) (T S : List (Int × Int)) : Prop where
  below : Below w0.heap.size w0 w
  box : w.heap[g]? = some (.cells #[v, .map (some mt), .map (some ms)] 142 (0, 0))
  tab : Is iV iV w mt T
  slots : Is iV iV w ms S
  row : Kd.N k39 39 w w0.heap.size (fun k => w0.heap.size ≤ k ∧ k ≠ g ∧ k ≠ mt ∧ k ≠ ms) v L
  lg : w0.heap.size ≤ g
  lt : w0.heap.size ≤ mt
  ls : w0.heap.size ≤ ms
  ne : mt ≠ ms
/-- what a step of the compiler writes: its own block, its slots, its row -/
def CW (g ms : Nat) (v : Value) : Nat → Prop := fun k => k = g ∨ k = ms ∨ v.ownBlock = some k
structure CStep (w w1 : World) (g ms : Nat) (v v1 : Value) : Prop where
  mods : Mods (CW g ms v) w w1
  at_ : v1.ownBlock = v.ownBlock ∨ ∃ b, v1.ownBlock = some b ∧ w.heap.size ≤ b
theorem CStep.of_below {w w1 : World} (g ms : Nat) (v : Value) (h : Below w.heap.size w w1) : CStep w w1 g ms v v := ⟨Mods.of_below _ h, .inl rfl⟩
theorem CStep.trans {w w1 w2 : World} {g ms : Nat} {v v1 v2 : Value} (h : CStep w w1 g ms v v1) (k : CStep w1 w2 g ms v1 v2) : CStep w w2 g ms v v2 := by
  refine ⟨h.mods.then k.mods (fun q hq => ?_), ?_⟩
  · rcases hq with hq | hq | hq
    · exact .inl (.inl hq)
    · exact .inl (.inr (.inl hq))
    · rcases h.at_ with e | ⟨b, e, hb⟩
      · rw [e] at hq; exact .inl (.inr (.inr hq))
      · rw [e] at hq; injection hq with hq; exact .inr (by omega)
  · rcases k.at_ with e | ⟨b, e, hb⟩
    · rw [e]; exact h.at_
    · exact .inr ⟨b, e, by have := h.mods.size; omega⟩
theorem CS.step {w0 w w1 : World} {g mt ms : Nat} {v : Value} {L : List S39} {T S : List (Int × Int)} (h : CS w0 w g mt ms v L T S) (hb : Below w.heap.size w w1) : CS w0 w1 g mt ms v L T S :=
  ⟨below_step h.below hb, blk_below h.box hb, h.tab.mods (Mods.of_below (fun _ => False) hb) id, h.slots.mods (Mods.of_below (fun _ => False) hb) id, Kd.N_below h.row hb, h.lg, h.lt, h.ls, h.ne⟩
theorem CS.turn {w0 w w1 : World} {g mt ms : Nat} {v : Value} {L : List S39} {T S S1 : List (Int × Int)} (h : CS w0 w g mt ms v L T S) (hb : Mods (fun k => k = ms) w w1) (hs : Is iV iV w1 ms S1) : CS w0 w1 g mt ms v L T S1 :=
  ⟨hb.under h.below (Nat.le_refl _) (fun k hk => by rw [hk]; exact h.ls), hb.blk h.box (fun e => h.slots.ne_cells h.box e), h.tab.mods hb h.ne, hs, Kd.N_step h.row (fun k hk hl => hb.block k hl hk.2.2.2), h.lg, h.lt, h.ls, h.ne⟩
theorem mods4 (w : World) (g : Nat) (a b c d : Value) : Mods (fun k => k = g) w ((((w.setCell ⟨g, 0, none⟩ a).setCell ⟨g, 1, none⟩ b).setCell ⟨g, 2, none⟩ c).setCell ⟨g, 3, none⟩ d) :=
  (((Mods.of_cell w ⟨g, 0, none⟩ a).then (Mods.of_cell _ ⟨g, 1, none⟩ b) (fun _ h => .inl h)).then (Mods.of_cell _ ⟨g, 2, none⟩ c) (fun _ h => .inl h)).then (Mods.of_cell _ ⟨g, 3, none⟩ d) (fun _ h => .inl h)
theorem Is.lookI {w : World} {b : Nat} {L : List (Int × Int)} (h : Is iV iV w b L) (a : Int) : (Instr.lookup 140 (.map (some b)) (.int .i64 a) false).run Try.prog w = .ok (.int .i64 ((lookK a L).getD 0)) w := by
  have := h.lookup intK und140 (zero3 w) a false
  simp only [map_getD, Bool.false_eq_true, if_false] at this
  exact this
theorem Is.lookB {w : World} {b : Nat} {L : List (Int × Int)} (h : Is iV iV w b L) (a : Int) : (Instr.lookup 140 (.map (some b)) (.int .i64 a) true).run Try.prog w = .ok (.tuple #[.int .i64 ((lookK a L).getD 0), .bool (lookK a L).isSome]) w := by
  have := h.lookup intK und140 (zero3 w) a true
  simp only [map_getD, if_true] at this
  exact this
theorem Is.putI {w : World} {b : Nat} {L : List (Int × Int)} (h : Is iV iV w b L) (a v : Int) : ∃ w', (Instr.mapUpdate 140 (.map (some b)) (.int .i64 a) (.int .i64 v)).run Try.prog w = .ok () w' ∧ Is iV iV w' b (putK a v L) ∧ w.mapTurned w' b := h.update intK und140 a v
theorem Is.lenI {w : World} {b : Nat} {L : List (Int × Int)} (h : Is iV iV w b L) (ty : TypeId) : (Builtin.len_ #[140] ty #[.map (some b)]).run Try.prog w = .ok (.int .i64 L.length) w := h.len und140 ty
def varI (n : Int) (T S : List (Int × Int)) : S39 := if (lookK n T).getD 0 = 1 then ⟨1, 0, 0, ⟨#[]⟩⟩ else if (lookK n S).isSome then ⟨3, (lookK n S).getD 0, 0, ⟨#[]⟩⟩ else ⟨2, (S.length : Int), 0, ⟨#[]⟩⟩
def varS (n : Int) (T S : List (Int × Int)) : List (Int × Int) := if (lookK n T).getD 0 = 1 then S else if (lookK n S).isSome then S else putK n (S.length : Int) S
set_option maxHeartbeats 8000000 in
set_option maxRecDepth 100000 in
theorem variable_calls (n : Int) (w0 w : World) (g mt ms : Nat) (v : Value) (L : List S39) (T S : List (Int × Int)) (hI : CS w0 w g mt ms v L T S) :
    Calls Try.prog 101 #[.pointer (some ⟨g, 0, none⟩), .int .i64 n] w fun e w' => e = .returned (.agg #[.int .i64 (varI n T S).f0, .int .i64 (varI n T S).f1, .int .i64 (varI n T S).f2, .string (varI n T S).f3]) ∧ CS w0 w' g mt ms v L T (varS n T S) ∧ CStep w w' g ms v v := by
  have hb := below_alloc (Below.refl w.heap.size w) (.cells #[.int .i64 0, .int .i64 0, .int .i64 0, .string ⟨#[]⟩] 39)
  have HI := Aside0.mk (hI.step hb)
  have HJ := Aside0.mk hI
  have BR := heap_alloc_new w (.cells #[.int .i64 0, .int .i64 0, .int .i64 0, .string ⟨#[]⟩] 39)
  have z0 := blk_frozen BR 0
  have z1 := blk_frozen BR 1
  have z2 := blk_frozen BR 2
  have z3 := blk_frozen BR 3
  have d0 := (blk_cell BR 0).trans rfl
  have d1 := (blk_cell BR 1).trans rfl
  have d2 := (blk_cell BR 2).trans rfl
  have d3 := (blk_cell BR 3).trans rfl
  have c0 := (blk_cell HI.out.box 0).trans rfl
  have c1 := (blk_cell HI.out.box 1).trans rfl
  have c2 := (blk_cell HI.out.box 2).trans rfl
  have hl1 := Is.lookI HI.out.tab n
  have hl2 := Is.lookB HI.out.slots n
  have hl3 := Is.lenI HI.out.slots 3
  replace BR := Aside0.mk BR
  clear hb hI
  go_enter Try.func101, Try.ntmps101
  by_cases h1 : (lookK n T).getD 0 = 1
  · have h2 : ((lookK n T).getD 0 == 1) = true := by simpa using h1
    have e1 : varI n T S = ⟨1, 0, 0, ⟨#[]⟩⟩ := if_pos h1
    have e2 : varS n T S = S := if_pos h1
    rw [e1, e2]
    clear e1 e2
    go_wp2_with fail
    refine bodyPost_ret (results_cell_row rfl _ _ _ 39 #[.int .i64 1, .int .i64 0, .int .i64 0, .string ⟨#[]⟩] (0, 0) _ rfl (heap_alloc_new _ _) Try.underlying39 rfl (by kernel_rfl)) rfl ?_
    exact ⟨rfl, HJ.out.step (below_alloc (Below.refl _ _) _), CStep.of_below _ _ _ (below_alloc (Below.refl _ _) _)⟩
  · have h2 : ((lookK n T).getD 0 == 1) = false := by simpa using h1
    by_cases h3 : (lookK n S).isSome = true
    · have e1 : varI n T S = ⟨3, (lookK n S).getD 0, 0, ⟨#[]⟩⟩ := by unfold varI; rw [if_neg h1, if_pos h3]
      have e2 : varS n T S = S := by unfold varS; rw [if_neg h1, if_pos h3]
      rw [e1, e2]
      clear e1 e2
      go_wp2_with fail
      refine bodyPost_ret (results_cell_row rfl _ _ _ 39 #[.int .i64 3, .int .i64 ((lookK n S).getD 0), .int .i64 0, .string ⟨#[]⟩] (0, 0) _ rfl (heap_alloc_new _ _) Try.underlying39 rfl (by kernel_rfl)) rfl ?_
      exact ⟨rfl, HJ.out.step (below_alloc (Below.refl _ _) _), CStep.of_below _ _ _ (below_alloc (Below.refl _ _) _)⟩
    · have e1 : varI n T S = ⟨2, (S.length : Int), 0, ⟨#[]⟩⟩ := by unfold varI; rw [if_neg h1, if_neg h3]
      have e2 : varS n T S = putK n (S.length : Int) S := by unfold varS; rw [if_neg h1, if_neg h3]
      have h4 : (lookK n S).isSome = false := by simpa using h3
      rw [e1, e2]
      clear e1 e2 h3
      obtain ⟨w3, hput, hI3, hT3⟩ := Is.putI HI.out.slots n (S.length : Int)
      have hn1 := HI.out.slots.ne_cells BR.out
      have hn2 := HI.out.slots.ne_cells HI.out.box
      have BR3 := (Mods.of_map hT3).blk BR.out hn1
      have y0 := blk_frozen BR3 0
      have y1 := blk_frozen BR3 1
      have y2 := blk_frozen BR3 2
      have y3 := blk_frozen BR3 3
      have f0 := (blk_cell BR3 0).trans rfl
      have f1 := (blk_cell BR3 1).trans rfl
      have f2 := (blk_cell BR3 2).trans rfl
      have f3 := (blk_cell BR3 3).trans rfl
      have hI3 := Aside0.mk hI3
      have hT3 := Aside0.mk hT3
      replace BR3 := Aside0.mk BR3
      go_wp2_with fail
      obtain ⟨s1, s2, s3⟩ := set4 (.int .i64 2) (.int .i64 (S.length : Int)) (.int .i64 0) (.string ⟨#[]⟩) BR3.out
      refine bodyPost_ret (results_cell_row rfl _ _ _ 39 #[.int .i64 2, .int .i64 (S.length : Int), .int .i64 0, .string ⟨#[]⟩] (0, 0) _ rfl s1 Try.underlying39 rfl (by kernel_rfl)) rfl ?_
      have m1 : Mods (fun k => k = ms) w w3 := (Mods.of_alloc _ w (.cells #[.int .i64 0, .int .i64 0, .int .i64 0, .string ⟨#[]⟩] 39)).then (Mods.of_map hT3.out) (fun _ h => .inl h)
      have m2 := mods4 w3 w.heap.size (.int .i64 2) (.int .i64 (S.length : Int)) (.int .i64 0) (.string ⟨#[]⟩)
      have m3 := m1.then m2 (fun k hk => .inr (by omega))
      exact ⟨rfl, HJ.out.turn m3 (hI3.out.mods m2 (fun e => hn1 e.symm)), ⟨m3.mono (fun k hk => .inl (.inr (.inl hk))), .inl rfl⟩⟩
end Go.Proofs.Ythdnaliahdohhaa.H
