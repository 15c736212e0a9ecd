/- Goals: what Body defers (goal.Body's closure). -/
import Derived.Test.YthdnaliahdohhaaHHbody
import Derived.Defers
import Derived.Recover
import Derived.Laws.Pointers
namespace Go.Proofs.Ythdnaliahdohhaa.H
open Go.RowKit Go.Proofs.YthdnaliahdohhaaW.PrintWords Go.Proofs.YthdnaliahdohhaaW.PrintLast Go.Proofs.YthdnaliahdohhaaW.PrintMore Go.Proofs.Ythdnaliahdohhaa.Map Go.Proofs.Ythdnaliahdohhaa.Reg
attribute [local go_sem] max2_int min2_int max_two min_two max_three min_three max_four min_four
set_option linter.unusedVariables false
set_option linter.unusedSimpArgs false
set_option maxHeartbeats 8000000 in
set_option maxRecDepth 100000 in
theorem idle_calls (p q : Addr) (w : World) :
    CallsD Try.prog 82 #[.pointer (some p), .pointer (some q)] .returning w fun e u' w' => e = .returned (.tuple #[]) ∧ u' = .returning ∧ w' = w := by
  refine callsD_of_wpS Try.func82 rfl fun c₀ cs hu => ?_
  apply wpS_seq
  apply wpS_region
  simp [wpOpsS, go_sem, recoverD, hu, Try.ntmps82, Exit.thenS]
  refine wpS_of_wp (a := { tmps := #[.pointer (some p), .pointer (some q), undef, undef, undef, .nilIface, undef, undef, undef, undef, undef, undef, undef], defers := [] }) ?_
  go_wp2_with fail
  exact ⟨rfl, .returning, by cases c₀; simp_all, .tuple #[], by simp [results, Try.results82], rfl, rfl, rfl⟩
set_option maxHeartbeats 8000000 in
set_option maxRecDepth 100000 in
theorem catch_calls (g1 g2 : Nat) (x : Int) (n : Int) (a0 a1 a2 a3 : Value) (older : List PanicEntry) (w : World) (h1 : w.heap[g1]? = some (.cells #[a0, a1, a2, a3] 58 (0, 0))) (h2 : w.heap[g2]? = some (.cells #[.int .i64 n] 30 (0, 0))) (hne : g1 ≠ g2) :
    CallsD Try.prog 82 #[.pointer (some ⟨g1, 0, none⟩), .pointer (some ⟨g2, 0, none⟩)] (.panicking ({ v := .iface 30 (.int .i64 x), recovered := false } :: older)) w fun e u' w' => e = .returned (.tuple #[]) ∧ u' = .panicking ({ v := .iface 30 (.int .i64 x), recovered := true } :: older) ∧
      w'.heap[g1]? = some (.cells #[.int .i64 0, .int .i64 0, .string ⟨#[]⟩, .slice none 0 0] 58 (0, 0)) ∧ w'.heap[g2]? = some (.cells #[.int .i64 x] 30 (0, 0)) ∧ (∀ B w0, Below B w0 w → B ≤ g1 → B ≤ g2 → Below B w0 w') := by
  have c0 : w.cell? ⟨g1, 0, none⟩ = some a0 := (blk_cell h1 0).trans rfl
  have c1 : w.cell? ⟨g1, 1, none⟩ = some a1 := (blk_cell h1 1).trans rfl
  have c2 : w.cell? ⟨g1, 2, none⟩ = some a2 := (blk_cell h1 2).trans rfl
  have c3 : w.cell? ⟨g1, 3, none⟩ = some a3 := (blk_cell h1 3).trans rfl
  have z0 := blk_frozen h1 0
  have z1 := blk_frozen h1 1
  have z2 := blk_frozen h1 2
  have z3 := blk_frozen h1 3
  have d0 : w.cell? ⟨g2, 0, none⟩ = some (.int .i64 n) := (blk_cell h2 0).trans rfl
  have y0 := blk_frozen h2 0
  have hta : ∀ w, (Instr.typeAssert (.iface 30 (.int .i64 x)) 20 30 true).run Try.prog w = .ok (.tuple #[.int .i64 x, .bool true]) w := fun w => by kernel_rfl
  refine callsD_of_wpS Try.func82 rfl fun c₀ cs hu => ?_
  apply wpS_seq
  apply wpS_region
  simp [wpOpsS, go_sem, recoverD, hu, Try.ntmps82, Exit.thenS]
  refine wpS_of_wp (a := { tmps := #[.pointer (some ⟨g1, 0, none⟩), .pointer (some ⟨g2, 0, none⟩), undef, undef, undef, .iface 30 (.int .i64 x), undef, undef, undef, undef, undef, undef, undef], defers := [] }) ?_
  have H1 := Aside0.mk h1
  have H2 := Aside0.mk h2
  have Hu := Aside0.mk hu
  clear h1 h2 hu
  go_wp2_with fail
  obtain ⟨s1, s2, s3⟩ := set4 (.int .i64 0) (.int .i64 0) (.string ⟨#[]⟩) (.slice none 0 0) H1.out
  refine ⟨rfl, .panicking ({ v := .iface 30 (.int .i64 x), recovered := true } :: older), rfl, .tuple #[], by simp [results, Try.results82], rfl, rfl, ?_, ?_, ?_⟩
  · exact (Below.heap_setCell _ ⟨g2, 0, none⟩ _ g1 hne).trans s1
  · exact blk_put (cs := #[.int .i64 n]) ((s2 g2 (fun h => hne h.symm)).trans H2.out) 0 _ rfl
  · intro B w0 hb h1 h2
    exact (s3 B w0 hb h1).setCell (p := ⟨g2, 0, none⟩) h2 _
end Go.Proofs.Ythdnaliahdohhaa.H
