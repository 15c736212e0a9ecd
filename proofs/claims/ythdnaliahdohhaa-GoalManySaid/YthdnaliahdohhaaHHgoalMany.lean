/- GoalMany: the walk, joined; what its parameter reads as. -/
import Derived.Test.YthdnaliahdohhaaHHgoalMany0
import Derived.Test.YthdnaliahdohhaaHHopenParts
namespace Go.Proofs.Ythdnaliahdohhaa.H
open Go.RowKit Go.Proofs.YthdnaliahdohhaaW.PrintWords Go.Proofs.Ythdnaliahdohhaa.Open
theorem o76 : Opens Try.prog 76 (Kd.slice 54 (Kd.slice 146 k146)) (fun _ => True) := Opens.imp (opens_slice Try.underlying76 (by kernel_rfl) o54) fun _ _ => trivial
theorem rows_open {w : World} {a : List (List S146)} {A : Option Addr} {n c : Nat} (h : (Kd.slice 54 (Kd.slice 146 k146)).K w a [.slice A n c]) : n = a.length ∧ a.length ≤ c ∧ Kd.C (Kd.slice 146 k146) w A a.length a := by
  obtain ⟨A', c', he, hl, hC⟩ := h
  simp only [List.cons.injEq, Value.slice.injEq, and_true] at he
  obtain ⟨rfl, rfl, rfl⟩ := he
  exact ⟨rfl, hl, hC⟩
theorem goalMany_walk (ls : List (List S146)) (A : Option Addr) (c : Nat) (w : World) (hC : Kd.C (Kd.slice 146 k146) w A ls.length ls) :
    Calls Try.prog 10 #[.slice A ls.length c] w fun e w' => e = .returned (.bool true) ∧ Below w.heap.size w w' := by
  by_cases hn : ls.length = 0
  · exact gm_0 ls A c w hC hn
  by_cases hn2 : 12 < ls.length
  · exact gm_13 ls A c w hC hn2
  exact gm_walk ls A c w hC hn hn2
end Go.Proofs.Ythdnaliahdohhaa.H
