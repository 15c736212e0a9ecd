/- What the parameters of the laws of layer 15 read as. -/
import Derived.Test.YthdnaliahdohhaaHopen
import Derived.Test.YthdnaliahdohhaaHx0
namespace Go.Proofs.Ythdnaliahdohhaa.H
open Go.RowKit Go.Proofs.YthdnaliahdohhaaW.PrintWords Go.Proofs.Ythdnaliahdohhaa.Open
theorem o146 : Opens Try.prog 146 k146 (fun _ => True) :=
  Opens.imp (opens_struct (fun x : S146 => (x.f0, x.f1, x.f2, x.f3)) (fun a => ⟨a.1, a.2.1, a.2.2.1, a.2.2.2⟩) (fun _ => rfl) Try.underlying146 (by kernel_rfl)
    (opensF_cons rfl (by kernel_rfl) (opens_int Try.underlying3) (opensF_cons rfl (by kernel_rfl) (opens_int Try.underlying2) (opensF_cons rfl (by kernel_rfl) (opens_string Try.underlying9) (opensF_last rfl (by kernel_rfl) (opens_int Try.underlying5)))))) fun _ _ => trivial
theorem o54 : Opens Try.prog 54 (Kd.slice 146 k146) (fun _ => True) := Opens.imp (opens_slice Try.underlying54 (by kernel_rfl) o146) fun _ _ => trivial
theorem row_open {w : World} {a : List S146} {A : Option Addr} {n c : Nat} (h : (Kd.slice 146 k146).K w a [.slice A n c]) : n = a.length ∧ a.length ≤ c ∧ Kd.C k146 w A a.length a := by
  obtain ⟨A', c', he, hl, hC⟩ := h
  simp only [List.cons.injEq, Value.slice.injEq, and_true] at he
  obtain ⟨rfl, rfl, rfl⟩ := he
  exact ⟨rfl, hl, hC⟩
end Go.Proofs.Ythdnaliahdohhaa.H
