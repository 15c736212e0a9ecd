/- What the parameters of the laws of layer 18 read as. -/
import Derived.Test.YthdnaliahdohhaaHopen
import Derived.Test.YthdnaliahdohhaaDx0
namespace Go.Proofs.Ythdnaliahdohhaa.D
open Go.RowKit Go.Proofs.YthdnaliahdohhaaW.PrintWords Go.Proofs.Ythdnaliahdohhaa.Open
theorem o89 : Opens Try.prog 89 k89 (fun _ => True) :=
  Opens.imp (opens_struct (fun x : S89 => (x.f0, x.f1, x.f2, x.f3)) (fun a => ⟨a.1, a.2.1, a.2.2.1, a.2.2.2⟩) (fun _ => rfl) Try.underlying89 (by kernel_rfl)
    (opensF_cons rfl (by kernel_rfl) (opens_int Try.underlying3) (opensF_cons rfl (by kernel_rfl) (opens_int Try.underlying3) (opensF_cons rfl (by kernel_rfl) (opens_int Try.underlying2) (opensF_last rfl (by kernel_rfl) (opens_string Try.underlying9)))))) fun _ _ => trivial
theorem o24 : Opens Try.prog 24 (Kd.iso (Kd.pair Kd.string (Kd.pair (Kd.int .i64) (Kd.pair (Kd.int .i64) (Kd.pair (Kd.int .i64) (Kd.slice 89 k89))))) (fun x : ByteArray × Int × Int × Int × List S89 => x)) (fun _ => True) :=
  Opens.imp (opens_struct (fun x => x) (fun a => a) (fun _ => rfl) Try.underlying24 (by kernel_rfl)
    (opensF_cons rfl (by kernel_rfl) (opens_string Try.underlying9) (opensF_cons rfl (by kernel_rfl) (opens_int Try.underlying3) (opensF_cons rfl (by kernel_rfl) (opens_int Try.underlying3) (opensF_cons rfl (by kernel_rfl) (opens_int Try.underlying3)
      (opensF_last rfl (by kernel_rfl) (opens_slice Try.underlying22 (by kernel_rfl) o89))))))) fun _ _ => trivial
/-- A code, opened. -/
theorem code_open {w : World} {a : ByteArray × Int × Int × Int × List S89} {cs : List Value} (h : (Kd.iso (Kd.pair Kd.string (Kd.pair (Kd.int .i64) (Kd.pair (Kd.int .i64) (Kd.pair (Kd.int .i64) (Kd.slice 89 k89))))) (fun x : ByteArray × Int × Int × Int × List S89 => x)).K w a cs) :
    ∃ (A : Option Addr) (c : Nat), cs = [.string a.1, .int .i64 a.2.1, .int .i64 a.2.2.1, .int .i64 a.2.2.2.1, .slice A a.2.2.2.2.length c] ∧ a.2.2.2.2.length ≤ c ∧ Kd.C k89 w A a.2.2.2.2.length a.2.2.2.2 := by
  obtain ⟨_, _, rfl, rfl, ⟨_, _, rfl, rfl, ⟨_, _, rfl, rfl, ⟨_, _, rfl, rfl, ⟨A, c, rfl, hl, hC⟩⟩⟩⟩⟩ := h
  exact ⟨A, c, rfl, hl, hC⟩
end Go.Proofs.Ythdnaliahdohhaa.D
