/- What the parameters of the laws of layer 5 read as. -/
import Derived.Test.YthdnaliahdohhaaHopen
import Derived.Test.YthdnaliahdohhaaHOopsLast
namespace Go.Proofs.Ythdnaliahdohhaa.O
open Go.RowKit Go.Proofs.YthdnaliahdohhaaW.PrintWords Go.Proofs.Ythdnaliahdohhaa.Open
theorem o112 : Opens Try.prog 112 k112 (fun _ => True) :=
  Opens.imp (opens_struct (fun x : S112 => (x.f0, x.f1, x.f2)) (fun a => ⟨a.1, a.2.1, a.2.2⟩) (fun _ => rfl) Try.underlying112 (by kernel_rfl)
    (opensF_cons rfl (by kernel_rfl) (opens_int Try.underlying3) (opensF_cons rfl (by kernel_rfl) (opens_int Try.underlying3) (opensF_last rfl (by kernel_rfl) (opens_string Try.underlying9))))) fun _ _ => trivial
theorem o44 : Opens Try.prog 44 (Kd.iso (Kd.pair (Kd.slice 112 k112) (Kd.pair (Kd.int .u16) (Kd.pair (Kd.int .u8) Kd.string))) (fun x : List S112 × Int × Int × ByteArray => x)) (fun a => (Lit.int .u16 a.2.1).wf = true ∧ (Lit.int .u8 a.2.2.1).wf = true) :=
  Opens.imp (opens_struct (fun x => x) (fun a => a) (fun _ => rfl) Try.underlying44 (by kernel_rfl)
    (opensF_cons rfl (by kernel_rfl) (opens_slice Try.underlying41 (by kernel_rfl) o112) (opensF_cons rfl (by kernel_rfl) (opens_int Try.underlying42) (opensF_cons rfl (by kernel_rfl) (opens_int Try.underlying5)
      (opensF_last rfl (by kernel_rfl) (opens_string Try.underlying9)))))) fun _ h => ⟨h.2.1, h.2.2.1⟩
theorem back_open {w : World} {a : List S112 × Int × Int × ByteArray} {cs : List Value} (h : (Kd.iso (Kd.pair (Kd.slice 112 k112) (Kd.pair (Kd.int .u16) (Kd.pair (Kd.int .u8) Kd.string))) (fun x : List S112 × Int × Int × ByteArray => x)).K w a cs) :
    ∃ (A : Option Addr) (c : Nat), cs = [.slice A a.1.length c, .int .u16 a.2.1, .int .u8 a.2.2.1, .string a.2.2.2] ∧ a.1.length ≤ c ∧ Kd.C k112 w A a.1.length a.1 := by
  obtain ⟨_, _, rfl, ⟨A, c, rfl, hl, hC⟩, ⟨_, _, rfl, rfl, ⟨_, _, rfl, rfl, rfl⟩⟩⟩ := h
  exact ⟨A, c, rfl, hl, hC⟩
theorem wf_u16 {n : Int} (h : (Lit.int .u16 n).wf = true) : 0 ≤ n ∧ n ≤ 65535 := by
  have h2 := Bool.and_eq_true_iff.1 h; exact ⟨of_decide_eq_true h2.1, of_decide_eq_true h2.2⟩
theorem wf_u8 {n : Int} (h : (Lit.int .u8 n).wf = true) : 0 ≤ n ∧ n ≤ 255 := by
  have h2 := Bool.and_eq_true_iff.1 h; exact ⟨of_decide_eq_true h2.1, of_decide_eq_true h2.2⟩
end Go.Proofs.Ythdnaliahdohhaa.O
