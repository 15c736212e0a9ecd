/- CompNames: the walk, joined. -/
import Derived.Test.YthdnaliahdohhaaHHnamesW
namespace Go.Proofs.Ythdnaliahdohhaa.H
open Go.RowKit Go.Proofs.YthdnaliahdohhaaW.PrintWords
theorem wf_u16 {n : Int} (h : (Lit.int .u16 n).wf = true) : 0 ≤ n ∧ n < 65536 := by
  simp only [Lit.wf, Bool.and_eq_true, decide_eq_true_eq] at h
  have h1 : IntKind.min .u16 = 0 := by decide
  have h2 : IntKind.max .u16 = 65535 := by decide
  rw [h1, h2] at h
  omega
theorem compNames_walk (l m : List S146) (by_ : Int) (hby : (Lit.int .u16 by_).wf = true) (A B : Option Addr) (c d : Nat) (w : World) (hC : Kd.C k146 w A l.length l) (hc : l.length ≤ c) (hD : Kd.C k146 w B m.length m) (hd : m.length ≤ d) :
    Calls Try.prog 8 #[.slice A l.length c, .slice B m.length d, .int .u16 by_] w fun e w' => e = .returned (.bool true) ∧ Below w.heap.size w w' := by
  have hb := wf_u16 hby
  by_cases hg : 60 < l.length
  · exact cn_1 l m by_ hb A B c d w hC hc hD hd hg
  by_cases hg2 : 60 < m.length
  · exact cn_2 l m by_ hb A B c d w hC hc hD hd hg hg2
  obtain ⟨t, ht, hs, hgood⟩ := good_ok l (by omega)
  obtain ⟨u, hu, hsu, hgoodu⟩ := good_ok m (by omega)
  exact cn_3 l m by_ hb A B c d w hC hc hD hd hg hg2 t u ⟨hgood⟩ ⟨hgoodu⟩ ⟨ht⟩ ⟨hu⟩ ⟨hs⟩ ⟨hsu⟩
end Go.Proofs.Ythdnaliahdohhaa.H
