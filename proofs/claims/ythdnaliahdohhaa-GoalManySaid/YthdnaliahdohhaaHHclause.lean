/- Goals: a term as a clause (goal.Clause), part. -/
import Derived.Test.YthdnaliahdohhaaHHclause1
import Derived.Test.YthdnaliahdohhaaHHclause2
namespace Go.Proofs.Ythdnaliahdohhaa.H
open Go.RowKit Go.Proofs.YthdnaliahdohhaaW.PrintWords Go.Proofs.YthdnaliahdohhaaW.PrintLast Go.Proofs.YthdnaliahdohhaaW.PrintMore Go.Proofs.Ythdnaliahdohhaa.Map Go.Proofs.Ythdnaliahdohhaa.Reg
attribute [local go_sem] max2_int min2_int max_two min_two max_three min_three max_four min_four
set_option linter.unusedVariables false
set_option linter.unusedSimpArgs false
theorem clause_calls (x : S58) (hx : szT x ≤ 400000) (A : Option Addr) (c : Nat) (w : World) (ok : Nat → Prop) (hok : ∀ q, ok q → q < w.heap.size) (hF : Kd.F k58 w ok A x.f3.length x.f3) (hc : x.f3.length ≤ c) :
    Calls Try.prog 32 #[.agg #[.int .i64 x.f0, .int .i64 x.f1, .string x.f2, .slice A x.f3.length c]] w (ClauseP x w ok) := by
  by_cases he : chk x = 0
  · cases hI : isClause x with
    | true =>
      have hI2 : x.f0 = 4 ∧ x.f2 = ⟨#[58, 45]⟩ ∧ x.f3.length = 2 := by
        unfold isClause at hI; simp at hI; exact ⟨hI.1.1, hI.1.2, hI.2⟩
      have hl2 := hI2.2.2
      have hF' := Kd.F_bound hF
      obtain ⟨ad, B1, d1, ead, e0, e1, e2, e3, hd1, hF1⟩ := at_F hF' ((0 : Nat) : Int) (by omega) (by omega)
      obtain ⟨ad', B2, d2, ead', e4, e5, e6, e7, hd2, hF2⟩ := at_F hF' ((1 : Nat) : Int) (by omega) (by omega)
      obtain rfl : ad = ad' := by rw [ead] at ead'; injection ead'
      obtain ⟨k, m, s, l⟩ := x
      obtain ⟨a, b, rfl⟩ : ∃ a b, l = [a, b] := by
        match l, hl2 with
        | [a, b], _ => exact ⟨a, b, rfl⟩
      have hr0 : rd_T58 [a, b] ((0 : Nat) : Int) = a := rfl
      have hr1 : rd_T58 [a, b] ((1 : Nat) : Int) = b := rfl
      try dsimp only at e0 e1 e2 e3 e4 e5 e6 e7 hd1 hd2 hF1 hF2
      rw [hr0] at e0 e1 e2 e3 hd1 hF1
      rw [hr1] at e4 e5 e6 e7 hd2 hF2
      try dsimp only at ead
      subst ead
      have hpost : ∀ e w', ClauseP ⟨k, m, s, [a, b]⟩ w (fun q => ok q ∧ q < w.heap.size) e w' → ClauseP ⟨k, m, s, [a, b]⟩ w ok e w' := by
        rintro e w' ⟨v1, v2, v3, h1, h2, h3, h4, h5⟩
        exact ⟨v1, v2, v3, h1, h2.mono (fun q hq => hq.imp (fun h => h.1) id), h3.mono (fun q hq => hq.imp (fun h => h.1) id), h4.mono (fun q hq => hq.imp (fun h => h.1) id), h5⟩
      exact (clause_1 k m s a b ad c w _ (fun _ h => h.2) hx hF' hc he ⟨hI2.1, hI2.2.1⟩ B1 B2 d1 d2 e0 e1 e2 e3 e4 e5 e6 e7 hd1 hd2 hF1 hF2).mono hpost
    | false => exact clause_n x hx A c w ok hok hF hc he hI
  · exact clause_err x hx A c w ok hok hF hc he
end Go.Proofs.Ythdnaliahdohhaa.H
