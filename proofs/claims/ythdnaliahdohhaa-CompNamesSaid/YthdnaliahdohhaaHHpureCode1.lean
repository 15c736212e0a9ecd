/- To, From, Same of codes: what they compute. -/
import Derived.Test.YthdnaliahdohhaaHy2
import Derived.Test.YthdnaliahdohhaaHy3
namespace Go.Proofs.Ythdnaliahdohhaa.H
open Go.RowKit Go.Proofs.YthdnaliahdohhaaW.PrintWords Go.Proofs.YthdnaliahdohhaaW.PrintLast Go.Proofs.YthdnaliahdohhaaW.PrintMore
set_option linter.unusedVariables false
set_option linter.unusedSimpArgs false
theorem wrapI {x : Int} (h0 : -9223372036854775808 ≤ x) (h1 : x ≤ 9223372036854775807) : wrap64 x = x := by unfold wrap64; omega
def conv (x : S89) : S39 := ⟨x.f0, x.f1, x.f2, x.f3⟩
def vnoc (x : S39) : S89 := ⟨x.f0, x.f1, x.f2, x.f3⟩
theorem vnoc_conv (l : List S89) : (l.map conv).map vnoc = l := by
  rw [List.map_map]
  have : (vnoc ∘ conv) = id := by funext x; rfl
  rw [this, List.map_id]
theorem drop_cons89 (l : List S89) (i : Nat) (h : i < l.length) : l.drop i = rd_T89 l i :: l.drop (i + 1) := by
  rw [List.drop_eq_getElem_cons h]
  simp only [rd_T89, Int.toNat_natCast, List.getD_eq_getElem?_getD, List.getElem?_eq_getElem h, Option.getD_some]
theorem drop_cons39 (l : List S39) (i : Nat) (h : i < l.length) : l.drop i = rd_T39 l i :: l.drop (i + 1) := by
  rw [List.drop_eq_getElem_cons h]
  simp only [rd_T39, Int.toNat_natCast, List.getD_eq_getElem?_getD, List.getElem?_eq_getElem h, Option.getD_some]
theorem rd_conv (l : List S89) (i : Nat) (h : i < l.length) : rd_T39 (l.map conv) i = conv (rd_T89 l i) := by
  simp only [rd_T39, rd_T89, Int.toNat_natCast, List.getD_eq_getElem?_getD, List.getElem?_map, List.getElem?_eq_getElem h, Option.getD_some, Option.map_some]
theorem To_l0 (l : List S89) (hl : l.length ≤ 1000000) (n : ByteArray) (a s b : Int) : ∀ (d : Nat) (i : Nat) (acc : List S39), i + d = l.length → acc.length = i →
    Ev (fun k => prolixlaw18_To.l0 k l (l.length : Int) (i : Int) n a s b acc) (n, a, s, b, acc ++ (l.drop i).map conv)
  | 0, i, acc, hi, ha => by
    rw [List.drop_of_length_le (by omega)]
    refine Ev.step (f := fun k => some (n, a, s, b, acc)) (fun k => by simp only [prolixlaw18_To.l0]; rw [if_neg (by omega)]) ?_
    simp only [List.map_nil, List.append_nil]
    exact Ev.now _
  | d + 1, i, acc, hi, ha => by
    have := To_l0 l hl n a s b d (i + 1) (acc ++ [(⟨(rd_T89 l i).f0, (rd_T89 l i).f1, (rd_T89 l i).f2, (rd_T89 l i).f3⟩ : S39)]) (by omega) (by simp; omega)
    rw [drop_cons89 l i (by omega)]
    refine Ev.step (f := fun k => prolixlaw18_To.l0 k l (l.length : Int) ((i + 1 : Nat) : Int) n a s b (acc ++ [(⟨(rd_T89 l i).f0, (rd_T89 l i).f1, (rd_T89 l i).f2, (rd_T89 l i).f3⟩ : S39)])) (fun k => by
      simp only [prolixlaw18_To.l0]
      rw [if_pos (by omega), if_pos (by omega), if_pos (by omega), if_pos (by omega), wrapI (by omega) (by omega)]; rfl) ?_
    simp only [List.map_cons, List.append_assoc, List.singleton_append] at this ⊢
    exact this
theorem To_ev (n : ByteArray) (a s b : Int) (l : List S89) (hl : l.length ≤ 1000000) : Ev (fun k => prolixlaw18_To.f k n a s b l) (n, a, s, b, l.map conv) := by
  have := To_l0 l hl n a s b l.length 0 [] (by omega) rfl
  simp only [List.nil_append, List.drop_zero] at this
  exact this
theorem From_l0 (l : List S39) (hl : l.length ≤ 1000000) (n : ByteArray) (a s b : Int) : ∀ (d : Nat) (i : Nat) (acc : List S89), i + d = l.length → acc.length = i →
    Ev (fun k => prolixlaw18_From.l0 k l (l.length : Int) (i : Int) n a s b acc) (n, a, s, b, acc ++ (l.drop i).map vnoc)
  | 0, i, acc, hi, ha => by
    rw [List.drop_of_length_le (by omega)]
    refine Ev.step (f := fun k => some (n, a, s, b, acc)) (fun k => by simp only [prolixlaw18_From.l0]; rw [if_neg (by omega)]) ?_
    simp only [List.map_nil, List.append_nil]
    exact Ev.now _
  | d + 1, i, acc, hi, ha => by
    have := From_l0 l hl n a s b d (i + 1) (acc ++ [(⟨(rd_T39 l i).f0, (rd_T39 l i).f1, (rd_T39 l i).f2, (rd_T39 l i).f3⟩ : S89)]) (by omega) (by simp; omega)
    rw [drop_cons39 l i (by omega)]
    refine Ev.step (f := fun k => prolixlaw18_From.l0 k l (l.length : Int) ((i + 1 : Nat) : Int) n a s b (acc ++ [(⟨(rd_T39 l i).f0, (rd_T39 l i).f1, (rd_T39 l i).f2, (rd_T39 l i).f3⟩ : S89)])) (fun k => by
      simp only [prolixlaw18_From.l0]
      rw [if_pos (by omega), if_pos (by omega), if_pos (by omega), if_pos (by omega), wrapI (by omega) (by omega)]; rfl) ?_
    simp only [List.map_cons, List.append_assoc, List.singleton_append] at this ⊢
    exact this
theorem From_ev (n : ByteArray) (a s b : Int) (l : List S39) (hl : l.length ≤ 1000000) : Ev (fun k => prolixlaw18_From.f k n a s b l) (n, a, s, b, l.map vnoc) := by
  have := From_l0 l hl n a s b l.length 0 [] (by omega) rfl
  simp only [List.nil_append, List.drop_zero] at this
  exact this
theorem Same_l0 (l : List S89) (hl : l.length ≤ 1000000) (n : ByteArray) (a s b : Int) : ∀ (d : Nat) (i : Nat), i + d = l.length →
    Ev (fun k => prolixref18_Same.l0 k (l.length : Int) (i : Int) n a s b l n a s b l) true
  | 0, i, hi => Ev.step (f := fun k => some true) (fun k => by simp only [prolixref18_Same.l0]; rw [if_neg (by omega)]) (Ev.now _)
  | d + 1, i, hi => by
    have := Same_l0 l hl n a s b d (i + 1) (by omega)
    refine Ev.step (f := fun k => prolixref18_Same.l0 k (l.length : Int) ((i + 1 : Nat) : Int) n a s b l n a s b l) (fun k => by
      simp only [prolixref18_Same.l0]
      rw [if_pos (by omega), if_pos (by omega), if_pos (by omega), if_pos (by omega), if_neg (by simp), wrapI (by omega) (by omega)]; rfl) this
theorem Same_ev (n : ByteArray) (a s b : Int) (l : List S89) (hl : l.length ≤ 1000000) : Ev (fun k => prolixref18_Same.f k n a s b l n a s b l) true := by
  unfold prolixref18_Same.f
  simp only [if_true, bne_self_eq_false]
  refine Ev.step (f := fun k => prolixref18_Same.l0 k (l.length : Int) 0 n a s b l n a s b l) (fun k => by simp only [prolixref18_Same.j0, Bool.false_eq_true, if_false]) ?_
  exact Same_l0 l hl n a s b l.length 0 (by omega)
end Go.Proofs.Ythdnaliahdohhaa.H
