/- code.Skip answers what the plain function skp says: where the pattern behind a place ends. By the printed contract of code.Skip; lists of at most 100000 instructions. -/
import Derived.Test.YthdnaliahdohhaaDx2
namespace Go.Proofs.Ythdnaliahdohhaa.D
open Go.RowKit Go.Proofs.YthdnaliahdohhaaW.PrintWords Go.Proofs.YthdnaliahdohhaaW.PrintLast Go.Proofs.YthdnaliahdohhaaW.PrintMore
set_option linter.unusedVariables false
set_option linter.unusedSimpArgs false
def partsI (i : S39) : Option Nat :=
  if i.f0 < 1 ∨ 6 < i.f0 then none else if i.f0 < 6 then some 0 else if i.f1 < 1 ∨ 255 < i.f1 then none else some i.f1.toNat
/-- how many instructions 'n' patterns take from the front -/
def takeP : Nat → List S39 → Option Nat
  | 0, _ => some 0
  | _ + 1, [] => none
  | n + 1, i :: l => match partsI i with
    | none => none
    | some a => (takeP (n + a) l).map (· + 1)
def skp (l : List S39) (i : Int) : Int :=
  if i < 0 then -1 else if (l.length : Int) ≤ i then -1 else match takeP 1 (l.drop i.toNat) with
    | none => -1
    | some m => i + m
theorem takeP_le : ∀ (l : List S39) (n m : Nat), takeP n l = some m → m ≤ l.length
  | l, 0, m, h => by simp [takeP] at h; omega
  | [], n + 1, m, h => by simp [takeP] at h
  | i :: l, n + 1, m, h => by
    simp only [takeP] at h
    split at h
    · simp at h
    · next a _ =>
      obtain ⟨q, h1, rfl⟩ := Option.map_eq_some_iff.1 h
      have := takeP_le l _ q h1
      simp; omega
theorem takeP_add : ∀ (l : List S39) (a b : Nat), takeP (a + b) l = (takeP a l).bind fun m => (takeP b (l.drop m)).map (· + m)
  | l, 0, b => by simp [takeP]
  | [], a + 1, b => by rw [show a + 1 + b = (a + b) + 1 by omega]; simp [takeP]
  | i :: l, a + 1, b => by
    rw [show a + 1 + b = (a + b) + 1 by omega]
    simp only [takeP]
    split
    · simp
    · next n _ =>
      rw [show a + b + n = (a + n) + b by omega, takeP_add l (a + n) b]
      cases h : takeP (a + n) l with
      | none => simp
      | some m =>
        simp only [Option.bind_some, Option.map_some, List.drop_succ_cons]
        cases takeP b (l.drop m) <;> simp; omega
def partsZ (i : S39) : Int := match partsI i with | none => -1 | some a => a
theorem parts_ev (i : S39) : Ev (fun k => code_Instr_parts.f k i.f0 i.f1 i.f2 i.f3) (partsZ i) := by
  refine ⟨5, fun k hk => ?_⟩
  obtain ⟨k, rfl⟩ : ∃ m, k = m + 5 := ⟨k - 5, by omega⟩
  unfold code_Instr_parts.f partsZ partsI
  simp only [code_Instr_parts.j0]
  by_cases h1 : i.f0 < 1
  · simp [h1]
  by_cases h2 : 6 < i.f0
  · simp [h1, h2]
  by_cases h3 : i.f0 < 6
  · simp [h1, h2, h3]
  by_cases h4 : i.f1 < 1
  · simp [h1, h2, h3, h4, code_Instr_parts.j1]
  by_cases h5 : 255 < i.f1
  · simp [h1, h2, h3, h4, h5, code_Instr_parts.j1]
  simp [h1, h2, h3, h4, h5, code_Instr_parts.j1]
  omega
theorem partsZ_none {i : S39} (h : partsI i = none) : partsZ i = -1 := by unfold partsZ; rw [h]
theorem partsZ_some {i : S39} {a : Nat} (h : partsI i = some a) : partsZ i = a := by unfold partsZ; rw [h]
theorem partsI_le {i : S39} {a : Nat} (h : partsI i = some a) : a ≤ 255 := by
  unfold partsI at h
  (repeat' split at h) <;> simp at h <;> omega
theorem wrapI {x : Int} (h0 : -9223372036854775808 ≤ x) (h1 : x ≤ 9223372036854775807) : wrap64 x = x := by unfold wrap64; omega
/-- what is behind 'n' patterns from a place on -/
def behind (l : List S39) (i : Int) (n : Int) : Int := if n < 0 then -1 else match takeP n.toNat (l.drop i.toNat) with | none => -1 | some m => i + m
theorem behind_zero (l : List S39) (i : Int) : behind l i 0 = i := by simp [behind, takeP]
theorem skip_ev (l : List S39) (hl : l.length ≤ 9223372036854775806) : ∀ (d : Nat), 
    (∀ (i : Int), 0 ≤ i → i ≤ l.length → (l.length : Int) - i = d → Ev (fun k => code_Skip.f k l i) (skp l i)) ∧
    (∀ (i : Int) (n : Int), 0 ≤ i → i ≤ l.length → (l.length : Int) - i = d → n ≤ 255 → -1 ≤ n → Ev (fun k => code_Skip.l0 k l i n) (behind l i n)) := by
  intro d
  induction d using Nat.strongRecOn with
  | _ d ih =>
  have hf : ∀ (i : Int), 0 ≤ i → i ≤ l.length → (l.length : Int) - i = d → Ev (fun k => code_Skip.f k l i) (skp l i) := by
    intro i h0 h1 hd
    refine Ev.step (f := fun k => if i < 0 then (code_Skip.j0 k l i true) else (code_Skip.j0 k l i (decide (i ≥ (l.length : Int))))) (fun k => by simp only [code_Skip.f]) ?_
    simp only [if_neg (show ¬ i < 0 by omega)]
    by_cases hi : i ≥ (l.length : Int)
    · have e : skp l i = -1 := by unfold skp; rw [if_neg (by omega), if_pos (by omega)]
      rw [e]
      simp only [hi, decide_true]
      refine Ev.step (f := fun k => some (-1)) (fun k => by simp only [code_Skip.j0, if_true]) (Ev.now _)
    · simp only [hi, decide_false]
      refine Ev.step (f := fun k => ((code_Instr_parts.f k ((rd_T39 l i).f0) ((rd_T39 l i).f1) ((rd_T39 l i).f2) ((rd_T39 l i).f3)).bind fun t103 => (code_Skip.l0 k l (wrap64 (i + 1)) t103))) (fun k => by simp only [code_Skip.j0, Bool.false_eq_true, if_false]; rw [if_pos h0, if_pos (by omega)]) ?_
      refine Ev.bind (parts_ev (rd_T39 l i)) ?_
      rw [wrapI (by omega) (by omega)]
      have hlt : i.toNat < l.length := by omega
      have hdrop : l.drop i.toNat = rd_T39 l i :: l.drop (i + 1).toNat := by
        rw [List.drop_eq_getElem_cons hlt, show (i + 1).toNat = i.toNat + 1 by omega]
        simp only [rd_T39, List.getD_eq_getElem?_getD, List.getElem?_eq_getElem hlt, Option.getD_some]
      have e : skp l i = behind l (i + 1) (partsZ (rd_T39 l i)) := by
        unfold skp behind
        rw [if_neg (by omega), if_neg (by omega), hdrop]
        simp only [takeP]
        cases hp : partsI (rd_T39 l i) with
        | none => rw [partsZ_none hp]; simp
        | some a =>
          rw [partsZ_some hp, if_neg (by omega)]
          simp only [Int.toNat_natCast, Nat.zero_add]
          cases takeP a (l.drop (i + 1).toNat) with
          | none => simp
          | some m => simp; omega
      rw [e]
      have hb : partsZ (rd_T39 l i) ≤ 255 ∧ -1 ≤ partsZ (rd_T39 l i) := by
        cases hp : partsI (rd_T39 l i) with
        | none => rw [partsZ_none hp]; omega
        | some a => rw [partsZ_some hp]; have := partsI_le hp; omega
      exact (ih (d - 1) (by omega)).2 (i + 1) _ (by omega) (by omega) (by omega) hb.1 hb.2
  refine ⟨hf, ?_⟩
  intro i n h0 h1 hd hn hn0
  by_cases hp : n > 0
  · refine Ev.step (f := fun k => ((code_Skip.f k l i).bind fun t104 => (if t104 < 0 then (some (-1)) else (code_Skip.l0 k l t104 (wrap64 (n - 1)))))) (fun k => by simp only [code_Skip.l0]; rw [if_pos hp]) ?_
    refine Ev.bind (hf i h0 h1 hd) ?_
    have hs : takeP n.toNat (l.drop i.toNat) = (takeP 1 (l.drop i.toNat)).bind fun m => (takeP (n - 1).toNat ((l.drop i.toNat).drop m)).map (· + m) := by
      rw [show n.toNat = 1 + (n - 1).toNat by omega, takeP_add]
    by_cases hk : skp l i < 0
    · have e : behind l i n = -1 := by
        unfold behind
        rw [if_neg (by omega), hs]
        unfold skp at hk
        rw [if_neg (by omega)] at hk
        split at hk
        · next h2 =>
          have h3 : l.drop i.toNat = [] := by rw [List.drop_eq_nil_iff]; omega
          rw [h3]; simp [takeP]
        · split at hk
          · next h3 => rw [h3]; simp
          · omega
      rw [e]
      simp only [hk, if_true]
      exact Ev.now _
    · simp only [hk, if_false]
      rw [wrapI (by omega) (by omega)]
      have hk' := hk
      unfold skp at hk'
      rw [if_neg (by omega)] at hk'
      split at hk'
      · omega
      · next h2 =>
        split at hk'
        · omega
        · next m hm =>
          have e1 : skp l i = i + m := by unfold skp; rw [if_neg (by omega), if_neg h2, hm]
          have hle := takeP_le _ _ _ hm
          rw [List.length_drop] at hle
          have hpos : 0 < m := by
            cases hd2 : l.drop i.toNat with
            | nil => rw [hd2] at hm; simp [takeP] at hm
            | cons j t =>
              rw [hd2] at hm
              simp only [takeP] at hm
              split at hm
              · simp at hm
              · obtain ⟨q, _, rfl⟩ := Option.map_eq_some_iff.1 hm; omega
          have e : behind l i n = behind l (i + m) (n - 1) := by
            unfold behind
            rw [if_neg (by omega), if_neg (by omega), hs, hm]
            simp only [Option.bind_some, List.drop_drop]
            rw [show (i + (m : Int)).toNat = i.toNat + m by omega]
            cases takeP (n - 1).toNat (l.drop (i.toNat + m)) with
            | none => simp
            | some q => simp; omega
          rw [e1, e]
          exact (ih (d - m) (by omega)).2 (i + m) (n - 1) (by omega) (by omega) (by omega) (by omega) (by omega)
  · by_cases hz : n < 0
    · have e : behind l i n = -1 := by unfold behind; rw [if_pos hz]
      rw [e]
      exact Ev.step (f := fun k => some (-1)) (fun k => by simp only [code_Skip.l0]; rw [if_neg hp, if_pos hz]) (Ev.now _)
    · obtain rfl : n = 0 := by omega
      rw [behind_zero]
      exact Ev.step (f := fun k => some i) (fun k => by simp only [code_Skip.l0]; rw [if_neg hp, if_neg hz]) (Ev.now _)
theorem skip_all (l : List S39) (i : Int) (hl : l.length ≤ 9223372036854775806) : Ev (fun k => code_Skip.f k l i) (skp l i) := by
  by_cases h0 : i < 0
  · have e : skp l i = -1 := by unfold skp; rw [if_pos h0]
    rw [e]
    refine Ev.step (f := fun k => code_Skip.j0 k l i true) (fun k => by simp only [code_Skip.f]; rw [if_pos h0]) ?_
    exact Ev.step (f := fun k => some (-1)) (fun k => by simp only [code_Skip.j0, if_true]) (Ev.now _)
  · by_cases h1 : i ≤ l.length
    · exact (skip_ev l hl (l.length - i.toNat)).1 i (by omega) h1 (by omega)
    · have e : skp l i = -1 := by unfold skp; rw [if_neg h0, if_pos (by omega)]
      rw [e]
      refine Ev.step (f := fun k => code_Skip.j0 k l i (decide (i ≥ (l.length : Int)))) (fun k => by simp only [code_Skip.f]; rw [if_neg h0]) ?_
      simp only [show i ≥ (l.length : Int) by omega, decide_true]
      exact Ev.step (f := fun k => some (-1)) (fun k => by simp only [code_Skip.j0, if_true]) (Ev.now _)
theorem skp_calls (A : Option Addr) (n c : Nat) (l : List S39) (i : Int) (w : World) (hr : Kd.C k39 w A n l) (hc : n ≤ c) (hl : l.length ≤ 100000) :
   Calls Try.prog 19 #[.slice A n c, .int .i64 i] w fun e w' => e = .returned (.int .i64 (skp l i)) ∧ Below w.heap.size w w' := by
  obtain rfl : l.length = n := Kd.C_len hr
  obtain ⟨k, hk⟩ := (skip_all l i (by omega)).rounds
  exact code_Skip.calls k A c l i _ w hr hc hk
end Go.Proofs.Ythdnaliahdohhaa.D
