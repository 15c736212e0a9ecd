/- The plain law of CodeChecks: what the program's functions of layer 18 compute is what the document's compute. -/
import Derived.Test.YthdnaliahdohhaaHCcodeCheck
import Derived.Test.YthdnaliahdohhaaCx4
import Derived.Test.YthdnaliahdohhaaCx5
import Derived.Test.YthdnaliahdohhaaCx6
import Derived.Test.YthdnaliahdohhaaCx7
import Derived.Test.YthdnaliahdohhaaCx8
namespace Go.Proofs.Ythdnaliahdohhaa.C
open Go.RowKit Go.Proofs.YthdnaliahdohhaaW.PrintWords Go.Proofs.YthdnaliahdohhaaW.PrintLast Go.Proofs.YthdnaliahdohhaaW.PrintMore
set_option linter.unusedVariables false
set_option linter.unusedSimpArgs false
def conv (x : S89) : S39 := ⟨x.f0, x.f1, x.f2, x.f3⟩
def vnoc (x : S39) : S89 := ⟨x.f0, x.f1, x.f2, x.f3⟩
theorem vnoc_conv (l : List S89) : (l.map conv).map vnoc = l := by
  rw [List.map_map]
  have : (vnoc ∘ conv) = id := by funext x; rfl
  rw [this, List.map_id]
theorem drop_cons89 (l : List S89) (i : Nat) (h : i < l.length) : l.drop i = rd_T89 l i :: l.drop (i + 1) := by
  rw [List.drop_eq_getElem_cons h]
  simp only [rd_T89, Int.toNat_natCast, List.getD_eq_getElem?_getD, List.getElem?_eq_getElem h, Option.getD_some]
theorem drop_cons39 (l : List S39) (i : Nat) (h : i < l.length) : l.drop i = rd_T39 l i :: l.drop (i + 1) := by
  rw [List.drop_eq_getElem_cons h]
  simp only [rd_T39, Int.toNat_natCast, List.getD_eq_getElem?_getD, List.getElem?_eq_getElem h, Option.getD_some]
theorem rd_conv (l : List S89) (i : Nat) (h : i < l.length) : rd_T39 (l.map conv) i = conv (rd_T89 l i) := by
  simp only [rd_T39, rd_T89, Int.toNat_natCast, List.getD_eq_getElem?_getD, List.getElem?_map, List.getElem?_eq_getElem h, Option.getD_some, Option.map_some]
theorem To_l0 (l : List S89) (hl : l.length ≤ 1000000) (n : ByteArray) (a s b : Int) : ∀ (d : Nat) (i : Nat) (acc : List S39), i + d = l.length → acc.length = i →
    Ev (fun k => prolixlaw18_To.l0 k l (l.length : Int) (i : Int) n a s b acc) (n, a, s, b, acc ++ (l.drop i).map conv)
  | 0, i, acc, hi, ha => by
    rw [List.drop_of_length_le (by omega)]
    refine Ev.step (f := fun k => some (n, a, s, b, acc)) (fun k => by simp only [prolixlaw18_To.l0]; rw [if_neg (by omega)]) ?_
    simp only [List.map_nil, List.append_nil]
    exact Ev.now _
  | d + 1, i, acc, hi, ha => by
    have := To_l0 l hl n a s b d (i + 1) (acc ++ [(⟨(rd_T89 l i).f0, (rd_T89 l i).f1, (rd_T89 l i).f2, (rd_T89 l i).f3⟩ : S39)]) (by omega) (by simp; omega)
    rw [drop_cons89 l i (by omega)]
    refine Ev.step (f := fun k => prolixlaw18_To.l0 k l (l.length : Int) ((i + 1 : Nat) : Int) n a s b (acc ++ [(⟨(rd_T89 l i).f0, (rd_T89 l i).f1, (rd_T89 l i).f2, (rd_T89 l i).f3⟩ : S39)])) (fun k => by
      simp only [prolixlaw18_To.l0]
      rw [if_pos (by omega), if_pos (by omega), if_pos (by omega), if_pos (by omega), wrapI (by omega) (by omega)]; rfl) ?_
    simp only [List.map_cons, List.append_assoc, List.singleton_append] at this ⊢
    exact this
theorem To_ev (n : ByteArray) (a s b : Int) (l : List S89) (hl : l.length ≤ 1000000) : Ev (fun k => prolixlaw18_To.f k n a s b l) (n, a, s, b, l.map conv) := by
  have := To_l0 l hl n a s b l.length 0 [] (by omega) rfl
  simp only [List.nil_append, List.drop_zero] at this
  exact this
theorem partsI_no {i : S39} (h : partsI i = none) : i.f0 < 1 ∨ 6 < i.f0 ∨ (i.f0 = 6 ∧ (i.f1 < 1 ∨ 255 < i.f1)) := by
  unfold partsI at h
  (repeat' split at h) <;> simp at h <;> omega
theorem partsI_yes {i : S39} {a : Nat} (h : partsI i = some a) : (1 ≤ i.f0 ∧ i.f0 < 6 ∧ a = 0) ∨ (i.f0 = 6 ∧ 1 ≤ i.f1 ∧ i.f1 ≤ 255 ∧ i.f1 = a) := by
  unfold partsI at h
  (repeat' split at h) <;> simp at h <;> omega
theorem rskip_l0 (l : List S89) (hl : l.length ≤ 1000000) : ∀ (d i : Nat) (n : Nat), i + d = l.length → n ≤ 1 + 255 * i → 
    Ev (fun k => prolixref18_Skip.l0 k l (i : Int) (n : Int)) (behind (l.map conv) i n) := by
  intro d
  induction d with
  | zero =>
    intro i n hi hn
    cases n with
    | zero => 
      rw [show ((0 : Nat) : Int) = 0 from rfl, behind_zero]
      exact Ev.step (f := fun k => some (i : Int)) (fun k => by simp only [prolixref18_Skip.l0]; rw [if_neg (by omega)]) (Ev.now _)
    | succ n =>
      have e : behind (l.map conv) i ((n + 1 : Nat) : Int) = -1 := by
        unfold behind
        rw [if_neg (by omega), List.drop_of_length_le (by simp; omega)]
        rw [show (((n + 1 : Nat) : Int)).toNat = n + 1 by omega]
        simp [takeP]
      rw [e]
      exact Ev.step (f := fun k => some (-1 : Int)) (fun k => by simp only [prolixref18_Skip.l0]; rw [if_pos (by omega), if_pos (by omega)]) (Ev.now _)
  | succ d ih =>
    intro i n hi hn
    cases n with
    | zero => 
      rw [show ((0 : Nat) : Int) = 0 from rfl, behind_zero]
      exact Ev.step (f := fun k => some (i : Int)) (fun k => by simp only [prolixref18_Skip.l0]; rw [if_neg (by omega)]) (Ev.now _)
    | succ n =>
      have hd : (l.map conv).drop i = conv (rd_T89 l i) :: (l.map conv).drop (i + 1) := by rw [← List.map_drop, drop_cons89 l i (by omega), List.map_cons, List.map_drop]
      cases hp : partsI (conv (rd_T89 l i)) with
      | none =>
        have e : behind (l.map conv) i ((n + 1 : Nat) : Int) = -1 := by
          unfold behind
          rw [if_neg (by omega)]
          simp only [Int.toNat_natCast, hd, takeP, hp]
        rw [e]
        refine ⟨2, fun k hk => ?_⟩
        obtain ⟨k, rfl⟩ : ∃ m, k = m + 2 := ⟨k - 2, by omega⟩
        simp only [prolixref18_Skip.l0]
        rw [if_pos (by omega), if_neg (by omega), if_pos (by omega), if_pos (by omega)]
        have hq : (rd_T89 l i).f0 < 1 ∨ 6 < (rd_T89 l i).f0 ∨ ((rd_T89 l i).f0 = 6 ∧ ((rd_T89 l i).f1 < 1 ∨ 255 < (rd_T89 l i).f1)) := partsI_no hp
        by_cases h1 : (rd_T89 l i).f0 < 1
        · rw [if_pos h1]; simp only [prolixref18_Skip.j2, if_true]
        by_cases h2 : (rd_T89 l i).f0 > 6
        · rw [if_neg h1, if_pos h2]; simp only [prolixref18_Skip.j2, if_true]
        rw [if_neg h1, if_neg h2, if_pos (by omega)]
        by_cases h4 : (rd_T89 l i).f1 < 1
        · rw [if_pos h4]; simp only [prolixref18_Skip.j2, if_true]
        · rw [if_neg h4]
          have h5 : (rd_T89 l i).f1 > 255 := by omega
          simp only [prolixref18_Skip.j2, h5, decide_true, if_true]
      | some a =>
        have ha := partsI_le hp
        have e : behind (l.map conv) i ((n + 1 : Nat) : Int) = behind (l.map conv) (i + 1 : Nat) ((n + a : Nat) : Int) := by
          unfold behind
          rw [if_neg (by omega), if_neg (by omega)]
          simp only [Int.toNat_natCast, hd, takeP, hp]
          cases takeP (n + a) ((l.map conv).drop (i + 1)) with
          | none => simp
          | some m => simp; omega
        rw [e]
        have hk := ih (i + 1) (n + a) (by omega) (by omega)
        obtain ⟨K, hK⟩ := hk
        refine ⟨K + 2, fun k hk => ?_⟩
        obtain ⟨k, rfl⟩ : ∃ m, k = m + 2 := ⟨k - 2, by omega⟩
        rw [← hK k (by omega)]
        simp only [prolixref18_Skip.l0]
        rw [if_pos (by omega), if_neg (by omega), if_pos (by omega), if_pos (by omega)]
        have hq : (1 ≤ (rd_T89 l i).f0 ∧ (rd_T89 l i).f0 < 6 ∧ a = 0) ∨ ((rd_T89 l i).f0 = 6 ∧ 1 ≤ (rd_T89 l i).f1 ∧ (rd_T89 l i).f1 ≤ 255 ∧ (rd_T89 l i).f1 = a) := partsI_yes hp
        rw [if_neg (by omega), if_neg (by omega)]
        by_cases h3 : (rd_T89 l i).f0 < 6
        · rw [if_neg (by omega)]
          simp only [prolixref18_Skip.j2, Bool.false_eq_true, if_false]
          rw [if_neg (by omega), wrapI (by omega) (by omega), wrapI (by omega) (by omega)]
          congr 1 <;> omega
        · rw [if_pos (by omega), if_neg (by omega)]
          have h5 : ¬ ((rd_T89 l i).f1 > 255) := by omega
          simp only [prolixref18_Skip.j2, h5, decide_false, Bool.false_eq_true, if_false]
          rw [if_pos (by omega), wrapI (by omega) (by omega), wrapI (x := ((n + 1 : Nat) : Int) - 1) (by omega) (by omega), wrapI (by omega) (by omega)]
          congr 1 <;> omega
theorem rskip_ev (l : List S89) (i : Int) (hl : l.length ≤ 1000000) : Ev (fun k => prolixref18_Skip.f k l i) (skp (l.map conv) i) := by
  unfold prolixref18_Skip.f skp
  by_cases h0 : i < 0
  · simp only [if_pos h0]
    exact Ev.step (f := fun k => some (-1)) (fun k => by simp only [prolixref18_Skip.j0, if_true]) (Ev.now _)
  · simp only [if_neg h0]
    by_cases h1 : i ≥ (l.length : Int)
    · rw [if_pos (by simpa using h1)]
      simp only [h1, decide_true]
      exact Ev.step (f := fun k => some (-1)) (fun k => by simp only [prolixref18_Skip.j0, if_true]) (Ev.now _)
    · rw [if_neg (by simpa using h1)]
      simp only [h1, decide_false]
      refine Ev.step (f := fun k => prolixref18_Skip.l0 k l i 1) (fun k => by simp only [prolixref18_Skip.j0, Bool.false_eq_true, if_false]) ?_
      obtain ⟨n, rfl⟩ := Int.eq_ofNat_of_zero_le (show 0 ≤ i by omega)
      have := rskip_l0 l hl (l.length - n) n 1 (by omega) (by omega)
      exact this
/-- what the document asks of an instruction beside its place -/
def zeroV (x : S89) : Bool :=
  if x.f0 = 1 then decide (x.f1 = 0 ∧ x.f2 = 0 ∧ x.f3.toList.isEmpty = true) else
  if x.f0 = 2 ∨ x.f0 = 3 then decide (x.f2 = 0 ∧ x.f3.toList.isEmpty = true) else
  if x.f0 = 4 then decide (x.f1 = 0 ∧ x.f3.toList.isEmpty = true) else
  if x.f0 = 5 then decide (x.f1 = 0 ∧ x.f2 = 0 ∧ (x.f3.size : Int) ≤ 1000) else decide (x.f2 = 0 ∧ (x.f3.size : Int) ≤ 1000)
theorem zero_ev (x : S89) : Ev (fun k => prolixref18_zero.f k x.f0 x.f1 x.f2 x.f3) (zeroV x) := by
  refine ⟨1, fun k hk => ?_⟩
  obtain ⟨k, rfl⟩ : ∃ m, k = m + 1 := ⟨k - 1, by omega⟩
  unfold prolixref18_zero.f zeroV
  simp only [prolixref18_zero.j0]
  by_cases h1 : x.f0 = 1
  · rw [if_pos h1, if_pos h1]
    by_cases h2 : x.f1 = 0 <;> by_cases h3 : x.f2 = 0 <;> simp [h2, h3] <;> (cases x.f3.toList <;> simp)
  rw [if_neg h1, if_neg h1]
  by_cases h2 : x.f0 = 2
  · by_cases h3 : x.f2 = 0 <;> simp [h2, h3] <;> (cases x.f3.toList <;> simp)
  by_cases h3 : x.f0 = 3
  · by_cases h4 : x.f2 = 0 <;> simp [h3, h4] <;> (cases x.f3.toList <;> simp)
  rw [if_neg h2, if_neg (show ¬ (x.f0 = 2 ∨ x.f0 = 3) by omega)]
  have e3 : (x.f0 == 3) = false := by simpa using h3
  simp only [e3, Bool.false_eq_true, if_false]
  by_cases h4 : x.f0 = 4
  · by_cases h5 : x.f1 = 0 <;> simp [h4, h5] <;> (cases x.f3.toList <;> simp)
  rw [if_neg h4, if_neg h4]
  by_cases h5 : x.f0 = 5
  · by_cases h6 : x.f1 = 0 <;> by_cases h7 : x.f2 = 0 <;> simp [h5, h6, h7]
  rw [if_neg h5, if_neg h5]
  by_cases h7 : x.f2 = 0 <;> simp [h7]
/-- the document's step: how many slots were met -/
def stepR (s : Int) (x : S89) : Option Int :=
  if zeroV x = false then none else if x.f0 = 2 then (if x.f1 = s then some (s + 1) else none) else if x.f0 = 3 then (if x.f1 < 0 ∨ s ≤ x.f1 then none else some s) else some s
theorem step_same (s : Int) (h0 : 0 ≤ s) (h1 : s ≤ 2000000) (x : S89) (hx : 1 ≤ x.f0 ∧ x.f0 ≤ 6) : stepR s x = match stepI s (conv x) with | some (true, s') => some s' | _ => none := by
  obtain ⟨x0, x1, x2, x3⟩ := x
  simp only at hx
  obtain rfl | rfl | rfl | rfl | rfl | rfl : x0 = 1 ∨ x0 = 2 ∨ x0 = 3 ∨ x0 = 4 ∨ x0 = 5 ∨ x0 = 6 := by omega
  · simp only [stepR, zeroV, conv, stepI, code_checker_any.f]
    by_cases h2 : x1 = 0 <;> by_cases h3 : x2 = 0 <;> cases h4 : (x3.toList == ([] : List UInt8)) <;> simp_all
  · simp only [stepR, zeroV, conv, stepI, code_checker_first.f]
    rw [wrapI (x := s + 1) (by omega) (by omega), wrapI (by omega) (by omega)]
    by_cases h2 : x1 = s <;> by_cases h3 : x2 = 0 <;> cases h4 : (x3.toList == ([] : List UInt8)) <;> simp_all
  · simp only [stepR, zeroV, conv, stepI, code_checker_again.f]
    by_cases h2 : x1 < 0 <;> by_cases h5 : s ≤ x1 <;> by_cases h3 : x2 = 0 <;> cases h4 : (x3.toList == ([] : List UInt8)) <;> simp_all <;> (try omega) <;> (try (rw [if_neg (by omega)]))
  · simp only [stepR, zeroV, conv, stepI, code_checker_num.f]
    by_cases h2 : x1 = 0 <;> cases h4 : (x3.toList == ([] : List UInt8)) <;> simp_all
  · simp only [stepR, zeroV, conv, stepI, code_checker_name.f]
    by_cases h2 : x1 = 0 <;> by_cases h3 : x2 = 0 <;> by_cases h4 : ((x3.size : Int) ≤ 1000) <;> simp_all
  · simp only [stepR, zeroV, conv, stepI, code_checker_comp.f]
    by_cases h3 : x2 = 0 <;> by_cases h4 : ((x3.size : Int) ≤ 1000) <;> simp_all
theorem rcheck_l1 (l : List S89) (hl : l.length ≤ 20000) (ho : ∀ x ∈ l, 1 ≤ x.f0 ∧ x.f0 ≤ 6) (n : ByteArray) (a s b : Int) : ∀ (d i : Nat) (m : Int), i + d = l.length → 0 ≤ m → m ≤ i →
    Ev (fun k => prolixref18_Check.l1 k m l (l.length : Int) (i : Int) n a s b l) (match runI ((l.map conv).drop i) m with | some q => if q = s then 0 else 2 | none => 2) := by
  intro d
  induction d with
  | zero =>
    intro i m hi h0 h1
    rw [List.drop_of_length_le (by simp; omega)]
    simp only [runI]
    by_cases h : m = s
    · rw [if_pos h]
      exact Ev.step (f := fun k => some 0) (fun k => by simp only [prolixref18_Check.l1]; rw [if_neg (by omega), if_pos h]) (Ev.now _)
    · rw [if_neg h]
      exact Ev.step (f := fun k => some 2) (fun k => by simp only [prolixref18_Check.l1]; rw [if_neg (by omega), if_neg h]) (Ev.now _)
  | succ d ih =>
    intro i m hi h0 h1
    have hd : (l.map conv).drop i = conv (rd_T89 l i) :: (l.map conv).drop (i + 1) := by rw [← List.map_drop, drop_cons89 l i (by omega), List.map_cons, List.map_drop]
    have hm : rd_T89 l i ∈ l := by
      simp only [rd_T89, Int.toNat_natCast, List.getD_eq_getElem?_getD, List.getElem?_eq_getElem (show i < l.length by omega), Option.getD_some, List.getElem_mem]
    have hs := step_same m h0 (by omega) (rd_T89 l i) (ho _ hm)
    have er : runI ((l.map conv).drop i) m = (stepR m (rd_T89 l i)).bind fun q => runI ((l.map conv).drop (i + 1)) q := by
      rw [hd, hs]
      simp only [runI]
      rcases stepI_some m (conv (rd_T89 l i)) with ⟨bb, q, hq⟩
      rw [hq]
      cases bb <;> simp
    rw [er]
    have hz := zero_ev (rd_T89 l i)
    refine Ev.step (f := fun k => ((prolixref18_zero.f k ((rd_T89 l i).f0) ((rd_T89 l i).f1) ((rd_T89 l i).f2) ((rd_T89 l i).f3)).bind fun t142 => (if t142 = true then (if ((rd_T89 l i).f0) = 2 then (if ((rd_T89 l i).f1) = m then (prolixref18_Check.j4 k (wrap64 (m + 1)) l (l.length : Int) i n a s b l ((rd_T89 l i).f0) ((rd_T89 l i).f1) ((rd_T89 l i).f2) ((rd_T89 l i).f3)) else (some 2)) else (prolixref18_Check.j4 k m l (l.length : Int) i n a s b l ((rd_T89 l i).f0) ((rd_T89 l i).f1) ((rd_T89 l i).f2) ((rd_T89 l i).f3))) else (some 2)))) (fun k => by
      simp only [prolixref18_Check.l1]; rw [if_pos (by omega), if_pos (by omega), if_pos (by omega)]) ?_
    refine Ev.bind hz ?_
    unfold stepR
    cases hzv : zeroV (rd_T89 l i) with
    | false =>
      simp only [Bool.false_eq_true, if_false, if_true, Option.bind_none]
      exact Ev.now _
    | true =>
      simp only [if_true, Bool.true_eq_false, if_false]
      rw [wrapI (by omega) (by omega)]
      by_cases h2 : (rd_T89 l i).f0 = 2
      · simp only [h2, if_true]
        by_cases h3 : (rd_T89 l i).f1 = m
        · simp only [h3, if_true, Option.bind_some]
          refine Ev.step (f := fun k => prolixref18_Check.j5 k (m + 1) l (l.length : Int) i false n a s b l) (fun k => by simp only [prolixref18_Check.j4]; rw [if_neg (by omega)]) ?_
          refine Ev.step (f := fun k => prolixref18_Check.l1 k (m + 1) l (l.length : Int) ((i + 1 : Nat) : Int) n a s b l) (fun k => by simp only [prolixref18_Check.j5, Bool.false_eq_true, if_false]; rw [wrapI (by omega) (by omega)]; rfl) ?_
          exact ih (i + 1) (m + 1) (by omega) (by omega) (by omega)
        · simp only [h3, if_false, Option.bind_none]
          exact Ev.now _
      · simp only [h2, if_false]
        by_cases h4 : (rd_T89 l i).f0 = 3
        · simp only [h4, if_true]
          by_cases h5 : (rd_T89 l i).f1 < 0
          · rw [if_pos (show (rd_T89 l i).f1 < 0 ∨ m ≤ (rd_T89 l i).f1 from .inl h5)]
            simp only [Option.bind_none]
            refine Ev.step (f := fun k => prolixref18_Check.j5 k m l (l.length : Int) i true n a s b l) (fun k => by simp only [prolixref18_Check.j4, if_true]; rw [if_pos h5]) ?_
            exact Ev.step (f := fun k => some 2) (fun k => by simp only [prolixref18_Check.j5, if_true]) (Ev.now _)
          · refine Ev.step (f := fun k => prolixref18_Check.j5 k m l (l.length : Int) i (decide ((rd_T89 l i).f1 ≥ m)) n a s b l) (fun k => by simp only [prolixref18_Check.j4, if_true]; rw [if_neg h5]) ?_
            by_cases h6 : (rd_T89 l i).f1 ≥ m
            · rw [if_pos (show (rd_T89 l i).f1 < 0 ∨ m ≤ (rd_T89 l i).f1 from .inr h6)]
              simp only [Option.bind_none, h6, decide_true]
              exact Ev.step (f := fun k => some 2) (fun k => by simp only [prolixref18_Check.j5, if_true]) (Ev.now _)
            · rw [if_neg (by omega)]
              simp only [Option.bind_some, h6, decide_false]
              refine Ev.step (f := fun k => prolixref18_Check.l1 k m l (l.length : Int) ((i + 1 : Nat) : Int) n a s b l) (fun k => by simp only [prolixref18_Check.j5, Bool.false_eq_true, if_false]; rw [wrapI (by omega) (by omega)]; rfl) ?_
              exact ih (i + 1) m (by omega) (by omega) (by omega)
        · simp only [h4, if_false, Option.bind_some]
          refine Ev.step (f := fun k => prolixref18_Check.j5 k m l (l.length : Int) i false n a s b l) (fun k => by simp only [prolixref18_Check.j4]; rw [if_neg (by omega)]) ?_
          refine Ev.step (f := fun k => prolixref18_Check.l1 k m l (l.length : Int) ((i + 1 : Nat) : Int) n a s b l) (fun k => by simp only [prolixref18_Check.j5, Bool.false_eq_true, if_false]; rw [wrapI (by omega) (by omega)]; rfl) ?_
          exact ih (i + 1) m (by omega) (by omega) (by omega)
theorem stepI_ge (s : Int) (h : 0 ≤ s) (h2 : s ≤ 100000) (i : S39) (b : Bool) (s' : Int) (hs : stepI s i = some (b, s')) : s ≤ s' ∧ s' ≤ s + 1 := by
  unfold stepI at hs
  split at hs
  · simp only [code_checker_any.f, Option.some.injEq, Prod.mk.injEq] at hs; omega
  · simp only [code_checker_first.f, Option.some.injEq, Prod.mk.injEq] at hs
    rw [wrapI (x := s + 1) (by omega) (by omega)] at hs; omega
  · unfold code_checker_again.f at hs; (repeat' split at hs) <;> simp only [Option.some.injEq, Prod.mk.injEq] at hs <;> omega
  · simp only [code_checker_num.f, Option.some.injEq, Prod.mk.injEq] at hs; omega
  · unfold code_checker_name.f at hs; (repeat' split at hs) <;> simp only [Option.some.injEq, Prod.mk.injEq] at hs <;> omega
  · unfold code_checker_comp.f at hs; (repeat' split at hs) <;> simp only [Option.some.injEq, Prod.mk.injEq] at hs <;> omega
  · simp only [Option.some.injEq, Prod.mk.injEq] at hs; omega
theorem runI_ge' : ∀ (l : List S39) (s q : Int), runI l s = some q → 0 ≤ s → s + l.length ≤ 100000 → s ≤ q
  | [], s, q, h, h0, _ => by simp [runI] at h; omega
  | i :: l, s, q, h, h0, h1 => by
    simp only [runI] at h
    simp only [List.length_cons] at h1
    split at h
    · next s' hs =>
      have := stepI_ge s h0 (by omega) i _ _ hs
      have := runI_ge' l s' q h (by omega) (by omega)
      omega
    · simp at h
theorem runI_ge (l : List S39) (s q : Int) (h : runI l s = some q) (h1 : 0 ≤ s ∧ s + l.length ≤ 100000) : 0 ≤ q := by
  have := runI_ge' l s q h h1.1 h1.2; omega
def endV (slots : Int) (L : List S39) : Int := match runI L 0 with | some q => if q = slots then 0 else 2 | none => 2
theorem skips_all (l : List S39) (n : Nat) (b : Int) (h : skips l n 0 = b) (h0 : 0 ≤ b) (h1 : skp l b = l.length) : ∀ i ∈ l, 1 ≤ i.f0 ∧ i.f0 ≤ 6 := fun i hi => ops_ok l n b h h0 h1 i hi
theorem rcheck_l0 (l : List S89) (hl : l.length ≤ 20000) (n : ByteArray) (a s b : Int) (ha : 0 ≤ a) (ha2 : a ≤ 255) : ∀ (d : Nat) (i : Nat) (p : Int), (i : Int) + d = a → 0 ≤ p → skips (l.map conv) d p = skips (l.map conv) a.toNat 0 →
    Ev (fun k => prolixref18_Check.l0 k p (i : Int) n a s b l) (if skips (l.map conv) a.toNat 0 = b ∧ 0 ≤ b ∧ skp (l.map conv) b = l.length then endV s (l.map conv) else 2) := by
  intro d
  induction d with
  | zero =>
    intro i p hi hp hs
    simp only [skips] at hs
    rw [← hs]
    have hia : (i : Int) = a := by omega
    refine Ev.step (f := fun k => prolixref18_Check.j2 k p (i : Int) (p != b) n a s b l) (fun k => by simp only [prolixref18_Check.l0]; rw [if_pos (by omega), if_pos hia]) ?_
    by_cases hb : p = b
    · subst hb
      simp only [bne_self_eq_false]
      refine Ev.step (f := fun k => ((prolixref18_Skip.f k l p).bind fun t139 => (if t139 < 0 then (some 2) else (prolixref18_Check.l0 k t139 (wrap64 ((i : Int) + 1)) n a s p l)))) (fun k => by simp only [prolixref18_Check.j2, Bool.false_eq_true, if_false]) ?_
      refine Ev.bind (rskip_ev l p (by omega)) ?_
      by_cases h1 : skp (l.map conv) p < 0
      · simp only [h1, if_true]
        rw [if_neg (by omega)]
        exact Ev.now _
      · simp only [h1, if_false]
        rw [wrapI (by omega) (by omega)]
        by_cases h2 : skp (l.map conv) p = l.length
        · rw [if_pos ⟨trivial, hp, h2⟩]
          refine Ev.step (f := fun k => prolixref18_Check.l1 k 0 l (l.length : Int) 0 n a s p l) (fun k => by simp only [prolixref18_Check.l0]; rw [if_neg (by omega), if_pos h2]) ?_
          have ho : ∀ x ∈ l, 1 ≤ x.f0 ∧ x.f0 ≤ 6 := fun x hx => skips_all (l.map conv) a.toNat p hs.symm hp (by simpa using h2) (conv x) (List.mem_map_of_mem hx)
          exact rcheck_l1 l hl ho n a s p l.length 0 0 (by omega) (by omega) (by omega)
        · rw [if_neg (by rintro ⟨_, _, h3⟩; exact h2 h3)]
          exact Ev.step (f := fun k => some 2) (fun k => by simp only [prolixref18_Check.l0]; rw [if_neg (by omega), if_neg h2]) (Ev.now _)
    · rw [if_neg (by rintro ⟨h, _⟩; exact hb h)]
      have e : (p != b) = true := by simpa using hb
      simp only [e]
      exact Ev.step (f := fun k => some 2) (fun k => by simp only [prolixref18_Check.j2, if_true]) (Ev.now _)
  | succ d ih =>
    intro i p hi hp hs
    refine Ev.step (f := fun k => prolixref18_Check.j2 k p (i : Int) false n a s b l) (fun k => by simp only [prolixref18_Check.l0]; rw [if_pos (by omega), if_neg (by omega)]) ?_
    refine Ev.step (f := fun k => ((prolixref18_Skip.f k l p).bind fun t139 => (if t139 < 0 then (some 2) else (prolixref18_Check.l0 k t139 (wrap64 ((i : Int) + 1)) n a s b l)))) (fun k => by simp only [prolixref18_Check.j2, Bool.false_eq_true, if_false]) ?_
    refine Ev.bind (rskip_ev l p (by omega)) ?_
    simp only [skips] at hs
    by_cases h1 : skp (l.map conv) p < 0
    · simp only [h1, if_true]
      rw [if_pos h1] at hs
      rw [if_neg (by omega)]
      exact Ev.now _
    · simp only [h1, if_false]
      rw [if_neg h1] at hs
      rw [wrapI (by omega) (by omega)]
      exact ih (i + 1) _ (by omega) (by omega) hs
theorem rcheck_ev (n : ByteArray) (a s b : Int) (l : List S89) : Ev (fun k => prolixref18_Check.f k n a s b l) (chkv n a s b (l.map conv)) := by
  unfold prolixref18_Check.f chkv
  rw [List.length_map]
  by_cases h1 : 20000 < l.length
  · simp only [show (l.length : Int) > 20000 by omega, h1, if_true]
    exact Ev.now _
  simp only [show ¬ (l.length : Int) > 20000 by omega, h1, if_false]
  have hbad : Ev (fun k => prolixref18_Check.j0 k true n a s b l) 2 := Ev.step (f := fun k => some 2) (fun k => by simp only [prolixref18_Check.j0, if_true]) (Ev.now _)
  by_cases h2 : a < 0
  · simp only [h2, if_true, true_or]; exact hbad
  by_cases h3 : a > 255
  · rw [if_pos (by omega)]; simp only [h2, h3, if_true, if_false]; exact hbad
  by_cases h4 : (n.size : Int) > 1000
  · rw [if_pos (by omega)]; simp only [h2, h3, h4, if_true, if_false]; exact hbad
  rw [if_neg (by omega)]
  simp only [h2, h3, h4, if_false]
  by_cases h5 : s < 0
  · simp only [h5, decide_true]
    refine (show ∀ (g : Nat → Option Int) (x y : Int), x = y → Ev g y → Ev g x from fun g x y h k => h ▸ k) _ _ 2 ?_ hbad
    split
    · split
      · next q hq => rw [if_neg]; have := runI_ge (l.map conv) 0 q hq (by simp; omega); omega
      · rfl
    · rfl
  · simp only [h5, decide_false]
    refine Ev.step (f := fun k => prolixref18_Check.l0 k 0 0 n a s b l) (fun k => by simp only [prolixref18_Check.j0, Bool.false_eq_true, if_false]) ?_
    exact rcheck_l0 l (by omega) n a s b (by omega) (by omega) a.toNat 0 0 (by omega) (by omega) rfl
theorem From_l0 (l : List S39) (hl : l.length ≤ 1000000) (n : ByteArray) (a s b : Int) : ∀ (d : Nat) (i : Nat) (acc : List S89), i + d = l.length → acc.length = i →
    Ev (fun k => prolixlaw18_From.l0 k l (l.length : Int) (i : Int) n a s b acc) (n, a, s, b, acc ++ (l.drop i).map vnoc)
  | 0, i, acc, hi, ha => by
    rw [List.drop_of_length_le (by omega)]
    refine Ev.step (f := fun k => some (n, a, s, b, acc)) (fun k => by simp only [prolixlaw18_From.l0]; rw [if_neg (by omega)]) ?_
    simp only [List.map_nil, List.append_nil]
    exact Ev.now _
  | d + 1, i, acc, hi, ha => by
    have := From_l0 l hl n a s b d (i + 1) (acc ++ [(⟨(rd_T39 l i).f0, (rd_T39 l i).f1, (rd_T39 l i).f2, (rd_T39 l i).f3⟩ : S89)]) (by omega) (by simp; omega)
    rw [drop_cons39 l i (by omega)]
    refine Ev.step (f := fun k => prolixlaw18_From.l0 k l (l.length : Int) ((i + 1 : Nat) : Int) n a s b (acc ++ [(⟨(rd_T39 l i).f0, (rd_T39 l i).f1, (rd_T39 l i).f2, (rd_T39 l i).f3⟩ : S89)])) (fun k => by
      simp only [prolixlaw18_From.l0]
      rw [if_pos (by omega), if_pos (by omega), if_pos (by omega), if_pos (by omega), wrapI (by omega) (by omega)]; rfl) ?_
    simp only [List.map_cons, List.append_assoc, List.singleton_append] at this ⊢
    exact this
theorem From_ev (n : ByteArray) (a s b : Int) (l : List S39) (hl : l.length ≤ 1000000) : Ev (fun k => prolixlaw18_From.f k n a s b l) (n, a, s, b, l.map vnoc) := by
  have := From_l0 l hl n a s b l.length 0 [] (by omega) rfl
  simp only [List.nil_append, List.drop_zero] at this
  exact this
theorem Same_l0 (l : List S89) (hl : l.length ≤ 1000000) (n : ByteArray) (a s b : Int) : ∀ (d : Nat) (i : Nat), i + d = l.length →
    Ev (fun k => prolixref18_Same.l0 k (l.length : Int) (i : Int) n a s b l n a s b l) true
  | 0, i, hi => Ev.step (f := fun k => some true) (fun k => by simp only [prolixref18_Same.l0]; rw [if_neg (by omega)]) (Ev.now _)
  | d + 1, i, hi => by
    have := Same_l0 l hl n a s b d (i + 1) (by omega)
    refine Ev.step (f := fun k => prolixref18_Same.l0 k (l.length : Int) ((i + 1 : Nat) : Int) n a s b l n a s b l) (fun k => by
      simp only [prolixref18_Same.l0]
      rw [if_pos (by omega), if_pos (by omega), if_pos (by omega), if_pos (by omega), if_neg (by simp), wrapI (by omega) (by omega)]; rfl) this
theorem Same_ev (n : ByteArray) (a s b : Int) (l : List S89) (hl : l.length ≤ 1000000) : Ev (fun k => prolixref18_Same.f k n a s b l n a s b l) true := by
  unfold prolixref18_Same.f
  simp only [if_true, bne_self_eq_false]
  refine Ev.step (f := fun k => prolixref18_Same.l0 k (l.length : Int) 0 n a s b l n a s b l) (fun k => by simp only [prolixref18_Same.j0, Bool.false_eq_true, if_false]) ?_
  exact Same_l0 l hl n a s b l.length 0 (by omega)
theorem alive_ev : Ev prolixlaw18_alive.f true := by
  have h : prolixlaw18_alive.f 40 = some true := by decide +kernel
  exact Ev.of prolixlaw18_alive.mono h
theorem CodeChecks_pure (n : ByteArray) (a s b : Int) (l : List S89) (i : Int) : ∃ k, prolixlaw18_CodeChecks.f k n a s b l i = some true := by
  refine Ev.rounds ?_
  unfold prolixlaw18_CodeChecks.f
  refine Ev.bind alive_ev ?_
  simp only [if_true]
  by_cases h : (l.length : Int) > 2000
  · simp only [h, if_true]; exact Ev.now _
  simp only [h, if_false]
  refine Ev.bind (To_ev n a s b l (by omega)) ?_
  simp only
  refine Ev.bind (a := chkv n a s b (l.map conv)) (Ev.now _) ?_
  refine Ev.bind (rcheck_ev n a s b l) ?_
  simp only [if_true]
  refine Ev.bind (skip_all (l.map conv) i (by simp; omega)) ?_
  refine Ev.bind (rskip_ev l i (by omega)) ?_
  simp only [if_true]
  refine Ev.bind (From_ev n a s b (l.map conv) (by simp; omega)) ?_
  simp only [vnoc_conv]
  refine Ev.bind (Same_ev n a s b l (by omega)) ?_
  exact Ev.now _
end Go.Proofs.Ythdnaliahdohhaa.C
