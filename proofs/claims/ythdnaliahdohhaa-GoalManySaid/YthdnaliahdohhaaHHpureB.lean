/- Goals, plainly: what Body and Clause make of a term that may be. -/
import Derived.Test.YthdnaliahdohhaaHHclause
import Derived.Test.YthdnaliahdohhaaHHpureA
namespace Go.Proofs.Ythdnaliahdohhaa.H
open Go.RowKit
set_option linter.unusedVariables false
set_option linter.unusedSimpArgs false
theorem lit_ge : ∀ e ∈ kindLit, 0 ≤ e.2.2 := by decide +kernel
theorem look_ge (s : ByteArray) (n : Int) : 0 ≤ kindLook s n := by
  unfold kindLook
  cases hb : litB (fun _ => true) kindLit (s, n) with
  | none => simp
  | some v =>
    obtain ⟨e, he, h2⟩ := litB_len hb
    have := lit_ge e he
    rw [h2] at this
    simpa using this
theorem kind_ge {x : S58} (h : x.f0 = 3 ∨ x.f0 = 4) : 0 ≤ kindV x := by
  unfold kindV
  rcases h with h | h
  · rw [if_pos h]; exact look_ge _ _
  · rw [if_neg (by omega), if_pos h]; split
    · omega
    · exact look_ge _ _
/-- of kind and kind's parts -/
theorem may_kinds {x : S58} (h : allM x = true) : x.f0 = 1 ∨ x.f0 = 2 ∨ x.f0 = 3 ∨ x.f0 = 4 := by
  rw [allM_eq] at h
  simp only [Bool.and_eq_true] at h
  have h1 := h.1
  unfold mayK at h1
  split at h1
  · omega
  split at h1
  · omega
  split at h1
  · omega
  split at h1
  · omega
  · cases h1
theorem mayT_3 {x : S58} (h : allM x = true) (h3 : x.f0 = 3) : x.f3 = [] := by
  rw [allM_eq] at h
  simp only [Bool.and_eq_true] at h
  have h1 := h.1
  unfold mayK at h1
  rw [if_neg (by omega), if_neg (by omega), if_pos h3] at h1
  simp at h1
  exact h1.2
theorem mayT_4 {x : S58} (h : allM x = true) (h4 : x.f0 = 4) : x.f1 = 0 ∧ x.f2.size ≤ 1000 ∧ x.f3.length ≤ 255 ∧ allL x.f3 = true := by
  rw [allM_eq] at h
  simp only [Bool.and_eq_true] at h
  have h1 := h.1
  unfold mayK at h1
  rw [if_neg (by omega), if_neg (by omega), if_neg (by omega), if_pos h4] at h1
  simp at h1
  exact ⟨h1.1.1.1, h1.1.1.2, h1.2, h.2⟩
theorem may_two {s : ByteArray} {a b : S58} (hs : s.size ≤ 1000) (ha : allM a = true) (hb : allM b = true) : allM ⟨4, 0, s, [a, b]⟩ = true := by
  rw [allM_eq]; simp [mayK, allL, ha, hb, hs]
theorem may_one {s : ByteArray} {a : S58} (hs : s.size ≤ 1000) (ha : allM a = true) : allM ⟨4, 0, s, [a]⟩ = true := by
  rw [allM_eq]; simp [mayK, allL, ha, hs]
theorem parted_4 {x : S58} (h : allM x = true) (hp : partedB x = true) : x.f0 = 4 := by
  have h2 := (parted_two hp).1
  rcases may_kinds h with hk | hk | hk | hk
  · exfalso
    have : kindV x = -1 := by unfold kindV; rw [if_neg (by omega), if_neg (by omega)]
    unfold partedB at hp; simp [this] at hp
  · exfalso
    have : kindV x = -1 := by unfold kindV; rw [if_neg (by omega), if_neg (by omega)]
    unfold partedB at hp; simp [this] at hp
  · have := mayT_3 h hk
    rw [this] at h2; simp at h2
  · exact hk
theorem parted_same {x y : S58} (h0 : x.f0 = y.f0) (h2 : x.f2 = y.f2) (h3 : x.f3.length = y.f3.length) : partedB x = partedB y := by
  unfold partedB kindV
  rw [h0, h2, h3]
theorem call_not (x : S58) : partedB ⟨4, 0, ⟨#[99, 97, 108, 108]⟩, [x]⟩ = false := by
  unfold partedB kindV
  simp
/-- Body of Body is Body -/
theorem body_body : ∀ (n : Nat) (x y : S58), bodyN n x = some y → allM x = true → allM y = true ∧ 0 ≤ kindV y ∧ (y.f0 = 3 ∨ y.f0 = 4) ∧ ∀ m, szT y ≤ m → bodyN m y = some y
  | 0, x, y, h, _ => by simp [bodyN] at h
  | n + 1, x, y, h, hm => by
    unfold bodyN at h
    split at h
    · injection h with h; subst h
      refine ⟨may_one (by decide) hm, kind_ge (Or.inr rfl), Or.inr rfl, fun m hm => ?_⟩
      obtain ⟨m, rfl⟩ : ∃ k, m = k + 1 := ⟨m - 1, by simp [szT] at hm; omega⟩
      unfold bodyN
      rw [if_neg (by simp), if_neg (by simp), if_neg (by rw [call_not]; simp)]
    split at h
    · cases h
    split at h
    · next hp =>
      obtain ⟨a1, ha, h⟩ := Option.bind_eq_some_iff.1 h
      obtain ⟨b1, hb, rfl⟩ := Option.map_eq_some_iff.1 h
      have h4 := parted_4 hm hp
      obtain ⟨q1, q2, q3, q4⟩ := mayT_4 hm h4
      have hl := (parted_two hp).1
      obtain ⟨k, m, s, l⟩ := x
      match l, hl with
      | [a, b], _ =>
        simp [allL] at q4
        obtain ⟨ia1, ia2, ia3, ia4⟩ := body_body n a a1 ha q4.1
        obtain ⟨ib1, ib2, ib3, ib4⟩ := body_body n b b1 hb q4.2
        refine ⟨may_two q2 ia1 ib1, kind_ge (Or.inr rfl), Or.inr rfl, fun m hm => ?_⟩
        simp [szT, szL] at hm
        obtain ⟨m, rfl⟩ : ∃ k, m = k + 1 := ⟨m - 1, by omega⟩
        unfold bodyN
        rw [if_neg (by simp), if_neg (by simp), if_pos (by rw [← hp]; exact parted_same h4.symm rfl rfl)]
        show (bodyN m a1).bind (fun a => (bodyN m b1).map fun b => (⟨4, 0, s, [a, b]⟩ : S58)) = _
        rw [ia4 m (by omega), ib4 m (by omega)]
        rfl
    · next h1 h2 hp =>
      injection h with h; subst h
      have hk : x.f0 = 3 ∨ x.f0 = 4 := by rcases may_kinds hm with h | h | h | h <;> simp_all
      refine ⟨hm, kind_ge hk, hk, fun m hs => ?_⟩
      have := szT_eq x
      obtain ⟨m, rfl⟩ : ∃ k, m = k + 1 := ⟨m - 1, by omega⟩
      unfold bodyN
      rw [if_neg h1, if_neg h2, if_neg hp]
theorem chk_may {x : S58} (h : chk x = 0) : allM x = true ∧ dpT x ≤ 2000 ∧ szT x ≤ 20000 := by
  unfold chk at h
  split at h
  · cases h
  split at h
  · cases h
  split at h
  · cases h
  · next h1 h2 h3 => exact ⟨by simpa using h1, by omega, by omega⟩
theorem chk_of {x : S58} (h : allM x = true) (hd : dpT x ≤ 2000) (hs : szT x ≤ 20000) : chk x = 0 := by
  unfold chk
  rw [if_neg (by simp [h]), if_neg (by omega), if_neg (by omega)]
theorem bodyR_0 {x y : S58} (h : bodyR x = (0, y)) : chk x = 0 ∧ bodyN (szT x) x = some y ∧ chk y = 0 := by
  unfold bodyR at h
  split at h
  · next hc =>
    refine ⟨hc, ?_⟩
    cases hb : bodyN (szT x) x with
    | none => rw [hb] at h; simp at h
    | some z =>
      rw [hb] at h
      simp only at h
      split at h
      · next hz => obtain rfl : z = y := by simpa using h
                   exact ⟨rfl, hz⟩
      · next hz => exfalso; exact hz (by simpa using congrArg Prod.fst h)
  · next hc => exfalso; exact hc (by simpa using congrArg Prod.fst h)
theorem bodyR_again {x y : S58} (h : bodyR x = (0, y)) : bodyR y = (0, y) ∧ allM y = true ∧ 0 ≤ kindV y ∧ (y.f0 = 3 ∨ y.f0 = 4) ∧ szT y ≤ 2 * szT x ∧ chk y = 0 := by
  obtain ⟨h1, h2, h3⟩ := bodyR_0 h
  obtain ⟨b1, b2, b3, b4⟩ := body_body _ _ _ h2 (chk_may h1).1
  refine ⟨?_, b1, b2, b3, bodyN_sz _ _ _ h2, h3⟩
  unfold bodyR
  rw [if_pos h3, b4 _ (Nat.le_refl _)]
  simp only
  rw [if_pos h3]
def tCl (h b : S58) : S58 := ⟨4, 0, ⟨#[58, 45]⟩, [h, b]⟩
/-- what Clause tells of a term that may be -/
theorem clause_law {t : S58} (ht : allM t = true) (hs : szT t ≤ 500) :
    (¬ (clauseR t).e = 0 → (clauseR t).h.f0 = 0 ∧ (clauseR t).b.f0 = 0 ∧ ((clauseR t).e = 13 ↔ ¬ (clauseR t).w.f0 = 0)) ∧
    ((clauseR t).e = 0 → clauseR (tCl (clauseR t).h (clauseR t).b) = ⟨(clauseR t).h, (clauseR t).b, 0, z58⟩ ∧ ((clauseR t).h.f0 = 3 ∨ (clauseR t).h.f0 = 4) ∧ 0 ≤ kindV (clauseR t).b ∧ szT (clauseR t).h ≤ 500 ∧ szT (clauseR t).b ≤ 1000) := by
  have hd := dpT_le t
  have hc : chk t = 0 := chk_of ht (by omega) (by omega)
  have HB : allM (clauseHB t).1 = true ∧ allM (clauseHB t).2 = true ∧ szT (clauseHB t).1 ≤ 500 ∧ szT (clauseHB t).2 ≤ 500 := by
    unfold clauseHB
    split
    · next hi =>
      unfold isClause at hi
      simp at hi
      obtain ⟨q1, q2, q3, q4⟩ := mayT_4 ht hi.1.1
      obtain ⟨k, m, s, l⟩ := t
      match l, hi.2 with
      | [a, b], _ =>
        simp [allL] at q4
        simp [szT, szL] at hs
        refine ⟨q4.1, q4.2, ?_, ?_⟩
        · show szT a ≤ 500; omega
        · show szT b ≤ 500; omega
    · exact ⟨ht, (by decide : allM tTrue = true), hs, by simp [tTrue, szT, szL]⟩
  obtain ⟨m1, m2, s1, s2⟩ := HB
  rw [clauseR_of hc]
  generalize (clauseHB t).1 = h at *
  generalize (clauseHB t).2 = b at *
  have hkh := may_kinds m1
  have hkb := may_kinds m2
  unfold clauseHBR
  by_cases c1 : h.f0 = 1
  · rw [if_pos c1]
    exact ⟨fun _ => ⟨rfl, rfl, by simp [z58]⟩, fun h0 => by simp at h0⟩
  by_cases c2 : h.f0 = 2
  · rw [if_neg c1, if_pos c2]
    exact ⟨fun _ => ⟨rfl, rfl, by simp [c2]⟩, fun h0 => by simp at h0⟩
  rw [if_neg c1, if_neg c2]
  dsimp only
  by_cases c3 : (bodyR b).1 = 0
  · rw [if_pos c3]
    refine ⟨fun h0 => absurd rfl h0, fun _ => ?_⟩
    dsimp only
    obtain ⟨r1, r2⟩ : ∃ r : S58, bodyR b = (0, r) := ⟨(bodyR b).2, by rw [← c3]⟩
    rw [r2]
    dsimp only
    obtain ⟨a1, a2, a3, a4, a5, a6⟩ := bodyR_again r2
    refine ⟨?_, by omega, a3, s1, by omega⟩
    have hm : allM (tCl h r1) = true := may_two (by decide) m1 a2
    have hz : szT (tCl h r1) = szT h + szT r1 + 1 := by simp [tCl, szT, szL]
    have hdd := dpT_le (tCl h r1)
    have hcc : chk (tCl h r1) = 0 := chk_of hm (by omega) (by omega)
    rw [clauseR_of hcc]
    have hHB : clauseHB (tCl h r1) = (h, r1) := by unfold clauseHB isClause tCl; simp; exact ⟨rfl, rfl⟩
    rw [hHB]
    unfold clauseHBR
    dsimp only
    rw [if_neg c1, if_neg c2, a1]
    simp
  · rw [if_neg c3]
    by_cases c4 : (bodyR b).1 = 13
    · rw [if_pos c4]
      exact ⟨fun _ => ⟨rfl, rfl, by simp; omega⟩, fun h0 => by simp at h0⟩
    · rw [if_neg c4]
      exact ⟨fun _ => ⟨rfl, rfl, by simp [c4, z58]⟩, fun h0 => absurd h0 c3⟩
end Go.Proofs.Ythdnaliahdohhaa.H
