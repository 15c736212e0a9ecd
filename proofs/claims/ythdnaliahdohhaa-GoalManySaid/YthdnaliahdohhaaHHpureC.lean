/- Goals, plainly: bodies of two, their goals. -/
import Derived.Test.YthdnaliahdohhaaHHpureB
import Derived.Test.YthdnaliahdohhaaHHflat
namespace Go.Proofs.Ythdnaliahdohhaa.H
open Go.RowKit
set_option linter.unusedVariables false
set_option linter.unusedSimpArgs false
def tAnd2 (a b : S58) : S58 := ⟨4, 0, ⟨#[44]⟩, [a, b]⟩
theorem two_sz {x : S58} (hl : x.f3.length = 2) : szT x = szT (rd_T58 x.f3 (0 : Nat)) + szT (rd_T58 x.f3 (1 : Nat)) + 1 := by
  obtain ⟨k, m, s, l⟩ := x
  match l, hl with
  | [a, b], _ => simp [szT, szL, rd_T58]
theorem body_fuel : ∀ (n m : Nat) (x : S58), szT x ≤ n → szT x ≤ m → bodyN n x = bodyN m x
  | 0, m, x, h, _ => by have := szT_eq x; omega
  | n + 1, 0, x, _, h => by have := szT_eq x; omega
  | n + 1, m + 1, x, h1, h2 => by
    unfold bodyN
    by_cases hp : partedB x = true
    · have hl := two_sz (parted_two hp).1
      rw [body_fuel n m (rd_T58 x.f3 (0 : Nat)) (by omega) (by omega), body_fuel n m (rd_T58 x.f3 (1 : Nat)) (by omega) (by omega)]
    · rw [if_neg hp, if_neg hp]
theorem flat_fuel : ∀ (n m : Nat) (x : S58), szT x ≤ n → szT x ≤ m → flatN n x = flatN m x
  | 0, m, x, h, _ => by have := szT_eq x; omega
  | n + 1, 0, x, _, h => by have := szT_eq x; omega
  | n + 1, m + 1, x, h1, h2 => by
    unfold flatN
    by_cases hp : kindV x = 2
    · have hl := two_sz (kind2 hp).2
      rw [if_pos hp, if_pos hp, flat_fuel n m (rd_T58 x.f3 (0 : Nat)) (by omega) (by omega), flat_fuel n m (rd_T58 x.f3 (1 : Nat)) (by omega) (by omega)]
    · rw [if_neg hp, if_neg hp]
theorem flat_szs : ∀ (n : Nat) (x : S58), ∀ z ∈ flatN n x, szT z ≤ szT x
  | 0, x, z, h => by simp [flatN] at h; rw [h]; exact Nat.le_refl _
  | n + 1, x, z, h => by
    unfold flatN at h
    split at h
    · next hp =>
      have hl := two_sz (kind2 hp).2
      rcases List.mem_append.1 h with h | h
      · have := flat_szs n _ z h; omega
      · have := flat_szs n _ z h; omega
    · simp at h; rw [h]; exact Nat.le_refl _
theorem rd_mem {l : List S58} {k : Nat} (h : k < l.length) : rd_T58 l (k : Int) ∈ l := by
  unfold rd_T58
  simp [h]
theorem kindAnd (a b : S58) : kindV (tAnd2 a b) = 2 := by
  unfold kindV tAnd2
  rw [if_neg (by simp), if_pos rfl, if_neg (by simp)]
  show kindLook ⟨#[44]⟩ ((2 : Nat) : Int) = 2
  decide +kernel
theorem parted_and (a b : S58) : partedB (tAnd2 a b) = true := by unfold partedB; rw [kindAnd]; simp
theorem and_sz (a b : S58) : szT (tAnd2 a b) = szT a + szT b + 1 := by simp [tAnd2, szT, szL]
theorem flat_and (n : Nat) (a b : S58) : flatN (n + 1) (tAnd2 a b) = flatN n a ++ flatN n b := by rw [flatN, if_pos (kindAnd a b)]; rfl
/-- among a body's goals none is an and -/
theorem flat_kinds : ∀ (n : Nat) (y : S58), szT y ≤ n → allM y = true → bodyN (szT y) y = some y → ∀ z ∈ flatN n y, ¬ kindV z = 2 ∧ 0 ≤ kindV z
  | 0, y, h, _, _, _, _ => by have := szT_eq y; omega
  | n + 1, y, h, hm, hb, z, hz => by
    have hbb := body_body _ _ _ hb hm
    unfold flatN at hz
    split at hz
    · next hk =>
      obtain ⟨hp, hl⟩ := kind2 hk
      have hs := two_sz hl
      have h4 := parted_4 hm hp
      obtain ⟨q1, q2, q3, q4⟩ := mayT_4 hm h4
      rw [hs] at hb
      obtain ⟨k, m, s, l⟩ := y
      match l, hl with
      | [a, b], _ =>
        simp [allL] at q4
        have r0 : rd_T58 [a, b] ((0 : Nat) : Int) = a := rfl
        have r1 : rd_T58 [a, b] ((1 : Nat) : Int) = b := rfl
        simp only [r0, r1] at hb hz hs
        unfold bodyN at hb
        rw [if_neg (by simp_all), if_neg (by simp_all), if_pos hp] at hb
        simp only [r0, r1] at hb
        obtain ⟨a1, ha, hb⟩ := Option.bind_eq_some_iff.1 hb
        obtain ⟨b1, hb1, he⟩ := Option.map_eq_some_iff.1 hb
        injection he with _ _ _ he
        injection he with e1 he
        injection he with e2 _
        subst e1
        subst e2
        rcases List.mem_append.1 hz with hz | hz
        · exact flat_kinds n _ (by omega) q4.1 (by rw [body_fuel _ _ _ (Nat.le_refl _) (show szT a1 ≤ szT a1 + szT b1 by omega)]; exact ha) z hz
        · exact flat_kinds n _ (by omega) q4.2 (by rw [body_fuel _ _ _ (Nat.le_refl _) (show szT b1 ≤ szT a1 + szT b1 by omega)]; exact hb1) z hz
    · next hk =>
      simp at hz
      subst hz
      exact ⟨hk, hbb.2.1⟩
/-- Body of a small term that may be. -/
theorem body_small {t : S58} (ht : allM t = true) (hs : szT t ≤ 1001) (hd : dpT t ≤ 1000) :
    bodyR t = (match bodyN (szT t) t with | none => (13, z58) | some y => if chk y = 0 then (0, y) else (chk y, z58)) := by
  unfold bodyR
  rw [if_pos (chk_of ht (by omega) (by omega))]
  rfl
theorem body_dp : ∀ (n : Nat) (x y : S58), bodyN n x = some y → dpT y ≤ dpT x + 1
  | 0, x, y, h => by simp [bodyN] at h
  | n + 1, x, y, h => by
    unfold bodyN at h
    split at h
    · injection h with h; subst h; simp [dpT, dpL]
    split at h
    · cases h
    split at h
    · next hp =>
      obtain ⟨a1, ha, h⟩ := Option.bind_eq_some_iff.1 h
      obtain ⟨b1, hb, rfl⟩ := Option.map_eq_some_iff.1 h
      have h1 := body_dp n _ _ ha
      have h2 := body_dp n _ _ hb
      have hl := (parted_two hp).1
      obtain ⟨k, m, s, l⟩ := x
      match l, hl with
      | [a, b], _ =>
        have r0 : rd_T58 [a, b] ((0 : Nat) : Int) = a := rfl
        have r1 : rd_T58 [a, b] ((1 : Nat) : Int) = b := rfl
        simp only [r0, r1] at h1 h2
        simp [dpT, dpL]
        omega
    · injection h with h; subst h; omega
/-- the laws of two bodies -/
theorem bodies_law {t u : S58} (ht : allM t = true) (hu : allM u = true) (st : szT t ≤ 500) (su : szT u ≤ 500) :
    (((bodyR t).1 = 13 ∨ ((bodyR t).1 = 0 ∧ (bodyR u).1 = 13)) ∧ (bodyR (tAnd2 t u)).1 = 13) ∨
    ∃ x y, bodyR t = (0, x) ∧ bodyR u = (0, y) ∧ bodyR (tAnd2 t u) = (0, tAnd2 x y) := by
  have dt := dpT_le t
  have du := dpT_le u
  have sa := and_sz t u
  have da : dpT (tAnd2 t u) = max (dpT t) (dpT u) + 1 := by simp [tAnd2, dpT, dpL]
  have ma : allM (tAnd2 t u) = true := may_two (by decide) ht hu
  have B1 := body_small ht (by omega) (by omega)
  have B2 := body_small hu (by omega) (by omega)
  have B3 := body_small ma (by omega) (by omega)
  have e3 : bodyN (szT (tAnd2 t u)) (tAnd2 t u) = (bodyN (szT t) t).bind fun a => (bodyN (szT u) u).map fun b => tAnd2 a b := by
    rw [sa, body_fuel (szT t) (szT t + szT u) t (Nat.le_refl _) (by omega), body_fuel (szT u) (szT t + szT u) u (Nat.le_refl _) (by omega)]
    rw [bodyN, if_neg (by simp [tAnd2]), if_neg (by simp [tAnd2]), if_pos (parted_and t u)]
    rfl
  rw [e3] at B3
  cases h1 : bodyN (szT t) t with
  | none =>
    rw [h1] at B1 B3
    exact Or.inl ⟨Or.inl (by rw [B1]), by rw [B3]; rfl⟩
  | some x =>
    have bx := body_body _ _ _ h1 ht
    have sx := bodyN_sz _ _ _ h1
    have dx := body_dp _ _ _ h1
    have cx : chk x = 0 := chk_of bx.1 (by omega) (by omega)
    rw [h1] at B1 B3
    simp only [cx, if_true] at B1
    cases h2 : bodyN (szT u) u with
    | none =>
      rw [h2] at B2 B3
      exact Or.inl ⟨Or.inr ⟨by rw [B1], by rw [B2]⟩, by rw [B3]; rfl⟩
    | some y =>
      have by_ := body_body _ _ _ h2 hu
      have sy := bodyN_sz _ _ _ h2
      have dy := body_dp _ _ _ h2
      have cy : chk y = 0 := chk_of by_.1 (by omega) (by omega)
      rw [h2] at B2 B3
      simp only [cy, if_true] at B2
      have m2 : allM (tAnd2 x y) = true := may_two (by decide) bx.1 by_.1
      have d2 : dpT (tAnd2 x y) = max (dpT x) (dpT y) + 1 := by simp [tAnd2, dpT, dpL]
      have s2 := and_sz x y
      have c2 : chk (tAnd2 x y) = 0 := chk_of m2 (by omega) (by omega)
      simp only [Option.bind_some, Option.map_some, c2, if_true] at B3
      exact Or.inr ⟨x, y, B1, B2, B3⟩
end Go.Proofs.Ythdnaliahdohhaa.H
