/- Goals, plainly: the printed Of and Mend over terms as values. -/
import Derived.Test.YthdnaliahdohhaaHHcheck
import Derived.Test.YthdnaliahdohhaaHx3
import Derived.Test.YthdnaliahdohhaaHx4
namespace Go.Proofs.Ythdnaliahdohhaa.H
open Go.RowKit Go.Proofs.YthdnaliahdohhaaW.PrintWords Go.Proofs.YthdnaliahdohhaaW.PrintLast Go.Proofs.YthdnaliahdohhaaW.PrintMore
set_option linter.unusedVariables false
set_option linter.unusedSimpArgs false
mutual
/-- no row is longer than seven -/
def narT : S58 → Bool
  | ⟨_, _, _, l⟩ => decide (l.length ≤ 7) && narL l
def narL : List S58 → Bool
  | [] => true
  | x :: l => narT x && narL l
end
theorem narT_eq (x : S58) : narT x = (decide (x.f3.length ≤ 7) && narL x.f3) := by cases x; rfl
theorem narL_append : ∀ a b : List S58, narL (a ++ b) = (narL a && narL b)
  | [], b => by simp [narL]
  | x :: a, b => by simp [narL, narL_append a b, Bool.and_assoc]
theorem allL_append : ∀ a b : List S58, allL (a ++ b) = (allL a && allL b)
  | [], b => by simp [allL]
  | x :: a, b => by simp [allL, allL_append a b, Bool.and_assoc]
theorem narL_get : ∀ (l : List S58) (j : Nat), narL l = true → j < l.length → narT (rd_T58 l j) = true
  | x :: l, 0, h, _ => by simp [narL] at h; exact h.1
  | x :: l, j + 1, h, hj => by
    simp [narL] at h
    exact narL_get l j h.2 (by simpa using hj)
theorem szL_get : ∀ (l : List S58) (j : Nat), j < l.length → szT (rd_T58 l j) + szL (l.drop (j + 1)) = szL (l.drop j)
  | x :: l, 0, _ => by simp [szL, rd_T58]
  | x :: l, j + 1, hj => by
    exact szL_get l j (by simpa using hj)
theorem szL_drop_le (l : List S58) (j : Nat) : szL (l.drop j) ≤ szL l := by
  have := szL_append (l.take j) (l.drop j)
  rw [List.take_append_drop] at this
  omega
theorem w64 {i : Int} (h0 : -1000000000 ≤ i) (h1 : i ≤ 1000000000) : wrap64 i = i := by
  unfold wrap64; omega
/-- what Mend makes of a term may be -/
theorem mend_loop (l : List S58) (s : ByteArray) (hl : szL l ≤ 1000000) (hM : ∀ j : Nat, j < l.length → ∃ y : S58, (∃ K, ∀ k, K ≤ k → prolixref03_Mend.f k (rd_T58 l j).f0 (rd_T58 l j).f1 (rd_T58 l j).f2 (rd_T58 l j).f3 = some (y.f0, y.f1, y.f2, y.f3)) ∧ allM y = true ∧ szT y ≤ szT (rd_T58 l j)) (m : Nat) :
    ∀ (j : Nat) (acc : List S58), l.length = j + m → acc.length = j → ∃ ys : List S58, (∃ K, ∀ k, K ≤ k → prolixref03_Mend.l0 k l (l.length : Int) j 4 0 s acc = some (4, 0, s, acc ++ ys)) ∧ ys.length = m ∧ allL ys = true ∧ szL ys ≤ szL (l.drop j) := by
  have hlen := szL_len l
  induction m with
  | zero =>
    intro j acc hj ha
    refine ⟨[], ⟨1, fun k hk => ?_⟩, rfl, rfl, by simp [szL]⟩
    obtain ⟨k, rfl⟩ : ∃ k', k = k' + 1 := ⟨k - 1, by omega⟩
    simp only [prolixref03_Mend.l0]
    rw [if_neg (by omega)]; simp
  | succ m ih =>
    intro j acc hj ha
    obtain ⟨⟨y0, y1, y2, y3⟩, ⟨K2, h2⟩, hy, hsy⟩ := hM j (by omega)
    obtain ⟨y, hye⟩ : ∃ y : S58, y = ⟨y0, y1, y2, y3⟩ := ⟨_, rfl⟩
    rw [← hye] at hy hsy
    obtain ⟨ys, ⟨K1, h1⟩, hl1, hal, hsz⟩ := ih (j + 1) (acc ++ [y]) (by omega) (by simp [ha])
    refine ⟨y :: ys, ⟨max K1 K2 + 1, fun k hk => ?_⟩, by simp [hl1], by simp [allL, hy, hal], ?_⟩
    · obtain ⟨k, rfl⟩ : ∃ k', k = k' + 1 := ⟨k - 1, by omega⟩
      simp only [prolixref03_Mend.l0]
      rw [if_pos (by omega), if_pos (by omega), if_pos (by omega), h2 k (by omega)]
      simp only [Option.bind_some]
      rw [if_pos (by omega), w64 (by omega) (by omega)]
      have := h1 k (by omega)
      rw [hye, List.append_assoc, show ((j + 1 : Nat) : Int) = (j : Int) + 1 from by omega] at this
      rw [hye]
      exact this
    · have := szL_get l j (by omega)
      simp only [szL]; omega
theorem mx_max (a b : Int) : mx a b = max a b := by unfold mx; rw [Int.max_def]; split <;> split <;> omega
theorem mend_ok (n : Nat) (hn : n ≤ 1000000) : ∀ x : S58, szT x ≤ n → narT x = true → ∃ y : S58, (∃ K, ∀ k, K ≤ k → prolixref03_Mend.f k x.f0 x.f1 x.f2 x.f3 = some (y.f0, y.f1, y.f2, y.f3)) ∧ allM y = true ∧ szT y ≤ szT x := by
  induction n with
  | zero => intro x hx; have := szT_eq x; omega
  | succ n ih0 =>
    have ih := ih0 (by omega)
    intro x hx hn7
    have hsz := szT_eq x
    rw [narT_eq] at hn7
    simp only [Bool.and_eq_true, decide_eq_true_eq] at hn7
    have one : ∀ (y : S58), (∀ k, prolixref03_Mend.f (k + 1) x.f0 x.f1 x.f2 x.f3 = some (y.f0, y.f1, y.f2, y.f3)) → allM y = true → szT y ≤ szT x → ∃ y : S58, (∃ K, ∀ k, K ≤ k → prolixref03_Mend.f k x.f0 x.f1 x.f2 x.f3 = some (y.f0, y.f1, y.f2, y.f3)) ∧ allM y = true ∧ szT y ≤ szT x := by
      intro y h1 h2 h3
      refine ⟨y, ⟨1, fun k hk => ?_⟩, h2, h3⟩
      obtain ⟨k, rfl⟩ : ∃ k', k = k' + 1 := ⟨k - 1, by omega⟩
      exact h1 k
    by_cases c1 : (x.f2.size : Int) > 20
    · exact one ⟨3, 0, ⟨#[97]⟩, []⟩ (fun k => by simp only [prolixref03_Mend.f]; rw [if_pos c1]) (by decide) (by simp [szT, szL]; omega)
    by_cases c2 : x.f0 = 1
    · exact one ⟨1, mx 0 x.f1, ⟨#[]⟩, []⟩ (fun k => by simp only [prolixref03_Mend.f]; rw [if_neg c1, if_pos c2]) (by rw [allM_eq]; simp [allL, mayK, mx_max]; exact ⟨Int.le_max_left .., rfl⟩) (by simp [szT, szL]; omega)
    by_cases c3 : x.f0 = 2
    · exact one ⟨2, x.f1, ⟨#[]⟩, []⟩ (fun k => by simp only [prolixref03_Mend.f]; rw [if_neg c1, if_neg c2, if_pos c3]) (by rw [allM_eq]; simp [allL, mayK]; rfl) (by simp [szT, szL]; omega)
    by_cases c4 : x.f0 = 3
    · exact one ⟨3, 0, x.f2, []⟩ (fun k => by simp only [prolixref03_Mend.f]; rw [if_neg c1, if_neg c2, if_neg c3, if_pos c4]) (by rw [allM_eq]; simp [allL, mayK]; omega) (by simp [szT, szL]; omega)
    by_cases c5 : x.f0 = 4
    · by_cases c6 : (x.f3.length : Int) = 0
      · exact one ⟨3, 0, ⟨#[97]⟩, []⟩ (fun k => by simp only [prolixref03_Mend.f]; rw [if_neg c1, if_neg c2, if_neg c3, if_neg c4, if_pos c5, if_pos c6]) (by decide) (by simp [szT, szL]; omega)
      · obtain ⟨ys, ⟨K, hK⟩, hl, ha, hs⟩ := mend_loop x.f3 x.f2 (by omega) (fun j hj => ih _ (by have := szL_get x.f3 j hj; have := szL_drop_le x.f3 j; omega) (narL_get _ j hn7.2 hj)) x.f3.length 0 [] (by omega) rfl
        refine ⟨⟨4, 0, x.f2, ys⟩, ⟨K + 1, fun k hk => ?_⟩, ?_, ?_⟩
        · obtain ⟨k, rfl⟩ : ∃ k', k = k' + 1 := ⟨k - 1, by omega⟩
          simp only [prolixref03_Mend.f]
          rw [if_neg c1, if_neg c2, if_neg c3, if_neg c4, if_pos c5, if_neg c6]
          exact hK k (by omega)
        · rw [allM_eq]; simp [mayK, ha]; omega
        · simp only [szT]; simp at hs; omega
    · exact one ⟨3, 0, ⟨#[97]⟩, []⟩ (fun k => by simp only [prolixref03_Mend.f]; rw [if_neg c1, if_neg c2, if_neg c3, if_neg c4, if_neg c5]) (by decide) (by simp [szT, szL]; omega)
/-- what Of makes of parts is no greater than them -/
theorem of_loop (l : List S146) (q e0 e1 e2 e3 b0 b1 : Int) (s0 s1 : ByteArray) (hq : wrap64 (Int.tmod e3 8) ≤ 7) (hl : l.length ≤ 1000) (hO : ∀ p : Nat, 1 ≤ p → p ≤ l.length → ∃ (y : S58) (r : Nat), (∃ K, ∀ k, K ≤ k → prolixref03_Of.f k (l.drop p) = some (y.f0, y.f1, y.f2, y.f3, (r : Int))) ∧ r ≤ l.length - p ∧ szT y ≤ 7 * r + 1 ∧ narT y = true) (m : Nat) :
    ∀ (p j : Nat) (acc : List S58), 1 ≤ p → p ≤ l.length → j + m = 7 → acc.length = j → ∃ (ys : List S58) (p' : Nat), (∃ K, ∀ k, K ≤ k → prolixref03_Of.l0 k l p j e0 e1 s0 e3 b0 b1 s1 acc = some (b0, b1, s1, acc ++ ys, (p' : Int))) ∧ p ≤ p' ∧ p' ≤ l.length ∧ ys.length ≤ m ∧ szL ys ≤ 7 * (p' - p) + ys.length ∧ narL ys = true := by
  induction m with
  | zero =>
    intro p j acc hp hpl hj ha
    refine ⟨[], p, ⟨1, fun k hk => ?_⟩, Nat.le_refl _, hpl, by simp, by simp [szL], rfl⟩
    obtain ⟨k, rfl⟩ : ∃ k', k = k' + 1 := ⟨k - 1, by omega⟩
    simp only [prolixref03_Of.l0]
    rw [if_neg (by omega)]; simp
  | succ m ih =>
    intro p j acc hp hpl hj ha
    by_cases hjq : (j : Int) < wrap64 (Int.tmod e3 8)
    · obtain ⟨⟨y0, y1, y2, y3⟩, r, ⟨K2, h2⟩, hr, hsy, hny⟩ := hO p hp hpl
      obtain ⟨y, hye⟩ : ∃ y : S58, y = ⟨y0, y1, y2, y3⟩ := ⟨_, rfl⟩
      rw [← hye] at hsy hny
      obtain ⟨ys, p', ⟨K1, h1⟩, hpp, hp'l, hlen, hsz, hnar⟩ := ih (p + r) (j + 1) (acc ++ [y]) (by omega) (by omega) (by omega) (by simp [ha])
      refine ⟨y :: ys, p', ⟨max K1 K2 + 1, fun k hk => ?_⟩, by omega, hp'l, by simp; omega, by simp only [szL, List.length_cons]; omega, by simp [narL, hny, hnar]⟩
      obtain ⟨k, rfl⟩ : ∃ k', k = k' + 1 := ⟨k - 1, by omega⟩
      simp only [prolixref03_Of.l0]
      rw [if_pos hjq, if_pos (by omega), if_pos (by omega)]
      rw [show ((p : Nat) : Int).toNat = p from by omega, h2 k (by omega)]
      simp only [Option.bind_some]
      rw [if_pos (by omega), w64 (by omega) (by omega), w64 (by omega) (by omega)]
      have := h1 k (by omega)
      rw [hye, List.append_assoc, show ((j + 1 : Nat) : Int) = (j : Int) + 1 from by omega, show ((p + r : Nat) : Int) = (p : Int) + r from by omega] at this
      rw [hye]
      exact this
    · refine ⟨[], p, ⟨1, fun k hk => ?_⟩, Nat.le_refl _, hpl, by simp, by simp [szL], rfl⟩
      obtain ⟨k, rfl⟩ : ∃ k', k = k' + 1 := ⟨k - 1, by omega⟩
      simp only [prolixref03_Of.l0]
      rw [if_neg hjq]; simp
theorem tmod_le (x : Int) : wrap64 (Int.tmod x 8) ≤ 7 := by
  have h1 : Int.tmod x 8 < 8 := Int.tmod_lt_of_pos x (by omega)
  have h2 : -8 < Int.tmod x 8 := by
    have := Int.tmod_lt_of_pos (-x) (show (0 : Int) < 8 by omega)
    rw [Int.neg_tmod] at this
    omega
  rw [w64 (by omega) (by omega)]
  omega
theorem of_ok (n : Nat) : ∀ l : List S146, l.length ≤ n → l.length ≤ 1000 → ∃ (y : S58) (r : Nat), (∃ K, ∀ k, K ≤ k → prolixref03_Of.f k l = some (y.f0, y.f1, y.f2, y.f3, (r : Int))) ∧ r ≤ l.length ∧ szT y ≤ 7 * r + 1 ∧ narT y = true := by
  have zero : ∀ l : List S146, l.length = 0 → ∃ (y : S58) (r : Nat), (∃ K, ∀ k, K ≤ k → prolixref03_Of.f k l = some (y.f0, y.f1, y.f2, y.f3, (r : Int))) ∧ r ≤ l.length ∧ szT y ≤ 7 * r + 1 ∧ narT y = true := by
    intro l h
    refine ⟨⟨3, 0, ⟨#[97]⟩, []⟩, 0, ⟨1, fun k hk => ?_⟩, by omega, by simp [szT, szL], by decide⟩
    obtain ⟨k, rfl⟩ : ∃ k', k = k' + 1 := ⟨k - 1, by omega⟩
    simp only [prolixref03_Of.f]
    rw [if_pos (by omega)]; rfl
  induction n with
  | zero => intro l hl _; exact zero l (by omega)
  | succ n ih =>
    intro l hl hl2
    by_cases h0 : l.length = 0
    · exact zero l h0
    obtain ⟨ys, p', ⟨K, hK⟩, hpp, hp'l, hlen, hsz, hnar⟩ := of_loop l 0 (rd_T146 l 0).f0 (rd_T146 l 0).f1 0 (rd_T146 l 0).f3 (rd_T146 l 0).f0 (rd_T146 l 0).f1 (rd_T146 l 0).f2 (rd_T146 l 0).f2 (tmod_le _) hl2 (fun p hp hpl => by
      obtain ⟨y, r, h1, h2, h3, h4⟩ := ih (l.drop p) (by simp; omega) (by simp; omega)
      exact ⟨y, r, h1, by simpa using h2, h3, h4⟩) 7 1 0 [] (Nat.le_refl _) (by omega) rfl rfl
    refine ⟨⟨(rd_T146 l 0).f0, (rd_T146 l 0).f1, (rd_T146 l 0).f2, ys⟩, p', ⟨K + 1, fun k hk => ?_⟩, hp'l, by simp only [szT]; omega, by rw [narT_eq]; simp [hnar]; exact hlen⟩
    obtain ⟨k, rfl⟩ : ∃ k', k = k' + 1 := ⟨k - 1, by omega⟩
    simp only [prolixref03_Of.f]
    rw [if_neg (by omega), if_pos (by omega)]
    exact hK k (by omega)
end Go.Proofs.Ythdnaliahdohhaa.H
