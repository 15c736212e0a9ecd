/- The plain laws of CodeSkips and CodeParts: where patterns end, in two codes one behind the other, in one with less, more, another slot. -/
import Derived.Test.YthdnaliahdohhaaHDcodeCheck
import Derived.Test.YthdnaliahdohhaaDx3
import Derived.Test.YthdnaliahdohhaaDx4
import Derived.Test.YthdnaliahdohhaaDx5
namespace Go.Proofs.Ythdnaliahdohhaa.D
open Go.RowKit Go.Proofs.YthdnaliahdohhaaW.PrintWords Go.Proofs.YthdnaliahdohhaaW.PrintLast Go.Proofs.YthdnaliahdohhaaW.PrintMore
set_option linter.unusedVariables false
set_option linter.unusedSimpArgs false
def conv (x : S89) : S39 := ⟨x.f0, x.f1, x.f2, x.f3⟩
def vnoc (x : S39) : S89 := ⟨x.f0, x.f1, x.f2, x.f3⟩
theorem vnoc_conv (l : List S89) : (l.map conv).map vnoc = l := by
  rw [List.map_map]
  have : (vnoc ∘ conv) = id := by funext x; rfl
  rw [this, List.map_id]
theorem drop_cons89 (l : List S89) (i : Nat) (h : i < l.length) : l.drop i = rd_T89 l i :: l.drop (i + 1) := by
  rw [List.drop_eq_getElem_cons h]
  simp only [rd_T89, Int.toNat_natCast, List.getD_eq_getElem?_getD, List.getElem?_eq_getElem h, Option.getD_some]
theorem drop_cons39 (l : List S39) (i : Nat) (h : i < l.length) : l.drop i = rd_T39 l i :: l.drop (i + 1) := by
  rw [List.drop_eq_getElem_cons h]
  simp only [rd_T39, Int.toNat_natCast, List.getD_eq_getElem?_getD, List.getElem?_eq_getElem h, Option.getD_some]
theorem rd_conv (l : List S89) (i : Nat) (h : i < l.length) : rd_T39 (l.map conv) i = conv (rd_T89 l i) := by
  simp only [rd_T39, rd_T89, Int.toNat_natCast, List.getD_eq_getElem?_getD, List.getElem?_map, List.getElem?_eq_getElem h, Option.getD_some, Option.map_some]
theorem To_l0 (l : List S89) (hl : l.length ≤ 1000000) (n : ByteArray) (a s b : Int) : ∀ (d : Nat) (i : Nat) (acc : List S39), i + d = l.length → acc.length = i →
    Ev (fun k => prolixlaw18_To.l0 k l (l.length : Int) (i : Int) n a s b acc) (n, a, s, b, acc ++ (l.drop i).map conv)
  | 0, i, acc, hi, ha => by
    rw [List.drop_of_length_le (by omega)]
    refine Ev.step (f := fun k => some (n, a, s, b, acc)) (fun k => by simp only [prolixlaw18_To.l0]; rw [if_neg (by omega)]) ?_
    simp only [List.map_nil, List.append_nil]
    exact Ev.now _
  | d + 1, i, acc, hi, ha => by
    have := To_l0 l hl n a s b d (i + 1) (acc ++ [(⟨(rd_T89 l i).f0, (rd_T89 l i).f1, (rd_T89 l i).f2, (rd_T89 l i).f3⟩ : S39)]) (by omega) (by simp; omega)
    rw [drop_cons89 l i (by omega)]
    refine Ev.step (f := fun k => prolixlaw18_To.l0 k l (l.length : Int) ((i + 1 : Nat) : Int) n a s b (acc ++ [(⟨(rd_T89 l i).f0, (rd_T89 l i).f1, (rd_T89 l i).f2, (rd_T89 l i).f3⟩ : S39)])) (fun k => by
      simp only [prolixlaw18_To.l0]
      rw [if_pos (by omega), if_pos (by omega), if_pos (by omega), if_pos (by omega), wrapI (by omega) (by omega)]; rfl) ?_
    simp only [List.map_cons, List.append_assoc, List.singleton_append] at this ⊢
    exact this
theorem To_ev (n : ByteArray) (a s b : Int) (l : List S89) (hl : l.length ≤ 1000000) : Ev (fun k => prolixlaw18_To.f k n a s b l) (n, a, s, b, l.map conv) := by
  have := To_l0 l hl n a s b l.length 0 [] (by omega) rfl
  simp only [List.nil_append, List.drop_zero] at this
  exact this
theorem takeP_append : ∀ (l r : List S39) (n m : Nat), takeP n l = some m → takeP n (l ++ r) = some m
  | l, r, 0, m, h => by simpa [takeP] using h
  | [], r, n + 1, m, h => by simp [takeP] at h
  | i :: l, r, n + 1, m, h => by
    simp only [takeP, List.cons_append] at h ⊢
    split at h
    · simp at h
    · next a ha =>
      obtain ⟨q, h1, rfl⟩ := Option.map_eq_some_iff.1 h
      simp only [takeP_append l r _ q h1, Option.map_some]
theorem takeP_suffix : ∀ (l : List S39) (n : Nat), takeP n l = some l.length → ∀ j, j < l.length → ∃ q, 0 < q ∧ takeP q (l.drop j) = some (l.length - j)
  | l, n, h, 0, hj => ⟨n, by
      cases n with
      | zero => simp [takeP] at h; omega
      | succ n => omega, by simpa using h⟩
  | [], n, h, j + 1, hj => by simp at hj
  | i :: l, 0, h, j + 1, hj => by simp [takeP] at h
  | i :: l, n + 1, h, j + 1, hj => by
    simp only [takeP] at h
    split at h
    · simp at h
    · next a ha =>
      obtain ⟨q, h1, h2⟩ := Option.map_eq_some_iff.1 h
      simp only [List.length_cons] at h2 hj
      obtain rfl : q = l.length := by omega
      obtain ⟨r, hr, h3⟩ := takeP_suffix l _ h1 j (by omega)
      exact ⟨r, hr, by simpa using h3⟩
theorem takeP_pos (l : List S39) (n m : Nat) (h : takeP (n + 1) l = some m) : 0 < m := by
  cases l with
  | nil => simp [takeP] at h
  | cons i l =>
    simp only [takeP] at h
    split at h
    · simp at h
    · obtain ⟨q, _, rfl⟩ := Option.map_eq_some_iff.1 h; omega
theorem skips_take (l : List S39) : ∀ (n : Nat) (p : Int), 0 ≤ p → 0 ≤ skips l n p → p ≤ skips l n p ∧ takeP n (l.drop p.toNat) = some (skips l n p - p).toNat
  | 0, p, hp, h => by simp [skips, takeP]
  | n + 1, p, hp, h => by
    simp only [skips] at h ⊢
    split at h
    · omega
    · next h1 =>
      rw [if_neg h1]
      obtain ⟨h2, h3, m, hm, he⟩ := skp_take l p (by omega)
      obtain ⟨h4, h5⟩ := skips_take l n (skp l p) (by omega) h
      rw [he] at h4 h5 ⊢
      refine ⟨by omega, ?_⟩
      rw [show n + 1 = 1 + n by omega, takeP_add, hm]
      simp only [Option.bind_some, List.drop_drop]
      rw [show p.toNat + m = (p + (m : Int)).toNat by omega, h5]
      simp only [Option.map_some, Option.some.injEq]
      omega
/-- A code that may be, by its parts. -/
theorem chkv_ok {n : ByteArray} {a s b : Int} {l : List S39} (h : chkv n a s b l = 0) :
    l.length ≤ 20000 ∧ 0 ≤ a ∧ a ≤ 255 ∧ n.size ≤ 1000 ∧ skips l a.toNat 0 = b ∧ 0 ≤ b ∧ skp l b = l.length ∧ runI l 0 = some s := by
  unfold chkv at h
  split at h
  · omega
  · split at h
    · omega
    · split at h
      · next h1 =>
        split at h
        · next q hq =>
          split at h
          · next h2 => subst h2; exact ⟨by omega, by omega, by omega, by omega, h1.1, h1.2.1, h1.2.2, hq⟩
          · omega
        · omega
      · omega
theorem whole_take {n : ByteArray} {a s b : Int} {l : List S39} (h : chkv n a s b l = 0) : takeP (a.toNat + 1) l = some l.length := by
  obtain ⟨_, _, _, _, h1, h2, h3, _⟩ := chkv_ok h
  have h4 := skips_take l a.toNat 0 (by omega) (by omega)
  rw [h1] at h4
  obtain ⟨_, _, m, hm, he⟩ := skp_take l b (by omega)
  rw [takeP_add]
  simp only [Int.toNat_zero, List.drop_zero, Int.sub_zero] at h4
  rw [h4.2]
  simp only [Option.bind_some, hm, Option.map_some, Option.some.injEq]
  omega
theorem not_whole {n : ByteArray} {a s b : Int} {l : List S39} (hl : l.length ≤ 20000) (h : takeP (a.toNat + 1) l ≠ some l.length) : chkv n a s b l = 2 := by
  unfold chkv
  rw [if_neg (by omega)]
  split
  · rfl
  · split
    · next h1 =>
      exfalso
      apply h
      have h4 := skips_take l a.toNat 0 (by omega) (by omega)
      rw [h1.1] at h4
      obtain ⟨_, _, m, hm, he⟩ := skp_take l b (by omega)
      rw [takeP_add]
      simp only [Int.toNat_zero, List.drop_zero, Int.sub_zero] at h4
      rw [h4.2]
      simp only [Option.bind_some, hm, Option.map_some, Option.some.injEq]
      omega
    · rfl
theorem skp_append (x y : List S39) (p : Int) (h : 0 ≤ skp x p) : skp (x ++ y) p = skp x p := by
  obtain ⟨h0, h1, m, hm, he⟩ := skp_take x p h
  have hlt : p < x.length := by
    unfold skp at h
    split at h
    · omega
    · split at h <;> omega
  unfold skp
  rw [if_neg (by omega), if_neg (by simp; omega), if_neg (by omega), if_neg (by omega), List.drop_append_of_le_length (by omega), takeP_append _ y 1 m hm, hm]
theorem skp_shift (x y : List S39) (p : Int) (hp : 0 ≤ p) (h : 0 ≤ skp y p) : skp (x ++ y) (x.length + p) = x.length + skp y p := by
  obtain ⟨h0, h1, m, hm, he⟩ := skp_take y p h
  have hlt : p < y.length := by
    unfold skp at h
    split at h
    · omega
    · split at h <;> omega
  rw [he]
  unfold skp
  rw [if_neg (by omega), if_neg (by simp; omega), show ((x.length : Int) + p).toNat = x.length + p.toNat by omega, List.drop_append, List.drop_of_length_le (by omega)]
  rw [show x.length + p.toNat - x.length = p.toNat by omega, List.nil_append, hm]
  simp; omega
theorem skp_inside {n : ByteArray} {a s b : Int} {l : List S39} (h : chkv n a s b l = 0) (j : Nat) (hj : j < l.length) : (j : Int) < skp l j ∧ skp l j ≤ l.length := by
  obtain ⟨q, hq, h1⟩ := takeP_suffix l _ (whole_take h) j hj
  obtain ⟨q, rfl⟩ : ∃ r, q = 1 + r := ⟨q - 1, by omega⟩
  rw [takeP_add] at h1
  obtain ⟨m, hm, h2⟩ := Option.bind_eq_some_iff.1 h1
  have h3 := takeP_pos _ 0 m hm
  have h4 := takeP_le _ _ _ hm
  rw [List.length_drop] at h4
  have e : skp l j = j + m := by
    unfold skp
    rw [if_neg (by omega), if_neg (by omega), Int.toNat_natCast, hm]
  omega
theorem alive_ev : Ev prolixlaw18_alive.f true := by
  have h : prolixlaw18_alive.f 40 = some true := by decide +kernel
  exact Ev.of prolixlaw18_alive.mono h
theorem skips_loop (x y : List S39) (hx : x.length ≤ 1000) (hy : y.length ≤ 1000) {n : ByteArray} {a s b : Int} (h : chkv n a s b y = 0) (ny : ByteArray) (ay sy by_ : Int) : ∀ (d j : Nat), j + d = y.length →
    Ev (fun k => prolixlaw18_CodeSkips.l0 k (x.length : Int) (x ++ y) (y.length : Int) (j : Int) ny ay sy by_ y) true
  | 0, j, hj => Ev.step (f := fun k => some true) (fun k => by simp only [prolixlaw18_CodeSkips.l0]; rw [if_neg (by omega)]) (Ev.now _)
  | d + 1, j, hj => by
    have ih := skips_loop x y hx hy h ny ay sy by_ d (j + 1) (by omega)
    have hi := skp_inside h j (by omega)
    have hsh := skp_shift x y j (by omega) (by omega)
    refine Ev.step (f := fun k => ((code_Skip.f k y j).bind fun t161 => (if t161 ≤ (j : Int) then (prolixlaw18_CodeSkips.j4 k (x.length : Int) (x ++ y) (y.length : Int) (j : Int) true ny ay sy by_ y) else (if t161 > (y.length : Int) then (prolixlaw18_CodeSkips.j4 k (x.length : Int) (x ++ y) (y.length : Int) (j : Int) true ny ay sy by_ y) else ((code_Skip.f k (x ++ y) (wrap64 ((x.length : Int) + j))).bind fun t162 => (prolixlaw18_CodeSkips.j4 k (x.length : Int) (x ++ y) (y.length : Int) (j : Int) (t162 != (wrap64 ((x.length : Int) + t161))) ny ay sy by_ y)))))) (fun k => by simp only [prolixlaw18_CodeSkips.l0]; rw [if_pos (by omega)]) ?_
    refine Ev.bind (skip_all y j (by omega)) ?_
    simp only [show ¬ skp y j ≤ (j : Int) by omega, show ¬ skp y j > (y.length : Int) by omega, if_false]
    rw [wrapI (by omega) (by omega), wrapI (by omega) (by omega)]
    refine Ev.bind (skip_all (x ++ y) _ (by simp; omega)) ?_
    rw [hsh]
    simp only [bne_self_eq_false]
    refine Ev.step (f := fun k => prolixlaw18_CodeSkips.l0 k (x.length : Int) (x ++ y) (y.length : Int) ((j + 1 : Nat) : Int) ny ay sy by_ y) (fun k => by simp only [prolixlaw18_CodeSkips.j4, Bool.false_eq_true, if_false]; rw [wrapI (by omega) (by omega)]; rfl) ih
theorem CodeSkips_pure (n : ByteArray) (a s b : Int) (l : List S89) (n2 : ByteArray) (a2 s2 b2 : Int) (l2 : List S89) : ∃ k, prolixlaw18_CodeSkips.f k n a s b l n2 a2 s2 b2 l2 = some true := by
  refine Ev.rounds ?_
  unfold prolixlaw18_CodeSkips.f
  refine Ev.bind alive_ev ?_
  simp only [if_true]
  have hT : ∀ {n : ByteArray} {a s b : Int} {l : List S89} {n2 : ByteArray} {a2 s2 b2 : Int} {l2 : List S89}, Ev (fun k => prolixlaw18_CodeSkips.j0 k true n a s b l n2 a2 s2 b2 l2) true := Ev.step (f := fun k => some true) (fun k => by simp only [prolixlaw18_CodeSkips.j0, if_true]) (Ev.now _)
  by_cases h : (l.length : Int) > 500
  · simp only [h, if_true]; exact hT
  simp only [h, if_false]
  by_cases h2 : (l2.length : Int) > 500
  · simp only [h2, decide_true]; exact hT
  simp only [h2, decide_false]
  generalize hx : l.map conv = x
  generalize hy : l2.map conv = y
  have hxl : x.length ≤ 500 := by rw [← hx, List.length_map]; omega
  have hyl : y.length ≤ 500 := by rw [← hy, List.length_map]; omega
  have hTo := To_ev n a s b l (by omega)
  have hTo2 := To_ev n2 a2 s2 b2 l2 (by omega)
  rw [hx] at hTo
  rw [hy] at hTo2
  have hJ1 : ∀ {n : ByteArray} {a s b : Int} {l : List S39} {n2 : ByteArray} {a2 s2 b2 : Int} {l2 : List S39}, Ev (fun k => prolixlaw18_CodeSkips.j1 k true n a s b l n2 a2 s2 b2 l2) true := Ev.step (f := fun k => some true) (fun k => by simp only [prolixlaw18_CodeSkips.j1, if_true]) (Ev.now _)
  refine Ev.step (f := fun k => ((prolixlaw18_To.f k n a s b l).bind fun bt132 => ((prolixlaw18_To.f k n2 a2 s2 b2 l2).bind fun bt139 => ((code_Check.f k bt132.1 bt132.2.1 bt132.2.2.1 bt132.2.2.2.1 bt132.2.2.2.2).bind fun t148 => (if t148 = 0 then ((code_Check.f k bt139.1 bt139.2.1 bt139.2.2.1 bt139.2.2.2.1 bt139.2.2.2.2).bind fun t149 => (prolixlaw18_CodeSkips.j1 k (t149 != 0) bt132.1 bt132.2.1 bt132.2.2.1 bt132.2.2.2.1 bt132.2.2.2.2 bt139.1 bt139.2.1 bt139.2.2.1 bt139.2.2.2.1 bt139.2.2.2.2)) else (prolixlaw18_CodeSkips.j1 k true bt132.1 bt132.2.1 bt132.2.2.1 bt132.2.2.2.1 bt132.2.2.2.2 bt139.1 bt139.2.1 bt139.2.2.1 bt139.2.2.2.1 bt139.2.2.2.2)))))) (fun k => by simp only [prolixlaw18_CodeSkips.j0, Bool.false_eq_true, if_false]) ?_
  refine Ev.bind hTo ?_
  refine Ev.bind hTo2 ?_
  simp only
  refine Ev.bind (a := chkv n a s b x) (Ev.now _) ?_
  by_cases hc : chkv n a s b x = 0
  · simp only [hc, if_true]
    refine Ev.bind (a := chkv n2 a2 s2 b2 y) (Ev.now _) ?_
    by_cases hc2 : chkv n2 a2 s2 b2 y = 0
    · simp only [hc2, bne_self_eq_false]
      obtain ⟨_, _, _, _, h3, h4, h5, _⟩ := chkv_ok hc
      obtain ⟨_, _, _, _, g3, g4, g5, _⟩ := chkv_ok hc2
      have e1 : skp (x ++ y) b = x.length := by rw [skp_append x y b (by omega), h5]
      have e2 : skp (x ++ y) (x.length + b2) = x.length + y.length := by rw [skp_shift x y b2 g4 (by omega), g5]
      have hb2 : b2 ≤ y.length := by
        obtain ⟨_, q, _⟩ := skp_take y b2 (by omega); exact q
      refine Ev.step (f := fun k => ((some (([] : List (S39)) : List (S39))).bind fun y150 => (if y150.length + x.length < 3518437208883 then ((some (y150 ++ x : List (S39))).bind fun y153 => (if y153.length + y.length < 3518437208883 then ((some (y153 ++ y : List (S39))).bind fun y156 => ((code_Skip.f k y156 b).bind fun t159 => (if t159 = (x.length : Int) then ((code_Skip.f k y156 (wrap64 ((x.length : Int) + b2))).bind fun t160 => (prolixlaw18_CodeSkips.j2 k (x.length : Int) y156 (t160 != (wrap64 ((x.length : Int) + (y.length : Int)))) n2 a2 s2 b2 y)) else (prolixlaw18_CodeSkips.j2 k (x.length : Int) y156 true n2 a2 s2 b2 y)))) else (none))) else (none)))) (fun k => by simp only [prolixlaw18_CodeSkips.j1, Bool.false_eq_true, if_false]) ?_
      simp only [Option.bind_some, List.length_nil, Nat.zero_add, List.nil_append, show x.length < 3518437208883 by omega, show x.length + y.length < 3518437208883 by omega, if_true]
      refine Ev.bind (skip_all (x ++ y) b (by simp; omega)) ?_
      simp only [e1, if_true]
      rw [wrapI (by omega) (by omega), wrapI (by omega) (by omega)]
      refine Ev.bind (skip_all (x ++ y) _ (by simp; omega)) ?_
      simp only [e2, bne_self_eq_false]
      refine Ev.step (f := fun k => prolixlaw18_CodeSkips.l0 k (x.length : Int) (x ++ y) (y.length : Int) 0 n2 a2 s2 b2 y) (fun k => by simp only [prolixlaw18_CodeSkips.j2, Bool.false_eq_true, if_false]) ?_
      exact skips_loop x y (by omega) (by omega) hc2 n2 a2 s2 b2 y.length 0 (by omega)
    · have e : (chkv n2 a2 s2 b2 y != 0) = true := by simpa using hc2
      simp only [e]
      exact hJ1
  · simp only [hc, if_false]
    exact hJ1
theorem skp_lt (l : List S39) (p : Int) (h : 0 ≤ skp l p) : 0 ≤ p ∧ p < l.length := by
  unfold skp at h
  split at h
  · omega
  · split at h
    · omega
    · omega
theorem skips_snoc (l : List S39) : ∀ (n : Nat) (p : Int), skips l (n + 1) p = if skips l n p < 0 ∧ 0 < n then -1 else if skp l (skips l n p) < 0 then -1 else skp l (skips l n p)
  | 0, p => by
    rw [show skips l 0 p = p from rfl, show skips l (0 + 1) p = if skp l p < 0 then -1 else skp l p from rfl, if_neg (show ¬ (p < 0 ∧ 0 < 0) by omega)]
  | n + 1, p => by
    have ih := skips_snoc l n (skp l p)
    rw [show skips l (n + 1 + 1) p = if skp l p < 0 then -1 else skips l (n + 1) (skp l p) from rfl, show skips l (n + 1) p = if skp l p < 0 then -1 else skips l n (skp l p) from rfl]
    by_cases h : skp l p < 0
    · rw [if_pos h, if_pos h, if_pos ⟨by omega, by omega⟩]
    · rw [if_neg h, if_neg h, ih]
      by_cases h2 : skips l n (skp l p) < 0
      · by_cases h3 : 0 < n
        · rw [if_pos ⟨h2, h3⟩, if_pos ⟨h2, by omega⟩]
        · obtain rfl : n = 0 := by omega
          simp only [skips] at h2; omega
      · rw [if_neg (show ¬ (skips l n (skp l p) < 0 ∧ 0 < n) by omega), if_neg (show ¬ (skips l n (skp l p) < 0 ∧ 0 < n + 1) by omega)]
theorem skips_stay (l : List S39) (n m : Nat) (p : Int) (hp : 0 ≤ p) (h : 0 ≤ skips l (n + m) p) : 0 ≤ skips l n p := by
  induction m with
  | zero => exact h
  | succ m ih =>
    apply ih
    rw [show n + (m + 1) = n + m + 1 from rfl, skips_snoc] at h
    rcases skips_ge l (n + m) p hp with h1 | h1
    · rw [h1] at h
      by_cases h2 : 0 < n + m
      · rw [if_pos ⟨by omega, h2⟩] at h; omega
      · obtain ⟨rfl, rfl⟩ : n = 0 ∧ m = 0 := ⟨by omega, by omega⟩
        simp only [skips] at h1; omega
    · exact h1
theorem skips_step (l : List S39) (n : Nat) (h : 0 ≤ skips l (n + 1) 0) : skp l (skips l n 0) = skips l (n + 1) 0 := by
  rw [skips_snoc] at h ⊢
  split at h
  · omega
  · next h1 =>
    rw [if_neg h1]
    split at h
    · omega
    · next h2 => rw [if_neg h2]
theorem parts_end (n : ByteArray) (a s b : Int) (l : List S89) (x : List S39) (hx : l.map conv = x) (hl : x.length ≤ 2000) (h : chkv n a s b x = 0) : Ev (fun k => prolixlaw18_CodeParts.j2 k false n a s b l) true := by
  have hw := whole_take h
  obtain ⟨_, ha, ha2, hn, h1, h2, h3, h4⟩ := chkv_ok h
  have hx1 := (skp_lt x b (by omega)).2
  have hl2 : l.length = x.length := by rw [← hx, List.length_map]
  have hTo := To_ev n a s b l (by omega)
  rw [hx] at hTo
  refine Ev.step (f := fun k => ((prolixlaw18_To.f k n a s b l).bind fun bt181 => ((prolixlaw18_To.f k n a s b l).bind fun bt188 => ((prolixlaw18_To.f k n a s b l).bind fun bt195 => (if 0 ≤ (wrap64 ((bt181.2.2.2.2.length : Int) - 1)) then (if (wrap64 ((bt181.2.2.2.2.length : Int) - 1)) ≤ (bt181.2.2.2.2.length : Int) then (if bt188.2.2.2.2.length < 3518437208883 then ((code_Check.f k bt181.1 bt181.2.1 bt181.2.2.1 bt181.2.2.2.1 (bt181.2.2.2.2.take ((wrap64 ((bt181.2.2.2.2.length : Int) - 1)) : Int).toNat)).bind fun t211 => (if t211 = 2 then ((code_Check.f k bt188.1 bt188.2.1 bt188.2.2.1 bt188.2.2.2.1 (bt188.2.2.2.2 ++ [(⟨5, 0, 0, (⟨#[]⟩ : ByteArray)⟩ : S39)])).bind fun t212 => (if t212 = 2 then ((code_Check.f k bt195.1 bt195.2.1 (wrap64 (bt195.2.2.1 + 1)) bt195.2.2.2.1 bt195.2.2.2.2).bind fun t213 => (some (t213 == 2))) else (none))) else (none))) else (none)) else (none)) else (none)))))) (fun k => by simp only [prolixlaw18_CodeParts.j2, Bool.false_eq_true, if_false]) ?_
  refine Ev.bind hTo ?_
  refine Ev.bind hTo ?_
  refine Ev.bind hTo ?_
  simp only
  rw [wrapI (x := (x.length : Int) - 1) (by omega) (by omega)]
  simp only [show (0 : Int) ≤ (x.length : Int) - 1 by omega, show (x.length : Int) - 1 ≤ (x.length : Int) by omega, show x.length < 3518437208883 by omega, if_true]
  have e1 : chkv n a s b (x.take ((x.length : Int) - 1).toNat) = 2 := by
    refine not_whole (by rw [List.length_take]; omega) fun hq => ?_
    have h5 := takeP_append _ (x.drop ((x.length : Int) - 1).toNat) _ _ hq
    rw [List.take_append_drop, hw, List.length_take] at h5
    have := Option.some.inj h5
    omega
  have e2 : chkv n a s b (x ++ [(⟨5, 0, 0, (⟨#[]⟩ : ByteArray)⟩ : S39)]) = 2 := by
    refine not_whole (by simp; omega) fun hq => ?_
    rw [takeP_append x _ _ _ hw] at hq
    have := Option.some.inj hq
    simp at this
  have e3 : chkv n a (wrap64 (s + 1)) b x = 2 := by
    unfold chkv
    rw [if_neg (by omega), if_neg (by omega), if_pos ⟨h1, h2, h3⟩, h4]
    simp only
    rw [if_neg]
    unfold wrap64
    omega
  refine Ev.bind (a := 2) ((Ev.now _).congr fun k => by simp only [code_Check.f, e1]) ?_
  simp only [if_true]
  refine Ev.bind (a := 2) ((Ev.now _).congr fun k => by simp only [code_Check.f, e2]) ?_
  simp only [if_true]
  refine Ev.bind (a := 2) ((Ev.now _).congr fun k => by simp only [code_Check.f, e3]) ?_
  exact Ev.now _
theorem parts_loop (n : ByteArray) (a s b : Int) (l : List S89) (x : List S39) (hx : l.map conv = x) (hl : x.length ≤ 2000) (h : chkv n a s b x = 0) : ∀ (d i : Nat), (i : Int) + d = a → 
    Ev (fun k => prolixlaw18_CodeParts.l0 k (skips x i 0) (i : Int) n a s b l n a s b x) true := by
  obtain ⟨_, ha, ha2, hn, h1, h2, h3, h4⟩ := chkv_ok h
  intro d
  induction d with
  | zero =>
    intro i hi
    have hia : a.toNat = i := by omega
    rw [← hia, h1]
    have hb := (skp_lt x b (by omega)).2
    refine Ev.step (f := fun k => ((code_Skip.f k x b).bind fun t180 => (if (wrap64 ((a.toNat : Int) + 1)) = a then (if t180 = b then (prolixlaw18_CodeParts.j1 k t180 (wrap64 ((a.toNat : Int) + 1)) (decide (t180 < 0)) n a s b l n a s b x) else (prolixlaw18_CodeParts.j1 k t180 (wrap64 ((a.toNat : Int) + 1)) true n a s b l n a s b x)) else (prolixlaw18_CodeParts.j1 k t180 (wrap64 ((a.toNat : Int) + 1)) (decide (t180 < 0)) n a s b l n a s b x)))) (fun k => by simp only [prolixlaw18_CodeParts.l0]; rw [if_pos (by omega)]) ?_
    refine Ev.bind (skip_all x b (by omega)) ?_
    rw [h3, wrapI (by omega) (by omega)]
    simp only [show ¬ ((a.toNat : Int) + 1) = a by omega, if_false, show ¬ (x.length : Int) < 0 by omega, decide_false]
    refine Ev.step (f := fun k => prolixlaw18_CodeParts.l0 k (x.length : Int) ((a.toNat : Int) + 1) n a s b l n a s b x) (fun k => by simp only [prolixlaw18_CodeParts.j1, Bool.false_eq_true, if_false]) ?_
    refine Ev.step (f := fun k => prolixlaw18_CodeParts.j2 k ((x.length : Int) != (x.length : Int)) n a s b l) (fun k => by simp only [prolixlaw18_CodeParts.l0]; rw [if_neg (by omega), wrapI (by omega) (by omega), if_pos (by omega)]) ?_
    rw [bne_self_eq_false]
    exact parts_end n a s b l x hx hl h
  | succ d ih =>
    intro i hi
    have hs : 0 ≤ skips x (i + 1) 0 := skips_stay x (i + 1) d 0 (by omega) (by rw [show i + 1 + d = a.toNat by omega]; omega)
    have hst := skips_step x i hs
    have hlt := (skp_lt x (skips x i 0) (by omega)).2
    refine Ev.step (f := fun k => ((code_Skip.f k x (skips x i 0)).bind fun t180 => (if (wrap64 ((i : Int) + 1)) = a then (if t180 = b then (prolixlaw18_CodeParts.j1 k t180 (wrap64 ((i : Int) + 1)) (decide (t180 < 0)) n a s b l n a s b x) else (prolixlaw18_CodeParts.j1 k t180 (wrap64 ((i : Int) + 1)) true n a s b l n a s b x)) else (prolixlaw18_CodeParts.j1 k t180 (wrap64 ((i : Int) + 1)) (decide (t180 < 0)) n a s b l n a s b x)))) (fun k => by simp only [prolixlaw18_CodeParts.l0]; rw [if_pos (by omega)]) ?_
    refine Ev.bind (skip_all x _ (by omega)) ?_
    rw [hst, wrapI (by omega) (by omega)]
    have hgo : Ev (fun k => prolixlaw18_CodeParts.j1 k (skips x (i + 1) 0) ((i : Int) + 1) false n a s b l n a s b x) true :=
      Ev.step (f := fun k => prolixlaw18_CodeParts.l0 k (skips x (i + 1) 0) ((i + 1 : Nat) : Int) n a s b l n a s b x) (fun k => by simp only [prolixlaw18_CodeParts.j1, Bool.false_eq_true, if_false]; rfl) (ih (i + 1) (by omega))
    simp only [show ¬ skips x (i + 1) 0 < 0 by omega, decide_false]
    by_cases he : (i : Int) + 1 = a
    · have hb : skips x (i + 1) 0 = b := by rw [← h1, show i + 1 = a.toNat by omega]
      simp only [he, hb, if_true]
      rw [he, hb] at hgo
      exact hgo
    · simp only [he, if_false]
      exact hgo
theorem CodeParts_pure (n : ByteArray) (a s b : Int) (l : List S89) (q : Int) : ∃ k, prolixlaw18_CodeParts.f k n a s b l q = some true := by
  refine Ev.rounds ?_
  unfold prolixlaw18_CodeParts.f
  refine Ev.bind alive_ev ?_
  simp only [if_true]
  by_cases h : (l.length : Int) > 2000
  · simp only [h, if_true]; exact Ev.now _
  simp only [h, if_false]
  generalize hx : l.map conv = x
  have hxl : x.length ≤ 2000 := by rw [← hx, List.length_map]; omega
  have hTo := To_ev n a s b l (by omega)
  rw [hx] at hTo
  refine Ev.bind hTo ?_
  simp only
  refine Ev.bind (a := chkv n a s b x) (Ev.now _) ?_
  by_cases hc : chkv n a s b x = 0
  · simp only [hc, if_true]
    obtain ⟨_, ha, _⟩ := chkv_ok hc
    exact parts_loop n a s b l x hx hxl hc a.toNat 0 (by omega)
  · simp only [hc, if_false]
    exact Ev.now _
end Go.Proofs.Ythdnaliahdohhaa.D
