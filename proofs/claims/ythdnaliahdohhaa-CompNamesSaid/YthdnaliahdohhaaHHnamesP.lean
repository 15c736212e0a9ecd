/- CompNames, plainly: variables of other numbers come to the same code. -/
import Derived.Test.YthdnaliahdohhaaHHcompile
import Derived.Test.YthdnaliahdohhaaHHrename
namespace Go.Proofs.Ythdnaliahdohhaa.H
open Go.RowKit Go.Proofs.YthdnaliahdohhaaW.PrintWords Go.Proofs.Ythdnaliahdohhaa.Map
set_option linter.unusedVariables false
set_option linter.unusedSimpArgs false
mutual
/-- all variables' numbers are p -/
def AllV (p : Int → Prop) : S58 → Prop
  | ⟨k, n, s, l⟩ => (k = 1 → p n) ∧ AllVL p l
def AllVL (p : Int → Prop) : List S58 → Prop
  | [] => True
  | x :: l => AllV p x ∧ AllVL p l
end
theorem AllV_eq (p : Int → Prop) (x : S58) : AllV p x ↔ (x.f0 = 1 → p x.f1) ∧ AllVL p x.f3 := by cases x; rfl
def rho (b : Int) (T : List (Int × Int)) : List (Int × Int) := T.map fun q => (rnm q.1 b, q.2)
/-- the renaming keeps numbers apart on p -/
def Inj (p : Int → Prop) (b : Int) : Prop := ∀ n m, p n → p m → rnm n b = rnm m b → n = m
def Keys (p : Int → Prop) (T : List (Int × Int)) : Prop := ∀ q ∈ T, p q.1
section
variable {p : Int → Prop} {b : Int}
theorem rho_len (T : List (Int × Int)) : (rho b T).length = T.length := by simp [rho]
theorem look_rho (hi : Inj p b) {n : Int} (hn : p n) : ∀ {T : List (Int × Int)}, Keys p T → lookK (rnm n b) (rho b T) = lookK n T
  | [], _ => rfl
  | q :: T, h => by
    have ih := look_rho hi hn (T := T) (fun z hz => h z (List.mem_cons_of_mem _ hz))
    show (if rnm n b = rnm q.1 b then some q.2 else lookK (rnm n b) (rho b T)) = (if n = q.1 then some q.2 else lookK n T)
    by_cases he : n = q.1
    · rw [if_pos he, if_pos (by rw [he])]
    · rw [if_neg he, if_neg (fun e => he (hi _ _ hn (h q (List.mem_cons_self ..)) e)), ih]
theorem put_rho (hi : Inj p b) {n : Int} (hn : p n) (v : Int) : ∀ {T : List (Int × Int)}, Keys p T → putK (rnm n b) v (rho b T) = rho b (putK n v T)
  | [], _ => rfl
  | q :: T, h => by
    have ih := put_rho hi hn v (T := T) (fun z hz => h z (List.mem_cons_of_mem _ hz))
    show (if rnm n b = rnm q.1 b then (rnm n b, v) :: rho b T else (rnm q.1 b, q.2) :: putK (rnm n b) v (rho b T)) = rho b (if n = q.1 then (n, v) :: T else q :: putK n v T)
    by_cases he : n = q.1
    · rw [if_pos he, if_pos (by rw [he])]; rfl
    · rw [if_neg he, if_neg (fun e => he (hi _ _ hn (h q (List.mem_cons_self ..)) e)), ih]; rfl
theorem keys_put {n : Int} (hn : p n) (v : Int) {T : List (Int × Int)} (h : Keys p T) : Keys p (putK n v T) := by
  intro q hq
  rcases put_keys n v T q hq with h1 | h1
  · rw [h1]; exact hn
  · exact h q h1
theorem cntN_rho (hi : Inj p b) (x : S58) (hx : x.f0 = 1 → p x.f1) {T : List (Int × Int)} (h : Keys p T) : cntN (renT b x) (rho b T) = rho b (cntN x T) ∧ Keys p (cntN x T) := by
  rw [renT_eq]
  unfold cntN
  by_cases hk : x.f0 = 1
  · simp only [if_pos hk]
    have e : rnN b x = rnm x.f1 b := by unfold rnN; rw [if_pos hk]
    unfold cntV
    rw [e, look_rho hi (hx hk) h, put_rho hi (hx hk) _ h]
    exact ⟨rfl, keys_put (hx hk) _ h⟩
  · simp only [if_neg hk]
    exact ⟨by first | rfl | trivial, h⟩
mutual
theorem cntT_rho (hi : Inj p b) : ∀ (x : S58) (hx : AllV p x) {T : List (Int × Int)} (h : Keys p T), cntT (renT b x) (rho b T) = rho b (cntT x T) ∧ Keys p (cntT x T)
  | ⟨k, n, s, l⟩, hx, T, h => by
    have h1 := cntN_rho hi ⟨k, n, s, l⟩ hx.1 h
    have h2 := cntL_rho hi l hx.2 h1.2
    rw [cntT_eq, cntT_eq, h1.1]
    exact h2
theorem cntL_rho (hi : Inj p b) : ∀ (l : List S58) (hx : AllVL p l) {T : List (Int × Int)} (h : Keys p T), cntL (renL b l) (rho b T) = rho b (cntL l T) ∧ Keys p (cntL l T)
  | [], _, T, h => ⟨rfl, h⟩
  | x :: l, hx, T, h => by
    have h1 := cntT_rho hi x hx.1 h
    have h2 := cntL_rho hi l hx.2 h1.2
    simp only [renL, cntL]
    rw [h1.1]
    exact h2
end
theorem var_rho (hi : Inj p b) {n : Int} (hn : p n) {T S : List (Int × Int)} (h : Keys p T) (hS : Keys p S) : varI (rnm n b) (rho b T) (rho b S) = varI n T S ∧ varS (rnm n b) (rho b T) (rho b S) = rho b (varS n T S) ∧ Keys p (varS n T S) := by
  unfold varI varS
  rw [look_rho hi hn h, look_rho hi hn hS, put_rho hi hn _ hS, rho_len]
  refine ⟨rfl, ?_, ?_⟩
  · split
    · rfl
    split <;> rfl
  · split
    · exact hS
    split
    · exact hS
    · exact keys_put hn _ hS
/-- codes alike, slots renamed -/
def LikeP (p : Int → Prop) (b : Int) (q r : LS39) : Prop := q.1 = r.1 ∧ q.2 = rho b r.2 ∧ Keys p r.2
theorem renL_len' (l : List S58) : ((renL b l).length : Int) = l.length := by rw [renL_len]
theorem patN_rho (hi : Inj p b) (x : S58) (hx : x.f0 = 1 → p x.f1) {T : List (Int × Int)} (h : Keys p T) {q r : LS39} (hq : LikeP p b q r) : LikeP p b (patN (rho b T) (renT b x) q) (patN T x r) := by
  obtain ⟨h1, h2, h3⟩ := hq
  rw [renT_eq]
  unfold patN
  dsimp only
  by_cases hk : x.f0 = 1
  · simp only [if_pos hk]
    have e : rnN b x = rnm x.f1 b := by unfold rnN; rw [if_pos hk]
    have hv := var_rho hi (hx hk) h h3
    rw [e, h1, h2, hv.1, hv.2.1]
    exact ⟨rfl, rfl, hv.2.2⟩
  simp only [if_neg hk]
  have e : rnN b x = x.f1 := by unfold rnN; rw [if_neg hk]
  split
  · rw [e]; exact ⟨by rw [h1], h2, h3⟩
  split
  · exact ⟨by rw [h1], h2, h3⟩
  split
  · exact ⟨by rw [h1, renL_len], h2, h3⟩
  · exact ⟨h1, h2, h3⟩
mutual
theorem patT_rho (hi : Inj p b) {T : List (Int × Int)} (h : Keys p T) : ∀ (x : S58) (hx : AllV p x) {q r : LS39} (hq : LikeP p b q r), LikeP p b (patT (rho b T) (renT b x) q) (patT T x r)
  | ⟨k, n, s, l⟩, hx, q, r, hq => by
    have h1 := patN_rho hi ⟨k, n, s, l⟩ hx.1 h hq
    have h2 := patL_rho hi h l hx.2 h1
    rw [patT_eq, patT_eq]
    exact h2
theorem patL_rho (hi : Inj p b) {T : List (Int × Int)} (h : Keys p T) : ∀ (l : List S58) (hx : AllVL p l) {q r : LS39} (hq : LikeP p b q r), LikeP p b (patL (rho b T) (renL b l) q) (patL T l r)
  | [], _, q, r, hq => hq
  | x :: l, hx, q, r, hq => by
    have h1 := patT_rho hi h x hx.1 hq
    have h2 := patL_rho hi h l hx.2 h1
    exact h2
end
end
mutual
theorem szT_ren (b : Int) : ∀ x : S58, szT (renT b x) = szT x
  | ⟨k, n, s, l⟩ => by simp only [renT, szT, szL_ren b l]
theorem szL_ren (b : Int) : ∀ l : List S58, szL (renL b l) = szL l
  | [] => rfl
  | x :: l => by simp only [renL, szL, szT_ren b x, szL_ren b l]
end
mutual
theorem dpT_ren (b : Int) : ∀ x : S58, dpT (renT b x) = dpT x
  | ⟨k, n, s, l⟩ => by simp only [renT, dpT, dpL_ren b l]
theorem dpL_ren (b : Int) : ∀ l : List S58, dpL (renL b l) = dpL l
  | [] => rfl
  | x :: l => by simp only [renL, dpL, dpT_ren b x, dpL_ren b l]
end
/-- numbers that the law lets in -/
def Low (n : Int) : Prop := 0 ≤ n ∧ n < 1099511627776
theorem rnm_low {n b : Int} (hn : Low n) (hb : 0 ≤ b ∧ b < 65536) : rnm n b = (if n % 2 = 0 then n + 1 else n - 1) + 2 * b := by
  have h1 : Int.tdiv n 2 = n / 2 := Int.tdiv_eq_ediv_of_nonneg hn.1
  have h2 : Int.tmod n 2 = n % 2 := Int.tmod_eq_emod_of_nonneg hn.1
  obtain ⟨hn1, hn2⟩ := hn
  unfold rnm rn0
  rw [if_pos hn2, h1, h2]
  unfold wrap64
  split <;> omega
theorem rnm_inj {b : Int} (hb : 0 ≤ b ∧ b < 65536) : Inj Low b := by
  intro n m hn hm he
  rw [rnm_low hn hb, rnm_low hm hb] at he
  split at he <;> split at he <;> omega
theorem mayK_ren {x : S58} {b : Int} (hb : 0 ≤ b ∧ b < 65536) (hx : x.f0 = 1 → Low x.f1) (h : mayK x.f0 x.f1 x.f2 x.f3.length = true) : mayK x.f0 (rnN b x) x.f2 x.f3.length = true := by
  unfold rnN
  by_cases hk : x.f0 = 1
  · rw [if_pos hk, rnm_low (hx hk) hb]
    unfold mayK at h ⊢
    have := (hx hk).1
    simp only [hk] at h ⊢
    simp only [Bool.and_eq_true, decide_eq_true_eq, if_pos] at h ⊢
    refine ⟨⟨?_, h.1.2⟩, h.2⟩
    split <;> omega
  · rw [if_neg hk]; exact h
mutual
theorem allM_ren {b : Int} (hb : 0 ≤ b ∧ b < 65536) : ∀ x : S58, AllV Low x → allM x = true → allM (renT b x) = true
  | ⟨k, n, s, l⟩, hx, h => by
    rw [allM_eq] at h
    rw [renT_eq, allM_eq]
    simp only [Bool.and_eq_true] at h ⊢
    refine ⟨?_, allL_ren hb l hx.2 h.2⟩
    have := mayK_ren (x := ⟨k, n, s, l⟩) hb hx.1 h.1
    rwa [renL_len]
theorem allL_ren {b : Int} (hb : 0 ≤ b ∧ b < 65536) : ∀ l : List S58, AllVL Low l → allL l = true → allL (renL b l) = true
  | [], _, _ => rfl
  | x :: l, hx, h => by
    simp only [allL, renL, Bool.and_eq_true] at h ⊢
    exact ⟨allM_ren hb x hx.1 h.1, allL_ren hb l hx.2 h.2⟩
end
theorem chk_ren {b : Int} (hb : 0 ≤ b ∧ b < 65536) {x : S58} (hv : AllV Low x) (h : allM x = true) : chk (renT b x) = chk x := by
  unfold chk
  rw [allM_ren hb x hv h, h, dpT_ren, szT_ren]
theorem names_law {b : Int} (hb : 0 ≤ b ∧ b < 65536) {x y : S58} (hx : AllV Low x) (hy : AllV Low y) (mx : allM x = true) (my : allM y = true) : compR (renT b x) (renT b y) = compR x y := by
  have hi := rnm_inj hb
  have hT0 : Keys Low ([] : List (Int × Int)) := fun q hq => by simp at hq
  have c1 := cntT_rho hi x hx hT0
  have c2 := cntT_rho hi y hy c1.2
  have hc : cntHB (renT b x) (renT b y) = rho b (cntHB x y) := by
    unfold cntHB
    rw [show ([] : List (Int × Int)) = rho b [] from rfl, c1.1, c2.1]
    rfl
  have hr0 : LikeP Low b ([], []) ([], []) := ⟨rfl, rfl, hT0⟩
  have hx3 : AllVL Low x.f3 := ((AllV_eq Low x).1 hx).2
  have p1 : LikeP Low b (headR (renT b x) (renT b y)) (headR x y) := by
    unfold headR
    rw [hc, show (renT b x).f3 = renL b x.f3 by rw [renT_eq]]
    exact patL_rho hi c2.2 x.f3 hx3 hr0
  have p2 : LikeP Low b (bodyC (renT b x) (renT b y)) (bodyC x y) := by
    unfold bodyC
    rw [hc]
    exact patT_rho hi c2.2 y hy p1
  have e0 : (renT b x).f0 = x.f0 := by rw [renT_eq]
  have e2 : (renT b x).f2 = x.f2 := by rw [renT_eq]
  have e3 : (renT b x).f3.length = x.f3.length := by rw [renT_eq, renL_len]
  unfold compR
  rw [chk_ren hb hx mx, chk_ren hb hy my, e0, e2, e3, szT_ren, szT_ren, p1.1, p2.1, p2.2.1, rho_len]
mutual
theorem AllV_mono {p q : Int → Prop} (h : ∀ n, p n → q n) : ∀ x : S58, AllV p x → AllV q x
  | ⟨k, n, s, l⟩, hx => ⟨fun hk => h _ (hx.1 hk), AllVL_mono h l hx.2⟩
theorem AllVL_mono {p q : Int → Prop} (h : ∀ n, p n → q n) : ∀ l : List S58, AllVL p l → AllVL q l
  | [], _ => trivial
  | x :: l, hx => ⟨AllV_mono h x hx.1, AllVL_mono h l hx.2⟩
end
mutual
theorem AllV_and {p q : Int → Prop} : ∀ x : S58, AllV p x → AllV q x → AllV (fun n => p n ∧ q n) x
  | ⟨k, n, s, l⟩, hx, hy => ⟨fun hk => ⟨hx.1 hk, hy.1 hk⟩, AllVL_and l hx.2 hy.2⟩
theorem AllVL_and {p q : Int → Prop} : ∀ l : List S58, AllVL p l → AllVL q l → AllVL (fun n => p n ∧ q n) l
  | [], _, _ => trivial
  | x :: l, hx, hy => ⟨AllV_and x hx.1 hy.1, AllVL_and l hx.2 hy.2⟩
end
mutual
theorem AllV_ge : ∀ x : S58, allM x = true → AllV (fun n => 0 ≤ n) x
  | ⟨k, n, s, l⟩, h => by
    rw [allM_eq] at h
    simp only [Bool.and_eq_true] at h
    refine ⟨fun hk => ?_, AllVL_ge l h.2⟩
    have h1 := h.1
    unfold mayK at h1
    simp only [hk, if_pos, Bool.and_eq_true, decide_eq_true_eq] at h1
    omega
theorem AllVL_ge : ∀ l : List S58, allL l = true → AllVL (fun n => 0 ≤ n) l
  | [], _ => trivial
  | x :: l, h => by
    simp only [allL, Bool.and_eq_true] at h
    exact ⟨AllV_ge x h.1, AllVL_ge l h.2⟩
end
def keys (M : FM) : List Int := M.map (·.1)
theorem look_keys (n : Int) : ∀ M : FM, (lookK n M).isSome = true → n ∈ keys M
  | [], h => by simp [lookK] at h
  | q :: M, h => by
    unfold lookK at h
    by_cases he : n = q.1
    · simp [keys, he]
    · rw [if_neg he] at h
      have := look_keys n M h
      simp only [keys, List.map_cons, List.mem_cons] at this ⊢
      exact .inr this
theorem find_keys (n : Int) (M : FM) : n ∈ keys (findM n M) ∧ ∀ m, m ∈ keys M → m ∈ keys (findM n M) := by
  unfold findM
  by_cases h : (lookK n M).isSome = true
  · rw [if_pos h]; exact ⟨look_keys n M h, fun _ hm => hm⟩
  · rw [if_neg h]
    refine ⟨by simp [keys], fun m hm => ?_⟩
    simp only [keys, List.map_append, List.mem_append] at hm ⊢
    exact .inl hm
theorem wiN_keys (x : S58) (M : FM) : (x.f0 = 1 → x.f1 ∈ keys (wiN x M).2) ∧ ∀ m, m ∈ keys M → m ∈ keys (wiN x M).2 := by
  unfold wiN
  by_cases hk : x.f0 = 1
  · rw [if_pos hk]; exact ⟨fun _ => (find_keys _ _).1, (find_keys _ _).2⟩
  · rw [if_neg hk]; exact ⟨fun h => absurd h hk, fun _ h => h⟩
mutual
theorem wiT_keys : ∀ (x : S58) (M : FM), AllV (fun n => n ∈ keys (wiT x M).2) x ∧ ∀ m, m ∈ keys M → m ∈ keys (wiT x M).2
  | ⟨k, n, s, l⟩, M => by
    have h1 := wiN_keys ⟨k, n, s, l⟩ M
    have h2 := wiL_keys l (wiN ⟨k, n, s, l⟩ M).2
    rw [wiT_eq]
    exact ⟨⟨fun hk => h2.2 _ (h1.1 hk), h2.1⟩, fun m hm => h2.2 _ (h1.2 m hm)⟩
theorem wiL_keys : ∀ (l : List S58) (M : FM), AllVL (fun n => n ∈ keys (wiL l M).2) l ∧ ∀ m, m ∈ keys M → m ∈ keys (wiL l M).2
  | [], M => ⟨trivial, fun _ h => h⟩
  | x :: l, M => by
    have h1 := wiT_keys x M
    have h2 := wiL_keys l (wiT x M).2
    exact ⟨⟨AllV_mono (fun n hn => h2.2 n hn) x h1.1, h2.1⟩, fun m hm => h2.2 m (h1.2 m hm)⟩
end
/-- the variables of both terms -/
def bothT (x y : S58) : S58 := ⟨4, 0, ⟨#[98, 111, 116, 104]⟩, [x, y]⟩
def bothV (x y : S58) : List Int := (wiT (bothT x y) []).2.map (·.1)
theorem both_low {x y : S58} (mx : allM x = true) (my : allM y = true) (h : ∀ n ∈ bothV x y, n < 1099511627776) : AllV Low x ∧ AllV Low y := by
  have hk := (wiT_keys (bothT x y) []).1
  have h3 := ((AllV_eq _ _).1 hk).2
  exact ⟨AllV_and x (AllV_ge x mx) (AllV_mono h x h3.1), AllV_and y (AllV_ge y my) (AllV_mono h y h3.2.1)⟩
theorem names_pure {b : Int} (hb : 0 ≤ b ∧ b < 65536) {x y : S58} (mx : allM x = true) (my : allM y = true) (h : ∀ n ∈ bothV x y, n < 1099511627776) : compR (renT b x) (renT b y) = compR x y :=
  have hv := both_low mx my h
  names_law hb hv.1 hv.2 mx my
end Go.Proofs.Ythdnaliahdohhaa.H
