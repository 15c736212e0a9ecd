/- Goals: a goal's kind (goal.Kind). -/
import Derived.Test.YthdnaliahdohhaaHHcheck
import Derived.Test.YthdnaliahdohhaaHReg
namespace Go.Proofs.Ythdnaliahdohhaa.H
open Go.RowKit Go.Proofs.YthdnaliahdohhaaW.PrintWords Go.Proofs.YthdnaliahdohhaaW.PrintLast Go.Proofs.YthdnaliahdohhaaW.PrintMore Go.Proofs.Ythdnaliahdohhaa.Map Go.Proofs.Ythdnaliahdohhaa.Reg
attribute [local go_sem] max2_int min2_int max_two min_two max_three min_three max_four min_four
set_option linter.unusedVariables false
set_option linter.unusedSimpArgs false
theorem goalKey : KeyLaw Try.prog 131 encSI := structLaw (by kernel_rfl) (by kernel_rfl) (by kernel_rfl) (fun em w s n => by kernel_rfl)
def encN (n : Int) : Value := .int .i64 n
/-- what a literal's entries tell, so far -/
def litB (b : Nat → Bool) : List (Nat × (ByteArray × Int) × Int) → ByteArray × Int → Option Int
  | [], _ => none
  | e :: l, key => if b e.1 = true ∧ key = e.2.1 then some e.2.2 else litB b l key
theorem litB_none {b : Nat → Bool} {i : Nat} : ∀ {l : List (Nat × (ByteArray × Int) × Int)} {key}, (∀ e ∈ l, e.1 ≠ i) → litB (fun j => j == i || b j) l key = litB b l key
  | [], _, _ => rfl
  | e :: l, key, h => by
    have h1 : e.1 ≠ i := h e (List.mem_cons_self ..)
    have h2 := litB_none (b := b) (i := i) (l := l) (key := key) (fun x hx => h x (List.mem_cons_of_mem _ hx))
    unfold litB
    rw [h2]
    simp [h1]
theorem litB_add {b : Nat → Bool} : ∀ {l : List (Nat × (ByteArray × Int) × Int)} (e : Nat × (ByteArray × Int) × Int), e ∈ l → l.Pairwise (fun x y => x.1 ≠ y.1 ∧ x.2.1 ≠ y.2.1) → ∀ key, litB (fun j => j == e.1 || b j) l key = if key = e.2.1 then some e.2.2 else litB b l key
  | x :: l, e, he, hp, key => by
    obtain ⟨h1, h2⟩ := List.pairwise_cons.1 hp
    rcases List.mem_cons.1 he with rfl | he
    · have h3 := litB_none (b := b) (i := e.1) (l := l) (key := key) (fun y hy => (h1 y hy).1.symm)
      unfold litB
      rw [h3]
      by_cases hk : key = e.2.1 <;> simp [hk]
    · have h3 := litB_add (b := b) (l := l) e he h2 key
      have h4 := h1 e he
      unfold litB
      rw [h3]
      by_cases hk : key = e.2.1
      · subst hk
        have : ¬ e.2.1 = x.2.1 := fun h => h4.2 h.symm
        simp [this]
      · have : (x.1 == e.1) = false := by simpa using h4.1
        simp [hk, this]
def kindLit : List (Nat × (ByteArray × Int) × Int) := [(2, (⟨#[116, 114, 117, 101]⟩, 0), 1), (4, (⟨#[44]⟩, 2), 2), (6, (⟨#[59]⟩, 2), 3), (8, (⟨#[45, 62]⟩, 2), 4), (10, (⟨#[92, 43]⟩, 1), 5), (12, (⟨#[33]⟩, 0), 6), (14, (⟨#[102, 97, 105, 108]⟩, 0), 7), (16, (⟨#[99, 97, 116, 99, 104]⟩, 3), 9), (18, (⟨#[116, 104, 114, 111, 119]⟩, 1), 10), (20, (⟨#[102, 105, 110, 100, 97, 108, 108]⟩, 3), 11)]
theorem kindLit_apart : kindLit.Pairwise (fun x y => x.1 ≠ y.1 ∧ x.2.1 ≠ y.2.1) := by decide +kernel
theorem zeroI (w : World) : (zeroValue 3).run Try.prog w = .ok (.int .i64 0) w := by kernel_rfl
def kindLook (s : ByteArray) (n : Int) : Int := (litB (fun _ => true) kindLit (s, n)).getD 0
def base : Array Bool := #[true, true, false, true, false, true, false, true, false, true, false, true, false, true, false, true, false, true, false, true, false, false, false]
/-- a goal's kind -/
def kindV (x : S58) : Int := if x.f0 = 3 then kindLook x.f2 x.f3.length else if x.f0 = 4 then if x.f2 = ⟨#[99, 97, 108, 108]⟩ then 8 else kindLook x.f2 x.f3.length else -1
theorem litB_full {b : Nat → Bool} (h : ∀ i, i < 23 → b i = true) (key : ByteArray × Int) : litB b kindLit key = litB (fun _ => true) kindLit key := by
  have : ∀ (l : List (Nat × (ByteArray × Int) × Int)), (∀ e ∈ l, e.1 < 23) → litB b l key = litB (fun _ => true) l key := by
    intro l
    induction l with
    | nil => intro _; rfl
    | cons e l ih =>
      intro hl
      unfold litB
      rw [ih (fun x hx => hl x (List.mem_cons_of_mem _ hx)), h e.1 (hl e (List.mem_cons_self ..))]
  exact this kindLit (by decide +kernel)
/-- the literal's map, so far -/
structure Lit (w w' : World) (m : Nat) (b : Nat → Bool) (L : List ((ByteArray × Int) × Int)) : Prop where
  map : Is encSI encN w' m L
  look : ∀ key, lookK key L = litB b kindLit key
  lo : w.heap.size ≤ m
  below : Below w.heap.size w w'
theorem Lit.put {w w1 : World} {m : Nat} {b : Nat → Bool} {L : List ((ByteArray × Int) × Int)} (h : Lit w w1 m b L) (i : Nat) (s : ByteArray) (n v : Int) (he : (i, (s, n), v) ∈ kindLit) :
    ∃ w2 L2, (Instr.mapUpdate 132 (.map (some m)) (.agg #[.string s, .int .i64 n]) (.int .i64 v)).run Try.prog w1 = .ok () w2 ∧ Lit w w2 m (fun j => j == i || b j) L2 := by
  obtain ⟨w2, hrun, hI, hT⟩ := h.map.update (P := Try.prog) (t := 132) (e := 3) goalKey (by kernel_rfl) (s, n) v
  refine ⟨w2, _, hrun, hI, fun key => ?_, h.lo, h.below.grown hT.grown h.below.size (fun k hk => by injection hk with hk; have := h.lo; omega)⟩
  rw [look_put, litB_add _ he kindLit_apart, h.look]
theorem Lit.mono {w w1 : World} {m i : Nat} {b : Nat → Bool} {L : List ((ByteArray × Int) × Int)} (h : Lit w w1 m b L) (hi : ∀ e ∈ kindLit, e.1 ≠ i) : Lit w w1 m (fun j => j == i || b j) L :=
  ⟨h.map, fun key => by rw [litB_none hi]; exact h.look key, h.lo, h.below⟩
theorem late {b : Nat → Bool} {i : Nat} (hb : b i = false) (hi : i < 21) (h2 : b 21 = true → ∀ i, i < 21 → b i = true) (h3 : b 22 = true → ∀ i, i < 22 → b i = true) : b 21 = false ∧ b 22 = false := by
  constructor
  · cases h : b 21 with
    | false => rfl
    | true => have := h2 h i hi; rw [hb] at this; cases this
  · cases h : b 22 with
    | false => rfl
    | true => have := h3 h i (by omega); rw [hb] at this; cases this
theorem pre_all {b : Nat → Bool} {es : Array Edge} {j : Nat} (hpre : ∀ e ∈ es, Region.binds .any e = true → b e.on = true) (h : es.any (fun e => e.on == j && Region.binds .any e) = true) : b j = true := by
  obtain ⟨e, he, h1⟩ := Array.any_eq_true'.1 h
  simp only [Bool.and_eq_true, beq_iff_eq] at h1
  rw [← h1.1]
  exact hpre e he h1.2
theorem or1 {b : Nat → Bool} {i j : Nat} (h : b j = true) : ((fun j => j == i || b j) : Nat → Bool) j = true := by simp [h]
theorem ins_run {P : Program} {t : TypeId} {k x v : Value} {w w' : World} (h : (Instr.mapUpdate t k x v).run P w = .ok () w') : (Instr.mapUpdate t k x v >>= fun _ => (pure Next.skip : Sem Next)).run P w = .ok .skip w' := by
  rw [Sem.run_bind, h]; rfl
set_option maxHeartbeats 8000000 in
set_option maxRecDepth 100000 in
theorem kind_calls (x : S58) (A : Option Addr) (c : Nat) (w : World) :
    Calls Try.prog 36 #[.agg #[.int .i64 x.f0, .int .i64 x.f1, .string x.f2, .slice A x.f3.length c]] w fun e w' => e = .returned (.int .i64 (kindV x)) ∧ Below w.heap.size w w' := by
  have hmm := @run_makeMap Try.prog
  have HB0 := Aside0.mk (below_alloc (Below.refl w.heap.size w) (.cells #[.int .i64 x.f0, .int .i64 x.f1, .string x.f2, .slice A x.f3.length c] 58))
  have HK0 := Aside0.mk (heap_alloc_new w (.cells #[.int .i64 x.f0, .int .i64 x.f1, .string x.f2, .slice A x.f3.length c] 58))
  go_enter Try.func36, Try.ntmps36
  go_wp2_with fail
  generalize (w.alloc (.cells #[.int .i64 x.f0, .int .i64 x.f1, .string x.f2, .slice A x.f3.length c] 58)) = w1 at *
  refine start_ (n := 23) (S := fun _ => True) (ds := []) #[false, false, false, false, false, false, false, false, false, false, false, false, false, false, false, false, false, false, false, false, false, false, false] (by kernel_rfl) rfl rfl trivial (fun _ => ?_)
  refine pure_ (i := 1) (N := some 5) (v := .agg #[.string ⟨#[116, 114, 117, 101]⟩, .int .i64 0]) (a' := ?_) #[false, true, false, false, false, false, false, false, false, false, false, false, false, false, false, false, false, false, false, false, false, false, false] rfl rfl (by kernel_rfl) (fun _ _ _ h => h) (Or.inl ⟨by rfl, fun w' => by kernel_rfl⟩) ?_ ?_
  rotate_left
  · simp only [Act.put, List.setIfInBounds_toArray, List.set_cons_zero, List.set_cons_succ, i64_w, i32_w]
    rfl
  refine pure_ (i := 3) (N := some 6) (v := .agg #[.string ⟨#[44]⟩, .int .i64 2]) (a' := ?_) #[false, true, false, true, false, false, false, false, false, false, false, false, false, false, false, false, false, false, false, false, false, false, false] rfl rfl (by kernel_rfl) (fun _ _ _ h => h) (Or.inl ⟨by rfl, fun w' => by kernel_rfl⟩) ?_ ?_
  rotate_left
  · simp only [Act.put, List.setIfInBounds_toArray, List.set_cons_zero, List.set_cons_succ, i64_w, i32_w]
    rfl
  refine pure_ (i := 5) (N := some 7) (v := .agg #[.string ⟨#[59]⟩, .int .i64 2]) (a' := ?_) #[false, true, false, true, false, true, false, false, false, false, false, false, false, false, false, false, false, false, false, false, false, false, false] rfl rfl (by kernel_rfl) (fun _ _ _ h => h) (Or.inl ⟨by rfl, fun w' => by kernel_rfl⟩) ?_ ?_
  rotate_left
  · simp only [Act.put, List.setIfInBounds_toArray, List.set_cons_zero, List.set_cons_succ, i64_w, i32_w]
    rfl
  refine pure_ (i := 7) (N := some 8) (v := .agg #[.string ⟨#[45, 62]⟩, .int .i64 2]) (a' := ?_) #[false, true, false, true, false, true, false, true, false, false, false, false, false, false, false, false, false, false, false, false, false, false, false] rfl rfl (by kernel_rfl) (fun _ _ _ h => h) (Or.inl ⟨by rfl, fun w' => by kernel_rfl⟩) ?_ ?_
  rotate_left
  · simp only [Act.put, List.setIfInBounds_toArray, List.set_cons_zero, List.set_cons_succ, i64_w, i32_w]
    rfl
  refine pure_ (i := 9) (N := some 9) (v := .agg #[.string ⟨#[92, 43]⟩, .int .i64 1]) (a' := ?_) #[false, true, false, true, false, true, false, true, false, true, false, false, false, false, false, false, false, false, false, false, false, false, false] rfl rfl (by kernel_rfl) (fun _ _ _ h => h) (Or.inl ⟨by rfl, fun w' => by kernel_rfl⟩) ?_ ?_
  rotate_left
  · simp only [Act.put, List.setIfInBounds_toArray, List.set_cons_zero, List.set_cons_succ, i64_w, i32_w]
    rfl
  refine pure_ (i := 11) (N := some 10) (v := .agg #[.string ⟨#[33]⟩, .int .i64 0]) (a' := ?_) #[false, true, false, true, false, true, false, true, false, true, false, true, false, false, false, false, false, false, false, false, false, false, false] rfl rfl (by kernel_rfl) (fun _ _ _ h => h) (Or.inl ⟨by rfl, fun w' => by kernel_rfl⟩) ?_ ?_
  rotate_left
  · simp only [Act.put, List.setIfInBounds_toArray, List.set_cons_zero, List.set_cons_succ, i64_w, i32_w]
    rfl
  refine pure_ (i := 13) (N := some 11) (v := .agg #[.string ⟨#[102, 97, 105, 108]⟩, .int .i64 0]) (a' := ?_) #[false, true, false, true, false, true, false, true, false, true, false, true, false, true, false, false, false, false, false, false, false, false, false] rfl rfl (by kernel_rfl) (fun _ _ _ h => h) (Or.inl ⟨by rfl, fun w' => by kernel_rfl⟩) ?_ ?_
  rotate_left
  · simp only [Act.put, List.setIfInBounds_toArray, List.set_cons_zero, List.set_cons_succ, i64_w, i32_w]
    rfl
  refine pure_ (i := 15) (N := some 12) (v := .agg #[.string ⟨#[99, 97, 116, 99, 104]⟩, .int .i64 3]) (a' := ?_) #[false, true, false, true, false, true, false, true, false, true, false, true, false, true, false, true, false, false, false, false, false, false, false] rfl rfl (by kernel_rfl) (fun _ _ _ h => h) (Or.inl ⟨by rfl, fun w' => by kernel_rfl⟩) ?_ ?_
  rotate_left
  · simp only [Act.put, List.setIfInBounds_toArray, List.set_cons_zero, List.set_cons_succ, i64_w, i32_w]
    rfl
  refine pure_ (i := 17) (N := some 13) (v := .agg #[.string ⟨#[116, 104, 114, 111, 119]⟩, .int .i64 1]) (a' := ?_) #[false, true, false, true, false, true, false, true, false, true, false, true, false, true, false, true, false, true, false, false, false, false, false] rfl rfl (by kernel_rfl) (fun _ _ _ h => h) (Or.inl ⟨by rfl, fun w' => by kernel_rfl⟩) ?_ ?_
  rotate_left
  · simp only [Act.put, List.setIfInBounds_toArray, List.set_cons_zero, List.set_cons_succ, i64_w, i32_w]
    rfl
  refine pure_ (i := 19) (N := some 14) (v := .agg #[.string ⟨#[102, 105, 110, 100, 97, 108, 108]⟩, .int .i64 3]) (a' := ?_) #[false, true, false, true, false, true, false, true, false, true, false, true, false, true, false, true, false, true, false, true, false, false, false] rfl rfl (by kernel_rfl) (fun _ _ _ h => h) (Or.inl ⟨by rfl, fun w' => by kernel_rfl⟩) ?_ ?_
  rotate_left
  · simp only [Act.put, List.setIfInBounds_toArray, List.set_cons_zero, List.set_cons_succ, i64_w, i32_w]
    rfl
  refine one_ (i := 0) (N := some 4) #[true, true, false, true, false, true, false, true, false, true, false, true, false, true, false, true, false, true, false, true, false, false, false] rfl rfl (by kernel_rfl) (by decide) (fun K hK => ?_)
  refine value_ (w1 := w1.drew.alloc (.map #[] 0)) (v := .map (some w1.drew.heap.size)) (by rfl) rfl ?_ ?_
  · kernel_rfl
  refine hK.out _ _ trivial (fun _ => ?_)
  clear hK K
  refine norm_ (a' := ?_) ?_ ?_
  rotate_left
  · show Act.put _ (some 4) _ = _
    simp only [Act.put, List.setIfInBounds_toArray, List.set_cons_zero, List.set_cons_succ, i64_w, i32_w]
    rfl
  have hLit : Lit w1 (w1.drew.alloc (.map #[] 0)) w1.drew.heap.size (fun i => base.getD i false) [] := by
    refine ⟨Is.made _ _ _, fun key => ?_, Nat.le_refl _, below_alloc (Below.refl _ _).drew _⟩
    have : ∀ (l : List (Nat × (ByteArray × Int) × Int)), (∀ e ∈ l, base.getD e.1 false = false) → litB (fun i => base.getD i false) l key = none := by
      intro l
      induction l with
      | nil => intro _; rfl
      | cons e l ih =>
        intro hl
        unfold litB
        rw [ih (fun x hx => hl x (List.mem_cons_of_mem _ hx))]
        simp [hl e (List.mem_cons_self ..)]
    rw [this kindLit (by decide +kernel)]
    rfl
  generalize w1.drew.alloc (.map #[] 0) = w2 at *
  generalize w1.drew.heap.size = m at *
  refine last_inv0 (fun a0 b a' w' => ∃ L, Lit w1 w' m b L ∧ (∀ i, base.getD i false = true → b i = true) ∧ (b 21 = true → ∀ i, i < 21 → b i = true) ∧ (b 22 = true → ∀ i, i < 22 → b i = true) ∧ a' = if b 22 = true then Act.put (Act.put a0 (some 15) (.map (some m))) (some 3) (.map (some m)) else if b 21 = true then Act.put a0 (some 15) (.map (some m)) else a0) (by kernel_rfl) (fun i => base.getD i false) rfl (fun _ _ => rfl) (by decide +kernel) ⟨[], hLit, fun _ h => h, by intro h; exact absurd h (by decide), by intro h; exact absurd h (by decide), by rfl⟩ ?_ ?_
  · intro b a w' i o ho hb hpre ⟨L, hL, h1, h2, h3, ha⟩
    have hi : i < 23 := (Array.getElem?_eq_some_iff.1 ho).1
    obtain rfl | rfl | rfl | rfl | rfl | rfl | rfl | rfl | rfl | rfl | rfl | rfl | rfl | rfl | rfl | rfl | rfl | rfl | rfl | rfl | rfl | rfl | rfl : i = 0 ∨ i = 1 ∨ i = 2 ∨ i = 3 ∨ i = 4 ∨ i = 5 ∨ i = 6 ∨ i = 7 ∨ i = 8 ∨ i = 9 ∨ i = 10 ∨ i = 11 ∨ i = 12 ∨ i = 13 ∨ i = 14 ∨ i = 15 ∨ i = 16 ∨ i = 17 ∨ i = 18 ∨ i = 19 ∨ i = 20 ∨ i = 21 ∨ i = 22 := by omega
    · exact absurd (h1 0 (by decide)) (by rw [hb]; decide)
    · exact absurd (h1 1 (by decide)) (by rw [hb]; decide)
    · obtain ⟨w3, L3, hrun, hL3⟩ := hL.put 2 ⟨#[116, 114, 117, 101]⟩ 0 1 (List.mem_of_getElem? (show kindLit[0]? = some _ from rfl))
      obtain ⟨hb21, hb22⟩ := late hb (by decide) h2 h3
      rw [if_neg (by rw [hb22]; decide), if_neg (by rw [hb21]; decide)] at ha
      subst ha
      obtain rfl := Option.some.inj ho
      refine wpOp_skip ho rfl rfl (w' := w3) ?_ ⟨L3, hL3, fun j hj => or1 (h1 j hj), fun h j hj => ?_, fun h j hj => ?_, by simp [hb21, hb22]⟩
      · exact ins_run hrun
      · simp [hb21] at h
      · simp [hb22] at h
    · exact absurd (h1 3 (by decide)) (by rw [hb]; decide)
    · obtain ⟨w3, L3, hrun, hL3⟩ := hL.put 4 ⟨#[44]⟩ 2 2 (List.mem_of_getElem? (show kindLit[1]? = some _ from rfl))
      obtain ⟨hb21, hb22⟩ := late hb (by decide) h2 h3
      rw [if_neg (by rw [hb22]; decide), if_neg (by rw [hb21]; decide)] at ha
      subst ha
      obtain rfl := Option.some.inj ho
      refine wpOp_skip ho rfl rfl (w' := w3) ?_ ⟨L3, hL3, fun j hj => or1 (h1 j hj), fun h j hj => ?_, fun h j hj => ?_, by simp [hb21, hb22]⟩
      · exact ins_run hrun
      · simp [hb21] at h
      · simp [hb22] at h
    · exact absurd (h1 5 (by decide)) (by rw [hb]; decide)
    · obtain ⟨w3, L3, hrun, hL3⟩ := hL.put 6 ⟨#[59]⟩ 2 3 (List.mem_of_getElem? (show kindLit[2]? = some _ from rfl))
      obtain ⟨hb21, hb22⟩ := late hb (by decide) h2 h3
      rw [if_neg (by rw [hb22]; decide), if_neg (by rw [hb21]; decide)] at ha
      subst ha
      obtain rfl := Option.some.inj ho
      refine wpOp_skip ho rfl rfl (w' := w3) ?_ ⟨L3, hL3, fun j hj => or1 (h1 j hj), fun h j hj => ?_, fun h j hj => ?_, by simp [hb21, hb22]⟩
      · exact ins_run hrun
      · simp [hb21] at h
      · simp [hb22] at h
    · exact absurd (h1 7 (by decide)) (by rw [hb]; decide)
    · obtain ⟨w3, L3, hrun, hL3⟩ := hL.put 8 ⟨#[45, 62]⟩ 2 4 (List.mem_of_getElem? (show kindLit[3]? = some _ from rfl))
      obtain ⟨hb21, hb22⟩ := late hb (by decide) h2 h3
      rw [if_neg (by rw [hb22]; decide), if_neg (by rw [hb21]; decide)] at ha
      subst ha
      obtain rfl := Option.some.inj ho
      refine wpOp_skip ho rfl rfl (w' := w3) ?_ ⟨L3, hL3, fun j hj => or1 (h1 j hj), fun h j hj => ?_, fun h j hj => ?_, by simp [hb21, hb22]⟩
      · exact ins_run hrun
      · simp [hb21] at h
      · simp [hb22] at h
    · exact absurd (h1 9 (by decide)) (by rw [hb]; decide)
    · obtain ⟨w3, L3, hrun, hL3⟩ := hL.put 10 ⟨#[92, 43]⟩ 1 5 (List.mem_of_getElem? (show kindLit[4]? = some _ from rfl))
      obtain ⟨hb21, hb22⟩ := late hb (by decide) h2 h3
      rw [if_neg (by rw [hb22]; decide), if_neg (by rw [hb21]; decide)] at ha
      subst ha
      obtain rfl := Option.some.inj ho
      refine wpOp_skip ho rfl rfl (w' := w3) ?_ ⟨L3, hL3, fun j hj => or1 (h1 j hj), fun h j hj => ?_, fun h j hj => ?_, by simp [hb21, hb22]⟩
      · exact ins_run hrun
      · simp [hb21] at h
      · simp [hb22] at h
    · exact absurd (h1 11 (by decide)) (by rw [hb]; decide)
    · obtain ⟨w3, L3, hrun, hL3⟩ := hL.put 12 ⟨#[33]⟩ 0 6 (List.mem_of_getElem? (show kindLit[5]? = some _ from rfl))
      obtain ⟨hb21, hb22⟩ := late hb (by decide) h2 h3
      rw [if_neg (by rw [hb22]; decide), if_neg (by rw [hb21]; decide)] at ha
      subst ha
      obtain rfl := Option.some.inj ho
      refine wpOp_skip ho rfl rfl (w' := w3) ?_ ⟨L3, hL3, fun j hj => or1 (h1 j hj), fun h j hj => ?_, fun h j hj => ?_, by simp [hb21, hb22]⟩
      · exact ins_run hrun
      · simp [hb21] at h
      · simp [hb22] at h
    · exact absurd (h1 13 (by decide)) (by rw [hb]; decide)
    · obtain ⟨w3, L3, hrun, hL3⟩ := hL.put 14 ⟨#[102, 97, 105, 108]⟩ 0 7 (List.mem_of_getElem? (show kindLit[6]? = some _ from rfl))
      obtain ⟨hb21, hb22⟩ := late hb (by decide) h2 h3
      rw [if_neg (by rw [hb22]; decide), if_neg (by rw [hb21]; decide)] at ha
      subst ha
      obtain rfl := Option.some.inj ho
      refine wpOp_skip ho rfl rfl (w' := w3) ?_ ⟨L3, hL3, fun j hj => or1 (h1 j hj), fun h j hj => ?_, fun h j hj => ?_, by simp [hb21, hb22]⟩
      · exact ins_run hrun
      · simp [hb21] at h
      · simp [hb22] at h
    · exact absurd (h1 15 (by decide)) (by rw [hb]; decide)
    · obtain ⟨w3, L3, hrun, hL3⟩ := hL.put 16 ⟨#[99, 97, 116, 99, 104]⟩ 3 9 (List.mem_of_getElem? (show kindLit[7]? = some _ from rfl))
      obtain ⟨hb21, hb22⟩ := late hb (by decide) h2 h3
      rw [if_neg (by rw [hb22]; decide), if_neg (by rw [hb21]; decide)] at ha
      subst ha
      obtain rfl := Option.some.inj ho
      refine wpOp_skip ho rfl rfl (w' := w3) ?_ ⟨L3, hL3, fun j hj => or1 (h1 j hj), fun h j hj => ?_, fun h j hj => ?_, by simp [hb21, hb22]⟩
      · exact ins_run hrun
      · simp [hb21] at h
      · simp [hb22] at h
    · exact absurd (h1 17 (by decide)) (by rw [hb]; decide)
    · obtain ⟨w3, L3, hrun, hL3⟩ := hL.put 18 ⟨#[116, 104, 114, 111, 119]⟩ 1 10 (List.mem_of_getElem? (show kindLit[8]? = some _ from rfl))
      obtain ⟨hb21, hb22⟩ := late hb (by decide) h2 h3
      rw [if_neg (by rw [hb22]; decide), if_neg (by rw [hb21]; decide)] at ha
      subst ha
      obtain rfl := Option.some.inj ho
      refine wpOp_skip ho rfl rfl (w' := w3) ?_ ⟨L3, hL3, fun j hj => or1 (h1 j hj), fun h j hj => ?_, fun h j hj => ?_, by simp [hb21, hb22]⟩
      · exact ins_run hrun
      · simp [hb21] at h
      · simp [hb22] at h
    · exact absurd (h1 19 (by decide)) (by rw [hb]; decide)
    · obtain ⟨w3, L3, hrun, hL3⟩ := hL.put 20 ⟨#[102, 105, 110, 100, 97, 108, 108]⟩ 3 11 (List.mem_of_getElem? (show kindLit[9]? = some _ from rfl))
      obtain ⟨hb21, hb22⟩ := late hb (by decide) h2 h3
      rw [if_neg (by rw [hb22]; decide), if_neg (by rw [hb21]; decide)] at ha
      subst ha
      obtain rfl := Option.some.inj ho
      refine wpOp_skip ho rfl rfl (w' := w3) ?_ ⟨L3, hL3, fun j hj => or1 (h1 j hj), fun h j hj => ?_, fun h j hj => ?_, by simp [hb21, hb22]⟩
      · exact ins_run hrun
      · simp [hb21] at h
      · simp [hb22] at h
    · obtain rfl := Option.some.inj ho
      have hb22 : b 22 = false := by
        cases h : b 22 with
        | false => rfl
        | true => have := h3 h 21 (by decide); rw [hb] at this; cases this
      rw [if_neg (by rw [hb22]; decide), if_neg (by rw [hb]; decide)] at ha
      subst ha
      have hp : ∀ j, j < 21 → b j = true := by
        intro j hj
        refine pre_all hpre ?_
        revert j
        decide +kernel
      exact wpOp_value ho rfl (v := .map (some m)) (w' := w') rfl ⟨L, hL.mono (by decide +kernel), fun j hj => or1 (h1 j hj), fun _ j hj => or1 (hp j hj), fun h => by simp [hb22] at h, by simp [hb22]⟩
    · obtain rfl := Option.some.inj ho
      have hp : ∀ j, j < 22 → b j = true := by
        intro j hj
        refine pre_all hpre ?_
        revert j
        decide +kernel
      rw [if_neg (by rw [hb]; decide), if_pos (hp 21 (by decide))] at ha
      subst ha
      exact wpOp_value ho rfl (v := .map (some m)) (w' := w') rfl ⟨L, hL.mono (by decide +kernel), fun j hj => or1 (h1 j hj), fun _ j hj => or1 (hp j (by omega)), fun _ j hj => or1 (hp j hj), by simp⟩
  · intro b a w' hall ⟨L, hL, h1, h2, h3, ha⟩
    have ha2 := ha.trans (if_pos (hall 22 (by decide)))
    simp only [Act.put, List.setIfInBounds_toArray, List.set_cons_zero, List.set_cons_succ] at ha2
    subst ha2
    have hlook : ∀ key, lookK key L = litB (fun _ => true) kindLit key := fun key => (hL.look key).trans (litB_full hall key)
    have hval : ((lookK (x.f2, (x.f3.length : Int)) L).map encN).getD (.int .i64 0) = .int .i64 (kindLook x.f2 x.f3.length) := by
      unfold kindLook
      rw [hlook]
      cases litB (fun _ => true) kindLit (x.f2, (x.f3.length : Int)) <;> rfl
    have HV := Aside0.mk hval
    have HM := Aside0.mk hL.map
    have HB := Aside0.mk (below_step HB0.out hL.below)
    have k0 := blk_below HK0.out hL.below
    have c0 : w'.cell? ⟨w.heap.size, 0, none⟩ = some (.int .i64 x.f0) := (blk_cell k0 0).trans rfl
    have c2 : w'.cell? ⟨w.heap.size, 2, none⟩ = some (.string x.f2) := (blk_cell k0 2).trans rfl
    have c3 : w'.cell? ⟨w.heap.size, 3, none⟩ = some (.slice A x.f3.length c) := (blk_cell k0 3).trans rfl
    clear hlook hval hL h1 h2 h3 ha k0 hall HK0 HB0
    by_cases e3 : x.f0 = 3
    · have KV : Aside0 (kindV x = kindLook x.f2 x.f3.length) := ⟨by unfold kindV; rw [if_pos e3]⟩
      rw [e3] at c0
      go_wp2_with (at_lookup; refine wp_look _ rfl _ _ 132 rfl 131 3 goalKey (by kernel_rfl) (zeroI _) rfl HM.out (x.f2, (x.f3.length : Int)) rfl _ HV.out ?_)
      go_ret
      exact ⟨by rw [KV.out]; rfl, HB.out⟩
    by_cases e4 : x.f0 = 4
    · rw [e4] at c0
      by_cases ec : x.f2 = ⟨#[99, 97, 108, 108]⟩
      · have KV : Aside0 (kindV x = 8) := ⟨by unfold kindV; rw [if_neg e3, if_pos e4, if_pos ec]⟩
        rw [ec] at c2
        go_wp2_with fail
        go_ret
        exact ⟨by rw [KV.out]; rfl, HB.out⟩
      · have KV : Aside0 (kindV x = kindLook x.f2 x.f3.length) := ⟨by unfold kindV; rw [if_neg e3, if_pos e4, if_neg ec]⟩
        have hs1 : (x.f2 == ⟨#[99, 97, 108, 108]⟩) = false := by rw [beq_bytes]; exact decide_eq_false ec
        have hs2 : (x.f2.toList == [99, 97, 108, 108]) = false := by
          have h0 : (ByteArray.mk #[99, 97, 108, 108]).toList = [99, 97, 108, 108] := by kernel_rfl
          rw [← h0, ← beq_toListBytes]; exact hs1
        have hs3 : ¬ x.f2.toList = [99, 97, 108, 108] := by simpa using hs2
        clear ec
        go_wp2_with (at_lookup; refine wp_look _ rfl _ _ 132 rfl 131 3 goalKey (by kernel_rfl) (zeroI _) rfl HM.out (x.f2, (x.f3.length : Int)) rfl _ HV.out ?_)
        go_ret
        exact ⟨by rw [KV.out]; rfl, HB.out⟩
    · have KV : Aside0 (kindV x = -1) := ⟨by unfold kindV; rw [if_neg e3, if_neg e4]⟩
      have b3 : (x.f0 == 3) = false := by simpa using e3
      have b4 : (x.f0 == 4) = false := by simpa using e4
      have b5 : (x.f0 != 3) = true := by simpa using e3
      have b6 : (x.f0 != 4) = true := by simpa using e4
      go_wp2_with fail
      go_ret
      exact ⟨by rw [KV.out]; rfl, HB.out⟩
end Go.Proofs.Ythdnaliahdohhaa.H
