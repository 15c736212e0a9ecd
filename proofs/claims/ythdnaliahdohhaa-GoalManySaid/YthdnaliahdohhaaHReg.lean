/- A region that draws its order, by an invariant: what holds behind any operations that have come up. -/
import Derived.Test.YthdnaliahdohhaaWLast
namespace Go.Proofs.Ythdnaliahdohhaa.Reg
open Go.Proofs.YthdnaliahdohhaaW.PrintLast
set_option linter.unusedVariables false
theorem countP_lt {p q : Nat → Bool} (h : ∀ x, q x = true → p x = true) : ∀ {l : List Nat} {a : Nat}, a ∈ l → p a = true → q a = false → l.countP q < l.countP p
  | x :: l, a, ha, hp, hq => by
    have hle : ∀ l : List Nat, l.countP q ≤ l.countP p := by
      intro l
      exact List.countP_mono_left (fun x _ => h x)
    rcases List.mem_cons.1 ha with rfl | ha
    · rw [List.countP_cons, List.countP_cons, hp, hq]
      have := hle l
      simp; omega
    · have := countP_lt h ha hp hq
      rw [List.countP_cons, List.countP_cons]
      have hx := h x
      cases hqx : q x <;> cases hpx : p x <;> simp_all <;> omega
section
variable {P : Program} {ops : Array Oper} {Q : Exit → Act → World → Prop} {md : Region.Mode}
/-- edges lead back -/
def backB (ops : Array Oper) : Bool := (List.range ops.size).all fun i => match ops[i]? with | some o => o.after.all (fun e => decide (e.on < i)) | none => true
theorem backB_spec (h : backB ops = true) {i : Nat} {o : Oper} (ho : ops[i]? = some o) {e : Edge} (he : e ∈ o.after) : e.on < i := by
  have hlt : i < ops.size := (Array.getElem?_eq_some_iff.1 ho).1
  have h1 := List.all_eq_true.1 h i (List.mem_range.2 hlt)
  simp only [ho] at h1
  exact of_decide_eq_true (Array.all_eq_true_iff_forall_mem.1 h1 e he)
theorem ready_all (h : backB ops = true) {listed : Array Bool} (hs : listed.size = ops.size) (hr : Region.ready md ops listed = []) : ∀ i, i < ops.size → listed.getD i false = true := by
  intro i
  induction i using Nat.strongRecOn with
  | _ i ih =>
    intro hi
    by_cases hl : listed.getD i false = true
    · exact hl
    · exfalso
      have hl2 : listed.getD i true = false := by
        have : i < listed.size := by omega
        simp [this] at hl ⊢
        exact hl
      have : i ∈ Region.ready md ops listed := by
        rw [mem_ready]
        refine ⟨hl2, ops[i], by simp [hi], fun e he _ => ?_⟩
        have := backB_spec h (by simp [hi] : ops[i]? = some ops[i]) he
        exact ih e.on this (by omega)
      rw [hr] at this
      cases this
theorem wpAny_inv {I : (Nat → Bool) → Act → World → Prop} (hE : backB ops = true)
    (hstep : ∀ (b : Nat → Bool) a w i o, ops[i]? = some o → b i = false → (∀ e ∈ o.after, Region.binds md e = true → b e.on = true) → I b a w → wpOp P ops Q i (fun a' w' => I (fun j => j == i || b j) a' w') a w)
    (hend : ∀ (b : Nat → Bool) a w, (∀ i, i < ops.size → b i = true) → I b a w → Q .normal a w) :
    ∀ (fuel : Nat) (listed : Array Bool) (b : Nat → Bool) (a : Act) (w : World), listed.size = ops.size → (∀ i, i < ops.size → b i = listed.getD i false) → (List.range ops.size).countP (fun i => !listed.getD i true) ≤ fuel → I b a w → wpAny P md ops Q fuel listed a w := by
  intro fuel
  induction fuel with
  | zero =>
    intro listed b a w hs hb hm hI
    have hall : Region.ready md ops listed = [] := by
      unfold Region.ready
      rw [List.filter_eq_nil_iff]
      intro i hi
      have : (List.range ops.size).countP (fun i => !listed.getD i true) = 0 := by omega
      rw [List.countP_eq_zero] at this
      have := this i hi
      simp at this
      simp [this]
    exact ⟨hall, hend b a w (fun i hi => by rw [hb i hi]; exact ready_all hE hs hall i hi) hI⟩
  | succ fuel ih =>
    intro listed b a w hs hb hm hI
    refine ⟨fun hall => hend b a w (fun i hi => by rw [hb i hi]; exact ready_all hE hs hall i hi) hI, fun i hi => ?_⟩
    obtain ⟨hun, o, ho, hall⟩ := mem_ready.1 hi
    have hlt : i < ops.size := (Array.getElem?_eq_some_iff.1 ho).1
    have hl : i < listed.size := by omega
    have hbi : b i = false := by rw [hb i hlt]; simp [hl] at hun ⊢; exact hun
    refine wpOp_mono (fun a' w' h => ih (listed.setIfInBounds i true) (fun j => j == i || b j) a' w' (by simpa using hs) (fun j hj => ?_) ?_ h) (hstep b a w i o ho hbi (fun e he hbn => ?_) hI)
    · by_cases hji : j = i
      · subst hji; simp [hl]
      · have hij : i ≠ j := fun e => hji e.symm
        rw [getD_set_ne false hij, ← hb j hj]
        simp [hji]
    · have := countP_lt (p := fun i => !listed.getD i true) (q := fun j => !(listed.setIfInBounds i true).getD j true) (fun x hx => ?_) (List.mem_range.2 hlt) (by simpa using hun) (by simp [hl])
      · omega
      · by_cases hxi : x = i
        · subst hxi; simp [hl] at hx
        · have hij : i ≠ x := fun e => hxi e.symm
          simp only [getD_set_ne true hij] at hx
          exact hx
    · have h1 := hall e he hbn
      have : e.on < ops.size := by have := backB_spec hE ho he; omega
      rw [hb _ this]; exact h1
/-- The same from a place in the walk on where some have come up. -/
theorem last_inv {I : (Nat → Bool) → Act → World → Prop} (hE : backB ops = true)
    (hstep : ∀ (b : Nat → Bool) a w i o, ops[i]? = some o → b i = false → (∀ e ∈ o.after, Region.binds md e = true → b e.on = true) → I b a w → wpOp P ops Q i (fun a' w' => I (fun j => j == i || b j) a' w') a w)
    (hend : ∀ (b : Nat → Bool) a w, (∀ i, i < ops.size → b i = true) → I b a w → Q .normal a w) :
    ∀ (fuel : Nat) (listed : Array Bool) (b : Nat → Bool) (a : Act) (w : World), listed.size = ops.size → (∀ i, i < ops.size → b i = listed.getD i false) → (List.range ops.size).countP (fun i => !listed.getD i true) ≤ fuel → I b a w → wpAnyLast P md ops Q (fun _ => True) [] fuel listed a w := by
  intro fuel
  induction fuel with
  | zero => intro listed b a w hs hb hm hI; exact wpAny_inv hE hstep hend 0 listed b a w hs hb hm hI
  | succ fuel ih =>
    intro listed b a w hs hb hm hI
    refine ⟨fun hall => hend b a w (fun i hi => by rw [hb i hi]; exact ready_all hE hs hall i hi) hI, fun i hi => ?_⟩
    obtain ⟨hun, o, ho, hall⟩ := mem_ready.1 hi
    have hlt : i < ops.size := (Array.getElem?_eq_some_iff.1 ho).1
    have hl : i < listed.size := by omega
    have hbi : b i = false := by rw [hb i hlt]; simp [hl] at hun ⊢; exact hun
    refine wpOp_mono (fun a' w' h => ⟨fun _ _ => trivial, ih (listed.setIfInBounds i true) (fun j => j == i || b j) a' w' (by simpa using hs) (fun j hj => ?_) ?_ h⟩) (hstep b a w i o ho hbi (fun e he hbn => ?_) hI)
    · by_cases hji : j = i
      · subst hji; simp [hl]
      · have hij : i ≠ j := fun e => hji e.symm
        rw [getD_set_ne false hij, ← hb j hj]
        simp [hji]
    · have := countP_lt (p := fun i => !listed.getD i true) (q := fun j => !(listed.setIfInBounds i true).getD j true) (fun x hx => ?_) (List.mem_range.2 hlt) (by simpa using hun) (by simp [hl])
      · omega
      · by_cases hxi : x = i
        · subst hxi; simp [hl] at hx
        · have hij : i ≠ x := fun e => hxi e.symm
          simp only [getD_set_ne true hij] at hx
          exact hx
    · have h1 := hall e he hbn
      have : e.on < ops.size := by have := backB_spec hE ho he; omega
      rw [hb _ this]; exact h1
theorem last_inv0 (I : Act → (Nat → Bool) → Act → World → Prop) (hE : backB ops = true) {fuel : Nat} {listed : Array Bool} (b : Nat → Bool) {a0 : Act} {w : World} (hs : listed.size = ops.size) (hb : ∀ i, i < ops.size → b i = listed.getD i false) (hm : (List.range ops.size).countP (fun i => !listed.getD i true) ≤ fuel) (hI : I a0 b a0 w)
    (hstep : ∀ (b : Nat → Bool) a w i o, ops[i]? = some o → b i = false → (∀ e ∈ o.after, Region.binds md e = true → b e.on = true) → I a0 b a w → wpOp P ops Q i (fun a' w' => I a0 (fun j => j == i || b j) a' w') a w)
    (hend : ∀ (b : Nat → Bool) a w, (∀ i, i < ops.size → b i = true) → I a0 b a w → Q .normal a w) : wpAnyLast P md ops Q (fun _ => True) [] fuel listed a0 w :=
  last_inv (I := I a0) hE hstep hend fuel listed b a0 w hs hb hm hI
/-- p of each operation, by its number. -/
def Each (p : Nat → Oper → Prop) : Nat → List Oper → Prop
  | _, [] => True
  | k, o :: l => p k o ∧ Each p (k + 1) l
theorem each_get {p : Nat → Oper → Prop} (l : List Oper) : ∀ {k : Nat}, Each p k l → ∀ {i : Nat} {o : Oper}, l[i]? = some o → p (k + i) o := by
  induction l with
  | nil => intro k h i o ho; simp at ho
  | cons x l ih =>
    intro k h i o ho
    obtain ⟨h1, h2⟩ := h
    cases i with
    | zero => rw [List.getElem?_cons_zero] at ho; injection ho with ho; subst ho; exact h1
    | succ i =>
      rw [List.getElem?_cons_succ] at ho
      have := ih h2 ho
      rwa [show k + (i + 1) = k + 1 + i by omega]
theorem Each.at {p : Nat → Oper → Prop} {l : List Oper} (h : Each p 0 l) (hl : ops = l.toArray) {i : Nat} {o : Oper} (ho : ops[i]? = some o) : p i o := by
  subst hl
  have := each_get l h (i := i) (o := o) (by simpa using ho)
  rwa [Nat.zero_add] at this
/-- One operation that yields a value. -/
theorem wpOp_value {i : Nat} {o : Oper} {a : Act} {w w' : World} {v : Value} {K : Act → World → Prop} (ho : ops[i]? = some o) (hg : o.guard = none) (hrun : (execOp a.eval o).run P w = .ok (.value v) w') (h : K (a.put o.dst v) w') : wpOp P ops Q i K a w := by
  unfold wpOp
  simp only [ho]
  have hw : Region.wanted o (yielded ops a.tmps) = true := by simp [Region.wanted, hg]
  rw [if_pos hw]
  left
  unfold Oper.wp
  rw [hrun]
  exact h
theorem wpOp_skip {i : Nat} {o : Oper} {a : Act} {w w' : World} {K : Act → World → Prop} (ho : ops[i]? = some o) (hg : o.guard = none) (hd : o.dst = none) (hrun : (execOp a.eval o).run P w = .ok .skip w') (h : K a w') : wpOp P ops Q i K a w := by
  unfold wpOp
  simp only [ho]
  have hw : Region.wanted o (yielded ops a.tmps) = true := by simp [Region.wanted, hg]
  rw [if_pos hw]
  left
  unfold Oper.wp
  rw [hrun]
  show K (a.put o.dst undef) w'
  rw [hd]
  exact h
end
end Go.Proofs.Ythdnaliahdohhaa.Reg
