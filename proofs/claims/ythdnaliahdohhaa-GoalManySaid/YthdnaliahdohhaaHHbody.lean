/- Goals: is a goal of two goals (goal.parted); a term as a body (goal.body). -/
import Derived.Test.YthdnaliahdohhaaHHkind
namespace Go.Proofs.Ythdnaliahdohhaa.H
open Go.RowKit Go.Proofs.YthdnaliahdohhaaW.PrintWords Go.Proofs.YthdnaliahdohhaaW.PrintLast Go.Proofs.YthdnaliahdohhaaW.PrintMore Go.Proofs.Ythdnaliahdohhaa.Map Go.Proofs.Ythdnaliahdohhaa.Reg
attribute [local go_sem] max2_int min2_int max_two min_two max_three min_three max_four min_four
set_option linter.unusedVariables false
set_option linter.unusedSimpArgs false
def partedB (x : S58) : Bool := decide (kindV x = 2) || decide (kindV x = 3) || decide (kindV x = 4)
set_option maxHeartbeats 8000000 in
set_option maxRecDepth 100000 in
theorem parted_0 (x : S58) (A : Option Addr) (c : Nat) (w : World) (h : kindV x = 2) :
    Calls Try.prog 102 #[.agg #[.int .i64 x.f0, .int .i64 x.f1, .string x.f2, .slice A x.f3.length c]] w fun e w' => e = .returned (.bool (partedB x)) ∧ Below w.heap.size w w' := by
  have HV : Aside0 (partedB x = true) := ⟨by unfold partedB; simp [h]⟩
  have HB0 := Aside0.mk (below_alloc (Below.refl w.heap.size w) (.cells #[.int .i64 x.f0, .int .i64 x.f1, .string x.f2, .slice A x.f3.length c] 58))
  have hk := kind_calls x A c (w.alloc (.cells #[.int .i64 x.f0, .int .i64 x.f1, .string x.f2, .slice A x.f3.length c] 58))
  rw [HV.out]
  rw [h] at hk
  clear h
  have HK := Aside0.mk hk
  clear HV hk
  go_enter Try.func102, Try.ntmps102
  go_wp2_with (go_at_call 36; refine HK.out.mono ?_; rintro e w5 ⟨rfl, hb5⟩)
  go_ret
  exact ⟨rfl, below_step HB0.out hb5⟩
set_option maxHeartbeats 8000000 in
set_option maxRecDepth 100000 in
theorem parted_1 (x : S58) (A : Option Addr) (c : Nat) (w : World) (h : kindV x = 3) :
    Calls Try.prog 102 #[.agg #[.int .i64 x.f0, .int .i64 x.f1, .string x.f2, .slice A x.f3.length c]] w fun e w' => e = .returned (.bool (partedB x)) ∧ Below w.heap.size w w' := by
  have HV : Aside0 (partedB x = true) := ⟨by unfold partedB; simp [h]⟩
  have HB0 := Aside0.mk (below_alloc (Below.refl w.heap.size w) (.cells #[.int .i64 x.f0, .int .i64 x.f1, .string x.f2, .slice A x.f3.length c] 58))
  have hk := kind_calls x A c (w.alloc (.cells #[.int .i64 x.f0, .int .i64 x.f1, .string x.f2, .slice A x.f3.length c] 58))
  rw [HV.out]
  rw [h] at hk
  clear h
  have HK := Aside0.mk hk
  clear HV hk
  go_enter Try.func102, Try.ntmps102
  go_wp2_with (go_at_call 36; refine HK.out.mono ?_; rintro e w5 ⟨rfl, hb5⟩)
  go_ret
  exact ⟨rfl, below_step HB0.out hb5⟩
set_option maxHeartbeats 8000000 in
set_option maxRecDepth 100000 in
theorem parted_2 (x : S58) (A : Option Addr) (c : Nat) (w : World) (h : kindV x = 4) :
    Calls Try.prog 102 #[.agg #[.int .i64 x.f0, .int .i64 x.f1, .string x.f2, .slice A x.f3.length c]] w fun e w' => e = .returned (.bool (partedB x)) ∧ Below w.heap.size w w' := by
  have HV : Aside0 (partedB x = true) := ⟨by unfold partedB; simp [h]⟩
  have HB0 := Aside0.mk (below_alloc (Below.refl w.heap.size w) (.cells #[.int .i64 x.f0, .int .i64 x.f1, .string x.f2, .slice A x.f3.length c] 58))
  have hk := kind_calls x A c (w.alloc (.cells #[.int .i64 x.f0, .int .i64 x.f1, .string x.f2, .slice A x.f3.length c] 58))
  rw [HV.out]
  rw [h] at hk
  clear h
  have HK := Aside0.mk hk
  clear HV hk
  go_enter Try.func102, Try.ntmps102
  go_wp2_with (go_at_call 36; refine HK.out.mono ?_; rintro e w5 ⟨rfl, hb5⟩)
  go_ret
  exact ⟨rfl, below_step HB0.out hb5⟩
set_option maxHeartbeats 8000000 in
set_option maxRecDepth 100000 in
theorem parted_3 (x : S58) (A : Option Addr) (c : Nat) (w : World) (h : ¬ kindV x = 2 ∧ ¬ kindV x = 3 ∧ ¬ kindV x = 4) :
    Calls Try.prog 102 #[.agg #[.int .i64 x.f0, .int .i64 x.f1, .string x.f2, .slice A x.f3.length c]] w fun e w' => e = .returned (.bool (partedB x)) ∧ Below w.heap.size w w' := by
  have HV : Aside0 (partedB x = false) := ⟨by unfold partedB; simp [h]⟩
  have HB0 := Aside0.mk (below_alloc (Below.refl w.heap.size w) (.cells #[.int .i64 x.f0, .int .i64 x.f1, .string x.f2, .slice A x.f3.length c] 58))
  have hk := kind_calls x A c (w.alloc (.cells #[.int .i64 x.f0, .int .i64 x.f1, .string x.f2, .slice A x.f3.length c] 58))
  rw [HV.out]
  obtain ⟨h2, h3, h4⟩ := h
  generalize kindV x = v at *
  have d2 : (v == 2) = false := by simpa using h2
  have d3 : (v == 3) = false := by simpa using h3
  have d4 : (v == 4) = false := by simpa using h4
  have HK := Aside0.mk hk
  clear HV hk
  go_enter Try.func102, Try.ntmps102
  go_wp2_with (go_at_call 36; refine HK.out.mono ?_; rintro e w5 ⟨rfl, hb5⟩)
  go_ret
  exact ⟨rfl, below_step HB0.out hb5⟩
theorem parted_calls (x : S58) (A : Option Addr) (c : Nat) (w : World) :
    Calls Try.prog 102 #[.agg #[.int .i64 x.f0, .int .i64 x.f1, .string x.f2, .slice A x.f3.length c]] w fun e w' => e = .returned (.bool (partedB x)) ∧ Below w.heap.size w w' := by
  by_cases h2 : kindV x = 2
  · exact parted_0 x A c w h2
  by_cases h3 : kindV x = 3
  · exact parted_1 x A c w h3
  by_cases h4 : kindV x = 4
  · exact parted_2 x A c w h4
  · exact parted_3 x A c w ⟨h2, h3, h4⟩
theorem litB_len {l : List (Nat × (ByteArray × Int) × Int)} {s : ByteArray} {n v : Int} (h : litB (fun _ => true) l (s, n) = some v) : ∃ e ∈ l, e.2 = ((s, n), v) := by
  induction l with
  | nil => simp [litB] at h
  | cons e l ih =>
    unfold litB at h
    split at h
    · next hc =>
      refine ⟨e, List.mem_cons_self .., ?_⟩
      have h1 : e.2.2 = v := by simpa using h
      rw [← h1, hc.2]
    · obtain ⟨e', he, h2⟩ := ih h
      exact ⟨e', List.mem_cons_of_mem _ he, h2⟩
/-- a goal of two goals has two parts -/
theorem parted_two {x : S58} (h : partedB x = true) : x.f3.length = 2 ∧ ∃ v, kindLook x.f2 2 = v ∧ (v = 2 ∨ v = 3 ∨ v = 4) := by
  have hv : kindV x = 2 ∨ kindV x = 3 ∨ kindV x = 4 := by
    unfold partedB at h
    simp only [Bool.or_eq_true, decide_eq_true_eq] at h
    omega
  have hl : kindLook x.f2 x.f3.length = 2 ∨ kindLook x.f2 x.f3.length = 3 ∨ kindLook x.f2 x.f3.length = 4 := by
    unfold kindV at hv
    split at hv
    · exact hv
    · split at hv
      · split at hv
        · omega
        · exact hv
      · omega
  have hlen : x.f3.length = 2 := by
    unfold kindLook at hl
    cases hb : litB (fun _ => true) kindLit (x.f2, (x.f3.length : Int)) with
    | none => rw [hb] at hl; simp at hl
    | some v =>
      rw [hb] at hl
      simp only [Option.getD_some] at hl
      obtain ⟨e, he, h2⟩ := litB_len hb
      have : ∀ e ∈ kindLit, (e.2.2 = 2 ∨ e.2.2 = 3 ∨ e.2.2 = 4) → e.2.1.2 = 2 := by decide +kernel
      have h3 := this e he (by rw [h2]; exact hl)
      rw [h2] at h3
      simp only at h3
      omega
  refine ⟨hlen, _, rfl, ?_⟩
  rw [hlen] at hl
  exact hl
def xErr : List PanicEntry := [{ v := .iface 30 (.int .i64 13), recovered := false }]
/-- Element i of a row, with its footprint. -/
theorem at_F {w : World} {ok : Nat → Prop} {A : Option Addr} {n : Nat} {xs : List S58} (h : Kd.F k58 w ok A n xs) (i : Int) (h0 : 0 ≤ i) (h1 : i < n) : ∃ ad A3 c3, A = some ad ∧ w.cell? (ad.add (i.toNat * 4)) = some (.int .i64 (rd_T58 xs i).f0) ∧ w.cell? ⟨(ad.add (i.toNat * 4)).block, (ad.add (i.toNat * 4)).off + 1, none⟩ = some (.int .i64 (rd_T58 xs i).f1) ∧ w.cell? ⟨(ad.add (i.toNat * 4)).block, (ad.add (i.toNat * 4)).off + 2, none⟩ = some (.string (rd_T58 xs i).f2) ∧ w.cell? ⟨(ad.add (i.toNat * 4)).block, (ad.add (i.toNat * 4)).off + 3, none⟩ = some (.slice A3 (rd_T58 xs i).f3.length c3) ∧ (rd_T58 xs i).f3.length ≤ c3 ∧ Kd.F k58 w ok A3 (rd_T58 xs i).f3.length (rd_T58 xs i).f3 := by
  obtain ⟨ad, c, e, _, hK, hc0, _⟩ := Kd.F_get h z58 i h0 h1
  have hc : ∀ j u, c[j]? = some u → w.cell? (ad.add (i.toNat * 4 + j)) = some u := hc0
  obtain ⟨A3, c3, rfl, l3, g3⟩ := k58_openF hK
  exact ⟨ad, A3, c3, e, hc 0 _ rfl, by rw [← add_field _ _ 1 (by omega)]; exact hc 1 _ rfl, by rw [← add_field _ _ 2 (by omega)]; exact hc 2 _ rfl, by rw [← add_field _ _ 3 (by omega)]; exact hc 3 _ rfl, l3, g3⟩
/-- A row of one term, made just now. -/
theorem lit1 {w : World} {ok : Nat → Prop} {g : Nat} {x : S58} {A : Option Addr} {c : Nat} (hg : w.heap[g]? = some (.cells #[.int .i64 x.f0, .int .i64 x.f1, .string x.f2, .slice A x.f3.length c] 58 (0, 0))) (hc : x.f3.length ≤ c) (hF : Kd.F k58 w ok A x.f3.length x.f3) :
    Kd.F k58 w (fun k => ok k ∨ k = g) (some ⟨g, 0, none⟩) 1 [x] := by
  intro W' hW
  have hg' := (hW g (Or.inr rfl) (blk_lt hg)).trans hg
  have hx := hF W' (fun k hk hlt => hW k (Or.inl hk) hlt)
  refine ⟨rfl, by decide, fun _ => ⟨_, rfl, fun j p hj => ?_⟩⟩
  obtain rfl : j = 0 := by have := (List.getElem?_eq_some_iff.1 hj).1; simp at this; omega
  simp at hj
  subst hj
  refine ⟨_, rfl, k58_mk W' x hc hx, fun i u hu => ?_⟩
  rw [add_at]
  have := blk_cell hg' (0 * 4 + i)
  simp only [Nat.zero_mul, Nat.zero_add] at this
  show W'.cell? ⟨g, 0 + (0 * 4 + i), none⟩ = some u
  simp only [Nat.zero_mul, Nat.zero_add]
  rw [this]
  simpa using hu
/-- A row of two terms, made just now. -/
theorem lit2 {w : World} {ok : Nat → Prop} {g : Nat} {x y : S58} {A B : Option Addr} {c d : Nat} (hg : w.heap[g]? = some (.cells #[.int .i64 x.f0, .int .i64 x.f1, .string x.f2, .slice A x.f3.length c, .int .i64 y.f0, .int .i64 y.f1, .string y.f2, .slice B y.f3.length d] 58 (0, 0))) (hc : x.f3.length ≤ c) (hF : Kd.F k58 w ok A x.f3.length x.f3) (hd : y.f3.length ≤ d) (hG : Kd.F k58 w ok B y.f3.length y.f3) :
    Kd.F k58 w (fun k => ok k ∨ k = g) (some ⟨g, 0, none⟩) 2 [x, y] := by
  intro W' hW
  have hg' := (hW g (Or.inr rfl) (blk_lt hg)).trans hg
  have hx := hF W' (fun k hk hlt => hW k (Or.inl hk) hlt)
  have hy := hG W' (fun k hk hlt => hW k (Or.inl hk) hlt)
  refine ⟨rfl, by decide, fun _ => ⟨_, rfl, fun j p hj => ?_⟩⟩
  have hj2 : j = 0 ∨ j = 1 := by have := (List.getElem?_eq_some_iff.1 hj).1; simp at this; omega
  rcases hj2 with rfl | rfl
  · simp at hj
    subst hj
    refine ⟨_, rfl, k58_mk W' x hc hx, fun i u hu => ?_⟩
    rw [add_at]
    show W'.cell? ⟨g, 0 + (0 * 4 + i), none⟩ = some u
    have hi : i < 4 := by have := (List.getElem?_eq_some_iff.1 hu).1; simpa using this
    simp only [Nat.zero_mul, Nat.zero_add]
    rw [blk_cell hg' i]
    obtain rfl | rfl | rfl | rfl : i = 0 ∨ i = 1 ∨ i = 2 ∨ i = 3 := by omega
    all_goals simpa using hu
  · simp at hj
    subst hj
    refine ⟨_, rfl, k58_mk W' y hd hy, fun i u hu => ?_⟩
    rw [add_at]
    show W'.cell? ⟨g, 0 + (1 * 4 + i), none⟩ = some u
    have hi : i < 4 := by have := (List.getElem?_eq_some_iff.1 hu).1; simpa using this
    rw [show 0 + (1 * 4 + i) = 4 + i by omega, blk_cell hg' (4 + i)]
    obtain rfl | rfl | rfl | rfl : i = 0 ∨ i = 1 ∨ i = 2 ∨ i = 3 := by omega
    all_goals simpa using hu
/-- A call of a Go function that may panic. -/
theorem goesP_ {P : Program} {ops : Array Oper} {Q : Exit → Act → World → Prop} {oi : Oper} {N : Option Tmp} {a : Act} {w : World} {K : Act → World → Prop} {f : FuncId} {fn : Func} {aso : Array Operand} {ts : Array TypeId} (hf : P.funcs[f]? = some fn) (hname : (fn.name == "runtime.NumGoroutine") = false) (hb : fn.body.isSome = true) (args : Array Value)
    (hw : Region.wanted oi (yielded ops a.tmps) = true) (hN : oi.dst = N) (hop : oi.op = .call { callee := .value (.func f), args := aso, argTypes := ts }) (hargs : aso.map a.eval = args)
    (h : Calls P f args w fun e w' => (∃ v, e = .returned v ∧ K (a.put N v) w') ∨ ∃ c, e = .panicked c ∧ Q (.panic c) a w') : if Region.wanted oi (yielded ops a.tmps) = true then Oper.wp P oi a w K Q else K (a.put N undef) w := by
  rw [if_pos hw]
  subst hN
  unfold Oper.wp
  have he := enters_ hf hname hb args w
  have hrun : (execOp a.eval oi).run P w = .ok (.enter f args) w := by
    unfold execOp
    simp [hop, resolve, Deferred.ofValue, invoke, Act.eval, hargs, he]
  rw [hrun, Oper.upon_enter]
  refine h.mono fun e w'' hh => ?_
  rcases hh with ⟨v, rfl, hk⟩ | ⟨c, rfl, hq⟩
  · exact hk
  · exact hq
/-- a term as a body; none: it is none -/
def bodyN : Nat → S58 → Option S58
  | 0, _ => none
  | n + 1, x => if x.f0 = 1 then some ⟨4, 0, ⟨#[99, 97, 108, 108]⟩, [x]⟩ else if x.f0 = 2 then none else if partedB x = true then (bodyN n (rd_T58 x.f3 (0 : Nat))).bind fun a => (bodyN n (rd_T58 x.f3 (1 : Nat))).map fun b => ⟨4, 0, x.f2, [a, b]⟩ else some x
/-- what comes of it -/
def BodyPost (n : Nat) (x : S58) (w : World) (ok : Nat → Prop) (e : Ending) (w' : World) : Prop :=
  Below w.heap.size w w' ∧ match bodyN n x with
  | none => e = .panicked xErr
  | some y => ∃ A' c', e = .returned (.agg #[.int .i64 y.f0, .int .i64 y.f1, .string y.f2, .slice A' y.f3.length c']) ∧ y.f3.length ≤ c' ∧ Kd.F k58 w' (fun k => ok k ∨ w.heap.size ≤ k) A' y.f3.length y.f3
theorem BodyPost.none_ {n : Nat} {x : S58} {w w' : World} {ok : Nat → Prop} (hb : Below w.heap.size w w') (h : bodyN n x = none) : BodyPost n x w ok (.panicked xErr) w' := ⟨hb, by rw [h]⟩
theorem BodyPost.some_ {n : Nat} {x y : S58} {w w' : World} {ok : Nat → Prop} {A : Option Addr} {c : Nat} (hb : Below w.heap.size w w') (h : bodyN n x = some y) (hc : y.f3.length ≤ c) (hF : Kd.F k58 w' (fun k => ok k ∨ w.heap.size ≤ k) A y.f3.length y.f3) : BodyPost n x w ok (.returned (.agg #[.int .i64 y.f0, .int .i64 y.f1, .string y.f2, .slice A y.f3.length c])) w' := ⟨hb, by rw [h]; exact ⟨A, c, rfl, hc, hF⟩⟩
set_option maxHeartbeats 8000000 in
set_option maxRecDepth 100000 in
theorem body_int (n : Nat) (x : S58) (A : Option Addr) (c : Nat) (w : World) (ok : Nat → Prop) (hF : Kd.F k58 w ok A x.f3.length x.f3) (hc : x.f3.length ≤ c) (hk : x.f0 = 2) :
    Calls Try.prog 83 #[.agg #[.int .i64 x.f0, .int .i64 x.f1, .string x.f2, .slice A x.f3.length c]] w (BodyPost (n + 1) x w ok) := by
  have HV : Aside0 (bodyN (n + 1) x = none) := ⟨by simp [bodyN, hk]⟩
  have B0 : Below w.heap.size w ((w.alloc (.cells #[.int .i64 x.f0, .int .i64 x.f1, .string x.f2, .slice A x.f3.length c] 58)).alloc (.cells #[.int .i64 0, .int .i64 0, .string ⟨#[]⟩, .slice none 0 0] 58)) := below_alloc (below_alloc (Below.refl _ _) _) _
  have K1 : ((w.alloc (.cells #[.int .i64 x.f0, .int .i64 x.f1, .string x.f2, .slice A x.f3.length c] 58)).alloc (.cells #[.int .i64 0, .int .i64 0, .string ⟨#[]⟩, .slice none 0 0] 58)).heap[w.heap.size]? = some (.cells #[.int .i64 x.f0, .int .i64 x.f1, .string x.f2, .slice A x.f3.length c] 58 (0, 0)) := blk_alloc (heap_alloc_new _ _) _
  have K2 : ((w.alloc (.cells #[.int .i64 x.f0, .int .i64 x.f1, .string x.f2, .slice A x.f3.length c] 58)).alloc (.cells #[.int .i64 0, .int .i64 0, .string ⟨#[]⟩, .slice none 0 0] 58)).heap[w.heap.size + 1]? = some (.cells #[.int .i64 0, .int .i64 0, .string ⟨#[]⟩, .slice none 0 0] 58 (0, 0)) := by
    have := heap_alloc_new (w.alloc (.cells #[.int .i64 x.f0, .int .i64 x.f1, .string x.f2, .slice A x.f3.length c] 58)) (.cells #[.int .i64 0, .int .i64 0, .string ⟨#[]⟩, .slice none 0 0] 58)
    simpa using this
  have HB0 := Aside0.mk B0
  have HK1 := Aside0.mk K1
  have HK2 := Aside0.mk K2
  have HF := Aside0.mk hF
  have Hc := Aside0.mk hc
  clear B0 K1 K2 hF hc
  have hpan : ∀ (w : World), (Instr.makeInterface 30 (.int .i64 13)).run Try.prog w = .ok (.iface 30 (.int .i64 13)) w := fun w => by kernel_rfl
  rw [hk] at HK1 HB0 HK2 ⊢
  go_enter Try.func83, Try.ntmps83
  go_wp2_with fail
  exact ⟨rfl, BodyPost.none_ HB0.out HV.out⟩
set_option maxHeartbeats 8000000 in
set_option maxRecDepth 100000 in
theorem body_var (n : Nat) (x : S58) (A : Option Addr) (c : Nat) (w : World) (ok : Nat → Prop) (hF : Kd.F k58 w ok A x.f3.length x.f3) (hc : x.f3.length ≤ c) (hk : x.f0 = 1) :
    Calls Try.prog 83 #[.agg #[.int .i64 x.f0, .int .i64 x.f1, .string x.f2, .slice A x.f3.length c]] w (BodyPost (n + 1) x w ok) := by
  have HV : Aside0 (bodyN (n + 1) x = some ⟨4, 0, ⟨#[99, 97, 108, 108]⟩, [x]⟩) := ⟨by simp [bodyN, hk]⟩
  have B0 : Below w.heap.size w ((w.alloc (.cells #[.int .i64 x.f0, .int .i64 x.f1, .string x.f2, .slice A x.f3.length c] 58)).alloc (.cells #[.int .i64 0, .int .i64 0, .string ⟨#[]⟩, .slice none 0 0] 58)) := below_alloc (below_alloc (Below.refl _ _) _) _
  have K1 : ((w.alloc (.cells #[.int .i64 x.f0, .int .i64 x.f1, .string x.f2, .slice A x.f3.length c] 58)).alloc (.cells #[.int .i64 0, .int .i64 0, .string ⟨#[]⟩, .slice none 0 0] 58)).heap[w.heap.size]? = some (.cells #[.int .i64 x.f0, .int .i64 x.f1, .string x.f2, .slice A x.f3.length c] 58 (0, 0)) := blk_alloc (heap_alloc_new _ _) _
  have K2 : ((w.alloc (.cells #[.int .i64 x.f0, .int .i64 x.f1, .string x.f2, .slice A x.f3.length c] 58)).alloc (.cells #[.int .i64 0, .int .i64 0, .string ⟨#[]⟩, .slice none 0 0] 58)).heap[w.heap.size + 1]? = some (.cells #[.int .i64 0, .int .i64 0, .string ⟨#[]⟩, .slice none 0 0] 58 (0, 0)) := by
    have := heap_alloc_new (w.alloc (.cells #[.int .i64 x.f0, .int .i64 x.f1, .string x.f2, .slice A x.f3.length c] 58)) (.cells #[.int .i64 0, .int .i64 0, .string ⟨#[]⟩, .slice none 0 0] 58)
    simpa using this
  have HB0 := Aside0.mk B0
  have HK1 := Aside0.mk K1
  have HK2 := Aside0.mk K2
  have HF := Aside0.mk hF
  have Hc := Aside0.mk hc
  clear B0 K1 K2 hF hc
  have hk2 := Aside0.mk hk
  rw [hk] at HK1 HB0 HK2 ⊢
  clear hk
  go_enter Try.func83, Try.ntmps83
  go_wp2_with fail
  have hb3 := Aside0.mk (below_alloc (below_alloc (below_alloc (Below.refl w.heap.size w) (.cells #[.int .i64 1, .int .i64 x.f1, .string x.f2, .slice A x.f3.length c] 58)) (.cells #[.int .i64 4, .int .i64 0, .string ⟨#[99, 97, 108, 108]⟩, .slice (some ⟨w.heap.size + 1 + 1, 0, none⟩) 1 1] 58)) (.cells #[.int .i64 1, .int .i64 x.f1, .string x.f2, .slice A x.f3.length c] 58))
  have k3 : (((w.alloc (.cells #[.int .i64 1, .int .i64 x.f1, .string x.f2, .slice A x.f3.length c] 58)).alloc (.cells #[.int .i64 4, .int .i64 0, .string ⟨#[99, 97, 108, 108]⟩, .slice (some ⟨w.heap.size + 1 + 1, 0, none⟩) 1 1] 58)).alloc (.cells #[.int .i64 1, .int .i64 x.f1, .string x.f2, .slice A x.f3.length c] 58)).heap[w.heap.size + 1 + 1]? = some (.cells #[.int .i64 1, .int .i64 x.f1, .string x.f2, .slice A x.f3.length c] 58 (0, 0)) := by
    have := heap_alloc_new ((w.alloc (.cells #[.int .i64 1, .int .i64 x.f1, .string x.f2, .slice A x.f3.length c] 58)).alloc (.cells #[.int .i64 4, .int .i64 0, .string ⟨#[99, 97, 108, 108]⟩, .slice (some ⟨w.heap.size + 1 + 1, 0, none⟩) 1 1] 58)) (.cells #[.int .i64 1, .int .i64 x.f1, .string x.f2, .slice A x.f3.length c] 58)
    simpa using this
  have k2 : (((w.alloc (.cells #[.int .i64 1, .int .i64 x.f1, .string x.f2, .slice A x.f3.length c] 58)).alloc (.cells #[.int .i64 4, .int .i64 0, .string ⟨#[99, 97, 108, 108]⟩, .slice (some ⟨w.heap.size + 1 + 1, 0, none⟩) 1 1] 58)).alloc (.cells #[.int .i64 1, .int .i64 x.f1, .string x.f2, .slice A x.f3.length c] 58)).heap[w.heap.size + 1]? = some (.cells #[.int .i64 4, .int .i64 0, .string ⟨#[99, 97, 108, 108]⟩, .slice (some ⟨w.heap.size + 1 + 1, 0, none⟩) 1 1] 58 (0, 0)) := by
    refine blk_alloc ?_ _
    have := heap_alloc_new (w.alloc (.cells #[.int .i64 1, .int .i64 x.f1, .string x.f2, .slice A x.f3.length c] 58)) (.cells #[.int .i64 4, .int .i64 0, .string ⟨#[99, 97, 108, 108]⟩, .slice (some ⟨w.heap.size + 1 + 1, 0, none⟩) 1 1] 58)
    simpa using this
  generalize (((w.alloc (.cells #[.int .i64 1, .int .i64 x.f1, .string x.f2, .slice A x.f3.length c] 58)).alloc (.cells #[.int .i64 4, .int .i64 0, .string ⟨#[99, 97, 108, 108]⟩, .slice (some ⟨w.heap.size + 1 + 1, 0, none⟩) 1 1] 58)).alloc (.cells #[.int .i64 1, .int .i64 x.f1, .string x.f2, .slice A x.f3.length c] 58)) = w3 at *
  rw [← hk2.out] at k3
  refine bodyPost_ret (results_cell_row rfl _ _ (w.heap.size + 1) 58 _ (0, 0) _ rfl k2 Try.underlying58 rfl (by kernel_rfl)) rfl ?_
  exact BodyPost.some_ (y := ⟨4, 0, ⟨#[99, 97, 108, 108]⟩, [x]⟩) hb3.out HV.out (Nat.le_refl _) (Kd.F_mono (lit1 k3 Hc.out (Kd.F_below HF.out hb3.out)) (fun q hq => hq.imp id (fun h => by omega)))
set_option maxHeartbeats 8000000 in
set_option maxRecDepth 100000 in
theorem body_own (n : Nat) (x : S58) (A : Option Addr) (c : Nat) (w : World) (ok : Nat → Prop) (hF : Kd.F k58 w ok A x.f3.length x.f3) (hc : x.f3.length ≤ c) (hx : szT x ≤ 1000000) (hk1 : ¬ x.f0 = 1) (hk2 : ¬ x.f0 = 2) (hp : partedB x = false) :
    Calls Try.prog 83 #[.agg #[.int .i64 x.f0, .int .i64 x.f1, .string x.f2, .slice A x.f3.length c]] w (BodyPost (n + 1) x w ok) := by
  have HV : Aside0 (bodyN (n + 1) x = some x) := ⟨by simp [bodyN, hk1, hk2, hp]⟩
  have Hx := Aside0.mk hx
  have B0 : Below w.heap.size w ((w.alloc (.cells #[.int .i64 x.f0, .int .i64 x.f1, .string x.f2, .slice A x.f3.length c] 58)).alloc (.cells #[.int .i64 0, .int .i64 0, .string ⟨#[]⟩, .slice none 0 0] 58)) := below_alloc (below_alloc (Below.refl _ _) _) _
  have K1 : ((w.alloc (.cells #[.int .i64 x.f0, .int .i64 x.f1, .string x.f2, .slice A x.f3.length c] 58)).alloc (.cells #[.int .i64 0, .int .i64 0, .string ⟨#[]⟩, .slice none 0 0] 58)).heap[w.heap.size]? = some (.cells #[.int .i64 x.f0, .int .i64 x.f1, .string x.f2, .slice A x.f3.length c] 58 (0, 0)) := blk_alloc (heap_alloc_new _ _) _
  have K2 : ((w.alloc (.cells #[.int .i64 x.f0, .int .i64 x.f1, .string x.f2, .slice A x.f3.length c] 58)).alloc (.cells #[.int .i64 0, .int .i64 0, .string ⟨#[]⟩, .slice none 0 0] 58)).heap[w.heap.size + 1]? = some (.cells #[.int .i64 0, .int .i64 0, .string ⟨#[]⟩, .slice none 0 0] 58 (0, 0)) := by
    have := heap_alloc_new (w.alloc (.cells #[.int .i64 x.f0, .int .i64 x.f1, .string x.f2, .slice A x.f3.length c] 58)) (.cells #[.int .i64 0, .int .i64 0, .string ⟨#[]⟩, .slice none 0 0] 58)
    simpa using this
  have HB0 := Aside0.mk B0
  have HK1 := Aside0.mk K1
  have HK2 := Aside0.mk K2
  have HF := Aside0.mk hF
  have Hc := Aside0.mk hc
  clear B0 K1 K2 hF hc
  have e1 : (x.f0 == 1) = false := by simpa using hk1
  have e2 : (x.f0 == 2) = false := by simpa using hk2
  clear hk1 hk2 hx
  go_enter Try.func83, Try.ntmps83
  go_wp2_with (first | (go_at_call 102; refine (parted_calls x A c _).mono ?_; rw [hp]; rintro e w2 ⟨rfl, hb⟩; have b2 := Aside0.mk (below_step HB0.out hb); have k1 := Aside0.mk (blk_below HK1.out hb); have k2 := Aside0.mk (blk_below HK2.out hb); clear hb; have c20 := (blk_cell k1.out 0).trans rfl; have c21 := (blk_cell k1.out 1).trans rfl; have c22 := (blk_cell k1.out 2).trans rfl; have c23 := (blk_cell k1.out 3).trans rfl))
  refine (own_calls 1000000 (by omega) x Hx.out A c _ (Kd.C_below (Kd.F_now HF.out) b2.out) Hc.out).mono ?_
  rintro e w3 ⟨A3, c3, rfl, hl3, hF3, hb3⟩
  have k3 := blk_below k2.out hb3
  have b3 := Aside0.mk (below_step b2.out hb3)
  have u0 : w3.cell? ⟨w.heap.size + 1, 0, none⟩ = some (.int .i64 0) := (blk_cell k3 0).trans rfl
  have u1 : w3.cell? ⟨w.heap.size + 1, 1, none⟩ = some (.int .i64 0) := (blk_cell k3 1).trans rfl
  have u2 : w3.cell? ⟨w.heap.size + 1, 2, none⟩ = some (.string ⟨#[]⟩) := (blk_cell k3 2).trans rfl
  have u3 : w3.cell? ⟨w.heap.size + 1, 3, none⟩ = some (.slice none 0 0) := (blk_cell k3 3).trans rfl
  have z0 := blk_frozen k3 0
  have z1 := blk_frozen k3 1
  have z2 := blk_frozen k3 2
  have z3 := blk_frozen k3 3
  have K3 := Aside0.mk k3
  clear k3
  go_wp2_with fail
  obtain ⟨s1, s2, s3⟩ := set4 (.int .i64 x.f0) (.int .i64 x.f1) (.string x.f2) (.slice A3 x.f3.length c3) K3.out
  refine bodyPost_ret (results_cell_row rfl _ _ (w.heap.size + 1) 58 _ (0, 0) _ rfl s1 Try.underlying58 rfl (by kernel_rfl)) rfl ?_
  have hsz := b2.out.size
  have hlt := blk_lt k2.out
  exact BodyPost.some_ (s3 _ _ b3.out (by omega)) HV.out hl3 (Kd.F_mono (Kd.F_step hF3 (fun q hq _ => s2 q (by omega))) (fun q hq => Or.inr (by omega)))
/-- what body does of every smaller term -/
def BodyAt (n : Nat) : Prop := ∀ (x : S58) (A : Option Addr) (c : Nat) (w : World) (ok : Nat → Prop) (hF : Kd.F k58 w ok A x.f3.length x.f3) (hc : x.f3.length ≤ c) (hx : szT x ≤ n),
    Calls Try.prog 83 #[.agg #[.int .i64 x.f0, .int .i64 x.f1, .string x.f2, .slice A x.f3.length c]] w (BodyPost n x w ok)
theorem ck {w w' : World} {p : Addr} {v : Value} (hb : Below w.heap.size w w') (h : w.cell? p = some v) : w'.cell? p = some v := (hb.cell (World.block_lt_of_cell? w _ h)).trans h
set_option maxHeartbeats 8000000 in
set_option maxRecDepth 100000 in
theorem body_two0 (n : Nat) (ih : BodyAt n) (k m : Int) (s : ByteArray) (a b : S58) (ad : Addr) (c : Nat) (w : World) (ok : Nat → Prop) (hok : ∀ q, ok q → q < w.heap.size) (hx : szT ⟨k, m, s, [a, b]⟩ ≤ n + 1) (hk1 : ¬ k = 1) (hk2 : ¬ k = 2) (hp : partedB ⟨k, m, s, [a, b]⟩ = true) 
    (B1 B2 : Option Addr) (d1 d2 : Nat) (e0 : w.cell? ad = some (.int .i64 a.f0)) (e1 : w.cell? ⟨ad.block, ad.off + 1, none⟩ = some (.int .i64 a.f1)) (e2 : w.cell? ⟨ad.block, ad.off + 2, none⟩ = some (.string a.f2)) (e3 : w.cell? ⟨ad.block, ad.off + 3, none⟩ = some (.slice B1 a.f3.length d1)) (e4 : w.cell? ⟨ad.block, ad.off + 4, none⟩ = some (.int .i64 b.f0)) (e5 : w.cell? ⟨ad.block, ad.off + 4 + 1, none⟩ = some (.int .i64 b.f1)) (e6 : w.cell? ⟨ad.block, ad.off + 4 + 2, none⟩ = some (.string b.f2)) (e7 : w.cell? ⟨ad.block, ad.off + 4 + 3, none⟩ = some (.slice B2 b.f3.length d2)) (hd1 : a.f3.length ≤ d1) (hd2 : b.f3.length ≤ d2) (hF1 : Kd.F k58 w ok B1 a.f3.length a.f3) (hF2 : Kd.F k58 w ok B2 b.f3.length b.f3) (EA : bodyN n a = none) :
    Calls Try.prog 83 #[.agg #[.int .i64 k, .int .i64 m, .string s, .slice (some ad) 2 c]] w (BodyPost (n + 1) ⟨k, m, s, [a, b]⟩ w ok) := by
  have HV : Aside0 (bodyN (n + 1) ⟨k, m, s, [a, b]⟩ = none) := ⟨by simp only [bodyN]; rw [if_neg hk1, if_neg hk2, if_pos hp]; show (bodyN n a).bind (fun x => (bodyN n b).map fun y => (⟨4, 0, s, [x, y]⟩ : S58)) = _; rw [EA]; simp⟩
  have ha : Aside0 (szT a ≤ n) := ⟨by simp [szT, szL] at hx; omega⟩
  have hbz : Aside0 (szT b ≤ n) := ⟨by simp [szT, szL] at hx; omega⟩
  have hd1 := Aside0.mk hd1
  have hd2 := Aside0.mk hd2
  have hFa := Aside0.mk hF1
  have hFb := Aside0.mk hF2
  have EA' := Aside0.mk EA
  have B0 : Below w.heap.size w ((w.alloc (.cells #[.int .i64 k, .int .i64 m, .string s, .slice (some ad) 2 c] 58)).alloc (.cells #[.int .i64 0, .int .i64 0, .string ⟨#[]⟩, .slice none 0 0] 58)) := below_alloc (below_alloc (Below.refl _ _) _) _
  have K1 : ((w.alloc (.cells #[.int .i64 k, .int .i64 m, .string s, .slice (some ad) 2 c] 58)).alloc (.cells #[.int .i64 0, .int .i64 0, .string ⟨#[]⟩, .slice none 0 0] 58)).heap[w.heap.size]? = some (.cells #[.int .i64 k, .int .i64 m, .string s, .slice (some ad) 2 c] 58 (0, 0)) := blk_alloc (heap_alloc_new _ _) _
  have K2 : ((w.alloc (.cells #[.int .i64 k, .int .i64 m, .string s, .slice (some ad) 2 c] 58)).alloc (.cells #[.int .i64 0, .int .i64 0, .string ⟨#[]⟩, .slice none 0 0] 58)).heap[w.heap.size + 1]? = some (.cells #[.int .i64 0, .int .i64 0, .string ⟨#[]⟩, .slice none 0 0] 58 (0, 0)) := by
    have := heap_alloc_new (w.alloc (.cells #[.int .i64 k, .int .i64 m, .string s, .slice (some ad) 2 c] 58)) (.cells #[.int .i64 0, .int .i64 0, .string ⟨#[]⟩, .slice none 0 0] 58)
    simpa using this
  have HB0 := Aside0.mk B0
  have HK1 := Aside0.mk K1
  have HK2 := Aside0.mk K2
  clear B0 K1 K2
  have g0 := Aside0.mk e0
  have g1 := Aside0.mk e1
  have g2 := Aside0.mk e2
  have g3 := Aside0.mk e3
  have g4 := Aside0.mk e4
  have g5 := Aside0.mk e5
  have g6 := Aside0.mk e6
  have g7 := Aside0.mk e7
  have q1 : (k == 1) = false := by simpa using hk1
  have q2 : (k == 2) = false := by simpa using hk2
  have HP := Aside0.mk hp
  have HOK := Aside0.mk hok
  have Hih := Aside0.mk ih
  clear hk1 hk2 hx hF1 hF2 e0 e1 e2 e3 e4 e5 e6 e7 EA hp ih hok
  go_enter Try.func83, Try.ntmps83
  go_wp2_with (first | (go_at_call 102; refine (parted_calls ⟨k, m, s, [a, b]⟩ (some ad) c _).mono ?_; rw [HP.out]; rintro e w2 ⟨rfl, hb⟩; have hb2 := Aside0.mk (below_step HB0.out hb); have K1 := Aside0.mk (blk_below HK1.out hb); have K2 := Aside0.mk (blk_below HK2.out hb); clear hb))
  have EA := EA'.out
  have ih := Hih.out
  have F1 := Aside0.mk (Kd.F_below hFa.out hb2.out)
  have F2 := Aside0.mk (Kd.F_below hFb.out hb2.out)
  have h0 := Aside0.mk (show w2.drew.cell? _ = _ from ck hb2.out.drew g0.out)
  have h1 := Aside0.mk (show w2.drew.cell? _ = _ from ck hb2.out.drew g1.out)
  have h2 := Aside0.mk (show w2.drew.cell? _ = _ from ck hb2.out.drew g2.out)
  have h3 := Aside0.mk (show w2.drew.cell? _ = _ from ck hb2.out.drew g3.out)
  have h4 := Aside0.mk (show w2.drew.cell? _ = _ from ck hb2.out.drew g4.out)
  have h5 := Aside0.mk (show w2.drew.cell? _ = _ from ck hb2.out.drew g5.out)
  have h6 := Aside0.mk (show w2.drew.cell? _ = _ from ck hb2.out.drew g6.out)
  have h7 := Aside0.mk (show w2.drew.cell? _ = _ from ck hb2.out.drew g7.out)
  refine start_ (n := 15) (S := fun w' => w'.cell? ⟨w.heap.size, 2, none⟩ = some (.string s) ∧ w'.cell? ⟨w.heap.size, 3, none⟩ = some (.slice (some ad) 2 c) ∧ w'.cell? ad = some (.int .i64 a.f0) ∧ w'.cell? ⟨ad.block, ad.off + 1, none⟩ = some (.int .i64 a.f1) ∧ w'.cell? ⟨ad.block, ad.off + 2, none⟩ = some (.string a.f2) ∧ w'.cell? ⟨ad.block, ad.off + 3, none⟩ = some (.slice B1 a.f3.length d1) ∧ w'.cell? ⟨ad.block, ad.off + 4, none⟩ = some (.int .i64 b.f0) ∧ w'.cell? ⟨ad.block, ad.off + 4 + 1, none⟩ = some (.int .i64 b.f1) ∧ w'.cell? ⟨ad.block, ad.off + 4 + 2, none⟩ = some (.string b.f2) ∧ w'.cell? ⟨ad.block, ad.off + 4 + 3, none⟩ = some (.slice B2 b.f3.length d2)) (ds := [14]) #[false, false, false, false, false, false, false, false, false, false, false, false, false, false, false] (by kernel_rfl) rfl rfl ⟨(blk_cell (blk_drew K1.out) 2).trans rfl, (blk_cell (blk_drew K1.out) 3).trans rfl, h0.out, h1.out, h2.out, h3.out, h4.out, h5.out, h6.out, h7.out⟩ (fun hHeld => ?_)
  have hb4 := Aside0.mk (hb2.out.drew)
  have L4 := Aside0.mk (show w.heap.size + 1 < w2.drew.heap.size from blk_lt K2.out)
  have K4 := Aside0.mk (blk_drew K1.out)
  have R4 := Aside0.mk (blk_drew K2.out)
  have HF1 := Aside0.mk (Kd.F_below F1.out (below_drew (Below.refl _ _)))
  have HF2 := Aside0.mk (Kd.F_below F2.out (below_drew (Below.refl _ _)))
  clear hb2 K1 K2 F1 F2 h0 h1 h2 h3 h4 h5 h6 h7
  generalize w2.drew = w4 at *
  refine pure_ (i := 0) (N := (some 18)) (v := ?_) (a' := ?_) #[true, false, false, false, false, false, false, false, false, false, false, false, false, false, false] rfl rfl (by kernel_rfl) (fun _ _ _ h => h) (Or.inl ⟨by rfl, ?_⟩) ?_ ?_
  rotate_left
  · intro w'
    go_simp
    with_reducible rfl
  rotate_left
  · simp only [Act.put, List.setIfInBounds_toArray, List.set_cons_zero, List.set_cons_succ, i64_w, i32_w]
    rfl
  refine take_ (i := 1) (N := (some 19)) (v := ?_) (a' := ?_) #[true, true, false, false, false, false, false, false, false, false, false, false, false, false, false] rfl rfl (by kernel_rfl) (fun _ _ _ h => h) (Or.inl ⟨by rfl, ?_⟩) hHeld ?_ ?_
  rotate_left
  · rintro w' ⟨s0, s1, s2, s3, s4, s5, s6, s7, s8, s9⟩
    go_simp
    with_reducible rfl
  rotate_left
  · simp only [Act.put, List.setIfInBounds_toArray, List.set_cons_zero, List.set_cons_succ, i64_w, i32_w]
    rfl
  refine pure_ (i := 2) (N := (some 20)) (v := ?_) (a' := ?_) #[true, true, true, false, false, false, false, false, false, false, false, false, false, false, false] rfl rfl (by kernel_rfl) (fun _ _ _ h => h) (Or.inl ⟨by rfl, ?_⟩) ?_ ?_
  rotate_left
  · intro w'
    go_simp
    with_reducible rfl
  rotate_left
  · simp only [Act.put, List.setIfInBounds_toArray, List.set_cons_zero, List.set_cons_succ, i64_w, i32_w]
    rfl
  refine take_ (i := 3) (N := (some 21)) (v := ?_) (a' := ?_) #[true, true, true, true, false, false, false, false, false, false, false, false, false, false, false] rfl rfl (by kernel_rfl) (fun _ _ _ h => h) (Or.inl ⟨by rfl, ?_⟩) hHeld ?_ ?_
  rotate_left
  · rintro w' ⟨s0, s1, s2, s3, s4, s5, s6, s7, s8, s9⟩
    go_simp
    with_reducible rfl
  rotate_left
  · simp only [Act.put, List.setIfInBounds_toArray, List.set_cons_zero, List.set_cons_succ, i64_w, i32_w]
    rfl
  refine pure_ (i := 4) (N := (some 22)) (v := ?_) (a' := ?_) #[true, true, true, true, true, false, false, false, false, false, false, false, false, false, false] rfl rfl (by kernel_rfl) (fun _ _ _ h => h) (Or.inl ⟨by rfl, ?_⟩) ?_ ?_
  rotate_left
  · intro w'
    go_simp
    with_reducible rfl
  rotate_left
  · simp only [Act.put, List.setIfInBounds_toArray, List.set_cons_zero, List.set_cons_succ, i64_w, i32_w]
    rfl
  refine take_ (i := 5) (N := (some 23)) (v := ?_) (a' := ?_) #[true, true, true, true, true, true, false, false, false, false, false, false, false, false, false] rfl rfl (by kernel_rfl) (fun _ _ _ h => h) (Or.inl ⟨by rfl, ?_⟩) hHeld ?_ ?_
  rotate_left
  · rintro w' ⟨s0, s1, s2, s3, s4, s5, s6, s7, s8, s9⟩
    go_simp
    with_reducible rfl
  rotate_left
  · simp only [Act.put, List.setIfInBounds_toArray, List.set_cons_zero, List.set_cons_succ, i64_w, i32_w]
    rfl
  refine pure_ (i := 7) (N := (some 25)) (v := ?_) (a' := ?_) #[true, true, true, true, true, true, false, true, false, false, false, false, false, false, false] rfl rfl (by kernel_rfl) (fun _ _ _ h => h) (Or.inl ⟨by rfl, ?_⟩) ?_ ?_
  rotate_left
  · intro w'
    go_simp
    with_reducible rfl
  rotate_left
  · simp only [Act.put, List.setIfInBounds_toArray, List.set_cons_zero, List.set_cons_succ, i64_w, i32_w]
    rfl
  refine take_ (i := 8) (N := (some 26)) (v := ?_) (a' := ?_) #[true, true, true, true, true, true, false, true, true, false, false, false, false, false, false] rfl rfl (by kernel_rfl) (fun _ _ _ h => h) (Or.inl ⟨by rfl, ?_⟩) hHeld ?_ ?_
  rotate_left
  · rintro w' ⟨s0, s1, s2, s3, s4, s5, s6, s7, s8, s9⟩
    go_simp
    with_reducible rfl
  rotate_left
  · simp only [Act.put, List.setIfInBounds_toArray, List.set_cons_zero, List.set_cons_succ, i64_w, i32_w]
    rfl
  refine pure_ (i := 9) (N := (some 27)) (v := ?_) (a' := ?_) #[true, true, true, true, true, true, false, true, true, true, false, false, false, false, false] rfl rfl (by kernel_rfl) (fun _ _ _ h => h) (Or.inl ⟨by rfl, ?_⟩) ?_ ?_
  rotate_left
  · intro w'
    go_simp
    with_reducible rfl
  rotate_left
  · simp only [Act.put, List.setIfInBounds_toArray, List.set_cons_zero, List.set_cons_succ, i64_w, i32_w]
    rfl
  refine take_ (i := 10) (N := (some 28)) (v := ?_) (a' := ?_) #[true, true, true, true, true, true, false, true, true, true, true, false, false, false, false] rfl rfl (by kernel_rfl) (fun _ _ _ h => h) (Or.inl ⟨by rfl, ?_⟩) hHeld ?_ ?_
  rotate_left
  · rintro w' ⟨s0, s1, s2, s3, s4, s5, s6, s7, s8, s9⟩
    go_simp
    with_reducible rfl
  rotate_left
  · simp only [Act.put, List.setIfInBounds_toArray, List.set_cons_zero, List.set_cons_succ, i64_w, i32_w]
    rfl
  refine one_ (i := 6) (N := some 24) #[true, true, true, true, true, true, true, true, true, true, true, false, false, false, false] rfl rfl (by kernel_rfl) (by decide) (fun K hK => ?_)
  refine goesP_ Try.func83 (by kernel_rfl) rfl #[.agg #[.int .i64 a.f0, .int .i64 a.f1, .string a.f2, .slice B1 a.f3.length d1]] (by rfl) rfl rfl (by (try simp only [List.map_toArray, List.map_cons, List.map_nil]); first | done | rfl) ?_
  refine (ih a B1 d1 _ ok HF1.out hd1.out ha.out).mono ?_
  rintro e w5 ⟨hb5, hm5⟩
  rw [EA] at hm5
  refine Or.inr ⟨_, hm5, ?_⟩
  exact ⟨rfl, BodyPost.none_ (below_step hb4.out hb5) HV.out⟩
set_option maxHeartbeats 8000000 in
set_option maxRecDepth 100000 in
theorem body_two1 (n : Nat) (ih : BodyAt n) (k m : Int) (s : ByteArray) (a b : S58) (ad : Addr) (c : Nat) (w : World) (ok : Nat → Prop) (hok : ∀ q, ok q → q < w.heap.size) (hx : szT ⟨k, m, s, [a, b]⟩ ≤ n + 1) (hk1 : ¬ k = 1) (hk2 : ¬ k = 2) (hp : partedB ⟨k, m, s, [a, b]⟩ = true) (a1 : S58)
    (B1 B2 : Option Addr) (d1 d2 : Nat) (e0 : w.cell? ad = some (.int .i64 a.f0)) (e1 : w.cell? ⟨ad.block, ad.off + 1, none⟩ = some (.int .i64 a.f1)) (e2 : w.cell? ⟨ad.block, ad.off + 2, none⟩ = some (.string a.f2)) (e3 : w.cell? ⟨ad.block, ad.off + 3, none⟩ = some (.slice B1 a.f3.length d1)) (e4 : w.cell? ⟨ad.block, ad.off + 4, none⟩ = some (.int .i64 b.f0)) (e5 : w.cell? ⟨ad.block, ad.off + 4 + 1, none⟩ = some (.int .i64 b.f1)) (e6 : w.cell? ⟨ad.block, ad.off + 4 + 2, none⟩ = some (.string b.f2)) (e7 : w.cell? ⟨ad.block, ad.off + 4 + 3, none⟩ = some (.slice B2 b.f3.length d2)) (hd1 : a.f3.length ≤ d1) (hd2 : b.f3.length ≤ d2) (hF1 : Kd.F k58 w ok B1 a.f3.length a.f3) (hF2 : Kd.F k58 w ok B2 b.f3.length b.f3) (EA : bodyN n a = some a1) (EB : bodyN n b = none) :
    Calls Try.prog 83 #[.agg #[.int .i64 k, .int .i64 m, .string s, .slice (some ad) 2 c]] w (BodyPost (n + 1) ⟨k, m, s, [a, b]⟩ w ok) := by
  have HV : Aside0 (bodyN (n + 1) ⟨k, m, s, [a, b]⟩ = none) := ⟨by simp only [bodyN]; rw [if_neg hk1, if_neg hk2, if_pos hp]; show (bodyN n a).bind (fun x => (bodyN n b).map fun y => (⟨4, 0, s, [x, y]⟩ : S58)) = _; rw [EA]; simp [EB]⟩
  have ha : Aside0 (szT a ≤ n) := ⟨by simp [szT, szL] at hx; omega⟩
  have hbz : Aside0 (szT b ≤ n) := ⟨by simp [szT, szL] at hx; omega⟩
  have hd1 := Aside0.mk hd1
  have hd2 := Aside0.mk hd2
  have hFa := Aside0.mk hF1
  have hFb := Aside0.mk hF2
  have EA' := Aside0.mk EA
  have EB' := Aside0.mk EB
  have B0 : Below w.heap.size w ((w.alloc (.cells #[.int .i64 k, .int .i64 m, .string s, .slice (some ad) 2 c] 58)).alloc (.cells #[.int .i64 0, .int .i64 0, .string ⟨#[]⟩, .slice none 0 0] 58)) := below_alloc (below_alloc (Below.refl _ _) _) _
  have K1 : ((w.alloc (.cells #[.int .i64 k, .int .i64 m, .string s, .slice (some ad) 2 c] 58)).alloc (.cells #[.int .i64 0, .int .i64 0, .string ⟨#[]⟩, .slice none 0 0] 58)).heap[w.heap.size]? = some (.cells #[.int .i64 k, .int .i64 m, .string s, .slice (some ad) 2 c] 58 (0, 0)) := blk_alloc (heap_alloc_new _ _) _
  have K2 : ((w.alloc (.cells #[.int .i64 k, .int .i64 m, .string s, .slice (some ad) 2 c] 58)).alloc (.cells #[.int .i64 0, .int .i64 0, .string ⟨#[]⟩, .slice none 0 0] 58)).heap[w.heap.size + 1]? = some (.cells #[.int .i64 0, .int .i64 0, .string ⟨#[]⟩, .slice none 0 0] 58 (0, 0)) := by
    have := heap_alloc_new (w.alloc (.cells #[.int .i64 k, .int .i64 m, .string s, .slice (some ad) 2 c] 58)) (.cells #[.int .i64 0, .int .i64 0, .string ⟨#[]⟩, .slice none 0 0] 58)
    simpa using this
  have HB0 := Aside0.mk B0
  have HK1 := Aside0.mk K1
  have HK2 := Aside0.mk K2
  clear B0 K1 K2
  have g0 := Aside0.mk e0
  have g1 := Aside0.mk e1
  have g2 := Aside0.mk e2
  have g3 := Aside0.mk e3
  have g4 := Aside0.mk e4
  have g5 := Aside0.mk e5
  have g6 := Aside0.mk e6
  have g7 := Aside0.mk e7
  have q1 : (k == 1) = false := by simpa using hk1
  have q2 : (k == 2) = false := by simpa using hk2
  have HP := Aside0.mk hp
  have HOK := Aside0.mk hok
  have Hih := Aside0.mk ih
  clear hk1 hk2 hx hF1 hF2 e0 e1 e2 e3 e4 e5 e6 e7 EA EB hp ih hok
  go_enter Try.func83, Try.ntmps83
  go_wp2_with (first | (go_at_call 102; refine (parted_calls ⟨k, m, s, [a, b]⟩ (some ad) c _).mono ?_; rw [HP.out]; rintro e w2 ⟨rfl, hb⟩; have hb2 := Aside0.mk (below_step HB0.out hb); have K1 := Aside0.mk (blk_below HK1.out hb); have K2 := Aside0.mk (blk_below HK2.out hb); clear hb))
  have EA := EA'.out
  have ih := Hih.out
  have EB := EB'.out
  have F1 := Aside0.mk (Kd.F_below hFa.out hb2.out)
  have F2 := Aside0.mk (Kd.F_below hFb.out hb2.out)
  have h0 := Aside0.mk (show w2.drew.cell? _ = _ from ck hb2.out.drew g0.out)
  have h1 := Aside0.mk (show w2.drew.cell? _ = _ from ck hb2.out.drew g1.out)
  have h2 := Aside0.mk (show w2.drew.cell? _ = _ from ck hb2.out.drew g2.out)
  have h3 := Aside0.mk (show w2.drew.cell? _ = _ from ck hb2.out.drew g3.out)
  have h4 := Aside0.mk (show w2.drew.cell? _ = _ from ck hb2.out.drew g4.out)
  have h5 := Aside0.mk (show w2.drew.cell? _ = _ from ck hb2.out.drew g5.out)
  have h6 := Aside0.mk (show w2.drew.cell? _ = _ from ck hb2.out.drew g6.out)
  have h7 := Aside0.mk (show w2.drew.cell? _ = _ from ck hb2.out.drew g7.out)
  refine start_ (n := 15) (S := fun w' => w'.cell? ⟨w.heap.size, 2, none⟩ = some (.string s) ∧ w'.cell? ⟨w.heap.size, 3, none⟩ = some (.slice (some ad) 2 c) ∧ w'.cell? ad = some (.int .i64 a.f0) ∧ w'.cell? ⟨ad.block, ad.off + 1, none⟩ = some (.int .i64 a.f1) ∧ w'.cell? ⟨ad.block, ad.off + 2, none⟩ = some (.string a.f2) ∧ w'.cell? ⟨ad.block, ad.off + 3, none⟩ = some (.slice B1 a.f3.length d1) ∧ w'.cell? ⟨ad.block, ad.off + 4, none⟩ = some (.int .i64 b.f0) ∧ w'.cell? ⟨ad.block, ad.off + 4 + 1, none⟩ = some (.int .i64 b.f1) ∧ w'.cell? ⟨ad.block, ad.off + 4 + 2, none⟩ = some (.string b.f2) ∧ w'.cell? ⟨ad.block, ad.off + 4 + 3, none⟩ = some (.slice B2 b.f3.length d2)) (ds := [14]) #[false, false, false, false, false, false, false, false, false, false, false, false, false, false, false] (by kernel_rfl) rfl rfl ⟨(blk_cell (blk_drew K1.out) 2).trans rfl, (blk_cell (blk_drew K1.out) 3).trans rfl, h0.out, h1.out, h2.out, h3.out, h4.out, h5.out, h6.out, h7.out⟩ (fun hHeld => ?_)
  have hb4 := Aside0.mk (hb2.out.drew)
  have L4 := Aside0.mk (show w.heap.size + 1 < w2.drew.heap.size from blk_lt K2.out)
  have K4 := Aside0.mk (blk_drew K1.out)
  have R4 := Aside0.mk (blk_drew K2.out)
  have HF1 := Aside0.mk (Kd.F_below F1.out (below_drew (Below.refl _ _)))
  have HF2 := Aside0.mk (Kd.F_below F2.out (below_drew (Below.refl _ _)))
  clear hb2 K1 K2 F1 F2 h0 h1 h2 h3 h4 h5 h6 h7
  generalize w2.drew = w4 at *
  refine pure_ (i := 0) (N := (some 18)) (v := ?_) (a' := ?_) #[true, false, false, false, false, false, false, false, false, false, false, false, false, false, false] rfl rfl (by kernel_rfl) (fun _ _ _ h => h) (Or.inl ⟨by rfl, ?_⟩) ?_ ?_
  rotate_left
  · intro w'
    go_simp
    with_reducible rfl
  rotate_left
  · simp only [Act.put, List.setIfInBounds_toArray, List.set_cons_zero, List.set_cons_succ, i64_w, i32_w]
    rfl
  refine take_ (i := 1) (N := (some 19)) (v := ?_) (a' := ?_) #[true, true, false, false, false, false, false, false, false, false, false, false, false, false, false] rfl rfl (by kernel_rfl) (fun _ _ _ h => h) (Or.inl ⟨by rfl, ?_⟩) hHeld ?_ ?_
  rotate_left
  · rintro w' ⟨s0, s1, s2, s3, s4, s5, s6, s7, s8, s9⟩
    go_simp
    with_reducible rfl
  rotate_left
  · simp only [Act.put, List.setIfInBounds_toArray, List.set_cons_zero, List.set_cons_succ, i64_w, i32_w]
    rfl
  refine pure_ (i := 2) (N := (some 20)) (v := ?_) (a' := ?_) #[true, true, true, false, false, false, false, false, false, false, false, false, false, false, false] rfl rfl (by kernel_rfl) (fun _ _ _ h => h) (Or.inl ⟨by rfl, ?_⟩) ?_ ?_
  rotate_left
  · intro w'
    go_simp
    with_reducible rfl
  rotate_left
  · simp only [Act.put, List.setIfInBounds_toArray, List.set_cons_zero, List.set_cons_succ, i64_w, i32_w]
    rfl
  refine take_ (i := 3) (N := (some 21)) (v := ?_) (a' := ?_) #[true, true, true, true, false, false, false, false, false, false, false, false, false, false, false] rfl rfl (by kernel_rfl) (fun _ _ _ h => h) (Or.inl ⟨by rfl, ?_⟩) hHeld ?_ ?_
  rotate_left
  · rintro w' ⟨s0, s1, s2, s3, s4, s5, s6, s7, s8, s9⟩
    go_simp
    with_reducible rfl
  rotate_left
  · simp only [Act.put, List.setIfInBounds_toArray, List.set_cons_zero, List.set_cons_succ, i64_w, i32_w]
    rfl
  refine pure_ (i := 4) (N := (some 22)) (v := ?_) (a' := ?_) #[true, true, true, true, true, false, false, false, false, false, false, false, false, false, false] rfl rfl (by kernel_rfl) (fun _ _ _ h => h) (Or.inl ⟨by rfl, ?_⟩) ?_ ?_
  rotate_left
  · intro w'
    go_simp
    with_reducible rfl
  rotate_left
  · simp only [Act.put, List.setIfInBounds_toArray, List.set_cons_zero, List.set_cons_succ, i64_w, i32_w]
    rfl
  refine take_ (i := 5) (N := (some 23)) (v := ?_) (a' := ?_) #[true, true, true, true, true, true, false, false, false, false, false, false, false, false, false] rfl rfl (by kernel_rfl) (fun _ _ _ h => h) (Or.inl ⟨by rfl, ?_⟩) hHeld ?_ ?_
  rotate_left
  · rintro w' ⟨s0, s1, s2, s3, s4, s5, s6, s7, s8, s9⟩
    go_simp
    with_reducible rfl
  rotate_left
  · simp only [Act.put, List.setIfInBounds_toArray, List.set_cons_zero, List.set_cons_succ, i64_w, i32_w]
    rfl
  refine pure_ (i := 7) (N := (some 25)) (v := ?_) (a' := ?_) #[true, true, true, true, true, true, false, true, false, false, false, false, false, false, false] rfl rfl (by kernel_rfl) (fun _ _ _ h => h) (Or.inl ⟨by rfl, ?_⟩) ?_ ?_
  rotate_left
  · intro w'
    go_simp
    with_reducible rfl
  rotate_left
  · simp only [Act.put, List.setIfInBounds_toArray, List.set_cons_zero, List.set_cons_succ, i64_w, i32_w]
    rfl
  refine take_ (i := 8) (N := (some 26)) (v := ?_) (a' := ?_) #[true, true, true, true, true, true, false, true, true, false, false, false, false, false, false] rfl rfl (by kernel_rfl) (fun _ _ _ h => h) (Or.inl ⟨by rfl, ?_⟩) hHeld ?_ ?_
  rotate_left
  · rintro w' ⟨s0, s1, s2, s3, s4, s5, s6, s7, s8, s9⟩
    go_simp
    with_reducible rfl
  rotate_left
  · simp only [Act.put, List.setIfInBounds_toArray, List.set_cons_zero, List.set_cons_succ, i64_w, i32_w]
    rfl
  refine pure_ (i := 9) (N := (some 27)) (v := ?_) (a' := ?_) #[true, true, true, true, true, true, false, true, true, true, false, false, false, false, false] rfl rfl (by kernel_rfl) (fun _ _ _ h => h) (Or.inl ⟨by rfl, ?_⟩) ?_ ?_
  rotate_left
  · intro w'
    go_simp
    with_reducible rfl
  rotate_left
  · simp only [Act.put, List.setIfInBounds_toArray, List.set_cons_zero, List.set_cons_succ, i64_w, i32_w]
    rfl
  refine take_ (i := 10) (N := (some 28)) (v := ?_) (a' := ?_) #[true, true, true, true, true, true, false, true, true, true, true, false, false, false, false] rfl rfl (by kernel_rfl) (fun _ _ _ h => h) (Or.inl ⟨by rfl, ?_⟩) hHeld ?_ ?_
  rotate_left
  · rintro w' ⟨s0, s1, s2, s3, s4, s5, s6, s7, s8, s9⟩
    go_simp
    with_reducible rfl
  rotate_left
  · simp only [Act.put, List.setIfInBounds_toArray, List.set_cons_zero, List.set_cons_succ, i64_w, i32_w]
    rfl
  refine one_ (i := 6) (N := (some 24)) #[true, true, true, true, true, true, true, true, true, true, true, false, false, false, false] rfl rfl (by kernel_rfl) (by decide) (fun K hK => ?_)
  refine goesP_ Try.func83 (by kernel_rfl) rfl #[.agg #[.int .i64 a.f0, .int .i64 a.f1, .string a.f2, .slice B1 a.f3.length d1]] (by rfl) rfl rfl (by (try simp only [List.map_toArray, List.map_cons, List.map_nil]); first | done | rfl) ?_
  refine (ih a B1 d1 _ ok HF1.out hd1.out ha.out).mono ?_
  rintro e w5 ⟨hb5, hm5⟩
  rw [EA] at hm5
  obtain ⟨A5, c5, rfl, hl5, hF5⟩ := hm5
  refine Or.inl ⟨_, rfl, ?_⟩
  have hb6 := Aside0.mk (below_step hb4.out hb5)
  have HF5 := Aside0.mk hF5
  have HF25 := Aside0.mk (Kd.F_below HF2.out hb5)
  have R5 := Aside0.mk (blk_below R4.out hb5)
  have Hl5 := Aside0.mk hl5
  have hsz5 := Aside0.mk hb5.size
  clear hF5 hl5
  refine hK.out _ _ (by obtain ⟨s0, s1, s2, s3, s4, s5, s6, s7, s8, s9⟩ := hHeld; exact ⟨ck hb5 s0, ck hb5 s1, ck hb5 s2, ck hb5 s3, ck hb5 s4, ck hb5 s5, ck hb5 s6, ck hb5 s7, ck hb5 s8, ck hb5 s9⟩) (fun hHeld => ?_)
  clear hK K
  refine norm_ (a' := ?_) ?_ ?_
  rotate_left
  · show Act.put _ (some 24) _ = _
    simp only [Act.put, List.setIfInBounds_toArray, List.set_cons_zero, List.set_cons_succ, i64_w, i32_w]
    rfl
  clear hb5
  refine one_ (i := 11) (N := some 29) #[true, true, true, true, true, true, true, true, true, true, true, true, false, false, false] rfl rfl (by kernel_rfl) (by decide) (fun K hK => ?_)
  refine goesP_ Try.func83 (by kernel_rfl) rfl #[.agg #[.int .i64 b.f0, .int .i64 b.f1, .string b.f2, .slice B2 b.f3.length d2]] (by rfl) rfl rfl (by (try simp only [List.map_toArray, List.map_cons, List.map_nil]); first | done | rfl) ?_
  refine (ih b B2 d2 _ ok HF25.out hd2.out hbz.out).mono ?_
  rintro e w6 ⟨hb7, hm7⟩
  rw [EB] at hm7
  refine Or.inr ⟨_, hm7, ?_⟩
  exact ⟨rfl, BodyPost.none_ (below_step hb6.out hb7) HV.out⟩
set_option maxHeartbeats 8000000 in
set_option maxRecDepth 100000 in
theorem body_two2 (n : Nat) (ih : BodyAt n) (k m : Int) (s : ByteArray) (a b : S58) (ad : Addr) (c : Nat) (w : World) (ok : Nat → Prop) (hok : ∀ q, ok q → q < w.heap.size) (hx : szT ⟨k, m, s, [a, b]⟩ ≤ n + 1) (hk1 : ¬ k = 1) (hk2 : ¬ k = 2) (hp : partedB ⟨k, m, s, [a, b]⟩ = true) (a1 b1 : S58)
    (B1 B2 : Option Addr) (d1 d2 : Nat) (e0 : w.cell? ad = some (.int .i64 a.f0)) (e1 : w.cell? ⟨ad.block, ad.off + 1, none⟩ = some (.int .i64 a.f1)) (e2 : w.cell? ⟨ad.block, ad.off + 2, none⟩ = some (.string a.f2)) (e3 : w.cell? ⟨ad.block, ad.off + 3, none⟩ = some (.slice B1 a.f3.length d1)) (e4 : w.cell? ⟨ad.block, ad.off + 4, none⟩ = some (.int .i64 b.f0)) (e5 : w.cell? ⟨ad.block, ad.off + 4 + 1, none⟩ = some (.int .i64 b.f1)) (e6 : w.cell? ⟨ad.block, ad.off + 4 + 2, none⟩ = some (.string b.f2)) (e7 : w.cell? ⟨ad.block, ad.off + 4 + 3, none⟩ = some (.slice B2 b.f3.length d2)) (hd1 : a.f3.length ≤ d1) (hd2 : b.f3.length ≤ d2) (hF1 : Kd.F k58 w ok B1 a.f3.length a.f3) (hF2 : Kd.F k58 w ok B2 b.f3.length b.f3) (EA : bodyN n a = some a1) (EB : bodyN n b = some b1) :
    Calls Try.prog 83 #[.agg #[.int .i64 k, .int .i64 m, .string s, .slice (some ad) 2 c]] w (BodyPost (n + 1) ⟨k, m, s, [a, b]⟩ w ok) := by
  have HV : Aside0 (bodyN (n + 1) ⟨k, m, s, [a, b]⟩ = some ⟨4, 0, s, [a1, b1]⟩) := ⟨by simp only [bodyN]; rw [if_neg hk1, if_neg hk2, if_pos hp]; show (bodyN n a).bind (fun x => (bodyN n b).map fun y => (⟨4, 0, s, [x, y]⟩ : S58)) = _; rw [EA]; simp [EB]⟩
  have ha : Aside0 (szT a ≤ n) := ⟨by simp [szT, szL] at hx; omega⟩
  have hbz : Aside0 (szT b ≤ n) := ⟨by simp [szT, szL] at hx; omega⟩
  have hd1 := Aside0.mk hd1
  have hd2 := Aside0.mk hd2
  have hFa := Aside0.mk hF1
  have hFb := Aside0.mk hF2
  have EA' := Aside0.mk EA
  have EB' := Aside0.mk EB
  have B0 : Below w.heap.size w ((w.alloc (.cells #[.int .i64 k, .int .i64 m, .string s, .slice (some ad) 2 c] 58)).alloc (.cells #[.int .i64 0, .int .i64 0, .string ⟨#[]⟩, .slice none 0 0] 58)) := below_alloc (below_alloc (Below.refl _ _) _) _
  have K1 : ((w.alloc (.cells #[.int .i64 k, .int .i64 m, .string s, .slice (some ad) 2 c] 58)).alloc (.cells #[.int .i64 0, .int .i64 0, .string ⟨#[]⟩, .slice none 0 0] 58)).heap[w.heap.size]? = some (.cells #[.int .i64 k, .int .i64 m, .string s, .slice (some ad) 2 c] 58 (0, 0)) := blk_alloc (heap_alloc_new _ _) _
  have K2 : ((w.alloc (.cells #[.int .i64 k, .int .i64 m, .string s, .slice (some ad) 2 c] 58)).alloc (.cells #[.int .i64 0, .int .i64 0, .string ⟨#[]⟩, .slice none 0 0] 58)).heap[w.heap.size + 1]? = some (.cells #[.int .i64 0, .int .i64 0, .string ⟨#[]⟩, .slice none 0 0] 58 (0, 0)) := by
    have := heap_alloc_new (w.alloc (.cells #[.int .i64 k, .int .i64 m, .string s, .slice (some ad) 2 c] 58)) (.cells #[.int .i64 0, .int .i64 0, .string ⟨#[]⟩, .slice none 0 0] 58)
    simpa using this
  have HB0 := Aside0.mk B0
  have HK1 := Aside0.mk K1
  have HK2 := Aside0.mk K2
  clear B0 K1 K2
  have g0 := Aside0.mk e0
  have g1 := Aside0.mk e1
  have g2 := Aside0.mk e2
  have g3 := Aside0.mk e3
  have g4 := Aside0.mk e4
  have g5 := Aside0.mk e5
  have g6 := Aside0.mk e6
  have g7 := Aside0.mk e7
  have q1 : (k == 1) = false := by simpa using hk1
  have q2 : (k == 2) = false := by simpa using hk2
  have HP := Aside0.mk hp
  have HOK := Aside0.mk hok
  have Hih := Aside0.mk ih
  clear hk1 hk2 hx hF1 hF2 e0 e1 e2 e3 e4 e5 e6 e7 EA EB hp ih hok
  go_enter Try.func83, Try.ntmps83
  go_wp2_with (first | (go_at_call 102; refine (parted_calls ⟨k, m, s, [a, b]⟩ (some ad) c _).mono ?_; rw [HP.out]; rintro e w2 ⟨rfl, hb⟩; have hb2 := Aside0.mk (below_step HB0.out hb); have K1 := Aside0.mk (blk_below HK1.out hb); have K2 := Aside0.mk (blk_below HK2.out hb); clear hb))
  have EA := EA'.out
  have ih := Hih.out
  have EB := EB'.out
  have F1 := Aside0.mk (Kd.F_below hFa.out hb2.out)
  have F2 := Aside0.mk (Kd.F_below hFb.out hb2.out)
  have h0 := Aside0.mk (show w2.drew.cell? _ = _ from ck hb2.out.drew g0.out)
  have h1 := Aside0.mk (show w2.drew.cell? _ = _ from ck hb2.out.drew g1.out)
  have h2 := Aside0.mk (show w2.drew.cell? _ = _ from ck hb2.out.drew g2.out)
  have h3 := Aside0.mk (show w2.drew.cell? _ = _ from ck hb2.out.drew g3.out)
  have h4 := Aside0.mk (show w2.drew.cell? _ = _ from ck hb2.out.drew g4.out)
  have h5 := Aside0.mk (show w2.drew.cell? _ = _ from ck hb2.out.drew g5.out)
  have h6 := Aside0.mk (show w2.drew.cell? _ = _ from ck hb2.out.drew g6.out)
  have h7 := Aside0.mk (show w2.drew.cell? _ = _ from ck hb2.out.drew g7.out)
  refine start_ (n := 15) (S := fun w' => w'.cell? ⟨w.heap.size, 2, none⟩ = some (.string s) ∧ w'.cell? ⟨w.heap.size, 3, none⟩ = some (.slice (some ad) 2 c) ∧ w'.cell? ad = some (.int .i64 a.f0) ∧ w'.cell? ⟨ad.block, ad.off + 1, none⟩ = some (.int .i64 a.f1) ∧ w'.cell? ⟨ad.block, ad.off + 2, none⟩ = some (.string a.f2) ∧ w'.cell? ⟨ad.block, ad.off + 3, none⟩ = some (.slice B1 a.f3.length d1) ∧ w'.cell? ⟨ad.block, ad.off + 4, none⟩ = some (.int .i64 b.f0) ∧ w'.cell? ⟨ad.block, ad.off + 4 + 1, none⟩ = some (.int .i64 b.f1) ∧ w'.cell? ⟨ad.block, ad.off + 4 + 2, none⟩ = some (.string b.f2) ∧ w'.cell? ⟨ad.block, ad.off + 4 + 3, none⟩ = some (.slice B2 b.f3.length d2)) (ds := [14]) #[false, false, false, false, false, false, false, false, false, false, false, false, false, false, false] (by kernel_rfl) rfl rfl ⟨(blk_cell (blk_drew K1.out) 2).trans rfl, (blk_cell (blk_drew K1.out) 3).trans rfl, h0.out, h1.out, h2.out, h3.out, h4.out, h5.out, h6.out, h7.out⟩ (fun hHeld => ?_)
  have hb4 := Aside0.mk (hb2.out.drew)
  have L4 := Aside0.mk (show w.heap.size + 1 < w2.drew.heap.size from blk_lt K2.out)
  have K4 := Aside0.mk (blk_drew K1.out)
  have R4 := Aside0.mk (blk_drew K2.out)
  have HF1 := Aside0.mk (Kd.F_below F1.out (below_drew (Below.refl _ _)))
  have HF2 := Aside0.mk (Kd.F_below F2.out (below_drew (Below.refl _ _)))
  clear hb2 K1 K2 F1 F2 h0 h1 h2 h3 h4 h5 h6 h7
  generalize w2.drew = w4 at *
  refine pure_ (i := 0) (N := (some 18)) (v := ?_) (a' := ?_) #[true, false, false, false, false, false, false, false, false, false, false, false, false, false, false] rfl rfl (by kernel_rfl) (fun _ _ _ h => h) (Or.inl ⟨by rfl, ?_⟩) ?_ ?_
  rotate_left
  · intro w'
    go_simp
    with_reducible rfl
  rotate_left
  · simp only [Act.put, List.setIfInBounds_toArray, List.set_cons_zero, List.set_cons_succ, i64_w, i32_w]
    rfl
  refine take_ (i := 1) (N := (some 19)) (v := ?_) (a' := ?_) #[true, true, false, false, false, false, false, false, false, false, false, false, false, false, false] rfl rfl (by kernel_rfl) (fun _ _ _ h => h) (Or.inl ⟨by rfl, ?_⟩) hHeld ?_ ?_
  rotate_left
  · rintro w' ⟨s0, s1, s2, s3, s4, s5, s6, s7, s8, s9⟩
    go_simp
    with_reducible rfl
  rotate_left
  · simp only [Act.put, List.setIfInBounds_toArray, List.set_cons_zero, List.set_cons_succ, i64_w, i32_w]
    rfl
  refine pure_ (i := 2) (N := (some 20)) (v := ?_) (a' := ?_) #[true, true, true, false, false, false, false, false, false, false, false, false, false, false, false] rfl rfl (by kernel_rfl) (fun _ _ _ h => h) (Or.inl ⟨by rfl, ?_⟩) ?_ ?_
  rotate_left
  · intro w'
    go_simp
    with_reducible rfl
  rotate_left
  · simp only [Act.put, List.setIfInBounds_toArray, List.set_cons_zero, List.set_cons_succ, i64_w, i32_w]
    rfl
  refine take_ (i := 3) (N := (some 21)) (v := ?_) (a' := ?_) #[true, true, true, true, false, false, false, false, false, false, false, false, false, false, false] rfl rfl (by kernel_rfl) (fun _ _ _ h => h) (Or.inl ⟨by rfl, ?_⟩) hHeld ?_ ?_
  rotate_left
  · rintro w' ⟨s0, s1, s2, s3, s4, s5, s6, s7, s8, s9⟩
    go_simp
    with_reducible rfl
  rotate_left
  · simp only [Act.put, List.setIfInBounds_toArray, List.set_cons_zero, List.set_cons_succ, i64_w, i32_w]
    rfl
  refine pure_ (i := 4) (N := (some 22)) (v := ?_) (a' := ?_) #[true, true, true, true, true, false, false, false, false, false, false, false, false, false, false] rfl rfl (by kernel_rfl) (fun _ _ _ h => h) (Or.inl ⟨by rfl, ?_⟩) ?_ ?_
  rotate_left
  · intro w'
    go_simp
    with_reducible rfl
  rotate_left
  · simp only [Act.put, List.setIfInBounds_toArray, List.set_cons_zero, List.set_cons_succ, i64_w, i32_w]
    rfl
  refine take_ (i := 5) (N := (some 23)) (v := ?_) (a' := ?_) #[true, true, true, true, true, true, false, false, false, false, false, false, false, false, false] rfl rfl (by kernel_rfl) (fun _ _ _ h => h) (Or.inl ⟨by rfl, ?_⟩) hHeld ?_ ?_
  rotate_left
  · rintro w' ⟨s0, s1, s2, s3, s4, s5, s6, s7, s8, s9⟩
    go_simp
    with_reducible rfl
  rotate_left
  · simp only [Act.put, List.setIfInBounds_toArray, List.set_cons_zero, List.set_cons_succ, i64_w, i32_w]
    rfl
  refine pure_ (i := 7) (N := (some 25)) (v := ?_) (a' := ?_) #[true, true, true, true, true, true, false, true, false, false, false, false, false, false, false] rfl rfl (by kernel_rfl) (fun _ _ _ h => h) (Or.inl ⟨by rfl, ?_⟩) ?_ ?_
  rotate_left
  · intro w'
    go_simp
    with_reducible rfl
  rotate_left
  · simp only [Act.put, List.setIfInBounds_toArray, List.set_cons_zero, List.set_cons_succ, i64_w, i32_w]
    rfl
  refine take_ (i := 8) (N := (some 26)) (v := ?_) (a' := ?_) #[true, true, true, true, true, true, false, true, true, false, false, false, false, false, false] rfl rfl (by kernel_rfl) (fun _ _ _ h => h) (Or.inl ⟨by rfl, ?_⟩) hHeld ?_ ?_
  rotate_left
  · rintro w' ⟨s0, s1, s2, s3, s4, s5, s6, s7, s8, s9⟩
    go_simp
    with_reducible rfl
  rotate_left
  · simp only [Act.put, List.setIfInBounds_toArray, List.set_cons_zero, List.set_cons_succ, i64_w, i32_w]
    rfl
  refine pure_ (i := 9) (N := (some 27)) (v := ?_) (a' := ?_) #[true, true, true, true, true, true, false, true, true, true, false, false, false, false, false] rfl rfl (by kernel_rfl) (fun _ _ _ h => h) (Or.inl ⟨by rfl, ?_⟩) ?_ ?_
  rotate_left
  · intro w'
    go_simp
    with_reducible rfl
  rotate_left
  · simp only [Act.put, List.setIfInBounds_toArray, List.set_cons_zero, List.set_cons_succ, i64_w, i32_w]
    rfl
  refine take_ (i := 10) (N := (some 28)) (v := ?_) (a' := ?_) #[true, true, true, true, true, true, false, true, true, true, true, false, false, false, false] rfl rfl (by kernel_rfl) (fun _ _ _ h => h) (Or.inl ⟨by rfl, ?_⟩) hHeld ?_ ?_
  rotate_left
  · rintro w' ⟨s0, s1, s2, s3, s4, s5, s6, s7, s8, s9⟩
    go_simp
    with_reducible rfl
  rotate_left
  · simp only [Act.put, List.setIfInBounds_toArray, List.set_cons_zero, List.set_cons_succ, i64_w, i32_w]
    rfl
  refine one_ (i := 6) (N := (some 24)) #[true, true, true, true, true, true, true, true, true, true, true, false, false, false, false] rfl rfl (by kernel_rfl) (by decide) (fun K hK => ?_)
  refine goesP_ Try.func83 (by kernel_rfl) rfl #[.agg #[.int .i64 a.f0, .int .i64 a.f1, .string a.f2, .slice B1 a.f3.length d1]] (by rfl) rfl rfl (by (try simp only [List.map_toArray, List.map_cons, List.map_nil]); first | done | rfl) ?_
  refine (ih a B1 d1 _ ok HF1.out hd1.out ha.out).mono ?_
  rintro e w5 ⟨hb5, hm5⟩
  rw [EA] at hm5
  obtain ⟨A5, c5, rfl, hl5, hF5⟩ := hm5
  refine Or.inl ⟨_, rfl, ?_⟩
  have hb6 := Aside0.mk (below_step hb4.out hb5)
  have HF5 := Aside0.mk hF5
  have HF25 := Aside0.mk (Kd.F_below HF2.out hb5)
  have R5 := Aside0.mk (blk_below R4.out hb5)
  have Hl5 := Aside0.mk hl5
  have hsz5 := Aside0.mk hb5.size
  clear hF5 hl5
  refine hK.out _ _ (by obtain ⟨s0, s1, s2, s3, s4, s5, s6, s7, s8, s9⟩ := hHeld; exact ⟨ck hb5 s0, ck hb5 s1, ck hb5 s2, ck hb5 s3, ck hb5 s4, ck hb5 s5, ck hb5 s6, ck hb5 s7, ck hb5 s8, ck hb5 s9⟩) (fun hHeld => ?_)
  clear hK K
  refine norm_ (a' := ?_) ?_ ?_
  rotate_left
  · show Act.put _ (some 24) _ = _
    simp only [Act.put, List.setIfInBounds_toArray, List.set_cons_zero, List.set_cons_succ, i64_w, i32_w]
    rfl
  clear hb5
  refine one_ (i := 11) (N := (some 29)) #[true, true, true, true, true, true, true, true, true, true, true, true, false, false, false] rfl rfl (by kernel_rfl) (by decide) (fun K hK => ?_)
  refine goesP_ Try.func83 (by kernel_rfl) rfl #[.agg #[.int .i64 b.f0, .int .i64 b.f1, .string b.f2, .slice B2 b.f3.length d2]] (by rfl) rfl rfl (by (try simp only [List.map_toArray, List.map_cons, List.map_nil]); first | done | rfl) ?_
  refine (ih b B2 d2 _ ok HF25.out hd2.out hbz.out).mono ?_
  rintro e w6 ⟨hb7, hm7⟩
  rw [EB] at hm7
  obtain ⟨A7, c7, rfl, hl7, hF7⟩ := hm7
  refine Or.inl ⟨_, rfl, ?_⟩
  have hb8 := Aside0.mk (below_step hb6.out hb7)
  have HF7 := Aside0.mk hF7
  have HF57 := Aside0.mk (Kd.F_below HF5.out hb7)
  have R7 := Aside0.mk (blk_below R5.out hb7)
  have Hl7 := Aside0.mk hl7
  have hsz7 := Aside0.mk hb7.size
  clear hF7 hl7
  refine hK.out _ _ (by obtain ⟨s0, s1, s2, s3, s4, s5, s6, s7, s8, s9⟩ := hHeld; exact ⟨ck hb7 s0, ck hb7 s1, ck hb7 s2, ck hb7 s3, ck hb7 s4, ck hb7 s5, ck hb7 s6, ck hb7 s7, ck hb7 s8, ck hb7 s9⟩) (fun hHeld => ?_)
  clear hK K
  refine norm_ (a' := ?_) ?_ ?_
  rotate_left
  · show Act.put _ (some 29) _ = _
    simp only [Act.put, List.setIfInBounds_toArray, List.set_cons_zero, List.set_cons_succ, i64_w, i32_w]
    rfl
  clear hb7
  refine one_ (i := 12) (N := (some 30)) #[true, true, true, true, true, true, true, true, true, true, true, true, true, false, false] rfl rfl (by kernel_rfl) (by decide) (fun K hK => ?_)
  refine value_ (w1 := ?_) (v := ?_) (by rfl) rfl ?_ ?_
  rotate_left 2
  · go_simp
    constructor
    · rfl
    · rfl
  refine hK.out _ _ (by obtain ⟨s0, s1, s2, s3, s4, s5, s6, s7, s8, s9⟩ := hHeld; exact ⟨ck (below_alloc (Below.refl _ _) _) s0, ck (below_alloc (Below.refl _ _) _) s1, ck (below_alloc (Below.refl _ _) _) s2, ck (below_alloc (Below.refl _ _) _) s3, ck (below_alloc (Below.refl _ _) _) s4, ck (below_alloc (Below.refl _ _) _) s5, ck (below_alloc (Below.refl _ _) _) s6, ck (below_alloc (Below.refl _ _) _) s7, ck (below_alloc (Below.refl _ _) _) s8, ck (below_alloc (Below.refl _ _) _) s9⟩) (fun hHeld => ?_)
  clear hK K
  refine norm_ (a' := ?_) ?_ ?_
  rotate_left
  · show Act.put _ (some 30) _ = _
    simp only [Act.put, List.setIfInBounds_toArray, List.set_cons_zero, List.set_cons_succ, i64_w, i32_w]
    rfl
  refine pure_ (i := 13) (N := (some 31)) (v := ?_) (a' := ?_) #[true, true, true, true, true, true, true, true, true, true, true, true, true, true, false] rfl rfl (by kernel_rfl) (fun _ _ _ h => h) (Or.inl ⟨by rfl, ?_⟩) ?_ ?_
  rotate_left
  · intro w'
    go_simp
    with_reducible rfl
  rotate_left
  · simp only [Act.put, List.setIfInBounds_toArray, List.set_cons_zero, List.set_cons_succ, i64_w, i32_w]
    rfl
  refine last_ (i := 14) (N := none) #[true, true, true, true, true, true, true, true, true, true, true, true, true, true, true] rfl rfl (by kernel_rfl) (by decide) (fun K hK => ?_)
  refine skip_ (by rfl) rfl (w1 := (((((w6.alloc (.cells #[.int .i64 a1.f0, .int .i64 a1.f1, .string a1.f2, .slice A5 a1.f3.length c5, .int .i64 b1.f0, .int .i64 b1.f1, .string b1.f2, .slice A7 b1.f3.length c7] 58)).setCell ⟨w.heap.size + 1, 0, none⟩ (.int .i64 4)).setCell ⟨w.heap.size + 1, 1, none⟩ (.int .i64 0)).setCell ⟨w.heap.size + 1, 2, none⟩ (.string s)).setCell ⟨w.heap.size + 1, 3, none⟩ (.slice (some ⟨w6.heap.size, 0, none⟩) 2 2))) ?_ ?_
  · have v8 := blk_alloc R7.out (.cells #[.int .i64 a1.f0, .int .i64 a1.f1, .string a1.f2, .slice A5 a1.f3.length c5, .int .i64 b1.f0, .int .i64 b1.f1, .string b1.f2, .slice A7 b1.f3.length c7] 58)
    have u0 := (blk_cell v8 0).trans rfl
    have u1 := (blk_cell v8 1).trans rfl
    have u2 := (blk_cell v8 2).trans rfl
    have u3 := (blk_cell v8 3).trans rfl
    have z0 := blk_frozen v8 0
    have z1 := blk_frozen v8 1
    have z2 := blk_frozen v8 2
    have z3 := blk_frozen v8 3
    go_simp
  refine hK.out _ _ ?_
  clear hK K
  refine done_ (by kernel_rfl) ?_
  have k9 := heap_alloc_new w6 (.cells #[.int .i64 a1.f0, .int .i64 a1.f1, .string a1.f2, .slice A5 a1.f3.length c5, .int .i64 b1.f0, .int .i64 b1.f1, .string b1.f2, .slice A7 b1.f3.length c7] 58)
  obtain ⟨s1, s2, s3⟩ := set4 (.int .i64 4) (.int .i64 0) (.string s) (.slice (some ⟨w6.heap.size, 0, none⟩) 2 2) (blk_alloc R7.out (.cells #[.int .i64 a1.f0, .int .i64 a1.f1, .string a1.f2, .slice A5 a1.f3.length c5, .int .i64 b1.f0, .int .i64 b1.f1, .string b1.f2, .slice A7 b1.f3.length c7] 58))
  have b9 := Aside0.mk (s3 _ _ (below_alloc hb8.out (.cells #[.int .i64 a1.f0, .int .i64 a1.f1, .string a1.f2, .slice A5 a1.f3.length c5, .int .i64 b1.f0, .int .i64 b1.f1, .string b1.f2, .slice A7 b1.f3.length c7] 58)) (by omega))
  have FX := lit2 k9 Hl5.out (Kd.F_mono (Kd.F_alloc HF57.out _) (ok' := fun q => ok q ∨ w4.heap.size ≤ q) (fun q hq => hq)) Hl7.out (Kd.F_mono (Kd.F_alloc HF7.out _) (fun q hq => hq.imp id (fun h => Nat.le_trans hsz5.out h)))
  go_wp2_with fail
  refine bodyPost_ret (results_cell_row rfl _ _ (w.heap.size + 1) 58 _ (0, 0) _ rfl s1 Try.underlying58 rfl (by kernel_rfl)) rfl ?_
  have l4 := L4.out
  have l5 := hsz5.out
  have l7 := hsz7.out
  exact BodyPost.some_ (y := ⟨4, 0, s, [a1, b1]⟩) b9.out HV.out (Nat.le_refl 2) (Kd.F_mono (Kd.F_step FX (fun q hq _ => s2 q (match hq with | .inl (.inl h) => by have := HOK.out q h; omega | .inl (.inr h) => by omega | .inr h => by omega))) (fun q hq => match hq with | .inl (.inl h) => Or.inl h | .inl (.inr h) => Or.inr (by omega) | .inr h => Or.inr (by omega)))
theorem ad_eqs {ad : Addr} : ad.add 0 = ad ∧ ad.add 4 = ⟨ad.block, ad.off + 4, none⟩ := ⟨rfl, rfl⟩
theorem body_calls (n : Nat) (hn : n ≤ 1000000) : BodyAt n := by
  induction n with
  | zero => intro x A c w ok hF hc hx; have := szT_eq x; omega
  | succ n ih0 =>
  have ih := ih0 (by omega)
  intro x A c w ok hF hc hx
  by_cases hk1 : x.f0 = 1
  · exact body_var n x A c w ok hF hc hk1
  by_cases hk2 : x.f0 = 2
  · exact body_int n x A c w ok hF hc hk2
  cases hp : partedB x with
  | false => exact body_own n x A c w ok hF hc (by omega) hk1 hk2 hp
  | true =>
    have hl2 := (parted_two hp).1
    have hF' := Kd.F_bound hF
    obtain ⟨ad, B1, d1, ead, e0, e1, e2, e3, hd1, hF1⟩ := at_F hF' ((0 : Nat) : Int) (by omega) (by omega)
    obtain ⟨ad', B2, d2, ead', e4, e5, e6, e7, hd2, hF2⟩ := at_F hF' ((1 : Nat) : Int) (by omega) (by omega)
    obtain rfl : ad = ad' := by rw [ead] at ead'; injection ead'
    obtain ⟨k, m, s, l⟩ := x
    obtain ⟨a, b, rfl⟩ : ∃ a b, l = [a, b] := by
      match l, hl2 with
      | [a, b], _ => exact ⟨a, b, rfl⟩
    have hr0 : rd_T58 [a, b] ((0 : Nat) : Int) = a := rfl
    have hr1 : rd_T58 [a, b] ((1 : Nat) : Int) = b := rfl
    try dsimp only at e0 e1 e2 e3 e4 e5 e6 e7 hd1 hd2 hF1 hF2
    rw [hr0] at e0 e1 e2 e3 hd1 hF1
    rw [hr1] at e4 e5 e6 e7 hd2 hF2
    try dsimp only at ead
    subst ead
    have hpost : ∀ e w', BodyPost (n + 1) ⟨k, m, s, [a, b]⟩ w (fun q => ok q ∧ q < w.heap.size) e w' → BodyPost (n + 1) ⟨k, m, s, [a, b]⟩ w ok e w' := by
      rintro e w' ⟨h1, h2⟩
      refine ⟨h1, ?_⟩
      cases hb : bodyN (n + 1) ⟨k, m, s, [a, b]⟩ with
      | none => rw [hb] at h2; exact h2
      | some y =>
        rw [hb] at h2
        obtain ⟨A', c', h3, h4, h5⟩ := h2
        exact ⟨A', c', h3, h4, Kd.F_mono h5 (fun q hq => hq.imp (fun h => h.1) id)⟩
    cases EA : bodyN n a with
    | none => exact (body_two0 n ih k m s a b ad c w _ (fun _ h => h.2) hx hk1 hk2 hp B1 B2 d1 d2 e0 e1 e2 e3 e4 e5 e6 e7 hd1 hd2 hF1 hF2 EA).mono hpost
    | some a1 =>
      cases EB : bodyN n b with
      | none => exact (body_two1 n ih k m s a b ad c w _ (fun _ h => h.2) hx hk1 hk2 hp a1 B1 B2 d1 d2 e0 e1 e2 e3 e4 e5 e6 e7 hd1 hd2 hF1 hF2 EA EB).mono hpost
      | some b1 => exact (body_two2 n ih k m s a b ad c w _ (fun _ h => h.2) hx hk1 hk2 hp a1 b1 B1 B2 d1 d2 e0 e1 e2 e3 e4 e5 e6 e7 hd1 hd2 hF1 hF2 EA EB).mono hpost
end Go.Proofs.Ythdnaliahdohhaa.H
