/- CompNames' own renaming (a closure that calls itself). -/
import Derived.Test.YthdnaliahdohhaaHHwith
namespace Go.Proofs.Ythdnaliahdohhaa.H
open Go.RowKit Go.Proofs.YthdnaliahdohhaaW.PrintWords Go.Proofs.YthdnaliahdohhaaW.PrintLast Go.Proofs.YthdnaliahdohhaaW.PrintMore Go.Proofs.Ythdnaliahdohhaa.Map
attribute [local go_sem] max2_int min2_int max_two min_two max_three min_three max_four min_four
set_option linter.unusedVariables false
set_option linter.unusedSimpArgs false
/-- A call of a function value, by the function's contract. -/
theorem goesF_ {P : Program} {ops : Array Oper} {Q : Exit → Act → World → Prop} {oi : Oper} {N : Option Tmp} {a : Act} {w : World} {K : Act → World → Prop} {f : FuncId} {fn : Func} {aso : Array Operand} {ts : Array TypeId} (hf : P.funcs[f]? = some fn) (hname : (fn.name == "runtime.NumGoroutine") = false) (hb : fn.body.isSome = true) (args : Array Value) (o : Operand) (first cap : Array Value)
    (hw : Region.wanted oi (yielded ops a.tmps) = true) (hN : oi.dst = N) (hop : oi.op = .call { callee := .value o, args := aso, argTypes := ts }) (ho : a.eval o = .func (.func f) first cap) (hargs : first ++ aso.map a.eval ++ cap = args)
    (h : Calls P f args w fun e w' => ∃ v, e = .returned v ∧ K (a.put N v) w') : if Region.wanted oi (yielded ops a.tmps) = true then Oper.wp P oi a w K Q else K (a.put N undef) w := by
  refine call_ f args hw hN ?_ h
  have he := enters_ hf hname hb args w
  unfold execOp
  simp [hop, resolve, Deferred.ofValue, invoke, ho, hargs, he]
/-- a variable's other number -/
def rn0 (n : Int) : Int := wrap64 (wrap64 (wrap64 (wrap64 (Int.tdiv n 2) * 2) + 1) - Int.tmod n 2)
def rnm (n by_ : Int) : Int := if n < 1099511627776 then wrap64 (rn0 n + wrap64 (2 * wrap64 by_)) else rn0 n
def rnN (by_ : Int) (x : S58) : Int := if x.f0 = 1 then rnm x.f1 by_ else x.f1
mutual
/-- a term whose variables have other numbers -/
def renT (by_ : Int) : S58 → S58
  | ⟨k, n, s, l⟩ => ⟨k, rnN by_ ⟨k, n, s, l⟩, s, renL by_ l⟩
def renL (by_ : Int) : List S58 → List S58
  | [] => []
  | x :: l => renT by_ x :: renL by_ l
end
theorem renT_eq (b : Int) (x : S58) : renT b x = ⟨x.f0, rnN b x, x.f2, renL b x.f3⟩ := by cases x; rfl
theorem renL_map (b : Int) : ∀ l : List S58, renL b l = l.map (renT b)
  | [] => rfl
  | x :: l => by simp only [renL, List.map_cons, renL_map b l]
theorem renL_take (b : Int) (l : List S58) (k : Nat) (h : k < l.length) : renL b (l.take (k + 1)) = renL b (l.take k) ++ [renT b (rd_T58 l k)] := by
  simp only [renL_map, take_rd l k h, List.map_append, List.map_cons, List.map_nil]
theorem renL_len (b : Int) (l : List S58) : (renL b l).length = l.length := by rw [renL_map, List.length_map]
/-- where the loop stands -/
structure RI (w wr : World) (x : S58) (n1 : Int) (u : Value) (l : List S58) : Prop where
  b0 : wr.heap[w.heap.size + 1]? = some (.cells #[.int .i64 0, .int .i64 0, .string ⟨#[]⟩, .slice none 0 0] 58 (0, 0))
  b1 : wr.heap[w.heap.size + 1 + 1]? = some (.cells #[.int .i64 x.f0, .int .i64 n1, .string x.f2, u] 58 (0, 0))
  below : Below w.heap.size w wr
  row : Kd.N k58 58 wr w.heap.size (fun k => w.heap.size ≤ k ∧ k ≠ w.heap.size + 1 ∧ k ≠ w.heap.size + 1 + 1) u l
theorem RI.step {w wr w1 : World} {x : S58} {n1 : Int} {u : Value} {l : List S58} (h : RI w wr x n1 u l) (hb : Below wr.heap.size wr w1) : RI w w1 x n1 u l :=
  ⟨blk_below h.b0 hb, blk_below h.b1 hb, below_step h.below hb, Kd.N_below h.row hb⟩
theorem RI.push {w wr w1 : World} {x : S58} {n1 : Int} {u : Value} {l : List S58} (h : RI w wr x n1 u l) {u1 : Value} {l1 : List S58}
    (hN : Kd.N k58 58 w1 w.heap.size (fun k => w.heap.size ≤ k ∧ k ≠ w.heap.size + 1 ∧ k ≠ w.heap.size + 1 + 1) u1 l1) (hB : Below w.heap.size w w1) (hg : wr.grownBy w1 u.ownBlock) : RI w (w1.setCell ⟨w.heap.size + 1 + 1, 3, none⟩ u1) x n1 u1 l1 := by
  have k0 := hg.block _ (blk_lt h.b0) (fun e => (h.row.1 _ e.symm).2.1 rfl)
  have k1 := hg.block _ (blk_lt h.b1) (fun e => (h.row.1 _ e.symm).2.2 rfl)
  exact ⟨blk_far (p := ⟨w.heap.size + 1 + 1, 3, none⟩) (k0.trans h.b0) (by simp only; omega) u1, blk_put (cs := #[.int .i64 x.f0, .int .i64 n1, .string x.f2, u]) (k1.trans h.b1) 3 u1 rfl, hB.setCell (p := ⟨w.heap.size + 1 + 1, 3, none⟩) (by simp only; omega) u1, Kd.N_far hN (p := ⟨w.heap.size + 1 + 1, 3, none⟩) (fun q hq => hq.2.2) u1⟩
theorem RI.start {w : World} {x : S58} {n1 : Int} (a : Array Value) : RI w (((w.alloc (.cells a 58)).alloc (.cells #[.int .i64 0, .int .i64 0, .string ⟨#[]⟩, .slice none 0 0] 58)).alloc (.cells #[.int .i64 x.f0, .int .i64 n1, .string x.f2, .slice none 0 0] 58)) x n1 (.slice none 0 0) [] := by
  have s1 : (w.alloc (.cells a 58)).heap.size = w.heap.size + 1 := by simp
  have s2 : ((w.alloc (.cells a 58)).alloc (.cells #[.int .i64 0, .int .i64 0, .string ⟨#[]⟩, .slice none 0 0] 58)).heap.size = w.heap.size + 1 + 1 := by simp
  have h1 := heap_alloc_new (w.alloc (.cells a 58)) (.cells #[.int .i64 0, .int .i64 0, .string ⟨#[]⟩, .slice none 0 0] 58)
  have h2 := heap_alloc_new ((w.alloc (.cells a 58)).alloc (.cells #[.int .i64 0, .int .i64 0, .string ⟨#[]⟩, .slice none 0 0] 58)) (.cells #[.int .i64 x.f0, .int .i64 n1, .string x.f2, .slice none 0 0] 58)
  rw [s1] at h1
  rw [s2] at h2
  exact ⟨blk_alloc h1 _, h2, below_alloc (below_alloc (below_alloc (Below.refl _ _) _) _) _, Kd.N_nil _ _ _ _ _⟩
set_option maxHeartbeats 8000000 in
set_option maxRecDepth 100000 in
theorem rename_calls (n : Nat) (hn : n ≤ 1000000) (by_ : Int) (gb gr : Nat) : ∀ (x : S58) (hx : szT x ≤ n) (A : Option Addr) (c : Nat) (w : World) (hC : Kd.C k58 w A x.f3.length x.f3) (hc : x.f3.length ≤ c)
    (hb : w.heap[gb]? = some (.cells #[.int .u16 by_] 42 (0, 0))) (hr : w.heap[gr]? = some (.cells #[.func (.func 38) #[] #[.pointer (some ⟨gb, 0, none⟩), .pointer (some ⟨gr, 0, none⟩)]] 65 (0, 0))),
    Calls Try.prog 38 #[.agg #[.int .i64 x.f0, .int .i64 x.f1, .string x.f2, .slice A x.f3.length c], .pointer (some ⟨gb, 0, none⟩), .pointer (some ⟨gr, 0, none⟩)] w fun e w' => ∃ A' c', e = .returned (.agg #[.int .i64 (renT by_ x).f0, .int .i64 (renT by_ x).f1, .string (renT by_ x).f2, .slice A' (renT by_ x).f3.length c']) ∧ (renT by_ x).f3.length ≤ c' ∧ Kd.F k58 w' (fun k => w.heap.size ≤ k) A' (renT by_ x).f3.length (renT by_ x).f3 ∧ Below w.heap.size w w' := by
  induction n with
  | zero => intro x hx; have := szT_eq x; omega
  | succ n ih0 =>
  have ih := ih0 (by omega)
  clear ih0
  intro x hx A c w hC hc hb hr
  have HC := Aside0.mk hC
  have Hs : Aside0 (szL x.f3 ≤ 1000000) := ⟨by have := szT_eq x; omega⟩
  have Hx := Aside0.mk (show szL x.f3 ≤ n by have := szT_eq x; omega)
  have HE := Aside0.mk (renT_eq by_ x)
  have Hb := Aside0.mk hb
  have Hr := Aside0.mk hr
  have hlm : x.f3.length ≤ 9223372036854775807 := hC.2.1
  have cb : (((w.alloc (.cells #[.int .i64 x.f0, .int .i64 x.f1, .string x.f2, .slice A x.f3.length c] 58)).alloc (.cells #[.int .i64 0, .int .i64 0, .string ⟨#[]⟩, .slice none 0 0] 58)).alloc (.cells #[.int .i64 x.f0, .int .i64 (wrap64 (wrap64 (wrap64 (wrap64 (Int.tdiv x.f1 2) * 2) + 1) - Int.tmod x.f1 2)), .string x.f2, .slice none 0 0] 58)).cell? ⟨gb, 0, none⟩ = some (.int .u16 by_) := (blk_cell (blk_alloc (blk_alloc (blk_alloc hb _) _) _) 0).trans rfl
  clear hx hC hc hb hr
  go_enter Try.func38, Try.ntmps38
  by_cases h1 : x.f0 = 1
  · have k1 : (x.f0 == 1) = true := by simpa using h1
    by_cases h2 : x.f1 < 1099511627776
    · have k2 : decide (x.f1 < 1099511627776) = true := decide_eq_true h2
      have HN : Aside0 (rnN by_ x = wrap64 (rn0 x.f1 + wrap64 (2 * wrap64 by_))) := ⟨by unfold rnN rnm; rw [if_pos h1, if_pos h2]⟩
      clear h1
      go_wp2_with fail
      have HW0 : Aside0 (RI w (((w.alloc (.cells #[.int .i64 x.f0, .int .i64 x.f1, .string x.f2, .slice A x.f3.length c] 58)).alloc (.cells #[.int .i64 0, .int .i64 0, .string ⟨#[]⟩, .slice none 0 0] 58)).alloc (.cells #[.int .i64 x.f0, .int .i64 (wrap64 ((wrap64 (wrap64 (wrap64 (wrap64 (Int.tdiv x.f1 2) * 2) + 1) - Int.tmod x.f1 2)) + wrap64 (2 * wrap64 by_))), .string x.f2, .slice none 0 0] 58)) x (rnN by_ x) (.slice none 0 0) []) := ⟨by rw [HN.out]; exact RI.start _⟩
      clear HN cb k1 k2 h2
      generalize (((w.alloc (.cells #[.int .i64 x.f0, .int .i64 x.f1, .string x.f2, .slice A x.f3.length c] 58)).alloc (.cells #[.int .i64 0, .int .i64 0, .string ⟨#[]⟩, .slice none 0 0] 58)).alloc (.cells #[.int .i64 x.f0, .int .i64 (wrap64 ((wrap64 (wrap64 (wrap64 (wrap64 (Int.tdiv x.f1 2) * 2) + 1) - Int.tmod x.f1 2)) + wrap64 (2 * wrap64 by_))), .string x.f2, .slice none 0 0] 58)) = w3 at *
      generalize rnN by_ x = n1 at *
      go_loopw [41] (fun i wr => ∃ (k : Nat) (u : Value), i = .int .i64 k ∧ Aside0 (k ≤ x.f3.length) ∧ Aside0 (RI w wr x n1 u (renL by_ (x.f3.take k)))) (fun i _ => x.f3.length - (intOf i).toNat)
      case atStart => exact ⟨0, _, rfl, ⟨by omega⟩, HW0⟩
      case round =>
        clear HW0
        obtain ⟨k, u, rfl, hk, HW⟩ := hrel
        by_cases hlt : k < x.f3.length
        · have hlt2 : decide ((k : Int) < (x.f3.length : Int)) = true := decide_eq_true (by omega)
          have hlt3 : decide (k < x.f3.length) = true := decide_eq_true hlt
          obtain ⟨ad, B, d, ead, e0, e1, e2, e3, hd, hB⟩ := at_T58 HC.out (k : Int) (by omega) (by omega)
          have q0 := (HW.out.below.cell (World.block_lt_of_cell? w _ e0)).trans e0
          have q1 := (HW.out.below.cell (World.block_lt_of_cell? w _ e1)).trans e1
          have q2 := (HW.out.below.cell (World.block_lt_of_cell? w _ e2)).trans e2
          have q3 := (HW.out.below.cell (World.block_lt_of_cell? w _ e3)).trans e3
          have hy : Aside0 (szT (rd_T58 x.f3 k) ≤ n) := ⟨Nat.le_trans (szL_rd _ _ hlt) Hx.out⟩
          have Htk := Aside0.mk (renL_take by_ x.f3 k hlt)
          have Hll2 : Aside0 ((renL by_ (x.f3.take k)).length ≤ 1000000) := ⟨by rw [renL_len, List.length_take]; have := szL_len x.f3; have := Hs.out; omega⟩
          have Hlt := Aside0.mk hlt
          replace hd := Aside0.mk hd
          replace hB := Aside0.mk hB
          subst ead
          clear e0 e1 e2 e3
          generalize renL by_ (x.f3.take k) = pk at *
          generalize rd_T58 x.f3 k = y at *
          simp only [Int.toNat_natCast] at q0 q1 q2 q3
          obtain ⟨A1, c1, e1⟩ := Kd.N_slice HW.out.row
          subst e1
          have hg4 := Aside0.mk (blk_lt HW.out.b1)
          have hgu : Aside0 (some wr.heap.size ≠ (Value.slice A1 pk.length c1).ownBlock) := ⟨fun e => Nat.lt_irrefl _ (Kd.N_lt HW.out.row _ e.symm)⟩
          replace HW := Aside0.mk (HW.out.step (below_alloc (Below.refl wr.heap.size wr) (.cells #[.int .i64 y.f0, .int .i64 y.f1, .string y.f2, .slice B y.f3.length d] 58)))
          have BK3 := Aside0.mk (heap_alloc_new wr (.cells #[.int .i64 y.f0, .int .i64 y.f1, .string y.f2, .slice B y.f3.length d] 58))
          have hg3 : Aside0 (wr.heap.size < (wr.alloc (.cells #[.int .i64 y.f0, .int .i64 y.f1, .string y.f2, .slice B y.f3.length d] 58)).heap.size) := ⟨by simp⟩
          go_wp2_with fail
          clear q0 q1 q2 q3 hlt2 hlt3
          generalize wr.alloc (.cells #[.int .i64 y.f0, .int .i64 y.f1, .string y.f2, .slice B y.f3.length d] 58) = w3a at *
          obtain ⟨g3, hg3e⟩ : ∃ g3, g3 = wr.heap.size := ⟨_, rfl⟩
          rw [← hg3e] at BK3 hg4 hg3 hgu ⊢
          clear hg3e
          replace BK3 := BK3.out
          replace HW := HW.out
          refine start_ (n := 9) (S := (fun w' => w'.cell? ⟨(w.heap.size + 1 + 1), 0, none⟩ = some (.int .i64 x.f0) ∧ w'.cell? ⟨(w.heap.size + 1 + 1), 1, none⟩ = some (.int .i64 n1) ∧ w'.cell? ⟨(w.heap.size + 1 + 1), 2, none⟩ = some (.string x.f2) ∧ w'.cell? ⟨(w.heap.size + 1 + 1), 3, none⟩ = some (.slice A1 pk.length c1) ∧ w'.cell? ⟨gr, 0, none⟩ = some (.func (.func 38) #[] #[.pointer (some ⟨gb, 0, none⟩), .pointer (some ⟨gr, 0, none⟩)]) ∧ w'.cell? ⟨g3, 0, none⟩ = some (.int .i64 y.f0) ∧ w'.cell? ⟨g3, 1, none⟩ = some (.int .i64 y.f1) ∧ w'.cell? ⟨g3, 2, none⟩ = some (.string y.f2) ∧ w'.cell? ⟨g3, 3, none⟩ = some (.slice B y.f3.length d))) (ds := [8]) #[false, false, false, false, false, false, false, false, false] (by kernel_rfl) rfl rfl ⟨(blk_cell (blk_drew HW.b1) 0).trans rfl, (blk_cell (blk_drew HW.b1) 1).trans rfl, (blk_cell (blk_drew HW.b1) 2).trans rfl, (blk_cell (blk_drew HW.b1) 3).trans rfl, (blk_cell (blk_drew (blk_below Hr.out HW.below)) 0).trans rfl, (blk_cell (blk_drew BK3) 0).trans rfl, (blk_cell (blk_drew BK3) 1).trans rfl, (blk_cell (blk_drew BK3) 2).trans rfl, (blk_cell (blk_drew BK3) 3).trans rfl⟩ (fun hHeld => ?_)
          replace HW := HW.step (below_drew (Below.refl _ _))
          replace BK3 := blk_drew BK3
          have hg5 : Aside0 (g3 < w3a.drew.heap.size) := hg3
          clear hg3
          generalize w3a.drew = w4 at *
          refine pure_ (i := 0) (N := some 45) (v := ?_) (a' := ?_) #[true, false, false, false, false, false, false, false, false] rfl rfl (by kernel_rfl) (fun _ _ _ h => h) (Or.inl ⟨by rfl, ?_⟩) ?_ ?_
          rotate_left
          · intro w'
            go_simp
            with_reducible rfl
          rotate_left
          · simp only [Act.put, List.setIfInBounds_toArray, List.set_cons_zero, List.set_cons_succ, i64_w, i32_w]
            rfl
          refine take_ (i := 1) (N := some 46) (v := ?_) (a' := ?_) #[true, true, false, false, false, false, false, false, false] rfl rfl (by kernel_rfl) (fun _ _ _ h => h) (Or.inl ⟨by rfl, ?_⟩) hHeld ?_ ?_
          rotate_left
          · rintro w' ⟨s0, s1, s2, s3, s4, s5, s6, s7, s8⟩
            go_simp
            with_reducible rfl
          rotate_left
          · simp only [Act.put, List.setIfInBounds_toArray, List.set_cons_zero, List.set_cons_succ, i64_w, i32_w]
            rfl
          refine take_ (i := 2) (N := some 47) (v := ?_) (a' := ?_) #[true, true, true, false, false, false, false, false, false] rfl rfl (by kernel_rfl) (fun _ _ _ h => h) (Or.inl ⟨by rfl, ?_⟩) hHeld ?_ ?_
          rotate_left
          · rintro w' ⟨s0, s1, s2, s3, s4, s5, s6, s7, s8⟩
            go_simp
            with_reducible rfl
          rotate_left
          · simp only [Act.put, List.setIfInBounds_toArray, List.set_cons_zero, List.set_cons_succ, i64_w, i32_w]
            rfl
          refine take_ (i := 3) (N := some 48) (v := ?_) (a' := ?_) #[true, true, true, true, false, false, false, false, false] rfl rfl (by kernel_rfl) (fun _ _ _ h => h) (Or.inl ⟨by rfl, ?_⟩) hHeld ?_ ?_
          rotate_left
          · rintro w' ⟨s0, s1, s2, s3, s4, s5, s6, s7, s8⟩
            go_simp
            with_reducible rfl
          rotate_left
          · simp only [Act.put, List.setIfInBounds_toArray, List.set_cons_zero, List.set_cons_succ, i64_w, i32_w]
            rfl
          refine one_ (i := 4) (N := some 49) #[true, true, true, true, true, false, false, false, false] rfl rfl (by kernel_rfl) (by decide) (fun K hK => ?_)
          refine goesF_ Try.func38 (by kernel_rfl) rfl #[.agg #[.int .i64 y.f0, .int .i64 y.f1, .string y.f2, .slice B y.f3.length d], .pointer (some ⟨gb, 0, none⟩), .pointer (some ⟨gr, 0, none⟩)] (.tmp 47) #[] #[.pointer (some ⟨gb, 0, none⟩), .pointer (some ⟨gr, 0, none⟩)] (by rfl) rfl rfl rfl (by (try simp only [List.map_toArray, List.map_cons, List.map_nil]); first | done | rfl) ?_
          refine (ih y hy.out B d _ (Kd.C_below hB.out HW.below) hd.out (blk_below Hb.out HW.below) (blk_below Hr.out HW.below)).mono ?_
          rintro e w5 ⟨A5, c5, rfl, hc5, hF5, hb5⟩
          refine ⟨_, rfl, ?_⟩
          have hltw := Kd.N_lt HW.row
          have HW5 := HW.step hb5
          have BK5 := blk_below BK3 hb5
          have hs5 := hb5.size
          clear hb5
          refine hK.out _ _ ⟨(blk_cell HW5.b1 0).trans rfl, (blk_cell HW5.b1 1).trans rfl, (blk_cell HW5.b1 2).trans rfl, (blk_cell HW5.b1 3).trans rfl, (blk_cell (blk_below Hr.out HW5.below) 0).trans rfl, (blk_cell BK5 0).trans rfl, (blk_cell BK5 1).trans rfl, (blk_cell BK5 2).trans rfl, (blk_cell BK5 3).trans rfl⟩ (fun hHeld => ?_)
          clear hK K
          refine norm_ (a' := ?_) ?_ ?_
          rotate_left
          · show Act.put _ (some 49) _ = _
            simp only [Act.put, List.setIfInBounds_toArray, List.set_cons_zero, List.set_cons_succ, i64_w, i32_w]
            rfl
          generalize renT by_ y = t5 at *
          refine one_ (i := 5) (N := some 50) #[true, true, true, true, true, true, false, false, false] rfl rfl (by kernel_rfl) (by decide) (fun K hK => ?_)
          refine value_ (w1 := ?_) (v := ?_) (by rfl) rfl ?_ ?_
          rotate_left 2
          · go_simp
            first | done | rfl | (constructor <;> rfl)
          refine hK.out _ _ ⟨(blk_cell (blk_alloc HW5.b1 _) 0).trans rfl, (blk_cell (blk_alloc HW5.b1 _) 1).trans rfl, (blk_cell (blk_alloc HW5.b1 _) 2).trans rfl, (blk_cell (blk_alloc HW5.b1 _) 3).trans rfl, (blk_cell (blk_alloc (blk_below Hr.out HW5.below) _) 0).trans rfl, (blk_cell (blk_alloc BK5 _) 0).trans rfl, (blk_cell (blk_alloc BK5 _) 1).trans rfl, (blk_cell (blk_alloc BK5 _) 2).trans rfl, (blk_cell (blk_alloc BK5 _) 3).trans rfl⟩ (fun hHeld => ?_)
          clear hK K
          refine norm_ (a' := ?_) ?_ ?_
          rotate_left
          · show Act.put _ (some 50) _ = _
            simp only [Act.put, List.setIfInBounds_toArray, List.set_cons_zero, List.set_cons_succ, i64_w, i32_w]
            rfl
          refine one_ (i := 6) (N := some 51) #[true, true, true, true, true, true, true, false, false] rfl rfl (by kernel_rfl) (by decide) (fun K hK => ?_)
          have hg5_ := hg5.out
          have hg4_ := hg4.out
          refine Kd.N_append_step k58 (w0 := w) w.heap.size (by rfl) (.tmp 46) (.tmp 50) 56 58 (.agg #[(.int .i64 0), (.int .i64 0), (.string ⟨#[]⟩), (.slice none 0 0)]) 56 rfl Try.underlying56 info58 rfl (by decide) (by omega) (.slice A1 pk.length c1) pk t5 [.int .i64 t5.f0, .int .i64 t5.f1, .string t5.f2, .slice A5 t5.f3.length c5] (fun k => w.heap.size ≤ k ∧ k ≠ w.heap.size + 1 ∧ k ≠ w.heap.size + 1 + 1) (fun k => w4.heap.size ≤ k) rfl rfl (k58_mkF _ _ t5 hc5 hF5) ?aP ?aF HW5.row HW5.below HW5.below.size ?aL ?_
          (case aP => exact fun q hq => ⟨⟨by omega, by omega, by omega⟩, fun he => by have h3 := hltw q he.symm; omega⟩)
          (case aF => exact fun q hq => ⟨by omega, by omega, by omega⟩)
          (case aL => have := Hll2.out; omega)
          intro u6 w6 N6 HB6 hg6 hat6
          have HW6 := HW5.push N6 HB6 hg6
          obtain ⟨A6, c6, e6⟩ := Kd.N_slice N6
          generalize (pk ++ [t5]).length = n6 at e6
          subst e6
          have j1 := blk_grown HW5.b1 hg6 (fun e => (HW5.row.1 _ e.symm).2.2 rfl)
          have j3 := blk_grown BK5 hg6 (fun e => hgu.out e)
          have j2 := blk_below Hr.out HB6
          refine hK.out _ _ ⟨(blk_cell j1 0).trans rfl, (blk_cell j1 1).trans rfl, (blk_cell j1 2).trans rfl, (blk_cell j1 3).trans rfl, (blk_cell j2 0).trans rfl, (blk_cell j3 0).trans rfl, (blk_cell j3 1).trans rfl, (blk_cell j3 2).trans rfl, (blk_cell j3 3).trans rfl⟩ (fun hHeld => ?_)
          clear hK K
          refine norm_ (a' := ?_) ?_ ?_
          rotate_left
          · show Act.put _ (some 51) _ = _
            simp only [Act.put, List.setIfInBounds_toArray, List.set_cons_zero, List.set_cons_succ, i64_w, i32_w]
            rfl
          refine pure_ (i := 7) (N := some 52) (v := ?_) (a' := ?_) #[true, true, true, true, true, true, true, true, false] rfl rfl (by kernel_rfl) (fun _ _ _ h => h) (Or.inl ⟨by rfl, ?_⟩) ?_ ?_
          rotate_left
          · intro w'
            go_simp
            with_reducible rfl
          rotate_left
          · simp only [Act.put, List.setIfInBounds_toArray, List.set_cons_zero, List.set_cons_succ, i64_w, i32_w]
            rfl
          refine last_ (i := 8) (N := none) #[true, true, true, true, true, true, true, true, true] rfl rfl (by kernel_rfl) (by decide) (fun K hK => ?_)
          refine skip_ (by rfl) rfl (w1 := ?_) ?_ ?_
          rotate_left
          · have z1 := blk_frozen j1 3
            have z2 : w6.cell? ⟨w.heap.size + 1 + 1, 3, none⟩ = some (.slice A1 pk.length c1) := (blk_cell j1 3).trans rfl
            go_simp
            rfl
          refine hK.out _ _ ?_
          clear hK K
          refine done_ (by kernel_rfl) ?_
          replace HW6 := Aside0.mk HW6
          clear N6 HB6 hg6 hat6 j1 j2 j3 HW HW5 BK3 BK5 hltw hF5 hs5
          generalize w6.setCell ⟨w.heap.size + 1 + 1, 3, none⟩ (.slice A6 n6 c6) = w7 at *
          clear hHeld
          go_wp2_with fail
          go_roundw
          case rel => exact ⟨k + 1, _, by go_num, ⟨Hlt.out⟩, ⟨by rw [Htk.out]; exact HW6.out⟩⟩
          case measure => have := Hlt.out; simp [intOf]; omega
        · have hlt2 : decide ((k : Int) < (x.f3.length : Int)) = false := decide_eq_false (by omega)
          have hlt3 : decide (k < x.f3.length) = false := decide_eq_false hlt
          obtain rfl : k = x.f3.length := by have := hk.out; omega
          rw [List.take_length] at HW
          obtain ⟨A1, c1, e1⟩ := Kd.N_slice HW.out.row
          subst e1
          have d0 := (blk_cell HW.out.b1 0).trans rfl
          have d1 := (blk_cell HW.out.b1 1).trans rfl
          have d2 := (blk_cell HW.out.b1 2).trans rfl
          have d3 := (blk_cell HW.out.b1 3).trans rfl
          have e0 := (blk_cell HW.out.b0 0).trans rfl
          have e1 := (blk_cell HW.out.b0 1).trans rfl
          have e2 := (blk_cell HW.out.b0 2).trans rfl
          have e3 := (blk_cell HW.out.b0 3).trans rfl
          have z0 := blk_frozen HW.out.b0 0
          have z1 := blk_frozen HW.out.b0 1
          have z2 := blk_frozen HW.out.b0 2
          have z3 := blk_frozen HW.out.b0 3
          go_wp2_with fail
          have s1 := blk_put4 (.int .i64 x.f0) (.int .i64 n1) (.string x.f2) (.slice A1 (renL by_ x.f3).length c1) HW.out.b0
          have sm := mods4 wr (w.heap.size + 1) (.int .i64 x.f0) (.int .i64 n1) (.string x.f2) (.slice A1 (renL by_ x.f3).length c1)
          refine bodyPost_ret (results_cell_row rfl _ _ (w.heap.size + 1) 58 #[.int .i64 x.f0, .int .i64 n1, .string x.f2, .slice A1 (renL by_ x.f3).length c1] (0, 0) _ rfl s1 Try.underlying58 rfl (by kernel_rfl)) rfl ?_
          rw [HE.out]
          exact ⟨A1, c1, rfl, (Kd.N_reads' HW.out.row).2.1, Kd.F_mono (Kd.F_step (Kd.N_F HW.out.row) (fun q hq hl => sm.block q hl hq.2.1)) (fun q hq => hq.1), sm.under HW.out.below (Nat.le_refl _) (fun k hk => by omega)⟩
    · have k2 : decide (x.f1 < 1099511627776) = false := decide_eq_false h2
      have HN : Aside0 (rnN by_ x = rn0 x.f1) := ⟨by unfold rnN rnm; rw [if_pos h1, if_neg h2]⟩
      clear h1 h2
      go_wp2_with fail
      have HW0 : Aside0 (RI w (((w.alloc (.cells #[.int .i64 x.f0, .int .i64 x.f1, .string x.f2, .slice A x.f3.length c] 58)).alloc (.cells #[.int .i64 0, .int .i64 0, .string ⟨#[]⟩, .slice none 0 0] 58)).alloc (.cells #[.int .i64 x.f0, .int .i64 (wrap64 (wrap64 (wrap64 (wrap64 (Int.tdiv x.f1 2) * 2) + 1) - Int.tmod x.f1 2)), .string x.f2, .slice none 0 0] 58)) x (rnN by_ x) (.slice none 0 0) []) := ⟨by rw [HN.out]; exact RI.start _⟩
      clear HN cb k1 k2
      generalize (((w.alloc (.cells #[.int .i64 x.f0, .int .i64 x.f1, .string x.f2, .slice A x.f3.length c] 58)).alloc (.cells #[.int .i64 0, .int .i64 0, .string ⟨#[]⟩, .slice none 0 0] 58)).alloc (.cells #[.int .i64 x.f0, .int .i64 (wrap64 (wrap64 (wrap64 (wrap64 (Int.tdiv x.f1 2) * 2) + 1) - Int.tmod x.f1 2)), .string x.f2, .slice none 0 0] 58)) = w3 at *
      generalize rnN by_ x = n1 at *
      go_loopw [41] (fun i wr => ∃ (k : Nat) (u : Value), i = .int .i64 k ∧ Aside0 (k ≤ x.f3.length) ∧ Aside0 (RI w wr x n1 u (renL by_ (x.f3.take k)))) (fun i _ => x.f3.length - (intOf i).toNat)
      case atStart => exact ⟨0, _, rfl, ⟨by omega⟩, HW0⟩
      case round =>
        clear HW0
        obtain ⟨k, u, rfl, hk, HW⟩ := hrel
        by_cases hlt : k < x.f3.length
        · have hlt2 : decide ((k : Int) < (x.f3.length : Int)) = true := decide_eq_true (by omega)
          have hlt3 : decide (k < x.f3.length) = true := decide_eq_true hlt
          obtain ⟨ad, B, d, ead, e0, e1, e2, e3, hd, hB⟩ := at_T58 HC.out (k : Int) (by omega) (by omega)
          have q0 := (HW.out.below.cell (World.block_lt_of_cell? w _ e0)).trans e0
          have q1 := (HW.out.below.cell (World.block_lt_of_cell? w _ e1)).trans e1
          have q2 := (HW.out.below.cell (World.block_lt_of_cell? w _ e2)).trans e2
          have q3 := (HW.out.below.cell (World.block_lt_of_cell? w _ e3)).trans e3
          have hy : Aside0 (szT (rd_T58 x.f3 k) ≤ n) := ⟨Nat.le_trans (szL_rd _ _ hlt) Hx.out⟩
          have Htk := Aside0.mk (renL_take by_ x.f3 k hlt)
          have Hll2 : Aside0 ((renL by_ (x.f3.take k)).length ≤ 1000000) := ⟨by rw [renL_len, List.length_take]; have := szL_len x.f3; have := Hs.out; omega⟩
          have Hlt := Aside0.mk hlt
          replace hd := Aside0.mk hd
          replace hB := Aside0.mk hB
          subst ead
          clear e0 e1 e2 e3
          generalize renL by_ (x.f3.take k) = pk at *
          generalize rd_T58 x.f3 k = y at *
          simp only [Int.toNat_natCast] at q0 q1 q2 q3
          obtain ⟨A1, c1, e1⟩ := Kd.N_slice HW.out.row
          subst e1
          have hg4 := Aside0.mk (blk_lt HW.out.b1)
          have hgu : Aside0 (some wr.heap.size ≠ (Value.slice A1 pk.length c1).ownBlock) := ⟨fun e => Nat.lt_irrefl _ (Kd.N_lt HW.out.row _ e.symm)⟩
          replace HW := Aside0.mk (HW.out.step (below_alloc (Below.refl wr.heap.size wr) (.cells #[.int .i64 y.f0, .int .i64 y.f1, .string y.f2, .slice B y.f3.length d] 58)))
          have BK3 := Aside0.mk (heap_alloc_new wr (.cells #[.int .i64 y.f0, .int .i64 y.f1, .string y.f2, .slice B y.f3.length d] 58))
          have hg3 : Aside0 (wr.heap.size < (wr.alloc (.cells #[.int .i64 y.f0, .int .i64 y.f1, .string y.f2, .slice B y.f3.length d] 58)).heap.size) := ⟨by simp⟩
          go_wp2_with fail
          clear q0 q1 q2 q3 hlt2 hlt3
          generalize wr.alloc (.cells #[.int .i64 y.f0, .int .i64 y.f1, .string y.f2, .slice B y.f3.length d] 58) = w3a at *
          obtain ⟨g3, hg3e⟩ : ∃ g3, g3 = wr.heap.size := ⟨_, rfl⟩
          rw [← hg3e] at BK3 hg4 hg3 hgu ⊢
          clear hg3e
          replace BK3 := BK3.out
          replace HW := HW.out
          refine start_ (n := 9) (S := (fun w' => w'.cell? ⟨(w.heap.size + 1 + 1), 0, none⟩ = some (.int .i64 x.f0) ∧ w'.cell? ⟨(w.heap.size + 1 + 1), 1, none⟩ = some (.int .i64 n1) ∧ w'.cell? ⟨(w.heap.size + 1 + 1), 2, none⟩ = some (.string x.f2) ∧ w'.cell? ⟨(w.heap.size + 1 + 1), 3, none⟩ = some (.slice A1 pk.length c1) ∧ w'.cell? ⟨gr, 0, none⟩ = some (.func (.func 38) #[] #[.pointer (some ⟨gb, 0, none⟩), .pointer (some ⟨gr, 0, none⟩)]) ∧ w'.cell? ⟨g3, 0, none⟩ = some (.int .i64 y.f0) ∧ w'.cell? ⟨g3, 1, none⟩ = some (.int .i64 y.f1) ∧ w'.cell? ⟨g3, 2, none⟩ = some (.string y.f2) ∧ w'.cell? ⟨g3, 3, none⟩ = some (.slice B y.f3.length d))) (ds := [8]) #[false, false, false, false, false, false, false, false, false] (by kernel_rfl) rfl rfl ⟨(blk_cell (blk_drew HW.b1) 0).trans rfl, (blk_cell (blk_drew HW.b1) 1).trans rfl, (blk_cell (blk_drew HW.b1) 2).trans rfl, (blk_cell (blk_drew HW.b1) 3).trans rfl, (blk_cell (blk_drew (blk_below Hr.out HW.below)) 0).trans rfl, (blk_cell (blk_drew BK3) 0).trans rfl, (blk_cell (blk_drew BK3) 1).trans rfl, (blk_cell (blk_drew BK3) 2).trans rfl, (blk_cell (blk_drew BK3) 3).trans rfl⟩ (fun hHeld => ?_)
          replace HW := HW.step (below_drew (Below.refl _ _))
          replace BK3 := blk_drew BK3
          have hg5 : Aside0 (g3 < w3a.drew.heap.size) := hg3
          clear hg3
          generalize w3a.drew = w4 at *
          refine pure_ (i := 0) (N := some 45) (v := ?_) (a' := ?_) #[true, false, false, false, false, false, false, false, false] rfl rfl (by kernel_rfl) (fun _ _ _ h => h) (Or.inl ⟨by rfl, ?_⟩) ?_ ?_
          rotate_left
          · intro w'
            go_simp
            with_reducible rfl
          rotate_left
          · simp only [Act.put, List.setIfInBounds_toArray, List.set_cons_zero, List.set_cons_succ, i64_w, i32_w]
            rfl
          refine take_ (i := 1) (N := some 46) (v := ?_) (a' := ?_) #[true, true, false, false, false, false, false, false, false] rfl rfl (by kernel_rfl) (fun _ _ _ h => h) (Or.inl ⟨by rfl, ?_⟩) hHeld ?_ ?_
          rotate_left
          · rintro w' ⟨s0, s1, s2, s3, s4, s5, s6, s7, s8⟩
            go_simp
            with_reducible rfl
          rotate_left
          · simp only [Act.put, List.setIfInBounds_toArray, List.set_cons_zero, List.set_cons_succ, i64_w, i32_w]
            rfl
          refine take_ (i := 2) (N := some 47) (v := ?_) (a' := ?_) #[true, true, true, false, false, false, false, false, false] rfl rfl (by kernel_rfl) (fun _ _ _ h => h) (Or.inl ⟨by rfl, ?_⟩) hHeld ?_ ?_
          rotate_left
          · rintro w' ⟨s0, s1, s2, s3, s4, s5, s6, s7, s8⟩
            go_simp
            with_reducible rfl
          rotate_left
          · simp only [Act.put, List.setIfInBounds_toArray, List.set_cons_zero, List.set_cons_succ, i64_w, i32_w]
            rfl
          refine take_ (i := 3) (N := some 48) (v := ?_) (a' := ?_) #[true, true, true, true, false, false, false, false, false] rfl rfl (by kernel_rfl) (fun _ _ _ h => h) (Or.inl ⟨by rfl, ?_⟩) hHeld ?_ ?_
          rotate_left
          · rintro w' ⟨s0, s1, s2, s3, s4, s5, s6, s7, s8⟩
            go_simp
            with_reducible rfl
          rotate_left
          · simp only [Act.put, List.setIfInBounds_toArray, List.set_cons_zero, List.set_cons_succ, i64_w, i32_w]
            rfl
          refine one_ (i := 4) (N := some 49) #[true, true, true, true, true, false, false, false, false] rfl rfl (by kernel_rfl) (by decide) (fun K hK => ?_)
          refine goesF_ Try.func38 (by kernel_rfl) rfl #[.agg #[.int .i64 y.f0, .int .i64 y.f1, .string y.f2, .slice B y.f3.length d], .pointer (some ⟨gb, 0, none⟩), .pointer (some ⟨gr, 0, none⟩)] (.tmp 47) #[] #[.pointer (some ⟨gb, 0, none⟩), .pointer (some ⟨gr, 0, none⟩)] (by rfl) rfl rfl rfl (by (try simp only [List.map_toArray, List.map_cons, List.map_nil]); first | done | rfl) ?_
          refine (ih y hy.out B d _ (Kd.C_below hB.out HW.below) hd.out (blk_below Hb.out HW.below) (blk_below Hr.out HW.below)).mono ?_
          rintro e w5 ⟨A5, c5, rfl, hc5, hF5, hb5⟩
          refine ⟨_, rfl, ?_⟩
          have hltw := Kd.N_lt HW.row
          have HW5 := HW.step hb5
          have BK5 := blk_below BK3 hb5
          have hs5 := hb5.size
          clear hb5
          refine hK.out _ _ ⟨(blk_cell HW5.b1 0).trans rfl, (blk_cell HW5.b1 1).trans rfl, (blk_cell HW5.b1 2).trans rfl, (blk_cell HW5.b1 3).trans rfl, (blk_cell (blk_below Hr.out HW5.below) 0).trans rfl, (blk_cell BK5 0).trans rfl, (blk_cell BK5 1).trans rfl, (blk_cell BK5 2).trans rfl, (blk_cell BK5 3).trans rfl⟩ (fun hHeld => ?_)
          clear hK K
          refine norm_ (a' := ?_) ?_ ?_
          rotate_left
          · show Act.put _ (some 49) _ = _
            simp only [Act.put, List.setIfInBounds_toArray, List.set_cons_zero, List.set_cons_succ, i64_w, i32_w]
            rfl
          generalize renT by_ y = t5 at *
          refine one_ (i := 5) (N := some 50) #[true, true, true, true, true, true, false, false, false] rfl rfl (by kernel_rfl) (by decide) (fun K hK => ?_)
          refine value_ (w1 := ?_) (v := ?_) (by rfl) rfl ?_ ?_
          rotate_left 2
          · go_simp
            first | done | rfl | (constructor <;> rfl)
          refine hK.out _ _ ⟨(blk_cell (blk_alloc HW5.b1 _) 0).trans rfl, (blk_cell (blk_alloc HW5.b1 _) 1).trans rfl, (blk_cell (blk_alloc HW5.b1 _) 2).trans rfl, (blk_cell (blk_alloc HW5.b1 _) 3).trans rfl, (blk_cell (blk_alloc (blk_below Hr.out HW5.below) _) 0).trans rfl, (blk_cell (blk_alloc BK5 _) 0).trans rfl, (blk_cell (blk_alloc BK5 _) 1).trans rfl, (blk_cell (blk_alloc BK5 _) 2).trans rfl, (blk_cell (blk_alloc BK5 _) 3).trans rfl⟩ (fun hHeld => ?_)
          clear hK K
          refine norm_ (a' := ?_) ?_ ?_
          rotate_left
          · show Act.put _ (some 50) _ = _
            simp only [Act.put, List.setIfInBounds_toArray, List.set_cons_zero, List.set_cons_succ, i64_w, i32_w]
            rfl
          refine one_ (i := 6) (N := some 51) #[true, true, true, true, true, true, true, false, false] rfl rfl (by kernel_rfl) (by decide) (fun K hK => ?_)
          have hg5_ := hg5.out
          have hg4_ := hg4.out
          refine Kd.N_append_step k58 (w0 := w) w.heap.size (by rfl) (.tmp 46) (.tmp 50) 56 58 (.agg #[(.int .i64 0), (.int .i64 0), (.string ⟨#[]⟩), (.slice none 0 0)]) 56 rfl Try.underlying56 info58 rfl (by decide) (by omega) (.slice A1 pk.length c1) pk t5 [.int .i64 t5.f0, .int .i64 t5.f1, .string t5.f2, .slice A5 t5.f3.length c5] (fun k => w.heap.size ≤ k ∧ k ≠ w.heap.size + 1 ∧ k ≠ w.heap.size + 1 + 1) (fun k => w4.heap.size ≤ k) rfl rfl (k58_mkF _ _ t5 hc5 hF5) ?aP ?aF HW5.row HW5.below HW5.below.size ?aL ?_
          (case aP => exact fun q hq => ⟨⟨by omega, by omega, by omega⟩, fun he => by have h3 := hltw q he.symm; omega⟩)
          (case aF => exact fun q hq => ⟨by omega, by omega, by omega⟩)
          (case aL => have := Hll2.out; omega)
          intro u6 w6 N6 HB6 hg6 hat6
          have HW6 := HW5.push N6 HB6 hg6
          obtain ⟨A6, c6, e6⟩ := Kd.N_slice N6
          generalize (pk ++ [t5]).length = n6 at e6
          subst e6
          have j1 := blk_grown HW5.b1 hg6 (fun e => (HW5.row.1 _ e.symm).2.2 rfl)
          have j3 := blk_grown BK5 hg6 (fun e => hgu.out e)
          have j2 := blk_below Hr.out HB6
          refine hK.out _ _ ⟨(blk_cell j1 0).trans rfl, (blk_cell j1 1).trans rfl, (blk_cell j1 2).trans rfl, (blk_cell j1 3).trans rfl, (blk_cell j2 0).trans rfl, (blk_cell j3 0).trans rfl, (blk_cell j3 1).trans rfl, (blk_cell j3 2).trans rfl, (blk_cell j3 3).trans rfl⟩ (fun hHeld => ?_)
          clear hK K
          refine norm_ (a' := ?_) ?_ ?_
          rotate_left
          · show Act.put _ (some 51) _ = _
            simp only [Act.put, List.setIfInBounds_toArray, List.set_cons_zero, List.set_cons_succ, i64_w, i32_w]
            rfl
          refine pure_ (i := 7) (N := some 52) (v := ?_) (a' := ?_) #[true, true, true, true, true, true, true, true, false] rfl rfl (by kernel_rfl) (fun _ _ _ h => h) (Or.inl ⟨by rfl, ?_⟩) ?_ ?_
          rotate_left
          · intro w'
            go_simp
            with_reducible rfl
          rotate_left
          · simp only [Act.put, List.setIfInBounds_toArray, List.set_cons_zero, List.set_cons_succ, i64_w, i32_w]
            rfl
          refine last_ (i := 8) (N := none) #[true, true, true, true, true, true, true, true, true] rfl rfl (by kernel_rfl) (by decide) (fun K hK => ?_)
          refine skip_ (by rfl) rfl (w1 := ?_) ?_ ?_
          rotate_left
          · have z1 := blk_frozen j1 3
            have z2 : w6.cell? ⟨w.heap.size + 1 + 1, 3, none⟩ = some (.slice A1 pk.length c1) := (blk_cell j1 3).trans rfl
            go_simp
            rfl
          refine hK.out _ _ ?_
          clear hK K
          refine done_ (by kernel_rfl) ?_
          replace HW6 := Aside0.mk HW6
          clear N6 HB6 hg6 hat6 j1 j2 j3 HW HW5 BK3 BK5 hltw hF5 hs5
          generalize w6.setCell ⟨w.heap.size + 1 + 1, 3, none⟩ (.slice A6 n6 c6) = w7 at *
          clear hHeld
          go_wp2_with fail
          go_roundw
          case rel => exact ⟨k + 1, _, by go_num, ⟨Hlt.out⟩, ⟨by rw [Htk.out]; exact HW6.out⟩⟩
          case measure => have := Hlt.out; simp [intOf]; omega
        · have hlt2 : decide ((k : Int) < (x.f3.length : Int)) = false := decide_eq_false (by omega)
          have hlt3 : decide (k < x.f3.length) = false := decide_eq_false hlt
          obtain rfl : k = x.f3.length := by have := hk.out; omega
          rw [List.take_length] at HW
          obtain ⟨A1, c1, e1⟩ := Kd.N_slice HW.out.row
          subst e1
          have d0 := (blk_cell HW.out.b1 0).trans rfl
          have d1 := (blk_cell HW.out.b1 1).trans rfl
          have d2 := (blk_cell HW.out.b1 2).trans rfl
          have d3 := (blk_cell HW.out.b1 3).trans rfl
          have e0 := (blk_cell HW.out.b0 0).trans rfl
          have e1 := (blk_cell HW.out.b0 1).trans rfl
          have e2 := (blk_cell HW.out.b0 2).trans rfl
          have e3 := (blk_cell HW.out.b0 3).trans rfl
          have z0 := blk_frozen HW.out.b0 0
          have z1 := blk_frozen HW.out.b0 1
          have z2 := blk_frozen HW.out.b0 2
          have z3 := blk_frozen HW.out.b0 3
          go_wp2_with fail
          have s1 := blk_put4 (.int .i64 x.f0) (.int .i64 n1) (.string x.f2) (.slice A1 (renL by_ x.f3).length c1) HW.out.b0
          have sm := mods4 wr (w.heap.size + 1) (.int .i64 x.f0) (.int .i64 n1) (.string x.f2) (.slice A1 (renL by_ x.f3).length c1)
          refine bodyPost_ret (results_cell_row rfl _ _ (w.heap.size + 1) 58 #[.int .i64 x.f0, .int .i64 n1, .string x.f2, .slice A1 (renL by_ x.f3).length c1] (0, 0) _ rfl s1 Try.underlying58 rfl (by kernel_rfl)) rfl ?_
          rw [HE.out]
          exact ⟨A1, c1, rfl, (Kd.N_reads' HW.out.row).2.1, Kd.F_mono (Kd.F_step (Kd.N_F HW.out.row) (fun q hq hl => sm.block q hl hq.2.1)) (fun q hq => hq.1), sm.under HW.out.below (Nat.le_refl _) (fun k hk => by omega)⟩
  · have k1 : (x.f0 == 1) = false := by simpa using h1
    have HN : Aside0 (rnN by_ x = x.f1) := ⟨by unfold rnN; rw [if_neg h1]⟩
    clear h1
    go_wp2_with fail
    have HW0 : Aside0 (RI w (((w.alloc (.cells #[.int .i64 x.f0, .int .i64 x.f1, .string x.f2, .slice A x.f3.length c] 58)).alloc (.cells #[.int .i64 0, .int .i64 0, .string ⟨#[]⟩, .slice none 0 0] 58)).alloc (.cells #[.int .i64 x.f0, .int .i64 x.f1, .string x.f2, .slice none 0 0] 58)) x (rnN by_ x) (.slice none 0 0) []) := ⟨by rw [HN.out]; exact RI.start _⟩
    clear HN cb k1
    generalize (((w.alloc (.cells #[.int .i64 x.f0, .int .i64 x.f1, .string x.f2, .slice A x.f3.length c] 58)).alloc (.cells #[.int .i64 0, .int .i64 0, .string ⟨#[]⟩, .slice none 0 0] 58)).alloc (.cells #[.int .i64 x.f0, .int .i64 x.f1, .string x.f2, .slice none 0 0] 58)) = w3 at *
    generalize rnN by_ x = n1 at *
    go_loopw [41] (fun i wr => ∃ (k : Nat) (u : Value), i = .int .i64 k ∧ Aside0 (k ≤ x.f3.length) ∧ Aside0 (RI w wr x n1 u (renL by_ (x.f3.take k)))) (fun i _ => x.f3.length - (intOf i).toNat)
    case atStart => exact ⟨0, _, rfl, ⟨by omega⟩, HW0⟩
    case round =>
      clear HW0
      obtain ⟨k, u, rfl, hk, HW⟩ := hrel
      by_cases hlt : k < x.f3.length
      · have hlt2 : decide ((k : Int) < (x.f3.length : Int)) = true := decide_eq_true (by omega)
        have hlt3 : decide (k < x.f3.length) = true := decide_eq_true hlt
        obtain ⟨ad, B, d, ead, e0, e1, e2, e3, hd, hB⟩ := at_T58 HC.out (k : Int) (by omega) (by omega)
        have q0 := (HW.out.below.cell (World.block_lt_of_cell? w _ e0)).trans e0
        have q1 := (HW.out.below.cell (World.block_lt_of_cell? w _ e1)).trans e1
        have q2 := (HW.out.below.cell (World.block_lt_of_cell? w _ e2)).trans e2
        have q3 := (HW.out.below.cell (World.block_lt_of_cell? w _ e3)).trans e3
        have hy : Aside0 (szT (rd_T58 x.f3 k) ≤ n) := ⟨Nat.le_trans (szL_rd _ _ hlt) Hx.out⟩
        have Htk := Aside0.mk (renL_take by_ x.f3 k hlt)
        have Hll2 : Aside0 ((renL by_ (x.f3.take k)).length ≤ 1000000) := ⟨by rw [renL_len, List.length_take]; have := szL_len x.f3; have := Hs.out; omega⟩
        have Hlt := Aside0.mk hlt
        replace hd := Aside0.mk hd
        replace hB := Aside0.mk hB
        subst ead
        clear e0 e1 e2 e3
        generalize renL by_ (x.f3.take k) = pk at *
        generalize rd_T58 x.f3 k = y at *
        simp only [Int.toNat_natCast] at q0 q1 q2 q3
        obtain ⟨A1, c1, e1⟩ := Kd.N_slice HW.out.row
        subst e1
        have hg4 := Aside0.mk (blk_lt HW.out.b1)
        have hgu : Aside0 (some wr.heap.size ≠ (Value.slice A1 pk.length c1).ownBlock) := ⟨fun e => Nat.lt_irrefl _ (Kd.N_lt HW.out.row _ e.symm)⟩
        replace HW := Aside0.mk (HW.out.step (below_alloc (Below.refl wr.heap.size wr) (.cells #[.int .i64 y.f0, .int .i64 y.f1, .string y.f2, .slice B y.f3.length d] 58)))
        have BK3 := Aside0.mk (heap_alloc_new wr (.cells #[.int .i64 y.f0, .int .i64 y.f1, .string y.f2, .slice B y.f3.length d] 58))
        have hg3 : Aside0 (wr.heap.size < (wr.alloc (.cells #[.int .i64 y.f0, .int .i64 y.f1, .string y.f2, .slice B y.f3.length d] 58)).heap.size) := ⟨by simp⟩
        go_wp2_with fail
        clear q0 q1 q2 q3 hlt2 hlt3
        generalize wr.alloc (.cells #[.int .i64 y.f0, .int .i64 y.f1, .string y.f2, .slice B y.f3.length d] 58) = w3a at *
        obtain ⟨g3, hg3e⟩ : ∃ g3, g3 = wr.heap.size := ⟨_, rfl⟩
        rw [← hg3e] at BK3 hg4 hg3 hgu ⊢
        clear hg3e
        replace BK3 := BK3.out
        replace HW := HW.out
        refine start_ (n := 9) (S := (fun w' => w'.cell? ⟨(w.heap.size + 1 + 1), 0, none⟩ = some (.int .i64 x.f0) ∧ w'.cell? ⟨(w.heap.size + 1 + 1), 1, none⟩ = some (.int .i64 n1) ∧ w'.cell? ⟨(w.heap.size + 1 + 1), 2, none⟩ = some (.string x.f2) ∧ w'.cell? ⟨(w.heap.size + 1 + 1), 3, none⟩ = some (.slice A1 pk.length c1) ∧ w'.cell? ⟨gr, 0, none⟩ = some (.func (.func 38) #[] #[.pointer (some ⟨gb, 0, none⟩), .pointer (some ⟨gr, 0, none⟩)]) ∧ w'.cell? ⟨g3, 0, none⟩ = some (.int .i64 y.f0) ∧ w'.cell? ⟨g3, 1, none⟩ = some (.int .i64 y.f1) ∧ w'.cell? ⟨g3, 2, none⟩ = some (.string y.f2) ∧ w'.cell? ⟨g3, 3, none⟩ = some (.slice B y.f3.length d))) (ds := [8]) #[false, false, false, false, false, false, false, false, false] (by kernel_rfl) rfl rfl ⟨(blk_cell (blk_drew HW.b1) 0).trans rfl, (blk_cell (blk_drew HW.b1) 1).trans rfl, (blk_cell (blk_drew HW.b1) 2).trans rfl, (blk_cell (blk_drew HW.b1) 3).trans rfl, (blk_cell (blk_drew (blk_below Hr.out HW.below)) 0).trans rfl, (blk_cell (blk_drew BK3) 0).trans rfl, (blk_cell (blk_drew BK3) 1).trans rfl, (blk_cell (blk_drew BK3) 2).trans rfl, (blk_cell (blk_drew BK3) 3).trans rfl⟩ (fun hHeld => ?_)
        replace HW := HW.step (below_drew (Below.refl _ _))
        replace BK3 := blk_drew BK3
        have hg5 : Aside0 (g3 < w3a.drew.heap.size) := hg3
        clear hg3
        generalize w3a.drew = w4 at *
        refine pure_ (i := 0) (N := some 45) (v := ?_) (a' := ?_) #[true, false, false, false, false, false, false, false, false] rfl rfl (by kernel_rfl) (fun _ _ _ h => h) (Or.inl ⟨by rfl, ?_⟩) ?_ ?_
        rotate_left
        · intro w'
          go_simp
          with_reducible rfl
        rotate_left
        · simp only [Act.put, List.setIfInBounds_toArray, List.set_cons_zero, List.set_cons_succ, i64_w, i32_w]
          rfl
        refine take_ (i := 1) (N := some 46) (v := ?_) (a' := ?_) #[true, true, false, false, false, false, false, false, false] rfl rfl (by kernel_rfl) (fun _ _ _ h => h) (Or.inl ⟨by rfl, ?_⟩) hHeld ?_ ?_
        rotate_left
        · rintro w' ⟨s0, s1, s2, s3, s4, s5, s6, s7, s8⟩
          go_simp
          with_reducible rfl
        rotate_left
        · simp only [Act.put, List.setIfInBounds_toArray, List.set_cons_zero, List.set_cons_succ, i64_w, i32_w]
          rfl
        refine take_ (i := 2) (N := some 47) (v := ?_) (a' := ?_) #[true, true, true, false, false, false, false, false, false] rfl rfl (by kernel_rfl) (fun _ _ _ h => h) (Or.inl ⟨by rfl, ?_⟩) hHeld ?_ ?_
        rotate_left
        · rintro w' ⟨s0, s1, s2, s3, s4, s5, s6, s7, s8⟩
          go_simp
          with_reducible rfl
        rotate_left
        · simp only [Act.put, List.setIfInBounds_toArray, List.set_cons_zero, List.set_cons_succ, i64_w, i32_w]
          rfl
        refine take_ (i := 3) (N := some 48) (v := ?_) (a' := ?_) #[true, true, true, true, false, false, false, false, false] rfl rfl (by kernel_rfl) (fun _ _ _ h => h) (Or.inl ⟨by rfl, ?_⟩) hHeld ?_ ?_
        rotate_left
        · rintro w' ⟨s0, s1, s2, s3, s4, s5, s6, s7, s8⟩
          go_simp
          with_reducible rfl
        rotate_left
        · simp only [Act.put, List.setIfInBounds_toArray, List.set_cons_zero, List.set_cons_succ, i64_w, i32_w]
          rfl
        refine one_ (i := 4) (N := some 49) #[true, true, true, true, true, false, false, false, false] rfl rfl (by kernel_rfl) (by decide) (fun K hK => ?_)
        refine goesF_ Try.func38 (by kernel_rfl) rfl #[.agg #[.int .i64 y.f0, .int .i64 y.f1, .string y.f2, .slice B y.f3.length d], .pointer (some ⟨gb, 0, none⟩), .pointer (some ⟨gr, 0, none⟩)] (.tmp 47) #[] #[.pointer (some ⟨gb, 0, none⟩), .pointer (some ⟨gr, 0, none⟩)] (by rfl) rfl rfl rfl (by (try simp only [List.map_toArray, List.map_cons, List.map_nil]); first | done | rfl) ?_
        refine (ih y hy.out B d _ (Kd.C_below hB.out HW.below) hd.out (blk_below Hb.out HW.below) (blk_below Hr.out HW.below)).mono ?_
        rintro e w5 ⟨A5, c5, rfl, hc5, hF5, hb5⟩
        refine ⟨_, rfl, ?_⟩
        have hltw := Kd.N_lt HW.row
        have HW5 := HW.step hb5
        have BK5 := blk_below BK3 hb5
        have hs5 := hb5.size
        clear hb5
        refine hK.out _ _ ⟨(blk_cell HW5.b1 0).trans rfl, (blk_cell HW5.b1 1).trans rfl, (blk_cell HW5.b1 2).trans rfl, (blk_cell HW5.b1 3).trans rfl, (blk_cell (blk_below Hr.out HW5.below) 0).trans rfl, (blk_cell BK5 0).trans rfl, (blk_cell BK5 1).trans rfl, (blk_cell BK5 2).trans rfl, (blk_cell BK5 3).trans rfl⟩ (fun hHeld => ?_)
        clear hK K
        refine norm_ (a' := ?_) ?_ ?_
        rotate_left
        · show Act.put _ (some 49) _ = _
          simp only [Act.put, List.setIfInBounds_toArray, List.set_cons_zero, List.set_cons_succ, i64_w, i32_w]
          rfl
        generalize renT by_ y = t5 at *
        refine one_ (i := 5) (N := some 50) #[true, true, true, true, true, true, false, false, false] rfl rfl (by kernel_rfl) (by decide) (fun K hK => ?_)
        refine value_ (w1 := ?_) (v := ?_) (by rfl) rfl ?_ ?_
        rotate_left 2
        · go_simp
          first | done | rfl | (constructor <;> rfl)
        refine hK.out _ _ ⟨(blk_cell (blk_alloc HW5.b1 _) 0).trans rfl, (blk_cell (blk_alloc HW5.b1 _) 1).trans rfl, (blk_cell (blk_alloc HW5.b1 _) 2).trans rfl, (blk_cell (blk_alloc HW5.b1 _) 3).trans rfl, (blk_cell (blk_alloc (blk_below Hr.out HW5.below) _) 0).trans rfl, (blk_cell (blk_alloc BK5 _) 0).trans rfl, (blk_cell (blk_alloc BK5 _) 1).trans rfl, (blk_cell (blk_alloc BK5 _) 2).trans rfl, (blk_cell (blk_alloc BK5 _) 3).trans rfl⟩ (fun hHeld => ?_)
        clear hK K
        refine norm_ (a' := ?_) ?_ ?_
        rotate_left
        · show Act.put _ (some 50) _ = _
          simp only [Act.put, List.setIfInBounds_toArray, List.set_cons_zero, List.set_cons_succ, i64_w, i32_w]
          rfl
        refine one_ (i := 6) (N := some 51) #[true, true, true, true, true, true, true, false, false] rfl rfl (by kernel_rfl) (by decide) (fun K hK => ?_)
        have hg5_ := hg5.out
        have hg4_ := hg4.out
        refine Kd.N_append_step k58 (w0 := w) w.heap.size (by rfl) (.tmp 46) (.tmp 50) 56 58 (.agg #[(.int .i64 0), (.int .i64 0), (.string ⟨#[]⟩), (.slice none 0 0)]) 56 rfl Try.underlying56 info58 rfl (by decide) (by omega) (.slice A1 pk.length c1) pk t5 [.int .i64 t5.f0, .int .i64 t5.f1, .string t5.f2, .slice A5 t5.f3.length c5] (fun k => w.heap.size ≤ k ∧ k ≠ w.heap.size + 1 ∧ k ≠ w.heap.size + 1 + 1) (fun k => w4.heap.size ≤ k) rfl rfl (k58_mkF _ _ t5 hc5 hF5) ?aP ?aF HW5.row HW5.below HW5.below.size ?aL ?_
        (case aP => exact fun q hq => ⟨⟨by omega, by omega, by omega⟩, fun he => by have h3 := hltw q he.symm; omega⟩)
        (case aF => exact fun q hq => ⟨by omega, by omega, by omega⟩)
        (case aL => have := Hll2.out; omega)
        intro u6 w6 N6 HB6 hg6 hat6
        have HW6 := HW5.push N6 HB6 hg6
        obtain ⟨A6, c6, e6⟩ := Kd.N_slice N6
        generalize (pk ++ [t5]).length = n6 at e6
        subst e6
        have j1 := blk_grown HW5.b1 hg6 (fun e => (HW5.row.1 _ e.symm).2.2 rfl)
        have j3 := blk_grown BK5 hg6 (fun e => hgu.out e)
        have j2 := blk_below Hr.out HB6
        refine hK.out _ _ ⟨(blk_cell j1 0).trans rfl, (blk_cell j1 1).trans rfl, (blk_cell j1 2).trans rfl, (blk_cell j1 3).trans rfl, (blk_cell j2 0).trans rfl, (blk_cell j3 0).trans rfl, (blk_cell j3 1).trans rfl, (blk_cell j3 2).trans rfl, (blk_cell j3 3).trans rfl⟩ (fun hHeld => ?_)
        clear hK K
        refine norm_ (a' := ?_) ?_ ?_
        rotate_left
        · show Act.put _ (some 51) _ = _
          simp only [Act.put, List.setIfInBounds_toArray, List.set_cons_zero, List.set_cons_succ, i64_w, i32_w]
          rfl
        refine pure_ (i := 7) (N := some 52) (v := ?_) (a' := ?_) #[true, true, true, true, true, true, true, true, false] rfl rfl (by kernel_rfl) (fun _ _ _ h => h) (Or.inl ⟨by rfl, ?_⟩) ?_ ?_
        rotate_left
        · intro w'
          go_simp
          with_reducible rfl
        rotate_left
        · simp only [Act.put, List.setIfInBounds_toArray, List.set_cons_zero, List.set_cons_succ, i64_w, i32_w]
          rfl
        refine last_ (i := 8) (N := none) #[true, true, true, true, true, true, true, true, true] rfl rfl (by kernel_rfl) (by decide) (fun K hK => ?_)
        refine skip_ (by rfl) rfl (w1 := ?_) ?_ ?_
        rotate_left
        · have z1 := blk_frozen j1 3
          have z2 : w6.cell? ⟨w.heap.size + 1 + 1, 3, none⟩ = some (.slice A1 pk.length c1) := (blk_cell j1 3).trans rfl
          go_simp
          rfl
        refine hK.out _ _ ?_
        clear hK K
        refine done_ (by kernel_rfl) ?_
        replace HW6 := Aside0.mk HW6
        clear N6 HB6 hg6 hat6 j1 j2 j3 HW HW5 BK3 BK5 hltw hF5 hs5
        generalize w6.setCell ⟨w.heap.size + 1 + 1, 3, none⟩ (.slice A6 n6 c6) = w7 at *
        clear hHeld
        go_wp2_with fail
        go_roundw
        case rel => exact ⟨k + 1, _, by go_num, ⟨Hlt.out⟩, ⟨by rw [Htk.out]; exact HW6.out⟩⟩
        case measure => have := Hlt.out; simp [intOf]; omega
      · have hlt2 : decide ((k : Int) < (x.f3.length : Int)) = false := decide_eq_false (by omega)
        have hlt3 : decide (k < x.f3.length) = false := decide_eq_false hlt
        obtain rfl : k = x.f3.length := by have := hk.out; omega
        rw [List.take_length] at HW
        obtain ⟨A1, c1, e1⟩ := Kd.N_slice HW.out.row
        subst e1
        have d0 := (blk_cell HW.out.b1 0).trans rfl
        have d1 := (blk_cell HW.out.b1 1).trans rfl
        have d2 := (blk_cell HW.out.b1 2).trans rfl
        have d3 := (blk_cell HW.out.b1 3).trans rfl
        have e0 := (blk_cell HW.out.b0 0).trans rfl
        have e1 := (blk_cell HW.out.b0 1).trans rfl
        have e2 := (blk_cell HW.out.b0 2).trans rfl
        have e3 := (blk_cell HW.out.b0 3).trans rfl
        have z0 := blk_frozen HW.out.b0 0
        have z1 := blk_frozen HW.out.b0 1
        have z2 := blk_frozen HW.out.b0 2
        have z3 := blk_frozen HW.out.b0 3
        go_wp2_with fail
        have s1 := blk_put4 (.int .i64 x.f0) (.int .i64 n1) (.string x.f2) (.slice A1 (renL by_ x.f3).length c1) HW.out.b0
        have sm := mods4 wr (w.heap.size + 1) (.int .i64 x.f0) (.int .i64 n1) (.string x.f2) (.slice A1 (renL by_ x.f3).length c1)
        refine bodyPost_ret (results_cell_row rfl _ _ (w.heap.size + 1) 58 #[.int .i64 x.f0, .int .i64 n1, .string x.f2, .slice A1 (renL by_ x.f3).length c1] (0, 0) _ rfl s1 Try.underlying58 rfl (by kernel_rfl)) rfl ?_
        rw [HE.out]
        exact ⟨A1, c1, rfl, (Kd.N_reads' HW.out.row).2.1, Kd.F_mono (Kd.F_step (Kd.N_F HW.out.row) (fun q hq hl => sm.block q hl hq.2.1)) (fun q hq => hq.1), sm.under HW.out.below (Nat.le_refl _) (fun k hk => by omega)⟩
end Go.Proofs.Ythdnaliahdohhaa.H
