/- Goals: a term as a clause (goal.Clause). -/
import Derived.Test.YthdnaliahdohhaaHHBodyAll
namespace Go.Proofs.Ythdnaliahdohhaa.H
open Go.RowKit Go.Proofs.YthdnaliahdohhaaW.PrintWords Go.Proofs.YthdnaliahdohhaaW.PrintLast Go.Proofs.YthdnaliahdohhaaW.PrintMore Go.Proofs.Ythdnaliahdohhaa.Map Go.Proofs.Ythdnaliahdohhaa.Reg
attribute [local go_sem] max2_int min2_int max_two min_two max_three min_three max_four min_four
set_option linter.unusedVariables false
set_option linter.unusedSimpArgs false
theorem store4 {w : World} {g : Nat} {a0 a1 a2 a3 : Value} {k m : Int} {s : ByteArray} {A : Option Addr} {n c : Nat} (h : w.heap[g]? = some (.cells #[a0, a1, a2, a3] 58 (0, 0))) :
    (Instr.storeAt 58 (.pointer (some ⟨g, 0, none⟩)) (.agg #[.int .i64 k, .int .i64 m, .string s, .slice A n c])).run Try.prog w = .ok () ((((w.setCell ⟨g, 0, none⟩ (.int .i64 k)).setCell ⟨g, 1, none⟩ (.int .i64 m)).setCell ⟨g, 2, none⟩ (.string s)).setCell ⟨g, 3, none⟩ (.slice A n c)) := by
  have c0 : w.cell? ⟨g, 0, none⟩ = some a0 := (blk_cell h 0).trans rfl
  have c1 : w.cell? ⟨g, 1, none⟩ = some a1 := (blk_cell h 1).trans rfl
  have c2 : w.cell? ⟨g, 2, none⟩ = some a2 := (blk_cell h 2).trans rfl
  have c3 : w.cell? ⟨g, 3, none⟩ = some a3 := (blk_cell h 3).trans rfl
  have z0 := blk_frozen h 0
  have z1 := blk_frozen h 1
  have z2 := blk_frozen h 2
  have z3 := blk_frozen h 3
  go_simp
theorem ins_st {P : Program} {t : TypeId} {k x : Value} {w w' : World} (h : (Instr.storeAt t k x).run P w = .ok () w') : (Instr.storeAt t k x >>= fun _ => (pure Next.skip : Sem Next)).run P w = .ok .skip w' := by
  rw [Sem.run_bind, h]; rfl
def zT (n : Nat) : S58 := z58
/-- what Clause hands back: the head, the body, what is wrong, with what -/
structure CR where
  h : S58
  b : S58
  e : Int
  w : S58
def tTrue : S58 := ⟨3, 0, ⟨#[116, 114, 117, 101]⟩, []⟩
def isClause (x : S58) : Bool := decide (x.f0 = 4) && decide (x.f2 = ⟨#[58, 45]⟩) && decide (x.f3.length = 2)
def clauseHB (x : S58) : S58 × S58 := if isClause x then (rd_T58 x.f3 (0 : Nat), rd_T58 x.f3 (1 : Nat)) else (x, tTrue)
def clauseR (x : S58) : CR :=
  if chk x = 0 then
    let hb := clauseHB x
    if hb.1.f0 = 1 then ⟨z58, z58, 12, z58⟩
    else if hb.1.f0 = 2 then ⟨z58, z58, 13, hb.1⟩
    else let r := bodyR hb.2
      if r.1 = 0 then ⟨hb.1, r.2, 0, z58⟩ else if r.1 = 13 then ⟨z58, z58, 13, hb.2⟩ else ⟨z58, z58, r.1, z58⟩
  else ⟨z58, z58, chk x, z58⟩
/-- a term in memory -/
def TM (w : World) (fp : Nat → Prop) (y : S58) (v : Value) : Prop := ∃ A c, v = .agg #[.int .i64 y.f0, .int .i64 y.f1, .string y.f2, .slice A y.f3.length c] ∧ y.f3.length ≤ c ∧ Kd.F k58 w fp A y.f3.length y.f3
def ClauseP (x : S58) (w : World) (ok : Nat → Prop) (e : Ending) (w' : World) : Prop :=
  ∃ v1 v2 v3, e = .returned (.tuple #[v1, v2, .int .i64 (clauseR x).e, v3]) ∧ TM w' (fun k => ok k ∨ w.heap.size ≤ k) (clauseR x).h v1 ∧ TM w' (fun k => ok k ∨ w.heap.size ≤ k) (clauseR x).b v2 ∧ TM w' (fun k => ok k ∨ w.heap.size ≤ k) (clauseR x).w v3 ∧ Below w.heap.size w w'
theorem TM_z (w : World) (fp : Nat → Prop) : TM w fp z58 (.agg #[.int .i64 0, .int .i64 0, .string ⟨#[]⟩, .slice none 0 0]) := ⟨none, 0, rfl, Nat.le_refl 0, Kd.F_nil _ _ _⟩
theorem TM.mono {w : World} {fp fp' : Nat → Prop} {y : S58} {v : Value} (h : TM w fp y v) (hi : ∀ k, fp k → fp' k) : TM w fp' y v := by
  obtain ⟨A, c, h1, h2, h3⟩ := h; exact ⟨A, c, h1, h2, Kd.F_mono h3 hi⟩
theorem TM.step {w w1 : World} {fp : Nat → Prop} {y : S58} {v : Value} (h : TM w fp y v) (hi : ∀ k, fp k → k < w.heap.size → w1.heap[k]? = w.heap[k]?) : TM w1 fp y v := by
  obtain ⟨A, c, h1, h2, h3⟩ := h; exact ⟨A, c, h1, h2, Kd.F_step h3 hi⟩
theorem TM.below {w w1 : World} {fp : Nat → Prop} {y : S58} {v : Value} (h : TM w fp y v) (hb : Below w.heap.size w w1) : TM w1 fp y v := by
  obtain ⟨A, c, h1, h2, h3⟩ := h; exact ⟨A, c, h1, h2, Kd.F_below h3 hb⟩
theorem res32 {tmps : Array Value} {w : World} {g2 g3 g5 : Nat} {a0 a1 a2 a3 b0 b1 b2 b3 c0 c1 c2 c3 : Value} {n : Int} (h2 : tmps.getD 2 undef = .pointer (some ⟨g2, 0, none⟩)) (h3 : tmps.getD 3 undef = .pointer (some ⟨g3, 0, none⟩)) (h4 : tmps.getD 4 undef = .int .i64 n) (h5 : tmps.getD 5 undef = .pointer (some ⟨g5, 0, none⟩)) (k2 : w.heap[g2]? = some (.cells #[a0, a1, a2, a3] 58 (0, 0))) (k3 : w.heap[g3]? = some (.cells #[b0, b1, b2, b3] 58 (0, 0))) (k5 : w.heap[g5]? = some (.cells #[c0, c1, c2, c3] 58 (0, 0))) :
    (results Try.f32 tmps).run Try.prog w = .ok (.tuple #[.agg #[a0, a1, a2, a3], .agg #[b0, b1, b2, b3], .int .i64 n, .agg #[c0, c1, c2, c3]]) w := by
  have x0 : w.cell? ⟨g2, 0, none⟩ = some a0 := (blk_cell k2 0).trans rfl
  have x1 : w.cell? ⟨g2, 1, none⟩ = some a1 := (blk_cell k2 1).trans rfl
  have x2 : w.cell? ⟨g2, 2, none⟩ = some a2 := (blk_cell k2 2).trans rfl
  have x3 : w.cell? ⟨g2, 3, none⟩ = some a3 := (blk_cell k2 3).trans rfl
  have y0 : w.cell? ⟨g3, 0, none⟩ = some b0 := (blk_cell k3 0).trans rfl
  have y1 : w.cell? ⟨g3, 1, none⟩ = some b1 := (blk_cell k3 1).trans rfl
  have y2 : w.cell? ⟨g3, 2, none⟩ = some b2 := (blk_cell k3 2).trans rfl
  have y3 : w.cell? ⟨g3, 3, none⟩ = some b3 := (blk_cell k3 3).trans rfl
  have z0 : w.cell? ⟨g5, 0, none⟩ = some c0 := (blk_cell k5 0).trans rfl
  have z1 : w.cell? ⟨g5, 1, none⟩ = some c1 := (blk_cell k5 1).trans rfl
  have z2 : w.cell? ⟨g5, 2, none⟩ = some c2 := (blk_cell k5 2).trans rfl
  have z3 : w.cell? ⟨g5, 3, none⟩ = some c3 := (blk_cell k5 3).trans rfl
  have q2 : tmps[2]?.getD undef = .pointer (some ⟨g2, 0, none⟩) := by simpa using h2
  have q3 : tmps[3]?.getD undef = .pointer (some ⟨g3, 0, none⟩) := by simpa using h3
  have q4 : tmps[4]?.getD undef = .int .i64 n := by simpa using h4
  have q5 : tmps[5]?.getD undef = .pointer (some ⟨g5, 0, none⟩) := by simpa using h5
  simp [results, Try.results32, go_sem, q2, q3, q4, q5, x0, x1, x2, x3, y0, y1, y2, y3, z0, z1, z2, z3]
def clauseHBR (h b : S58) : CR :=
    if h.f0 = 1 then ⟨z58, z58, 12, z58⟩
    else if h.f0 = 2 then ⟨z58, z58, 13, h⟩
    else let r := bodyR b
      if r.1 = 0 then ⟨h, r.2, 0, z58⟩ else if r.1 = 13 then ⟨z58, z58, 13, b⟩ else ⟨z58, z58, r.1, z58⟩
theorem clauseR_of {x : S58} (h : chk x = 0) : clauseR x = clauseHBR (clauseHB x).1 (clauseHB x).2 := by unfold clauseR; rw [if_pos h]; rfl
theorem al_sz (w : World) (o : Obj) : (w.alloc o).heap.size = w.heap.size + 1 := by simp
theorem tl_cl : (ByteArray.mk #[58, 45]).toList = [58, 45] := by kernel_rfl
theorem tl_ne {s : ByteArray} (h : ¬ s = ⟨#[58, 45]⟩) : (s.toList == [58, 45]) = false := by
  rw [← tl_cl, ← beq_toListBytes]
  cases hh : (s == (⟨#[58, 45]⟩ : ByteArray)) with
  | false => rfl
  | true => exact absurd (by simpa [beq_bytes] using hh) h
theorem case5 (a c : Int) : a = 1 ∨ a = 2 ∨ ((¬ a = 1 ∧ ¬ a = 2) ∧ c = 0) ∨ ((¬ a = 1 ∧ ¬ a = 2) ∧ c = 13) ∨ ((¬ a = 1 ∧ ¬ a = 2) ∧ ¬ c = 0 ∧ ¬ c = 13) := by omega
set_option maxHeartbeats 8000000 in
set_option maxRecDepth 100000 in
theorem clause_err (x : S58) (hx : szT x ≤ 400000) (A : Option Addr) (c : Nat) (w : World) (ok : Nat → Prop) (hok : ∀ q, ok q → q < w.heap.size) (hF : Kd.F k58 w ok A x.f3.length x.f3) (hc : x.f3.length ≤ c) (he : ¬ chk x = 0) :
    Calls Try.prog 32 #[.agg #[.int .i64 x.f0, .int .i64 x.f1, .string x.f2, .slice A x.f3.length c]] w (ClauseP x w ok) := by
  have HV : Aside0 (clauseR x = ⟨z58, z58, chk x, z58⟩) := ⟨by unfold clauseR; rw [if_neg he]⟩
  have HB0 : Aside0 (Below w.heap.size w ((((w.alloc (.cells #[.int .i64 x.f0, .int .i64 x.f1, .string x.f2, .slice A x.f3.length c] 58)).alloc (.cells #[.int .i64 0, .int .i64 0, .string ⟨#[]⟩, .slice none 0 0] 58)).alloc (.cells #[.int .i64 0, .int .i64 0, .string ⟨#[]⟩, .slice none 0 0] 58)).alloc (.cells #[.int .i64 0, .int .i64 0, .string ⟨#[]⟩, .slice none 0 0] 58))) := ⟨below_alloc (below_alloc (below_alloc (below_alloc (Below.refl _ _) _) _) _) _⟩
  have HK1 : Aside0 (((((w.alloc (.cells #[.int .i64 x.f0, .int .i64 x.f1, .string x.f2, .slice A x.f3.length c] 58)).alloc (.cells #[.int .i64 0, .int .i64 0, .string ⟨#[]⟩, .slice none 0 0] 58)).alloc (.cells #[.int .i64 0, .int .i64 0, .string ⟨#[]⟩, .slice none 0 0] 58)).alloc (.cells #[.int .i64 0, .int .i64 0, .string ⟨#[]⟩, .slice none 0 0] 58)).heap[w.heap.size]? = some (.cells #[.int .i64 x.f0, .int .i64 x.f1, .string x.f2, .slice A x.f3.length c] 58 (0, 0))) := ⟨blk_alloc (blk_alloc (blk_alloc (heap_alloc_new _ _) _) _) _⟩
  have HK2 : Aside0 (((((w.alloc (.cells #[.int .i64 x.f0, .int .i64 x.f1, .string x.f2, .slice A x.f3.length c] 58)).alloc (.cells #[.int .i64 0, .int .i64 0, .string ⟨#[]⟩, .slice none 0 0] 58)).alloc (.cells #[.int .i64 0, .int .i64 0, .string ⟨#[]⟩, .slice none 0 0] 58)).alloc (.cells #[.int .i64 0, .int .i64 0, .string ⟨#[]⟩, .slice none 0 0] 58)).heap[w.heap.size + 1]? = some (.cells #[.int .i64 0, .int .i64 0, .string ⟨#[]⟩, .slice none 0 0] 58 (0, 0))) := ⟨blk_alloc (blk_alloc (by have := heap_alloc_new (w.alloc (.cells #[.int .i64 x.f0, .int .i64 x.f1, .string x.f2, .slice A x.f3.length c] 58)) (.cells #[.int .i64 0, .int .i64 0, .string ⟨#[]⟩, .slice none 0 0] 58); simpa using this) _) _⟩
  have HK3 : Aside0 (((((w.alloc (.cells #[.int .i64 x.f0, .int .i64 x.f1, .string x.f2, .slice A x.f3.length c] 58)).alloc (.cells #[.int .i64 0, .int .i64 0, .string ⟨#[]⟩, .slice none 0 0] 58)).alloc (.cells #[.int .i64 0, .int .i64 0, .string ⟨#[]⟩, .slice none 0 0] 58)).alloc (.cells #[.int .i64 0, .int .i64 0, .string ⟨#[]⟩, .slice none 0 0] 58)).heap[w.heap.size + 1 + 1]? = some (.cells #[.int .i64 0, .int .i64 0, .string ⟨#[]⟩, .slice none 0 0] 58 (0, 0))) := ⟨blk_alloc (by have := heap_alloc_new ((w.alloc (.cells #[.int .i64 x.f0, .int .i64 x.f1, .string x.f2, .slice A x.f3.length c] 58)).alloc (.cells #[.int .i64 0, .int .i64 0, .string ⟨#[]⟩, .slice none 0 0] 58)) (.cells #[.int .i64 0, .int .i64 0, .string ⟨#[]⟩, .slice none 0 0] 58); simpa using this) _⟩
  have HK5 : Aside0 (((((w.alloc (.cells #[.int .i64 x.f0, .int .i64 x.f1, .string x.f2, .slice A x.f3.length c] 58)).alloc (.cells #[.int .i64 0, .int .i64 0, .string ⟨#[]⟩, .slice none 0 0] 58)).alloc (.cells #[.int .i64 0, .int .i64 0, .string ⟨#[]⟩, .slice none 0 0] 58)).alloc (.cells #[.int .i64 0, .int .i64 0, .string ⟨#[]⟩, .slice none 0 0] 58)).heap[w.heap.size + 1 + 1 + 1]? = some (.cells #[.int .i64 0, .int .i64 0, .string ⟨#[]⟩, .slice none 0 0] 58 (0, 0))) := ⟨by have := heap_alloc_new (((w.alloc (.cells #[.int .i64 x.f0, .int .i64 x.f1, .string x.f2, .slice A x.f3.length c] 58)).alloc (.cells #[.int .i64 0, .int .i64 0, .string ⟨#[]⟩, .slice none 0 0] 58)).alloc (.cells #[.int .i64 0, .int .i64 0, .string ⟨#[]⟩, .slice none 0 0] 58)) (.cells #[.int .i64 0, .int .i64 0, .string ⟨#[]⟩, .slice none 0 0] 58); simpa using this⟩
  have HF := Aside0.mk (Kd.F_below hF HB0.out)
  have Hc := Aside0.mk hc
  have Hx := Aside0.mk hx
  have Hok := Aside0.mk hok
  clear hF hc hx hok
  obtain ⟨er, hE⟩ : ∃ er, chk x = er := ⟨_, rfl⟩
  have HE := Aside0.mk hE
  have hcalls := Aside0.mk (chk_calls x (by have := Hx.out; omega) A c)
  rw [hE] at HV he hcalls
  have he2 : (er == 0) = false := by simpa using he
  have he3 : (er != 0) = true := by simpa using he
  clear he hE
  go_enter Try.func32, Try.ntmps32
  go_wp2_with fail
  generalize ((((w.alloc (.cells #[.int .i64 x.f0, .int .i64 x.f1, .string x.f2, .slice A x.f3.length c] 58)).alloc (.cells #[.int .i64 0, .int .i64 0, .string ⟨#[]⟩, .slice none 0 0] 58)).alloc (.cells #[.int .i64 0, .int .i64 0, .string ⟨#[]⟩, .slice none 0 0] 58)).alloc (.cells #[.int .i64 0, .int .i64 0, .string ⟨#[]⟩, .slice none 0 0] 58)) = w1 at *
  obtain ⟨g5, hg5⟩ : ∃ g5, g5 = w.heap.size + 1 + 1 + 1 := ⟨_, rfl⟩
  obtain ⟨g3, hg3⟩ : ∃ g3, g3 = w.heap.size + 1 + 1 := ⟨_, rfl⟩
  obtain ⟨g2, hg2⟩ : ∃ g2, g2 = w.heap.size + 1 := ⟨_, rfl⟩
  obtain ⟨g1, hg1⟩ : ∃ g1, g1 = w.heap.size := ⟨_, rfl⟩
  rw [← hg5] at HK5
  rw [← hg3] at HK3
  rw [← hg2] at HK2
  rw [← hg1] at HK1
  rw [← hg5, ← hg3, ← hg2, ← hg1]
  have HG := Aside0.mk (show g1 = w.heap.size ∧ g2 = w.heap.size + 1 ∧ g3 = w.heap.size + 1 + 1 ∧ g5 = w.heap.size + 1 + 1 + 1 from ⟨hg1, hg2, hg3, hg5⟩)
  clear hg1 hg2 hg3 hg5
  refine (hcalls.out _ (Kd.F_now HF.out)).mono ?_
  rintro e w2 ⟨rfl, hb⟩
  replace HB0 := Aside0.mk (below_step HB0.out hb)
  replace HK1 := Aside0.mk (blk_below HK1.out hb)
  replace HK2 := Aside0.mk (blk_below HK2.out hb)
  replace HK3 := Aside0.mk (blk_below HK3.out hb)
  replace HK5 := Aside0.mk (blk_below HK5.out hb)
  replace HF := Aside0.mk (Kd.F_below HF.out hb)
  clear hb w1
  go_wp2_with fail
  have B_H := HK2.out
  have B_R := HK3.out
  have B_W := HK5.out
  have HB := HB0.out
  refine start_ (n := 8) (S := fun w' => w'.cell? ⟨g2, 0, none⟩ = some (.int .i64 0) ∧ w'.cell? ⟨g2, 1, none⟩ = some (.int .i64 0) ∧ w'.cell? ⟨g2, 2, none⟩ = some (.string ⟨#[]⟩) ∧ w'.cell? ⟨g2, 3, none⟩ = some (.slice none 0 0) ∧ w'.cell? ⟨g3, 0, none⟩ = some (.int .i64 0) ∧ w'.cell? ⟨g3, 1, none⟩ = some (.int .i64 0) ∧ w'.cell? ⟨g3, 2, none⟩ = some (.string ⟨#[]⟩) ∧ w'.cell? ⟨g3, 3, none⟩ = some (.slice none 0 0) ∧ w'.cell? ⟨g5, 0, none⟩ = some (.int .i64 0) ∧ w'.cell? ⟨g5, 1, none⟩ = some (.int .i64 0) ∧ w'.cell? ⟨g5, 2, none⟩ = some (.string ⟨#[]⟩) ∧ w'.cell? ⟨g5, 3, none⟩ = some (.slice none 0 0)) (ds := []) #[false, false, false, false, false, false, false, false] (by kernel_rfl) rfl rfl ⟨(blk_cell (blk_drew B_H) 0).trans rfl, (blk_cell (blk_drew B_H) 1).trans rfl, (blk_cell (blk_drew B_H) 2).trans rfl, (blk_cell (blk_drew B_H) 3).trans rfl, (blk_cell (blk_drew B_R) 0).trans rfl, (blk_cell (blk_drew B_R) 1).trans rfl, (blk_cell (blk_drew B_R) 2).trans rfl, (blk_cell (blk_drew B_R) 3).trans rfl, (blk_cell (blk_drew B_W) 0).trans rfl, (blk_cell (blk_drew B_W) 1).trans rfl, (blk_cell (blk_drew B_W) 2).trans rfl, (blk_cell (blk_drew B_W) 3).trans rfl⟩ (fun hHeld => ?_)
  replace B_H := blk_drew B_H
  replace B_R := blk_drew B_R
  replace B_W := blk_drew B_W
  replace HB := HB.drew
  generalize w2.drew = v0 at *
  have HS : ∀ q, q ≠ g2 → q ≠ g3 → q ≠ g5 → v0.heap[q]? = v0.heap[q]? := fun _ _ _ _ => rfl
  refine take_ (i := 0) (N := some 14) (v := ?_) (a' := ?_) #[true, false, false, false, false, false, false, false] rfl rfl (by kernel_rfl) (fun _ _ _ h => h) (Or.inl ⟨by rfl, ?_⟩) hHeld ?_ ?_
  rotate_left
  · rintro w' ⟨s0, s1, s2, s3, s4, s5, s6, s7, s8, s9, s10, s11⟩
    go_simp
    with_reducible rfl
  rotate_left
  · simp only [Act.put, List.setIfInBounds_toArray, List.set_cons_zero, List.set_cons_succ, i64_w, i32_w]
    rfl
  refine take_ (i := 1) (N := some 15) (v := ?_) (a' := ?_) #[true, true, false, false, false, false, false, false] rfl rfl (by kernel_rfl) (fun _ _ _ h => h) (Or.inl ⟨by rfl, ?_⟩) hHeld ?_ ?_
  rotate_left
  · rintro w' ⟨s0, s1, s2, s3, s4, s5, s6, s7, s8, s9, s10, s11⟩
    go_simp
    with_reducible rfl
  rotate_left
  · simp only [Act.put, List.setIfInBounds_toArray, List.set_cons_zero, List.set_cons_succ, i64_w, i32_w]
    rfl
  refine pure_ (i := 2) (N := some 16) (v := ?_) (a' := ?_) #[true, true, true, false, false, false, false, false] rfl rfl (by kernel_rfl) (fun _ _ _ h => h) (Or.inl ⟨by rfl, ?_⟩) ?_ ?_
  rotate_left
  · intro w'
    go_simp
    with_reducible rfl
  rotate_left
  · simp only [Act.put, List.setIfInBounds_toArray, List.set_cons_zero, List.set_cons_succ, i64_w, i32_w]
    rfl
  refine take_ (i := 3) (N := some 17) (v := ?_) (a' := ?_) #[true, true, true, true, false, false, false, false] rfl rfl (by kernel_rfl) (fun _ _ _ h => h) (Or.inl ⟨by rfl, ?_⟩) hHeld ?_ ?_
  rotate_left
  · rintro w' ⟨s0, s1, s2, s3, s4, s5, s6, s7, s8, s9, s10, s11⟩
    go_simp
    with_reducible rfl
  rotate_left
  · simp only [Act.put, List.setIfInBounds_toArray, List.set_cons_zero, List.set_cons_succ, i64_w, i32_w]
    rfl
  refine one_ (i := 4) (N := none) #[true, true, true, true, true, false, false, false] rfl rfl (by kernel_rfl) (by decide) (fun K hK => ?_)
  have hst_ : (Instr.storeAt 58 (.pointer (some ⟨g2, 0, none⟩)) (.agg #[.int .i64 0, .int .i64 0, .string ⟨#[]⟩, .slice none 0 0])).run Try.prog v0 = .ok () ((((v0.setCell ⟨g2, 0, none⟩ (.int .i64 0)).setCell ⟨g2, 1, none⟩ (.int .i64 0)).setCell ⟨g2, 2, none⟩ (.string ⟨#[]⟩)).setCell ⟨g2, 3, none⟩ (.slice none 0 0)) := store4 B_H
  refine skip_ (by rfl) rfl (w1 := ((((v0.setCell ⟨g2, 0, none⟩ (.int .i64 0)).setCell ⟨g2, 1, none⟩ (.int .i64 0)).setCell ⟨g2, 2, none⟩ (.string ⟨#[]⟩)).setCell ⟨g2, 3, none⟩ (.slice none 0 0))) (ins_st hst_) ?_
  clear hst_
  obtain ⟨s1_, s2_, s3_⟩ := set4 (.int .i64 0) (.int .i64 0) (.string ⟨#[]⟩) (.slice none 0 0) B_H
  replace HB := s3_ _ _ HB (by have := HG.out; omega)
  replace B_R := (s2_ _ (by have := HG.out; omega)).trans B_R
  replace B_W := (s2_ _ (by have := HG.out; omega)).trans B_W
  replace B_H := s1_
  replace HS : ∀ q, q ≠ g2 → q ≠ g3 → q ≠ g5 → _ = v0.heap[q]? := fun q h2_ h3_ h5_ => (s2_ q (by assumption)).trans (HS q h2_ h3_ h5_)
  clear s1_ s2_ s3_
  generalize ((((v0.setCell ⟨g2, 0, none⟩ (.int .i64 0)).setCell ⟨g2, 1, none⟩ (.int .i64 0)).setCell ⟨g2, 2, none⟩ (.string ⟨#[]⟩)).setCell ⟨g2, 3, none⟩ (.slice none 0 0)) = v1 at *
  refine hK.out _ _ ⟨(blk_cell B_H 0).trans rfl, (blk_cell B_H 1).trans rfl, (blk_cell B_H 2).trans rfl, (blk_cell B_H 3).trans rfl, (blk_cell B_R 0).trans rfl, (blk_cell B_R 1).trans rfl, (blk_cell B_R 2).trans rfl, (blk_cell B_R 3).trans rfl, (blk_cell B_W 0).trans rfl, (blk_cell B_W 1).trans rfl, (blk_cell B_W 2).trans rfl, (blk_cell B_W 3).trans rfl⟩ (fun hHeld => ?_)
  clear hK K
  refine one_ (i := 5) (N := none) #[true, true, true, true, true, true, false, false] rfl rfl (by kernel_rfl) (by decide) (fun K hK => ?_)
  have hst_ : (Instr.storeAt 58 (.pointer (some ⟨g3, 0, none⟩)) (.agg #[.int .i64 0, .int .i64 0, .string ⟨#[]⟩, .slice none 0 0])).run Try.prog v1 = .ok () ((((v1.setCell ⟨g3, 0, none⟩ (.int .i64 0)).setCell ⟨g3, 1, none⟩ (.int .i64 0)).setCell ⟨g3, 2, none⟩ (.string ⟨#[]⟩)).setCell ⟨g3, 3, none⟩ (.slice none 0 0)) := store4 B_R
  refine skip_ (by rfl) rfl (w1 := ((((v1.setCell ⟨g3, 0, none⟩ (.int .i64 0)).setCell ⟨g3, 1, none⟩ (.int .i64 0)).setCell ⟨g3, 2, none⟩ (.string ⟨#[]⟩)).setCell ⟨g3, 3, none⟩ (.slice none 0 0))) (ins_st hst_) ?_
  clear hst_
  obtain ⟨s1_, s2_, s3_⟩ := set4 (.int .i64 0) (.int .i64 0) (.string ⟨#[]⟩) (.slice none 0 0) B_R
  replace HB := s3_ _ _ HB (by have := HG.out; omega)
  replace B_H := (s2_ _ (by have := HG.out; omega)).trans B_H
  replace B_W := (s2_ _ (by have := HG.out; omega)).trans B_W
  replace B_R := s1_
  replace HS : ∀ q, q ≠ g2 → q ≠ g3 → q ≠ g5 → _ = v0.heap[q]? := fun q h2_ h3_ h5_ => (s2_ q (by assumption)).trans (HS q h2_ h3_ h5_)
  clear s1_ s2_ s3_
  generalize ((((v1.setCell ⟨g3, 0, none⟩ (.int .i64 0)).setCell ⟨g3, 1, none⟩ (.int .i64 0)).setCell ⟨g3, 2, none⟩ (.string ⟨#[]⟩)).setCell ⟨g3, 3, none⟩ (.slice none 0 0)) = v2 at *
  refine hK.out _ _ ⟨(blk_cell B_H 0).trans rfl, (blk_cell B_H 1).trans rfl, (blk_cell B_H 2).trans rfl, (blk_cell B_H 3).trans rfl, (blk_cell B_R 0).trans rfl, (blk_cell B_R 1).trans rfl, (blk_cell B_R 2).trans rfl, (blk_cell B_R 3).trans rfl, (blk_cell B_W 0).trans rfl, (blk_cell B_W 1).trans rfl, (blk_cell B_W 2).trans rfl, (blk_cell B_W 3).trans rfl⟩ (fun hHeld => ?_)
  clear hK K
  refine pure_ (i := 6) (N := some 4) (v := ?_) (a' := ?_) #[true, true, true, true, true, true, true, false] rfl rfl (by kernel_rfl) (fun _ _ _ h => h) (Or.inl ⟨by rfl, ?_⟩) ?_ ?_
  rotate_left
  · intro w'
    go_simp
    with_reducible rfl
  rotate_left
  · simp only [Act.put, List.setIfInBounds_toArray, List.set_cons_zero, List.set_cons_succ, i64_w, i32_w]
    rfl
  refine one_ (i := 7) (N := none) #[true, true, true, true, true, true, true, true] rfl rfl (by kernel_rfl) (by decide) (fun K hK => ?_)
  have hst_ : (Instr.storeAt 58 (.pointer (some ⟨g5, 0, none⟩)) (.agg #[.int .i64 0, .int .i64 0, .string ⟨#[]⟩, .slice none 0 0])).run Try.prog v2 = .ok () ((((v2.setCell ⟨g5, 0, none⟩ (.int .i64 0)).setCell ⟨g5, 1, none⟩ (.int .i64 0)).setCell ⟨g5, 2, none⟩ (.string ⟨#[]⟩)).setCell ⟨g5, 3, none⟩ (.slice none 0 0)) := store4 B_W
  refine skip_ (by rfl) rfl (w1 := ((((v2.setCell ⟨g5, 0, none⟩ (.int .i64 0)).setCell ⟨g5, 1, none⟩ (.int .i64 0)).setCell ⟨g5, 2, none⟩ (.string ⟨#[]⟩)).setCell ⟨g5, 3, none⟩ (.slice none 0 0))) (ins_st hst_) ?_
  clear hst_
  obtain ⟨s1_, s2_, s3_⟩ := set4 (.int .i64 0) (.int .i64 0) (.string ⟨#[]⟩) (.slice none 0 0) B_W
  replace HB := s3_ _ _ HB (by have := HG.out; omega)
  replace B_H := (s2_ _ (by have := HG.out; omega)).trans B_H
  replace B_R := (s2_ _ (by have := HG.out; omega)).trans B_R
  replace B_W := s1_
  replace HS : ∀ q, q ≠ g2 → q ≠ g3 → q ≠ g5 → _ = v0.heap[q]? := fun q h2_ h3_ h5_ => (s2_ q (by assumption)).trans (HS q h2_ h3_ h5_)
  clear s1_ s2_ s3_
  generalize ((((v2.setCell ⟨g5, 0, none⟩ (.int .i64 0)).setCell ⟨g5, 1, none⟩ (.int .i64 0)).setCell ⟨g5, 2, none⟩ (.string ⟨#[]⟩)).setCell ⟨g5, 3, none⟩ (.slice none 0 0)) = v3 at *
  refine hK.out _ _ ⟨(blk_cell B_H 0).trans rfl, (blk_cell B_H 1).trans rfl, (blk_cell B_H 2).trans rfl, (blk_cell B_H 3).trans rfl, (blk_cell B_R 0).trans rfl, (blk_cell B_R 1).trans rfl, (blk_cell B_R 2).trans rfl, (blk_cell B_R 3).trans rfl, (blk_cell B_W 0).trans rfl, (blk_cell B_W 1).trans rfl, (blk_cell B_W 2).trans rfl, (blk_cell B_W 3).trans rfl⟩ (fun hHeld => ?_)
  clear hK K
  refine done_ (by kernel_rfl) ?_
  go_wp2_with fail
  refine bodyPost_ret (res32 (by rfl) (by rfl) (by rfl) (by rfl) B_H B_R B_W) rfl ?_
  exact ⟨_, _, _, by rw [HV.out], by rw [HV.out]; exact TM_z _ _, by rw [HV.out]; exact TM_z _ _, by rw [HV.out]; exact TM_z _ _, HB⟩
end Go.Proofs.Ythdnaliahdohhaa.H
