/- Goals: a term as a clause's body (goal.Body). -/
import Derived.Test.YthdnaliahdohhaaHHcatch
namespace Go.Proofs.Ythdnaliahdohhaa.H
open Go.RowKit Go.Proofs.YthdnaliahdohhaaW.PrintWords Go.Proofs.YthdnaliahdohhaaW.PrintLast Go.Proofs.YthdnaliahdohhaaW.PrintMore Go.Proofs.Ythdnaliahdohhaa.Map Go.Proofs.Ythdnaliahdohhaa.Reg
attribute [local go_sem] max2_int min2_int max_two min_two max_three min_three max_four min_four
set_option linter.unusedVariables false
set_option linter.unusedSimpArgs false
def bodyR (x : S58) : Int × S58 :=
  if chk x = 0 then match bodyN (szT x) x with
    | none => (13, z58)
    | some y => if chk y = 0 then (0, y) else (chk y, z58)
  else (chk x, z58)
/-- what Body hands back -/
def BodyP (x : S58) (w : World) (ok : Nat → Prop) (e : Ending) (w' : World) : Prop :=
  ∃ A' c', e = .returned (.tuple #[.agg #[.int .i64 (bodyR x).2.f0, .int .i64 (bodyR x).2.f1, .string (bodyR x).2.f2, .slice A' (bodyR x).2.f3.length c'], .int .i64 (bodyR x).1]) ∧ (bodyR x).2.f3.length ≤ c' ∧ Kd.F k58 w' (fun k => ok k ∨ w.heap.size ≤ k) A' (bodyR x).2.f3.length (bodyR x).2.f3 ∧ Below w.heap.size w w'
/-- where Body's loop stands -/
structure BS (x : S58) (w wr : World) (ok : Nat → Prop) (k : Nat) (t : S58) (A : Option Addr) (c : Nat) : Prop where
  le : k ≤ 2
  b1 : wr.heap[w.heap.size]? = some (.cells #[.int .i64 t.f0, .int .i64 t.f1, .string t.f2, .slice A t.f3.length c] 58 (0, 0))
  b2 : wr.heap[w.heap.size + 1]? = some (.cells #[.int .i64 0, .int .i64 0, .string ⟨#[]⟩, .slice none 0 0] 58 (0, 0))
  b3 : wr.heap[w.heap.size + 1 + 1]? = some (.cells #[.int .i64 0] 30 (0, 0))
  hc : t.f3.length ≤ c
  F : Kd.F k58 wr (fun q => ok q ∨ w.heap.size + 3 ≤ q) A t.f3.length t.f3
  below : Below w.heap.size w wr
  what : (k < 2 ∧ t = x ∧ (k = 1 → chk x = 0)) ∨ (k = 2 ∧ chk x = 0 ∧ bodyN (szT x) x = some t)
def dfr (w : World) : Deferred := { target := .fn (.func 82) #[.pointer (some ⟨w.heap.size + 1, 0, none⟩), .pointer (some ⟨w.heap.size + 1 + 1, 0, none⟩)], args := #[] }
theorem res42 {tmps : Array Value} {w : World} {g2 g3 : Nat} {a0 a1 a2 a3 : Value} {n : Int} (h2 : tmps.getD 2 undef = .pointer (some ⟨g2, 0, none⟩)) (h3 : tmps.getD 3 undef = .pointer (some ⟨g3, 0, none⟩)) (b2 : w.heap[g2]? = some (.cells #[a0, a1, a2, a3] 58 (0, 0))) (b3 : w.heap[g3]? = some (.cells #[.int .i64 n] 30 (0, 0))) :
    (results Try.f42 tmps).run Try.prog w = .ok (.tuple #[.agg #[a0, a1, a2, a3], .int .i64 n]) w := by
  have c0 : w.cell? ⟨g2, 0, none⟩ = some a0 := (blk_cell b2 0).trans rfl
  have c1 : w.cell? ⟨g2, 1, none⟩ = some a1 := (blk_cell b2 1).trans rfl
  have c2 : w.cell? ⟨g2, 2, none⟩ = some a2 := (blk_cell b2 2).trans rfl
  have c3 : w.cell? ⟨g2, 3, none⟩ = some a3 := (blk_cell b2 3).trans rfl
  have d0 : w.cell? ⟨g3, 0, none⟩ = some (.int .i64 n) := (blk_cell b3 0).trans rfl
  have k2 : tmps[2]?.getD undef = .pointer (some ⟨g2, 0, none⟩) := by simpa using h2
  have k3 : tmps[3]?.getD undef = .pointer (some ⟨g3, 0, none⟩) := by simpa using h3
  simp [results, Try.results42, go_sem, k2, k3, c0, c1, c2, c3, d0]
theorem leaves_err (x : S58) (w wr : World) (ok : Nat → Prop) {k : Nat} {t : S58} {A : Option Addr} {c : Nat} (er : Int) (tmps : Array Value) (h2 : tmps.getD 2 undef = .pointer (some ⟨w.heap.size + 1, 0, none⟩)) (h3 : tmps.getD 3 undef = .pointer (some ⟨w.heap.size + 1 + 1, 0, none⟩)) (hb2 : wr.heap[w.heap.size + 1]? = some (.cells #[.int .i64 0, .int .i64 0, .string ⟨#[]⟩, .slice none 0 0] 58 (0, 0))) (hb3 : wr.heap[w.heap.size + 1 + 1]? = some (.cells #[.int .i64 0] 30 (0, 0))) (hb : Below w.heap.size w wr) (hr : bodyR x = (er, z58)) :
    Leaves Try.prog Try.f42 tmps (BodyP x w ok) [dfr w] (.panicking [{ v := .iface 30 (.int .i64 er), recovered := false }]) wr := by
  refine leaves_cons (f := 82) (args := #[.pointer (some ⟨w.heap.size + 1, 0, none⟩), .pointer (some ⟨w.heap.size + 1 + 1, 0, none⟩)]) (by simp) (enters_ Try.func82 (by kernel_rfl) rfl _ _) ?_
  refine (catch_calls (w.heap.size + 1) (w.heap.size + 1 + 1) er 0 _ _ _ _ [] wr hb2 hb3 (by omega)).mono ?_
  rintro e u' w2 ⟨rfl, rfl, k2, k3, k4⟩
  refine ⟨_, res42 h2 h3 k2 k3, ?_⟩
  refine ⟨none, 0, ?_, ?_, ?_, k4 _ _ hb (by omega) (by omega)⟩
  · rw [hr]; rfl
  · rw [hr]; exact Nat.le_refl 0
  · rw [hr]; exact Kd.F_nil _ _ _
theorem leaves_ok (x : S58) (w wr : World) (ok : Nat → Prop) {y : S58} {A : Option Addr} {c : Nat} (tmps : Array Value) (h2 : tmps.getD 2 undef = .pointer (some ⟨w.heap.size + 1, 0, none⟩)) (h3 : tmps.getD 3 undef = .pointer (some ⟨w.heap.size + 1 + 1, 0, none⟩)) (hb2 : wr.heap[w.heap.size + 1]? = some (.cells #[.int .i64 y.f0, .int .i64 y.f1, .string y.f2, .slice A y.f3.length c] 58 (0, 0))) (hb3 : wr.heap[w.heap.size + 1 + 1]? = some (.cells #[.int .i64 0] 30 (0, 0))) (hb : Below w.heap.size w wr) (hc : y.f3.length ≤ c) (hF : Kd.F k58 wr (fun q => ok q ∨ w.heap.size ≤ q) A y.f3.length y.f3) (hr : bodyR x = (0, y)) :
    Leaves Try.prog Try.f42 tmps (BodyP x w ok) [dfr w] .returning wr := by
  refine leaves_cons (f := 82) (args := #[.pointer (some ⟨w.heap.size + 1, 0, none⟩), .pointer (some ⟨w.heap.size + 1 + 1, 0, none⟩)]) (by simp) (enters_ Try.func82 (by kernel_rfl) rfl _ _) ?_
  refine (idle_calls _ _ wr).mono ?_
  rintro e u' w2 ⟨rfl, rfl, rfl⟩
  refine ⟨_, res42 h2 h3 hb2 hb3, ?_⟩
  refine ⟨A, c, ?_, ?_, ?_, hb⟩
  · rw [hr]
  · rw [hr]; exact hc
  · rw [hr]; exact hF
theorem bodyN_sz : ∀ (n : Nat) (x y : S58), bodyN n x = some y → szT y ≤ 2 * szT x
  | 0, x, y, h => by simp [bodyN] at h
  | n + 1, x, y, h => by
    have h1 := szT_eq x
    unfold bodyN at h
    split at h
    · injection h with h; subst h; simp [szT, szL]; omega
    split at h
    · cases h
    split at h
    · next hp =>
      obtain ⟨a1, ha, h⟩ := Option.bind_eq_some_iff.1 h
      obtain ⟨b1, hb, rfl⟩ := Option.map_eq_some_iff.1 h
      have hl := (parted_two hp).1
      have := bodyN_sz n _ _ ha
      have := bodyN_sz n _ _ hb
      have h3 : szL x.f3 = szT (rd_T58 x.f3 (0 : Nat)) + szT (rd_T58 x.f3 (1 : Nat)) := by
        obtain ⟨k, m, s, l⟩ := x
        match l, hl with
        | [a, b], _ => simp [szL, rd_T58]
      simp [szT, szL]
      omega
    · injection h with h; subst h; omega
theorem BS.step {x : S58} {w w1 w2 : World} {ok : Nat → Prop} {k : Nat} {t : S58} {A : Option Addr} {c : Nat} (h : BS x w w1 ok k t A c) (hb : Below w1.heap.size w1 w2) : BS x w w2 ok k t A c :=
  ⟨h.le, blk_below h.b1 hb, blk_below h.b2 hb, blk_below h.b3 hb, h.hc, Kd.F_below h.F hb, below_step h.below hb, h.what⟩
/-- t is set anew -/
theorem BS.set {x : S58} {w w1 : World} {ok : Nat → Prop} (hok : ∀ q, ok q → q < w.heap.size) {k : Nat} {t : S58} {A : Option Addr} {c : Nat} (h : BS x w w1 ok k t A c) {y : S58} {A' : Option Addr} {c' : Nat} (hc : y.f3.length ≤ c') (hF : Kd.F k58 w1 (fun q => ok q ∨ w.heap.size + 3 ≤ q) A' y.f3.length y.f3) (hw : (k + 1 < 2 ∧ y = x ∧ (k + 1 = 1 → chk x = 0)) ∨ (k + 1 = 2 ∧ chk x = 0 ∧ bodyN (szT x) x = some y)) :
    BS x w ((((w1.setCell ⟨w.heap.size, 0, none⟩ (.int .i64 y.f0)).setCell ⟨w.heap.size, 1, none⟩ (.int .i64 y.f1)).setCell ⟨w.heap.size, 2, none⟩ (.string y.f2)).setCell ⟨w.heap.size, 3, none⟩ (.slice A' y.f3.length c')) ok (k + 1) y A' c' := by
  obtain ⟨s1, s2, s3⟩ := set4 (.int .i64 y.f0) (.int .i64 y.f1) (.string y.f2) (.slice A' y.f3.length c') h.b1
  refine ⟨by omega, s1, (s2 _ (by omega)).trans h.b2, (s2 _ (by omega)).trans h.b3, hc, Kd.F_step hF (fun q hq _ => s2 q ?_), s3 _ _ h.below (Nat.le_refl _), hw⟩
  rcases hq with hq | hq
  · have := hok q hq; omega
  · omega
theorem BS.cells {x : S58} {w w1 : World} {ok : Nat → Prop} {k : Nat} {t : S58} {A : Option Addr} {c : Nat} (h : BS x w w1 ok k t A c) :
    w1.cell? ⟨w.heap.size, 0, none⟩ = some (.int .i64 t.f0) ∧ w1.cell? ⟨w.heap.size, 1, none⟩ = some (.int .i64 t.f1) ∧ w1.cell? ⟨w.heap.size, 2, none⟩ = some (.string t.f2) ∧ w1.cell? ⟨w.heap.size, 3, none⟩ = some (.slice A t.f3.length c) :=
  ⟨(blk_cell h.b1 0).trans rfl, (blk_cell h.b1 1).trans rfl, (blk_cell h.b1 2).trans rfl, (blk_cell h.b1 3).trans rfl⟩
theorem BS.outs {x : S58} {w w1 : World} {ok : Nat → Prop} {k : Nat} {t : S58} {A : Option Addr} {c : Nat} (h : BS x w w1 ok k t A c) :
    w1.cell? ⟨w.heap.size + 1, 0, none⟩ = some (.int .i64 0) ∧ w1.cell? ⟨w.heap.size + 1, 1, none⟩ = some (.int .i64 0) ∧ w1.cell? ⟨w.heap.size + 1, 2, none⟩ = some (.string ⟨#[]⟩) ∧ w1.cell? ⟨w.heap.size + 1, 3, none⟩ = some (.slice none 0 0) ∧ w1.cell? ⟨w.heap.size + 1 + 1, 0, none⟩ = some (.int .i64 0) ∧
    w1.frozen? ⟨w.heap.size + 1, 0, none⟩ = false ∧ w1.frozen? ⟨w.heap.size + 1, 1, none⟩ = false ∧ w1.frozen? ⟨w.heap.size + 1, 2, none⟩ = false ∧ w1.frozen? ⟨w.heap.size + 1, 3, none⟩ = false ∧ w1.frozen? ⟨w.heap.size + 1 + 1, 0, none⟩ = false :=
  ⟨(blk_cell h.b2 0).trans rfl, (blk_cell h.b2 1).trans rfl, (blk_cell h.b2 2).trans rfl, (blk_cell h.b2 3).trans rfl, (blk_cell h.b3 0).trans rfl, blk_frozen h.b2 0, blk_frozen h.b2 1, blk_frozen h.b2 2, blk_frozen h.b2 3, blk_frozen h.b3 0⟩
theorem BS.froz {x : S58} {w w1 : World} {ok : Nat → Prop} {k : Nat} {t : S58} {A : Option Addr} {c : Nat} (h : BS x w w1 ok k t A c) :
    w1.frozen? ⟨w.heap.size, 0, none⟩ = false ∧ w1.frozen? ⟨w.heap.size, 1, none⟩ = false ∧ w1.frozen? ⟨w.heap.size, 2, none⟩ = false ∧ w1.frozen? ⟨w.heap.size, 3, none⟩ = false :=
  ⟨blk_frozen h.b1 0, blk_frozen h.b1 1, blk_frozen h.b1 2, blk_frozen h.b1 3⟩
set_option maxHeartbeats 8000000 in
set_option maxRecDepth 100000 in
theorem Body_calls (x : S58) (hx : szT x ≤ 400000) (A : Option Addr) (c : Nat) (w : World) (ok : Nat → Prop) (hok : ∀ q, ok q → q < w.heap.size) (hF : Kd.F k58 w ok A x.f3.length x.f3) (hc : x.f3.length ≤ c) :
    Calls Try.prog 42 #[.agg #[.int .i64 x.f0, .int .i64 x.f1, .string x.f2, .slice A x.f3.length c]] w (BodyP x w ok) := by
  have hmf : ∀ (fn : Fn) (first cap : Array Value) (w : World), (Instr.makeFunc fn first cap).run Try.prog w = .ok (.func fn first cap) w := fun _ _ _ _ => rfl
  have hi0 : ∀ w, (Instr.index 144 (.agg #[.func (.func 75) #[] #[], .func (.func 83) #[] #[]]) (.int .i64 0)).run Try.prog w = .ok (.func (.func 75) #[] #[]) w := fun _ => by kernel_rfl
  have hi1 : ∀ w, (Instr.index 144 (.agg #[.func (.func 75) #[] #[], .func (.func 83) #[] #[]]) (.int .i64 1)).run Try.prog w = .ok (.func (.func 83) #[] #[]) w := fun _ => by kernel_rfl
  have hmi : ∀ (n : Int) (w : World), (Instr.makeInterface 30 (.int .i64 n)).run Try.prog w = .ok (.iface 30 (.int .i64 n)) w := fun n w => by kernel_rfl
  have S0 : BS x w (((w.alloc (.cells #[.int .i64 x.f0, .int .i64 x.f1, .string x.f2, .slice A x.f3.length c] 58)).alloc (.cells #[.int .i64 0, .int .i64 0, .string ⟨#[]⟩, .slice none 0 0] 58)).alloc (.cells #[.int .i64 0] 30)) ok 0 x A c := by
    have b1 := below_alloc (below_alloc (below_alloc (Below.refl w.heap.size w) (.cells #[.int .i64 x.f0, .int .i64 x.f1, .string x.f2, .slice A x.f3.length c] 58)) (.cells #[.int .i64 0, .int .i64 0, .string ⟨#[]⟩, .slice none 0 0] 58)) (.cells #[.int .i64 0] 30)
    refine ⟨by omega, blk_alloc (blk_alloc (heap_alloc_new _ _) _) _, blk_alloc ?_ _, ?_, hc, Kd.F_mono (Kd.F_below hF b1) (fun q hq => Or.inl hq), b1, Or.inl ⟨by omega, rfl, fun h => by omega⟩⟩
    · have := heap_alloc_new (w.alloc (.cells #[.int .i64 x.f0, .int .i64 x.f1, .string x.f2, .slice A x.f3.length c] 58)) (.cells #[.int .i64 0, .int .i64 0, .string ⟨#[]⟩, .slice none 0 0] 58)
      simpa using this
    · have := heap_alloc_new ((w.alloc (.cells #[.int .i64 x.f0, .int .i64 x.f1, .string x.f2, .slice A x.f3.length c] 58)).alloc (.cells #[.int .i64 0, .int .i64 0, .string ⟨#[]⟩, .slice none 0 0] 58)) (.cells #[.int .i64 0] 30)
      simpa using this
  have HS0 := Aside0.mk S0
  have Hok := Aside0.mk hok
  have Hx := Aside0.mk hx
  clear S0 hok hF hc hx
  go_enter_defers Try.func42, Try.ntmps42
  go_wp2_with fail
  generalize (((w.alloc (.cells #[.int .i64 x.f0, .int .i64 x.f1, .string x.f2, .slice A x.f3.length c] 58)).alloc (.cells #[.int .i64 0, .int .i64 0, .string ⟨#[]⟩, .slice none 0 0] 58)).alloc (.cells #[.int .i64 0] 30)) = w1 at *
  go_loopw [10] (fun i wr => ∃ (k : Nat) (t : S58) (A1 : Option Addr) (c1 : Nat), i = .int .i64 k ∧ Aside0 (BS x w wr ok k t A1 c1)) (fun i _ => 2 - (intOf i).toNat)
  case atStart => exact ⟨0, x, A, c, rfl, HS0⟩
  case round =>
    clear HS0
    obtain ⟨k, t, A1, c1, rfl, S⟩ := hrel
    obtain ⟨c10, c11, c12, c13⟩ := S.out.cells
    have hwhat := S.out.what
    have hk2 := S.out.le
    rcases (show k = 0 ∨ k = 1 ∨ k = 2 by omega) with rfl | rfl | rfl
    · obtain rfl : t = x := by
        rcases hwhat with h | h
        · exact h.2.1
        · omega
      clear hwhat hk2
      by_cases he : chk t = 0
      · have HE := Aside0.mk he
        clear he
        go_wp2_with (go_at_call 74; refine (chk_calls t (by have := Hx.out; omega) A1 c1 _ (Kd.F_now S.out.F)).mono ?_; rw [HE.out]; rintro e w2 ⟨rfl, hb⟩; have S2 := Aside0.mk (S.out.step hb); clear hb; obtain ⟨c20, c21, c22, c23⟩ := S2.out.cells)
        clear c10 c11 c12 c13
        refine (own_calls 1000000 (by omega) t (by have := Hx.out; omega) A1 c1 _ (Kd.F_now S2.out.F) S2.out.hc).mono ?_
        rintro e w3 ⟨A3, c3, rfl, hl3, hF3, hb3⟩
        have S3 := Aside0.mk (S2.out.step hb3)
        have hsz := S2.out.b3
        have F3 := Aside0.mk (Kd.F_mono hF3 (ok' := fun q => ok q ∨ w.heap.size + 3 ≤ q) (fun q hq => Or.inr (by have := blk_lt hsz; omega)))
        have Hl3 := Aside0.mk hl3
        clear hl3 hF3 hb3 hsz c20 c21 c22 c23
        obtain ⟨c30, c31, c32, c33⟩ := S3.out.cells
        obtain ⟨z30, z31, z32, z33⟩ := S3.out.froz
        go_wp2_with fail
        have S4 := Aside0.mk (S3.out.set Hok.out Hl3.out F3.out (Or.inl ⟨by omega, rfl, fun _ => HE.out⟩))
        clear c30 c31 c32 c33 z30 z31 z32 z33
        go_roundw
        case rel => exact ⟨1, t, A3, c3, rfl, S4⟩
        case measure => simp [intOf]
      · have HR : Aside0 (bodyR t = (chk t, z58)) := ⟨by unfold bodyR; rw [if_neg he]⟩
        obtain ⟨er, hE⟩ : ∃ er, chk t = er := ⟨_, rfl⟩
        have HE := Aside0.mk hE
        rw [hE] at HR he
        have he2 : (er == 0) = false := by simpa using he
        have he3 : (er != 0) = true := by simpa using he
        clear hE he
        go_wp2_with (go_at_call 74; refine (chk_calls t (by have := Hx.out; omega) A1 c1 _ (Kd.F_now S.out.F)).mono ?_; rw [HE.out]; rintro e w2 ⟨rfl, hb⟩; have S2 := Aside0.mk (S.out.step hb); clear hb; obtain ⟨c20, c21, c22, c23⟩ := S2.out.cells)
        exact leaves_err (k := 0) (t := t) (A := A1) (c := c1) t w w2 ok er _ rfl rfl S2.out.b2 S2.out.b3 S2.out.below HR.out
    · obtain ⟨rfl, he⟩ : t = x ∧ chk x = 0 := by
        rcases hwhat with h | h
        · exact ⟨h.2.1, h.2.2 rfl⟩
        · omega
      clear hwhat hk2
      have HE := Aside0.mk he
      clear he
      go_wp2_with (go_at_call 74; refine (chk_calls t (by have := Hx.out; omega) A1 c1 _ (Kd.F_now S.out.F)).mono ?_; rw [HE.out]; rintro e w2 ⟨rfl, hb⟩; have S2 := Aside0.mk (S.out.step hb); clear hb; obtain ⟨c20, c21, c22, c23⟩ := S2.out.cells)
      clear c10 c11 c12 c13
      refine (body_calls (szT t) (by have := Hx.out; omega) t A1 c1 _ _ S2.out.F S2.out.hc (Nat.le_refl _)).mono ?_
      rintro e w3 ⟨hb3, hm3⟩
      have S3 := Aside0.mk (S2.out.step hb3)
      cases hB : bodyN (szT t) t with
      | none =>
        rw [hB] at hm3
        subst hm3
        have HR : Aside0 (bodyR t = (13, z58)) := ⟨by unfold bodyR; rw [if_pos HE.out, hB]⟩
        go_wp2_with fail
        exact leaves_err (k := 0) (t := t) (A := A1) (c := c1) t w w3 ok 13 _ rfl rfl S3.out.b2 S3.out.b3 S3.out.below HR.out
      | some y =>
        rw [hB] at hm3
        obtain ⟨A3, c3, rfl, hl3, hF3⟩ := hm3
        have hsz := S2.out.b3
        have F3 := Aside0.mk (Kd.F_mono hF3 (ok' := fun q => ok q ∨ w.heap.size + 3 ≤ q) (fun q hq => hq.elim id (fun h => Or.inr (by have := blk_lt hsz; omega))))
        have Hl3 := Aside0.mk hl3
        have HB := Aside0.mk hB
        clear hl3 hF3 hb3 hsz c20 c21 c22 c23 hB
        obtain ⟨c30, c31, c32, c33⟩ := S3.out.cells
        obtain ⟨z30, z31, z32, z33⟩ := S3.out.froz
        go_wp2_with fail
        have S4 := Aside0.mk (S3.out.set Hok.out Hl3.out F3.out (Or.inr ⟨rfl, HE.out, HB.out⟩))
        clear c30 c31 c32 c33 z30 z31 z32 z33
        go_roundw
        case rel => exact ⟨2, y, A3, c3, rfl, S4⟩
        case measure => simp [intOf]
    · obtain ⟨he, hB⟩ : chk x = 0 ∧ bodyN (szT x) x = some t := by
        rcases hwhat with h | h
        · omega
        · exact h.2
      clear hwhat hk2
      have hszt := bodyN_sz _ _ _ hB
      have Hx2 : Aside0 (szT t ≤ 1000000) := ⟨by have := Hx.out; omega⟩
      clear hszt
      by_cases ht : chk t = 0
      · have HR : Aside0 (bodyR x = (0, t)) := ⟨by unfold bodyR; rw [if_pos he, hB]; simp only; rw [if_pos ht]⟩
        have HE := Aside0.mk ht
        clear ht he hB
        go_wp2_with (go_at_call 74; refine (chk_calls t Hx2.out A1 c1 _ (Kd.F_now S.out.F)).mono ?_; rw [HE.out]; rintro e w2 ⟨rfl, hb⟩; have S2 := Aside0.mk (S.out.step hb); clear hb; obtain ⟨c20, c21, c22, c23⟩ := S2.out.cells; obtain ⟨u0, u1, u2, u3, v0, z0, z1, z2, z3, y0⟩ := S2.out.outs)
        have B2 := Aside0.mk S2.out.b2
        have B3 := Aside0.mk S2.out.b3
        obtain ⟨s1, s2, s3⟩ := set4 (.int .i64 t.f0) (.int .i64 t.f1) (.string t.f2) (.slice A1 t.f3.length c1) B2.out
        refine leaves_ok x w _ ok (y := t) (A := A1) (c := c1) _ ?t2 ?t3 ?tb2 ?tb3 ?tb ?tc ?tF HR.out
        case t2 => rfl
        case t3 => rfl
        case tb2 => exact (Below.heap_setCell _ ⟨w.heap.size + 1 + 1, 0, none⟩ _ _ (by simp)).trans s1
        case tb3 => exact blk_put (cs := #[.int .i64 0]) ((s2 _ (by omega)).trans B3.out) 0 _ rfl
        case tb => exact (s3 _ _ S2.out.below (by omega)).setCell (p := ⟨w.heap.size + 1 + 1, 0, none⟩) (by simp only; omega) _
        case tc => exact S2.out.hc
        refine Kd.F_mono (Kd.F_step (Kd.F_step S2.out.F (W1 := _) (fun q hq _ => s2 q ?_)) (fun q hq _ => Below.heap_setCell _ ⟨w.heap.size + 1 + 1, 0, none⟩ _ q ?_)) (fun q hq => hq.imp id (fun h => by omega))
        · rcases hq with hq | hq
          · have := Hok.out q hq; omega
          · omega
        · rcases hq with hq | hq
          · have := Hok.out q hq; simp only; omega
          · simp only; omega
      · have HR : Aside0 (bodyR x = (chk t, z58)) := ⟨by unfold bodyR; rw [if_pos he, hB]; simp only; rw [if_neg ht]⟩
        obtain ⟨er, hE⟩ : ∃ er, chk t = er := ⟨_, rfl⟩
        have HE := Aside0.mk hE
        rw [hE] at HR ht
        have he2 : (er == 0) = false := by simpa using ht
        have he3 : (er != 0) = true := by simpa using ht
        clear hE ht he hB
        go_wp2_with (go_at_call 74; refine (chk_calls t Hx2.out A1 c1 _ (Kd.F_now S.out.F)).mono ?_; rw [HE.out]; rintro e w2 ⟨rfl, hb⟩; have S2 := Aside0.mk (S.out.step hb); clear hb; obtain ⟨c20, c21, c22, c23⟩ := S2.out.cells; obtain ⟨u0, u1, u2, u3, v0, z0, z1, z2, z3, y0⟩ := S2.out.outs)
        exact leaves_err (k := 0) (t := t) (A := A1) (c := c1) x w w2 ok er _ rfl rfl S2.out.b2 S2.out.b3 S2.out.below HR.out
end Go.Proofs.Ythdnaliahdohhaa.H
