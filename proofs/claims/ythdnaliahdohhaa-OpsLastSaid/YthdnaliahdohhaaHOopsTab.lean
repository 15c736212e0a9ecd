/- The table of operators (ops): what its functions do, over the list of its entries. -/
import Derived.Test.YthdnaliahdohhaaOx1
import Derived.Test.YthdnaliahdohhaaHMap
import Derived.WalkLawsBesides
import Derived.Deep.RegionHeld3
import Derived.Laws.EntriesVeiled
import Derived.Deep.WholeRow
namespace Go.Proofs.Ythdnaliahdohhaa.O
open Go.RowKit Go.Proofs.YthdnaliahdohhaaW.PrintWords Go.Proofs.YthdnaliahdohhaaW.PrintLast Go.Proofs.YthdnaliahdohhaaW.PrintMore Go.Proofs.Ythdnaliahdohhaa.Map
attribute [local go_sem] max2_int min2_int max_two min_two max_three min_three max_four min_four
set_option linter.unusedVariables false
set_option linter.unusedSimpArgs false
theorem opsKey : KeyLaw Try.prog 124 encSI := structLaw (by kernel_rfl) (by kernel_rfl) (by kernel_rfl) (fun em w s n => by kernel_rfl)
/-- an operator: priority, type, name -/
structure Od where
  pri : Int
  typ : Int
  name : ByteArray
def encD (d : Od) : Value := .agg #[.int .i64 d.pri, .int .i64 d.typ, .string d.name]
abbrev OL := List ((ByteArray × Int) × Od)
def zD : Od := ⟨0, 0, ⟨#[]⟩⟩
theorem zeroD (w : World) : (zeroValue 126).run Try.prog w = .ok (encD zD) w := by kernel_rfl
/-- the table at block b, its map in block m -/
structure Tab (w : World) (b m : Nat) (L : OL) : Prop where
  box : w.heap[b]? = some (.cells #[.map (some m)] 122 (0,0))
  map : Is encSI encD w m L
theorem Tab.kept {w w' : World} {b m : Nat} {L : OL} (h : Tab w b m L) (hb : Below w.heap.size w w') : Tab w' b m L :=
  ⟨(hb.block b (Array.getElem?_eq_some_iff.1 h.box).1).trans h.box, h.map.kept (hb.block m h.map.lt)⟩
theorem getD_enc (o : Option Od) {d : Od} (h : o.getD zD = d) : (o.map encD).getD (encD zD) = encD d := by subst h; cases o <;> rfl
theorem Tab.cell_kept {w w' : World} {b m : Nat} {L : OL} (h : Tab w b m L) (hb : Below w.heap.size w w') : w'.cell? ⟨b, 0, none⟩ = some (.map (some m)) := (blk_cell (h.kept hb).box 0).trans rfl
theorem keep1 {w w1 w2 : World} {p : Addr} {v : Value} {g : Nat} {o : Obj} (hb : Below w1.heap.size w1 w2) (h : w1.cell? p = some v ∧ w1.heap[g]? = some o ∧ Below w.heap.size w w1) : w2.cell? p = some v ∧ w2.heap[g]? = some o ∧ Below w.heap.size w w2 :=
  ⟨pw_cell_below hb h.1, blk_below h.2.1 hb, below_step h.2.2 hb⟩
theorem keep1a {w w1 : World} {p : Addr} {v : Value} {g : Nat} {o : Obj} (o' : Obj) (h : w1.cell? p = some v ∧ w1.heap[g]? = some o ∧ Below w.heap.size w w1) : (w1.alloc o').cell? p = some v ∧ (w1.alloc o').heap[g]? = some o ∧ Below w.heap.size w (w1.alloc o') :=
  keep1 (below_alloc (Below.refl _ _) _) h
theorem keep1d {w w1 : World} {p : Addr} {v : Value} {g : Nat} {o : Obj} (h : w1.cell? p = some v ∧ w1.heap[g]? = some o ∧ Below w.heap.size w w1) : w1.drew.cell? p = some v ∧ w1.drew.heap[g]? = some o ∧ Below w.heap.size w w1.drew := ⟨h.1, h.2.1, h.2.2.drew⟩
theorem keep1s {w w1 : World} {i : Nat} {v : Value} {g g2 j : Nat} {o : Obj} {x : Value} (hne : g ≠ g2) (hg : w.heap.size ≤ g2) (h : w1.cell? ⟨g, i, none⟩ = some v ∧ w1.heap[g]? = some o ∧ Below w.heap.size w w1) : (w1.setCell ⟨g2, j, none⟩ x).cell? ⟨g, i, none⟩ = some v ∧ (w1.setCell ⟨g2, j, none⟩ x).heap[g]? = some o ∧ Below w.heap.size w (w1.setCell ⟨g2, j, none⟩ x) :=
  ⟨(World.cell?_of_block (w := w1) (Below.heap_setCell w1 _ _ g hne)).trans h.1, (Below.heap_setCell w1 _ _ g hne).trans h.2.1, h.2.2.setCell hg _⟩
set_option maxHeartbeats 8000000 in
set_option maxRecDepth 100000 in
theorem has_calls {b m : Nat} {L : OL} (s : ByteArray) (n : Int) (w : World) (h : Tab w b m L) :
    Calls Try.prog 71 #[.pointer (some ⟨b, 0, none⟩), .string s, .int .i64 n] w fun e w' => e = .returned (.bool (lookK (s, n) L).isSome) ∧ Below w.heap.size w w' := by
  have c0 : w.cell? ⟨b, 0, none⟩ = some (.map (some m)) := (blk_cell h.box 0).trans rfl
  have HM := Aside0.mk h.map
  clear h
  obtain ⟨⟨p, q, z⟩, hd⟩ : ∃ d, (lookK (s, n) L).getD zD = d := ⟨_, rfl⟩
  have HD := Aside0.mk (getD_enc _ hd)
  clear hd
  go_enter Try.func71, Try.ntmps71
  go_wp2_with (at_lookup; refine wp_look_ok _ rfl _ _ 120 rfl 124 126 opsKey (by kernel_rfl) (zeroD _) rfl HM.out (s, n) rfl (.agg #[.int .i64 p, .int .i64 q, .string z]) HD.out _ rfl ?_)
  go_ret
  exact ⟨rfl, below_alloc (Below.refl _ _) _⟩
def shapesV : Array Value := #[.int .i64 0, .int .i64 0, .int .i64 0, .int .i64 1, .int .i64 1, .int .i64 1, .int .i64 1, .int .i64 1, .int .i64 0, .int .i64 1, .int .i64 0, .int .i64 1, .int .i64 0, .int .i64 0, .int .i64 1, .int .i64 0, .int .i64 0, .int .i64 0, .int .i64 2, .int .i64 1, .int .i64 0, .int .i64 2, .int .i64 0, .int .i64 0]
def shapesZ : Array Value := #[.int .i64 0, .int .i64 0, .int .i64 0, .int .i64 0, .int .i64 0, .int .i64 0, .int .i64 0, .int .i64 0, .int .i64 0, .int .i64 0, .int .i64 0, .int .i64 0, .int .i64 0, .int .i64 0, .int .i64 0, .int .i64 0, .int .i64 0, .int .i64 0, .int .i64 0, .int .i64 0, .int .i64 0, .int .i64 0, .int .i64 0, .int .i64 0]
set_option maxHeartbeats 8000000 in
set_option maxRecDepth 100000 in
theorem shapes_calls (w : World) : Calls Try.prog 70 #[] w fun e w' => e = .returned (.agg shapesV) ∧ Below w.heap.size w w' := by
  have hst := run_storeAt_new (P := Try.prog) w 118 shapesZ shapesV (by kernel_rfl) rfl (by kernel_rfl)
  go_enter Try.func70, Try.ntmps70
  go_wp2_with (first | ((with_reducible refine wp_build 118 (.agg shapesV) ?_ ?_); kernel_rfl) | (with_reducible refine wp_save 118 hst rfl rfl ?_))
  refine bodyPost_ret (results_cell_row rfl _ _ w.heap.size 118 shapesV (0, 0) _ rfl (heap_alloc_new w _) Try.underlying118 rfl (by kernel_rfl)) rfl ?_
  exact ⟨rfl, below_alloc (Below.refl _ _) _⟩
def leftT (t : Int) : Int := if t = 1 then 1 else if t = 2 then 1 else if t = 6 then 1 else 0
def rightT (t : Int) : Int := if t = 1 then 1 else if t = 3 then 1 else if t = 4 then 1 else 0
def sortT (t : Int) : Int := if t ≤ 3 then 1 else if t ≤ 5 then 0 else 2
/-- an operator as such ones are: its type is one of the seven, its priority one that may be -/
def OkD (d : Od) : Prop := 1 ≤ d.typ ∧ d.typ ≤ 7 ∧ 0 ≤ d.pri ∧ d.pri ≤ 1200
def sidesV : Option Od → Int × Int × Int
  | none => (0, 0, 0)
  | some d => (d.pri, d.pri - leftT d.typ, d.pri - rightT d.typ)
set_option maxHeartbeats 8000000 in
set_option maxRecDepth 100000 in
theorem sides_none {b m : Nat} {L : OL} (s : ByteArray) (n : Int) (w : World) (h : Tab w b m L) (hl : lookK (s, n) L = none) :
    Calls Try.prog 68 #[.pointer (some ⟨b, 0, none⟩), .string s, .int .i64 n] w fun e w' => e = .returned (.tuple #[.int .i64 0, .int .i64 0, .int .i64 0]) ∧ Below w.heap.size w w' := by
  have HM := Aside0.mk h
  have hi : (lookK (s, n) L).isSome = false := by rw [hl]; rfl
  clear h hl
  go_enter Try.func68, Try.ntmps68
  go_wp2_with (go_at_call 71; refine (has_calls s n _ HM.out).mono ?_; rintro e w2 ⟨rfl, hb⟩)
  go_ret3
  exact ⟨rfl, hb⟩
set_option maxHeartbeats 8000000 in
set_option maxRecDepth 100000 in
theorem sides_some {b m : Nat} {L : OL} (s : ByteArray) (n : Int) (w : World) (h : Tab w b m L) (d : Od) (hl : lookK (s, n) L = some d) (hd : OkD d) :
    Calls Try.prog 68 #[.pointer (some ⟨b, 0, none⟩), .string s, .int .i64 n] w fun e w' => e = .returned (.tuple #[.int .i64 d.pri, .int .i64 (d.pri - leftT d.typ), .int .i64 (d.pri - rightT d.typ)]) ∧ Below w.heap.size w w' := by
  have HM := Aside0.mk h
  have hi : (lookK (s, n) L).isSome = true := by rw [hl]; rfl
  obtain ⟨p, q, z⟩ := d
  obtain ⟨h1, h7, p0, p1⟩ := hd
  simp only at h1 h7 p0 p1
  have HD := Aside0.mk (show ((lookK (s, n) L).map encD).getD (encD zD) = .agg #[.int .i64 p, .int .i64 q, .string z] by rw [hl]; rfl)
  clear h hl
  have HIX : ∀ w', (Instr.index 118 (.agg shapesV) (.int .i64 q)).run Try.prog w' = .ok (.agg #[.int .i64 (sortT q), .int .i64 (leftT q), .int .i64 (rightT q)]) w' := by
    intro w'
    obtain rfl | rfl | rfl | rfl | rfl | rfl | rfl : q = 1 ∨ q = 2 ∨ q = 3 ∨ q = 4 ∨ q = 5 ∨ q = 6 ∨ q = 7 := by omega
    all_goals kernel_rfl
  have hL : 0 ≤ leftT q ∧ leftT q ≤ 1 := by unfold leftT; (repeat' split) <;> omega
  have hR : 0 ≤ rightT q ∧ rightT q ≤ 1 := by unfold rightT; (repeat' split) <;> omega
  generalize leftT q = lq at *
  generalize rightT q = rq at *
  generalize sortT q = sq at *
  obtain ⟨l0, l1⟩ := hL
  obtain ⟨r0, r1⟩ := hR
  have e1 : wrap64 (p - lq) = p - lq := by unfold wrap64; omega
  have e2 : wrap64 (p - rq) = p - rq := by unfold wrap64; omega
  go_enter Try.func68, Try.ntmps68
  go_wp2_with (first | (go_at_call 71; refine (has_calls s n _ HM.out).mono ?_; rintro e w2 ⟨rfl, hb⟩; have c2 := HM.out.cell_kept hb) | (at_lookup; refine wp_look _ rfl _ _ 120 rfl 124 126 opsKey (by kernel_rfl) (zeroD _) rfl (HM.out.kept hb).map (s, n) rfl (.agg #[.int .i64 p, .int .i64 q, .string z]) HD.out ?_))
  have bw := below_alloc hb (.cells #[.int .i64 p, .int .i64 q, .string z] 126)
  have bk : (w2.alloc (.cells #[.int .i64 p, .int .i64 q, .string z] 126)).heap[w2.heap.size]? = some (.cells #[.int .i64 p, .int .i64 q, .string z] 126 (0,0)) := heap_alloc_new _ _
  generalize w2.heap.size = g at *
  generalize (w2.alloc (.cells #[.int .i64 p, .int .i64 q, .string z] 126)) = w3 at *
  have c3 : w3.cell? ⟨g, 1, none⟩ = some (.int .i64 q) := (blk_cell bk 1).trans rfl
  clear c2 h1 h7
  have hne : g ≠ w3.heap.size := by have := blk_lt bk; omega
  have hge := bw.size
  go_region_held3 (fun w' => w'.cell? ⟨g, 1, none⟩ = some (.int .i64 q) ∧ w'.heap[g]? = some (.cells #[.int .i64 p, .int .i64 q, .string z] 126 (0,0)) ∧ Below w.heap.size w w') (first | exact S4 | exact keep1a _ S4 | exact keep1s hne hge (keep1s hne hge (keep1s hne hge S4)) | exact ⟨c3, bk, bw.drew⟩ | exact ⟨c3, bk, bw⟩ | exact keep1a _ ⟨c3, bk, bw.drew⟩ | exact keep1d (keep1a _ ⟨c3, bk, bw⟩)) (first | (go_at_call 70; refine (shapes_calls _).mono ?_; rintro e w4 ⟨rfl, hb4⟩; have S4 := keep1 hb4 (by first | assumption | exact ⟨c3, bk, bw.drew⟩); try have zb := blk_below (blk_drew (heap_alloc_new w3 _)) hb4; try have z0 : w4.cell? ⟨w3.heap.size, 0, none⟩ = some (.int .i64 0) := (blk_cell zb 0).trans rfl; try have z1 : w4.cell? ⟨w3.heap.size, 1, none⟩ = some (.int .i64 0) := (blk_cell zb 1).trans rfl; try have z2 : w4.cell? ⟨w3.heap.size, 2, none⟩ = some (.int .i64 0) := (blk_cell zb 2).trans rfl; try have f0 := blk_frozen zb 0; try have f1 := blk_frozen zb 1; try have f2 := blk_frozen zb 2))
  all_goals first
  | (
    have hs : (w4.alloc (.cells #[.int .i64 sq, .int .i64 lq, .int .i64 rq] 117)).heap[w4.heap.size]? = some (.cells #[.int .i64 sq, .int .i64 lq, .int .i64 rq] 117 (0,0)) := heap_alloc_new _ _
    obtain ⟨k1, k2, k3⟩ := keep1a (.cells #[.int .i64 sq, .int .i64 lq, .int .i64 rq] 117) S4
    generalize w4.heap.size = h at *
    generalize (w4.alloc (.cells #[.int .i64 sq, .int .i64 lq, .int .i64 rq] 117)) = w5 at *
    have d0 : w5.cell? ⟨g, 0, none⟩ = some (.int .i64 p) := (blk_cell k2 0).trans rfl
    have s1 : w5.cell? ⟨h, 1, none⟩ = some (.int .i64 lq) := (blk_cell hs 1).trans rfl
    have s2 : w5.cell? ⟨h, 2, none⟩ = some (.int .i64 rq) := (blk_cell hs 2).trans rfl
    clear k1 k2 hs S4
    go_wp2_with fail
    go_quiet (fail)
    go_wp2_with fail
    go_ret3
    exact ⟨by first | rfl | (simp only [IntKind.wrap, e1, e2]; rfl), by first | exact k3 | exact pw_below_drewN k3 _⟩
    done)
  | (
    have hs : (((w4.setCell ⟨w3.heap.size, 0, none⟩ (.int .i64 sq)).setCell ⟨w3.heap.size, 1, none⟩ (.int .i64 lq)).setCell ⟨w3.heap.size, 2, none⟩ (.int .i64 rq)).heap[w3.heap.size]? = some (.cells #[.int .i64 sq, .int .i64 lq, .int .i64 rq] 117 (0,0)) := by
      refine blk_put (cs := #[.int .i64 sq, .int .i64 lq, .int .i64 0]) ?_ 2 _ rfl
      refine blk_put (cs := #[.int .i64 sq, .int .i64 0, .int .i64 0]) ?_ 1 _ rfl
      exact blk_put (cs := #[.int .i64 0, .int .i64 0, .int .i64 0]) zb 0 _ rfl
    obtain ⟨k1, k2, k3⟩ := keep1s (j := 2) (x := .int .i64 rq) hne hge (keep1s (j := 1) (x := .int .i64 lq) hne hge (keep1s (j := 0) (x := .int .i64 sq) hne hge S4))
    generalize (((w4.setCell ⟨w3.heap.size, 0, none⟩ (.int .i64 sq)).setCell ⟨w3.heap.size, 1, none⟩ (.int .i64 lq)).setCell ⟨w3.heap.size, 2, none⟩ (.int .i64 rq)) = w5 at *
    clear zb z0 z1 z2 f0 f1 f2
    generalize w3.heap.size = h at *
    have d0 : w5.cell? ⟨g, 0, none⟩ = some (.int .i64 p) := (blk_cell k2 0).trans rfl
    have s1 : w5.cell? ⟨h, 1, none⟩ = some (.int .i64 lq) := (blk_cell hs 1).trans rfl
    have s2 : w5.cell? ⟨h, 2, none⟩ = some (.int .i64 rq) := (blk_cell hs 2).trans rfl
    clear k1 k2 hs S4
    go_wp2_with fail
    go_quiet (fail)
    go_wp2_with fail
    go_ret3
    exact ⟨by first | rfl | (simp only [IntKind.wrap, e1, e2]; rfl), by first | exact k3 | exact pw_below_drewN k3 _⟩
    done)
end Go.Proofs.Ythdnaliahdohhaa.O
