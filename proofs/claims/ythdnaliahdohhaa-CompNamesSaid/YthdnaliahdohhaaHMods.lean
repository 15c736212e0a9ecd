/- What a step of the program writes: all but the blocks of S are as they were. -/
import Derived.Test.YthdnaliahdohhaaHMap
import Derived.Test.YthdnaliahdohhaaWMore
namespace Go.Proofs.Ythdnaliahdohhaa.Map
open Go.RowKit Go.Proofs.YthdnaliahdohhaaW.PrintWords Go.Proofs.YthdnaliahdohhaaW.PrintLast Go.Proofs.YthdnaliahdohhaaW.PrintMore
set_option linter.unusedVariables false
/-- of w's blocks none but those of S has turned -/
structure Mods (S : Nat → Prop) (w w' : World) : Prop where
  os : w'.os = w.os
  tape : w'.tape = w.tape
  output : w'.output = w.output
  size : w.heap.size ≤ w'.heap.size
  block : ∀ k, k < w.heap.size → ¬ S k → w'.heap[k]? = w.heap[k]?
section
variable {S S' : Nat → Prop} {w w1 w2 : World}
theorem Mods.refl (S : Nat → Prop) (w : World) : Mods S w w := ⟨rfl, rfl, rfl, Nat.le_refl _, fun _ _ _ => rfl⟩
/-- what the second step writes: what the first may, or what is new -/
theorem Mods.then (h : Mods S w w1) (k : Mods S' w1 w2) (hs : ∀ k, S' k → S k ∨ w.heap.size ≤ k) : Mods S w w2 :=
  ⟨k.os.trans h.os, k.tape.trans h.tape, k.output.trans h.output, Nat.le_trans h.size k.size, fun i hi hn => (k.block i (Nat.lt_of_lt_of_le hi h.size) (fun h2 => (hs i h2).elim hn (fun h3 => by omega))).trans (h.block i hi hn)⟩
theorem Mods.mono (h : Mods S w w1) (hs : ∀ k, S k → S' k ∨ w.heap.size ≤ k) : Mods S' w w1 := ⟨h.os, h.tape, h.output, h.size, fun i hi hn => h.block i hi (fun h2 => (hs i h2).elim hn (fun h3 => by omega))⟩
theorem Mods.of_below (S : Nat → Prop) (h : Below w.heap.size w w1) : Mods S w w1 := ⟨h.os, h.tape, h.output, h.size, fun i hi _ => h.block i hi⟩
theorem Mods.below (h : Mods S w w1) {B : Nat} (hB : B ≤ w.heap.size) (hs : ∀ k, S k → B ≤ k) : Below B w w1 := ⟨h.os, h.tape, h.output, h.size, fun k hk => h.block k (by omega) (fun h2 => by have := hs k h2; omega)⟩
theorem Mods.to_below (h : Mods (fun _ => False) w w1) : Below w.heap.size w w1 := h.below (Nat.le_refl _) (fun _ h => h.elim)
theorem Mods.of_grown {row : Option Nat} (h : w.grownBy w1 row) : Mods (fun k => row = some k) w w1 := ⟨h.os, h.tape, h.output, h.size, fun k hk hn => h.block k hk (fun e => hn e.symm)⟩
theorem Mods.of_map {b : Nat} (h : w.mapTurned w1 b) : Mods (fun k => k = b) w w1 := (Mods.of_grown h.grown).mono (fun k hk => .inl (by injection hk with hk; exact hk.symm))
theorem Mods.of_cell (w : World) (p : Addr) (u : Value) : Mods (fun k => k = p.block) w (w.setCell p u) := ⟨rfl, rfl, rfl, by simp [World.setCell], fun k _ hn => Below.heap_setCell w p u k hn⟩
theorem Mods.of_alloc (S : Nat → Prop) (w : World) (o : Obj) : Mods S w (w.alloc o) := Mods.of_below S (below_alloc (Below.refl _ _) o)
theorem Mods.of_drew (S : Nat → Prop) (w : World) : Mods S w w.drew := Mods.of_below S (below_drew (Below.refl _ _))
theorem Mods.blk (h : Mods S w w1) {g : Nat} {o : Obj} (hb : w.heap[g]? = some o) (hn : ¬ S g) : w1.heap[g]? = some o := (h.block g (blk_lt hb) hn).trans hb
/-- an old world's rows -/
theorem Mods.under {B : Nat} {w0 : World} (h : Mods S w w1) (hb : Below B w0 w) (hB : B ≤ w0.heap.size) (hs : ∀ k, S k → B ≤ k) : Below B w0 w1 := hb.trans (h.below (Nat.le_trans hB hb.size) hs)
theorem Is.mods {K V : Type} [DecidableEq K] {encK : K → Value} {encV : V → Value} {b : Nat} {L : List (K × V)} (h : Is encK encV w b L) (hm : Mods S w w1) (hn : ¬ S b) : Is encK encV w1 b L := h.kept (hm.block b h.lt hn)
theorem Is.ne_cells {K V : Type} [DecidableEq K] {encK : K → Value} {encV : V → Value} {b g : Nat} {L : List (K × V)} {cs : Array Value} {t : TypeId} {x : Nat × Nat} (h : Is encK encV w b L) (hg : w.heap[g]? = some (.cells cs t x)) : g ≠ b := by
  rintro rfl
  obtain ⟨es, clock, hb, _⟩ := h
  rw [hg] at hb
  cases hb
end
end Go.Proofs.Ythdnaliahdohhaa.Map
