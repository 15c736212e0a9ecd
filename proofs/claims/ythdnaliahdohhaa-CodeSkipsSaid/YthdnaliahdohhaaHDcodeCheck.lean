/- code.Check answers what the plain function chkv says, whatever the code: the walk. -/
import Derived.Test.YthdnaliahdohhaaHDcodeSkip
import Derived.WalkLawsBesides
import Derived.Deep.RegionHeld3
import Derived.Laws.EntriesVeiled
namespace Go.Proofs.Ythdnaliahdohhaa.D
open Go.RowKit Go.Proofs.YthdnaliahdohhaaW.PrintWords Go.Proofs.YthdnaliahdohhaaW.PrintLast Go.Proofs.YthdnaliahdohhaaW.PrintMore
attribute [local go_sem] max2_int min2_int max_two min_two max_three min_three max_four min_four
set_option linter.unusedVariables false
set_option linter.unusedSimpArgs false

def skips (l : List S39) : Nat → Int → Int
  | 0, i => i
  | n + 1, i => if skp l i < 0 then -1 else skips l n (skp l i)
theorem skips_neg (l : List S39) : ∀ (n : Nat) (p : Int), 0 < n → skp l p < 0 → skips l n p = -1
  | n + 1, p, _, h => by simp only [skips]; rw [if_pos h]
theorem skips_next (l : List S39) (n : Nat) (p : Int) (h : ¬ skp l p < 0) : skips l (n + 1) p = skips l n (skp l p) := by simp only [skips]; rw [if_neg h]
def stepI (s : Int) : S39 → Option (Bool × Int)
  | ⟨1, b, c, d⟩ => code_checker_any.f s 1 b c d
  | ⟨2, b, c, d⟩ => code_checker_first.f s 2 b c d
  | ⟨3, b, c, d⟩ => code_checker_again.f s 3 b c d
  | ⟨4, b, c, d⟩ => code_checker_num.f s 4 b c d
  | ⟨5, b, c, d⟩ => code_checker_name.f s 5 b c d
  | ⟨6, b, c, d⟩ => code_checker_comp.f s 6 b c d
  | _ => some (false, s)
theorem stepI_some (s : Int) (i : S39) : ∃ b s', stepI s i = some (b, s') := by
  unfold stepI
  split
  · exact ⟨_, _, rfl⟩
  · exact ⟨_, _, rfl⟩
  · unfold code_checker_again.f; (repeat' split) <;> exact ⟨_, _, rfl⟩
  · exact ⟨_, _, rfl⟩
  · unfold code_checker_name.f; (repeat' split) <;> exact ⟨_, _, rfl⟩
  · unfold code_checker_comp.f; (repeat' split) <;> exact ⟨_, _, rfl⟩
  · exact ⟨_, _, rfl⟩
def runI : List S39 → Int → Option Int
  | [], s => some s
  | i :: l, s => match stepI s i with
    | some (true, s') => runI l s'
    | _ => none
theorem runI_drop (l : List S39) (k : Nat) (hk : k < l.length) (s : Int) : runI (l.drop k) s = match stepI s (rd_T39 l k) with | some (true, s') => runI (l.drop (k + 1)) s' | _ => none := by
  rw [List.drop_eq_getElem_cons hk]
  simp only [runI, rd_T39, Int.toNat_natCast, List.getD_eq_getElem?_getD, List.getElem?_eq_getElem hk, Option.getD_some]
theorem rd_mem (l : List S39) (k : Nat) (hk : k < l.length) : rd_T39 l k ∈ l := by
  simp only [rd_T39, Int.toNat_natCast, List.getD_eq_getElem?_getD, List.getElem?_eq_getElem hk, Option.getD_some, List.getElem_mem]
def chkv (name : ByteArray) (args slots body : Int) (l : List S39) : Int :=
  if 20000 < l.length then 3 else
  if args < 0 ∨ 255 < args ∨ 1000 < name.size then 2 else
  if skips l args.toNat 0 = body ∧ 0 ≤ body ∧ skp l body = l.length then
    match runI l 0 with
    | some s => if s = slots then 0 else 2
    | none => 2
  else 2
theorem skips_ge (l : List S39) : ∀ (n : Nat) (p : Int), 0 ≤ p → skips l n p = -1 ∨ 0 ≤ skips l n p
  | 0, p, h => .inr h
  | n + 1, p, h => by
    simp only [skips]
    split
    · exact .inl rfl
    · exact skips_ge l n _ (by omega)
theorem chkv_main (name : ByteArray) (args slots body : Int) (l : List S39) (h : ¬ 20000 < l.length) (h2 : 0 ≤ args ∧ args ≤ 255 ∧ name.size ≤ 1000) :
    (skips l args.toNat 0 = -1 → chkv name args slots body l = 2) ∧ (¬ (skips l args.toNat 0 = body ∧ skp l (skips l args.toNat 0) = l.length) → chkv name args slots body l = 2) ∧
    (skips l args.toNat 0 = body → skp l (skips l args.toNat 0) = l.length → chkv name args slots body l = match runI l 0 with | some s => if s = slots then 0 else 2 | none => 2) := by
  unfold chkv
  rw [if_neg h, if_neg (by omega)]
  refine ⟨fun h1 => ?_, fun h1 => ?_, fun h1 h3 => ?_⟩
  · rw [if_neg (by omega)]
  · rw [if_neg (by rintro ⟨rfl, _, h3⟩; exact h1 ⟨rfl, h3⟩)]
  · have h0 : 0 ≤ body := by
      rcases skips_ge l args.toNat 0 (by omega) with h4 | h4
      · rw [h4] at h3
        simp only [skp] at h3
        rw [if_pos (by omega)] at h3
        omega
      · omega
    rw [if_pos ⟨h1, h0, by rw [← h1]; exact h3⟩]
theorem takeP_ops : ∀ (l : List S39) (n m : Nat), takeP n l = some m → ∀ i ∈ l.take m, 1 ≤ i.f0 ∧ i.f0 ≤ 6
  | l, 0, m, h, i, hi => by
    simp [takeP] at h
    subst h
    simp at hi
  | [], n + 1, m, h, i, hi => by simp [takeP] at h
  | j :: l, n + 1, m, h, i, hi => by
    simp only [takeP] at h
    split at h
    · simp at h
    · next a ha =>
      obtain ⟨q, h1, rfl⟩ := Option.map_eq_some_iff.1 h
      rw [List.take_succ_cons] at hi
      rcases List.mem_cons.1 hi with rfl | hi
      · unfold partsI at ha
        split at ha
        · simp at ha
        · omega
      · exact takeP_ops l _ q h1 i hi
theorem skp_take (l : List S39) (p : Int) (h : 0 ≤ skp l p) : 0 ≤ p ∧ p ≤ l.length ∧ ∃ m : Nat, takeP 1 (l.drop p.toNat) = some m ∧ skp l p = p + m := by
  unfold skp at h ⊢
  split
  · omega
  · next h1 =>
    rw [if_neg h1] at h
    split
    · omega
    · next h2 =>
      rw [if_neg h2] at h
      split
      · next h3 => rw [h3] at h; simp at h
      · next m h3 => exact ⟨by omega, by omega, m, h3, rfl⟩
theorem skp_ops (l : List S39) (p : Int) (h : 0 ≤ skp l p) (ho : ∀ i ∈ l.take p.toNat, 1 ≤ i.f0 ∧ i.f0 ≤ 6) : ∀ i ∈ l.take (skp l p).toNat, 1 ≤ i.f0 ∧ i.f0 ≤ 6 := by
  obtain ⟨h0, h1, m, hm, he⟩ := skp_take l p h
  rw [he, show (p + m).toNat = p.toNat + m by omega, List.take_add]
  intro i hi
  rcases List.mem_append.1 hi with hi | hi
  · exact ho i hi
  · exact takeP_ops _ _ _ hm i hi
theorem skips_ops (l : List S39) : ∀ (n : Nat) (q : Int), 0 ≤ skips l n q → (∀ i ∈ l.take q.toNat, 1 ≤ i.f0 ∧ i.f0 ≤ 6) → ∀ i ∈ l.take (skips l n q).toNat, 1 ≤ i.f0 ∧ i.f0 ≤ 6
  | 0, q, _, ho => ho
  | n + 1, q, h, ho => by
    simp only [skips] at h ⊢
    split at h
    · omega
    · next h1 =>
      rw [if_neg h1]
      exact skips_ops l n _ h (skp_ops l q (by omega) ho)
theorem ops_ok (l : List S39) (n : Nat) (p : Int) (h : skips l n 0 = p) (h0 : 0 ≤ p) (h1 : skp l p = l.length) (i : S39) (hi : i ∈ l) : 1 ≤ i.f0 ∧ i.f0 ≤ 6 := by
  have k := skips_ops l n 0 (by omega) (by simp)
  rw [h] at k
  have k2 := skp_ops l p (by omega) k
  rw [h1] at k2
  exact k2 i (by simpa using hi)
def tabF : Array Value := #[Value.nilFunc, Value.func (Fn.func 58) #[] #[], Value.func (Fn.func 59) #[] #[], Value.func (Fn.func 60) #[] #[], Value.func (Fn.func 61) #[] #[], Value.func (Fn.func 62) #[] #[], Value.func (Fn.func 63) #[] #[]]
theorem keepT {w w1 w2 : World} {gi ga : Nat} {x0 x1 x2 : Int} {x3 : ByteArray} {cs : Array Value} {u : Value} {j : Nat} (h : w1.heap[gi]? = some (.cells #[.int .i64 x0, .int .i64 x1, .int .i64 x2, .string x3] 39 (0,0)) ∧ w1.heap[ga]? = some (.cells cs 105 (0,0)) ∧ w1.cell? ⟨ga, j, none⟩ = some u ∧ w1.cell? ⟨gi, 0, none⟩ = some (.int .i64 x0) ∧ w1.cell? ⟨gi, 1, none⟩ = some (.int .i64 x1) ∧ w1.cell? ⟨gi, 2, none⟩ = some (.int .i64 x2) ∧ w1.cell? ⟨gi, 3, none⟩ = some (.string x3)) {gx : Nat} {s : Int} (hx : IsS107 w w1 gx s) (hk : KeepBut w1 w2 gx none) : 
    w2.heap[gi]? = some (.cells #[.int .i64 x0, .int .i64 x1, .int .i64 x2, .string x3] 39 (0,0)) ∧ w2.heap[ga]? = some (.cells cs 105 (0,0)) ∧ w2.cell? ⟨ga, j, none⟩ = some u ∧ w2.cell? ⟨gi, 0, none⟩ = some (.int .i64 x0) ∧ w2.cell? ⟨gi, 1, none⟩ = some (.int .i64 x1) ∧ w2.cell? ⟨gi, 2, none⟩ = some (.int .i64 x2) ∧ w2.cell? ⟨gi, 3, none⟩ = some (.string x3) := by
  obtain ⟨h1, h2, h3, h4, h5, h6, h7⟩ := h
  have k1 := hk.blk h1 (by rintro rfl; exact absurd (hx.1.symm.trans h1) (by simp)) (by simp)
  have k2 := hk.blk h2 (by rintro rfl; exact absurd (hx.1.symm.trans h2) (by simp)) (by simp)
  refine ⟨k1, k2, ?_, ?_, ?_, ?_, ?_⟩
  · rw [blk_cell k2, ← h3, blk_cell h2]
  all_goals (rw [blk_cell k1]; rfl)
theorem keepS {w w1 w2 : World} {g : Nat} (hg : w.heap.size = g) {a0_0 : ByteArray} {a0_1 a0_2 a0_3 : Int} {v : Value} (h : w1.cell? ⟨g, 3, none⟩ = some (.int .i64 a0_3) ∧ w1.cell? ⟨g, 4, none⟩ = some v ∧ Below g w w1 ∧ w1.heap[g]? = some (.cells #[.string a0_0, .int .i64 a0_1, .int .i64 a0_2, .int .i64 a0_3, v] 28 (0,0))) (hb : Below w1.heap.size w1 w2) :
    w2.cell? ⟨g, 3, none⟩ = some (.int .i64 a0_3) ∧ w2.cell? ⟨g, 4, none⟩ = some v ∧ Below g w w2 ∧ w2.heap[g]? = some (.cells #[.string a0_0, .int .i64 a0_1, .int .i64 a0_2, .int .i64 a0_3, v] 28 (0,0)) := by
  obtain ⟨h1, h2, h3, h4⟩ := h
  have k := blk_below h4 hb
  refine ⟨by rw [blk_cell k]; rfl, by rw [blk_cell k]; rfl, ?_, k⟩
  subst hg
  exact below_step h3 hb
set_option maxHeartbeats 8000000 in
set_option maxRecDepth 100000 in
theorem chk_long (a0_0 : ByteArray) (a0_1 : Int) (a0_2 : Int) (a0_3 : Int) (A0_4 : Option Addr) (c0_4 : Nat) (l0_4 : List (S39)) (w : World) (hr0_4 : Kd.C k39 w A0_4 l0_4.length l0_4) (hc0_4 : l0_4.length ≤ c0_4) (h : (20000 : Int) < l0_4.length) :
    Calls Try.prog 17 #[.agg #[.string a0_0, .int .i64 a0_1, .int .i64 a0_2, .int .i64 a0_3, .slice A0_4 l0_4.length c0_4]] w fun e w' => e = .returned (.int .i64 (chkv a0_0 a0_1 a0_2 a0_3 l0_4)) ∧ Below w.heap.size w w' := by
  have HR0_4 := Aside0.mk hr0_4
  have HC0_4 := Aside0.mk hc0_4
  clear hr0_4 hc0_4
  have HV : Aside0 (chkv a0_0 a0_1 a0_2 a0_3 l0_4 = 3) := ⟨by unfold chkv; rw [if_pos (by omega)]⟩
  have h1b : decide ((20000 : Int) < (l0_4.length : Int)) = true := decide_eq_true h
  have h1c : decide (20000 < l0_4.length) = true := decide_eq_true (by omega)
  clear h
  go_enter Try.func17, Try.ntmps17
  go_wp2_with fail
  go_ret
  exact ⟨by rw [HV.out]; rfl, below_alloc (Below.refl _ _) _⟩
set_option maxHeartbeats 8000000 in
set_option maxRecDepth 100000 in
theorem chk_neg (a0_0 : ByteArray) (a0_1 : Int) (a0_2 : Int) (a0_3 : Int) (A0_4 : Option Addr) (c0_4 : Nat) (l0_4 : List (S39)) (w : World) (hr0_4 : Kd.C k39 w A0_4 l0_4.length l0_4) (hc0_4 : l0_4.length ≤ c0_4) (h1 : ¬ (20000 : Int) < l0_4.length) (h : a0_1 < 0) :
    Calls Try.prog 17 #[.agg #[.string a0_0, .int .i64 a0_1, .int .i64 a0_2, .int .i64 a0_3, .slice A0_4 l0_4.length c0_4]] w fun e w' => e = .returned (.int .i64 (chkv a0_0 a0_1 a0_2 a0_3 l0_4)) ∧ Below w.heap.size w w' := by
  have HR0_4 := Aside0.mk hr0_4
  have HC0_4 := Aside0.mk hc0_4
  clear hr0_4 hc0_4
  have HV : Aside0 (chkv a0_0 a0_1 a0_2 a0_3 l0_4 = 2) := ⟨by unfold chkv; rw [if_neg (by omega), if_pos (by omega)]⟩
  have h1b : decide ((20000 : Int) < (l0_4.length : Int)) = false := decide_eq_false h1
  have h1c : decide (20000 < l0_4.length) = false := decide_eq_false (by omega)
  have g0 : decide (a0_1 < 0) = true := decide_eq_true (by omega)
  clear h h1
  go_enter Try.func17, Try.ntmps17
  go_wp2_with fail
  go_ret
  exact ⟨by rw [HV.out]; rfl, below_alloc (Below.refl _ _) _⟩
set_option maxHeartbeats 8000000 in
set_option maxRecDepth 100000 in
theorem chk_many (a0_0 : ByteArray) (a0_1 : Int) (a0_2 : Int) (a0_3 : Int) (A0_4 : Option Addr) (c0_4 : Nat) (l0_4 : List (S39)) (w : World) (hr0_4 : Kd.C k39 w A0_4 l0_4.length l0_4) (hc0_4 : l0_4.length ≤ c0_4) (h1 : ¬ (20000 : Int) < l0_4.length) (h : 255 < a0_1) :
    Calls Try.prog 17 #[.agg #[.string a0_0, .int .i64 a0_1, .int .i64 a0_2, .int .i64 a0_3, .slice A0_4 l0_4.length c0_4]] w fun e w' => e = .returned (.int .i64 (chkv a0_0 a0_1 a0_2 a0_3 l0_4)) ∧ Below w.heap.size w w' := by
  have HR0_4 := Aside0.mk hr0_4
  have HC0_4 := Aside0.mk hc0_4
  clear hr0_4 hc0_4
  have HV : Aside0 (chkv a0_0 a0_1 a0_2 a0_3 l0_4 = 2) := ⟨by unfold chkv; rw [if_neg (by omega), if_pos (by omega)]⟩
  have h1b : decide ((20000 : Int) < (l0_4.length : Int)) = false := decide_eq_false h1
  have h1c : decide (20000 < l0_4.length) = false := decide_eq_false (by omega)
  have g0 : decide (a0_1 < 0) = false := decide_eq_false (by omega)
  have g1 : decide (255 < a0_1) = true := decide_eq_true (by omega)
  clear h h1
  go_enter Try.func17, Try.ntmps17
  go_wp2_with fail
  go_ret
  exact ⟨by rw [HV.out]; rfl, below_alloc (Below.refl _ _) _⟩
set_option maxHeartbeats 8000000 in
set_option maxRecDepth 100000 in
theorem chk_name (a0_0 : ByteArray) (a0_1 : Int) (a0_2 : Int) (a0_3 : Int) (A0_4 : Option Addr) (c0_4 : Nat) (l0_4 : List (S39)) (w : World) (hr0_4 : Kd.C k39 w A0_4 l0_4.length l0_4) (hc0_4 : l0_4.length ≤ c0_4) (h1 : ¬ (20000 : Int) < l0_4.length) (h : 0 ≤ a0_1 ∧ a0_1 ≤ 255 ∧ 1000 < a0_0.size) :
    Calls Try.prog 17 #[.agg #[.string a0_0, .int .i64 a0_1, .int .i64 a0_2, .int .i64 a0_3, .slice A0_4 l0_4.length c0_4]] w fun e w' => e = .returned (.int .i64 (chkv a0_0 a0_1 a0_2 a0_3 l0_4)) ∧ Below w.heap.size w w' := by
  have HR0_4 := Aside0.mk hr0_4
  have HC0_4 := Aside0.mk hc0_4
  clear hr0_4 hc0_4
  have HV : Aside0 (chkv a0_0 a0_1 a0_2 a0_3 l0_4 = 2) := ⟨by unfold chkv; rw [if_neg (by omega), if_pos (by omega)]⟩
  have h1b : decide ((20000 : Int) < (l0_4.length : Int)) = false := decide_eq_false h1
  have h1c : decide (20000 < l0_4.length) = false := decide_eq_false (by omega)
  have g0 : decide (a0_1 < 0) = false := decide_eq_false (by omega)
  have g1 : decide (255 < a0_1) = false := decide_eq_false (by omega)
  have g2 : decide (1000 < (a0_0.size : Int)) = true := decide_eq_true (by omega)
  have g3 : decide (1000 < a0_0.size) = true := decide_eq_true (by omega)
  clear h h1
  go_enter Try.func17, Try.ntmps17
  go_wp2_with fail
  go_ret
  exact ⟨by rw [HV.out]; rfl, below_alloc (Below.refl _ _) _⟩
set_option maxHeartbeats 8000000 in
set_option maxRecDepth 100000 in
theorem chk_main (a0_0 : ByteArray) (a0_1 : Int) (a0_2 : Int) (a0_3 : Int) (A0_4 : Option Addr) (c0_4 : Nat) (l0_4 : List (S39)) (w : World) (hr0_4 : Kd.C k39 w A0_4 l0_4.length l0_4) (hc0_4 : l0_4.length ≤ c0_4) (h1 : ¬ (20000 : Int) < l0_4.length) (h2 : 0 ≤ a0_1 ∧ a0_1 ≤ 255 ∧ a0_0.size ≤ 1000) :
    Calls Try.prog 17 #[.agg #[.string a0_0, .int .i64 a0_1, .int .i64 a0_2, .int .i64 a0_3, .slice A0_4 l0_4.length c0_4]] w fun e w' => e = .returned (.int .i64 (chkv a0_0 a0_1 a0_2 a0_3 l0_4)) ∧ Below w.heap.size w w' := by
  have HR0_4 := Aside0.mk hr0_4
  have HC0_4 := Aside0.mk hc0_4
  clear hr0_4 hc0_4
  have HV := Aside0.mk (chkv_main a0_0 a0_1 a0_2 a0_3 l0_4 (by omega) h2)
  have h1b : decide ((20000 : Int) < (l0_4.length : Int)) = false := decide_eq_false h1
  have h1c : decide (20000 < l0_4.length) = false := decide_eq_false (by omega)
  have h2b : decide (a0_1 < 0) = false := decide_eq_false (by omega)
  have h3b : decide (255 < a0_1) = false := decide_eq_false (by omega)
  have h4b : decide (1000 < (a0_0.size : Int)) = false := decide_eq_false (by omega)
  have h4c : decide (1000 < a0_0.size) = false := decide_eq_false (by omega)
  have h5 : 0 ≤ a0_1 := h2.1
  have h6 : a0_1 ≤ 255 := h2.2.1
  have hl20 : l0_4.length ≤ 20000 := by omega
  clear h1 h2
  go_enter Try.func17, Try.ntmps17
  go_wp2_with fail
  generalize hg : w.heap.size = g
  have HB : Below g w (w.alloc (.cells #[.string a0_0, .int .i64 a0_1, .int .i64 a0_2, .int .i64 a0_3, .slice A0_4 l0_4.length c0_4] 28)) := by subst hg; exact below_alloc (Below.refl _ _) _
  have BK : (w.alloc (.cells #[.string a0_0, .int .i64 a0_1, .int .i64 a0_2, .int .i64 a0_3, .slice A0_4 l0_4.length c0_4] 28)).heap[g]? = some (.cells #[.string a0_0, .int .i64 a0_1, .int .i64 a0_2, .int .i64 a0_3, .slice A0_4 l0_4.length c0_4] 28 (0,0)) := by subst hg; exact heap_alloc_new w _
  generalize (w.alloc (.cells #[.string a0_0, .int .i64 a0_1, .int .i64 a0_2, .int .i64 a0_3, .slice A0_4 l0_4.length c0_4] 28)) = w1 at HB BK ⊢
  have HG := Aside0.mk hg
  clear hg
  go_loopw [3, 30] (fun a i wr => ∃ (p : Int) (k : Nat), a = .int .i64 p ∧ i = .int .i64 k ∧ Aside0 (k ≤ a0_1.toNat) ∧ Aside0 (0 ≤ p) ∧ Aside0 (skips l0_4 (a0_1.toNat - k) p = skips l0_4 a0_1.toNat 0) ∧ Aside0 (Below g w wr) ∧ Aside0 (wr.heap[g]? = some (.cells #[.string a0_0, .int .i64 a0_1, .int .i64 a0_2, .int .i64 a0_3, .slice A0_4 l0_4.length c0_4] 28 (0,0)))) (fun a i wr => (a0_1 - intOf i).toNat)
  case atStart => exact ⟨0, 0, rfl, rfl, ⟨by omega⟩, ⟨by omega⟩, ⟨by simp⟩, ⟨HB⟩, ⟨BK⟩⟩
  case round =>
    obtain ⟨p, k, rfl, rfl, hk, hp, hs, hb, hbk⟩ := hrel
    clear HB BK
    have c1 : wr.cell? ⟨g, 1, none⟩ = some (.int .i64 a0_1) := (blk_cell hbk.out 1).trans rfl
    have c3 : wr.cell? ⟨g, 3, none⟩ = some (.int .i64 a0_3) := (blk_cell hbk.out 3).trans rfl
    have c4 : wr.cell? ⟨g, 4, none⟩ = some (.slice A0_4 l0_4.length c0_4) := (blk_cell hbk.out 4).trans rfl
    by_cases hlt : (k : Int) < a0_1
    · have hltb : decide ((k : Int) < a0_1) = true := decide_eq_true hlt
      have Hlt := Aside0.mk hlt
      by_cases hn : skp l0_4 p < 0
      · have hnb : decide (skp l0_4 p < 0) = true := decide_eq_true hn
        have hfin := Aside0.mk (HV.out.1 (by rw [← hs.out]; exact skips_neg l0_4 _ p (by omega) hn))
        clear hlt hn
        go_wp2_with (go_at_call 19; refine (skp_calls _ _ _ l0_4 _ _ (Kd.C_below HR0_4.out (by rw [HG.out]; exact hb.out)) HC0_4.out (Nat.le_trans hl20 (by decide))).mono ?_; rintro e w2 ⟨rfl, hb2⟩)
        go_ret
        exact ⟨by rw [hfin.out]; rfl, below_step (show Below w.heap.size w wr by rw [HG.out]; exact hb.out) hb2⟩
      · have hnb : decide (skp l0_4 p < 0) = false := decide_eq_false hn
        have hs2 := Aside0.mk ((skips_next l0_4 (a0_1.toNat - (k + 1)) p hn).symm.trans ((congrArg (fun n => skips l0_4 n p) (show a0_1.toNat - (k + 1) + 1 = a0_1.toNat - k by omega)).trans hs.out))
        have hp2 := Aside0.mk (show 0 ≤ skp l0_4 p by omega)
        clear hn
        go_wp2_with (go_at_call 19; refine (skp_calls _ _ _ l0_4 _ _ (Kd.C_below HR0_4.out (by rw [HG.out]; exact hb.out)) HC0_4.out (Nat.le_trans hl20 (by decide))).mono ?_; rintro e w2 ⟨rfl, hb2⟩)
        go_roundw
        case rel => exact ⟨_, k + 1, rfl, by go_num, ⟨by have := Hlt.out; omega⟩, hp2, hs2, ⟨by have := below_step (show Below w.heap.size w wr by rw [HG.out]; exact hb.out) hb2; rw [HG.out] at this; exact this⟩, ⟨blk_below hbk.out hb2⟩⟩
        case measure => have := Hlt.out; simp [intOf]; omega
    · have hltb : decide ((k : Int) < a0_1) = false := decide_eq_false hlt
      have hps : p = skips l0_4 a0_1.toNat 0 := by rw [← hs.out, show a0_1.toNat - k = 0 by omega]; rfl
      have HPS := Aside0.mk hps
      clear hlt hps
      by_cases hq : p = a0_3
      · have hqb : (p != a0_3) = false := by simpa using hq
        have hqc : (p == a0_3) = true := by simpa using hq
        by_cases hq2 : skp l0_4 p = l0_4.length
        · have hqb2 : (skp l0_4 p != (l0_4.length : Int)) = false := by simpa using hq2
          have hqc2 : (skp l0_4 p == (l0_4.length : Int)) = true := by simpa using hq2
          have HOPS := Aside0.mk (ops_ok l0_4 _ p HPS.out.symm hp.out hq2)
          have HFIN := Aside0.mk (HV.out.2.2 (by rw [← HPS.out]; exact hq) (by rw [← HPS.out]; exact hq2))
          clear hq hq2
          go_wp2_with fail
          clear hs hp hk hltb
          go_region_held3 (fun w' => w'.cell? ⟨g, 3, none⟩ = some (.int .i64 a0_3) ∧ w'.cell? ⟨g, 4, none⟩ = some (.slice A0_4 l0_4.length c0_4) ∧ Below g w w' ∧ w'.heap[g]? = some (.cells #[.string a0_0, .int .i64 a0_1, .int .i64 a0_2, .int .i64 a0_3, .slice A0_4 l0_4.length c0_4] 28 (0,0))) (first | exact ⟨c3, c4, hb.out.drew, blk_drew hbk.out⟩ | exact keepS HG.out (by assumption) hb2) (first | (go_at_call 19; refine (skp_calls _ _ _ l0_4 _ _ (Kd.C_below HR0_4.out (by rw [HG.out]; exact hb.out.drew)) HC0_4.out (Nat.le_trans hl20 (by decide))).mono ?_; rintro e w2 ⟨rfl, hb2⟩))
          have hb2' := (below_step (show Below w.heap.size w wr.drew by rw [HG.out]; exact hb.out.drew) hb2)
          have hbk2 := blk_below (blk_drew hbk.out) hb2
          clear hb2 hb hbk c1 c3 c4
          have c4 : w2.cell? ⟨g, 4, none⟩ = some (.slice A0_4 l0_4.length c0_4) := (blk_cell hbk2 4).trans rfl
          have hlt2 := blk_lt hbk2
          go_wp2_with fail
          have hbw := below_alloc (below_alloc hb2' (.cells tabF 105)) (.cells #[.int .i64 0] 107)
          have hbkw := blk_alloc (blk_alloc hbk2 (.cells tabF 105)) (.cells #[.int .i64 0] 107)
          have hta : ((w2.alloc (.cells tabF 105)).alloc (.cells #[.int .i64 0] 107)).heap[w2.heap.size]? = some (.cells tabF 105 (0,0)) := blk_alloc (heap_alloc_new _ _) _
          have hix : IsS107 w ((w2.alloc (.cells tabF 105)).alloc (.cells #[.int .i64 0] 107)) (w2.heap.size + 1) 0 := by
            have := IsS107.new w (w2.alloc (.cells tabF 105)) 0 (below_alloc hb2' _)
            simpa using this
          have htag := hb2'.size
          unfold tabF at hbw hbkw hta hix
          generalize w2.heap.size = ga at *
          generalize ((w2.alloc (Obj.cells #[Value.nilFunc, Value.func (Fn.func 58) #[] #[], Value.func (Fn.func 59) #[] #[], Value.func (Fn.func 60) #[] #[], Value.func (Fn.func 61) #[] #[], Value.func (Fn.func 62) #[] #[], Value.func (Fn.func 63) #[] #[]] 105)).alloc (Obj.cells #[Value.int IntKind.i64 0] 107)) = w3 at *
          clear hb2' hbk2 c4 hlt2
          have HTG := Aside0.mk htag
          clear htag
          go_loopw [59] (fun i wr => ∃ (k : Nat) (s : Int), i = .int .i64 k ∧ Aside0 (k ≤ l0_4.length) ∧ Aside0 (runI (l0_4.drop k) s = runI l0_4 0) ∧ Aside0 (Below w.heap.size w wr) ∧ Aside0 (wr.heap[g]? = some (.cells #[.string a0_0, .int .i64 a0_1, .int .i64 a0_2, .int .i64 a0_3, .slice A0_4 l0_4.length c0_4] 28 (0,0))) ∧ Aside0 (wr.heap[ga]? = some (.cells #[Value.nilFunc, Value.func (Fn.func 58) #[] #[], Value.func (Fn.func 59) #[] #[], Value.func (Fn.func 60) #[] #[], Value.func (Fn.func 61) #[] #[], Value.func (Fn.func 62) #[] #[], Value.func (Fn.func 63) #[] #[]] 105 (0,0))) ∧ Aside0 (IsS107 w wr (ga + 1) s)) (fun i wr => (l0_4.length - (intOf i).toNat))
          case atStart => exact ⟨0, 0, rfl, ⟨by omega⟩, ⟨by simp⟩, ⟨hbw⟩, ⟨hbkw⟩, ⟨hta⟩, ⟨hix⟩⟩
          case round =>
            clear hbw hbkw hta hix hqb hqc hqb2 hqc2 h1b h1c h2b h3b h4b h4c
            obtain ⟨k, s, rfl, hk, hs, hb, hbk, hta, hix⟩ := hrel
            have c2 : wr.cell? ⟨g, 2, none⟩ = some (.int .i64 a0_2) := (blk_cell hbk.out 2).trans rfl
            have cx : wr.cell? ⟨ga + 1, 0, none⟩ = some (.int .i64 s) := cellS107_0 hix.out.1
            by_cases hlt : k < l0_4.length
            · have hltb : decide ((k : Int) < (l0_4.length : Int)) = true := decide_eq_true (by omega)
              have hltc : decide (k < l0_4.length) = true := decide_eq_true (by omega)
              have hk20 : k ≤ 20000 := by omega
              have hltd : (k < l0_4.length) = True := eq_true hlt
              have hrd := (runI_drop l0_4 k hlt s).symm.trans hs.out
              have hop := HOPS.out (rd_T39 l0_4 k) (rd_mem l0_4 k hlt)
              obtain ⟨ad, ead, e0, e1, e2, e3⟩ := at_T39 HR0_4.out (k : Int) (by omega) (by omega)
              obtain ⟨b, s', hst⟩ := stepI_some s (rd_T39 l0_4 k)
              have q0 := (hb.out.cell (World.block_lt_of_cell? w _ e0)).trans e0
              have q1 := (hb.out.cell (World.block_lt_of_cell? w _ e1)).trans e1
              have q2 := (hb.out.cell (World.block_lt_of_cell? w _ e2)).trans e2
              have q3 := (hb.out.cell (World.block_lt_of_cell? w _ e3)).trans e3
              subst ead
              clear e0 e1 e2 e3
              generalize rd_T39 l0_4 k = i at *
              obtain ⟨x0, x1, x2, x3⟩ := i
              simp only [Int.toNat_natCast] at hop q0 q1 q2 q3
              rw [hst] at hrd
              have Hrd := Aside0.mk hrd
              have Hst := Aside0.mk hst
              have Hlt := Aside0.mk hlt
              clear hrd hst hs hk hlt
              obtain rfl | rfl | rfl | rfl | rfl | rfl : x0 = 1 ∨ x0 = 2 ∨ x0 = 3 ∨ x0 = 4 ∨ x0 = 5 ∨ x0 = 6 := by omega
              · clear hop
                have ca : wr.cell? ⟨ga, 1, none⟩ = some (Value.func (Fn.func 58) #[] #[]) := (blk_cell hta.out 1).trans rfl
                have Hst2 : Aside0 (code_checker_any.f s 1 x1 x2 x3 = some (b, s')) := Hst
                clear Hst
                go_wp2_with fail
                have hb4 := below_alloc hb.out (.cells #[.int .i64 1, .int .i64 x1, .int .i64 x2, .string x3] 39)
                have hbk4 := blk_alloc hbk.out (.cells #[.int .i64 1, .int .i64 x1, .int .i64 x2, .string x3] 39)
                have hta4 := blk_alloc hta.out (.cells #[.int .i64 1, .int .i64 x1, .int .i64 x2, .string x3] 39)
                have hix4 := IsS107.alloc hix.out (.cells #[.int .i64 1, .int .i64 x1, .int .i64 x2, .string x3] 39)
                have hgi4 := heap_alloc_new wr (.cells #[.int .i64 1, .int .i64 x1, .int .i64 x2, .string x3] 39)
                clear hb hbk hta hix c2 cx ca q0 q1 q2 q3
                generalize (wr.alloc (.cells #[.int .i64 1, .int .i64 x1, .int .i64 x2, .string x3] 39)) = w4 at *
                generalize wr.heap.size = gi at *
                cases b
                · go_region_held3 (fun w' => w'.heap[gi]? = some (.cells #[.int .i64 1, .int .i64 x1, .int .i64 x2, .string x3] 39 (0,0)) ∧ w'.heap[ga]? = some (.cells #[Value.nilFunc, Value.func (Fn.func 58) #[] #[], Value.func (Fn.func 59) #[] #[], Value.func (Fn.func 60) #[] #[], Value.func (Fn.func 61) #[] #[], Value.func (Fn.func 62) #[] #[], Value.func (Fn.func 63) #[] #[]] 105 (0,0)) ∧ w'.cell? ⟨ga, 1, none⟩ = some (Value.func (Fn.func 58) #[] #[]) ∧ w'.cell? ⟨gi, 0, none⟩ = some (.int .i64 1) ∧ w'.cell? ⟨gi, 1, none⟩ = some (.int .i64 x1) ∧ w'.cell? ⟨gi, 2, none⟩ = some (.int .i64 x2) ∧ w'.cell? ⟨gi, 3, none⟩ = some (.string x3)) (first | exact ⟨hgi4, hta4, (blk_cell hta4 1).trans rfl, (blk_cell hgi4 0).trans rfl, (blk_cell hgi4 1).trans rfl, (blk_cell hgi4 2).trans rfl, (blk_cell hgi4 3).trans rfl⟩ | exact keepT (by assumption) (IsS107.drew hix4) hk5) (first | (go_at_call 58; refine (code_checker_any.calls _ s _ x1 x2 x3 _ s' w _ (IsS107.drew hix4) (below_drew1 hb4) Hst2.out).mono ?_; rintro e w5 ⟨rfl, hix5, hb5, hk5⟩))
                  clear hb4 hbk4 hta4 hix4 hgi4 hk5
                  go_wp2_with fail
                  go_ret
                  exact ⟨by rw [HFIN.out, ← Hrd.out]; rfl, hb5⟩
                · go_region_held3 (fun w' => w'.heap[gi]? = some (.cells #[.int .i64 1, .int .i64 x1, .int .i64 x2, .string x3] 39 (0,0)) ∧ w'.heap[ga]? = some (.cells #[Value.nilFunc, Value.func (Fn.func 58) #[] #[], Value.func (Fn.func 59) #[] #[], Value.func (Fn.func 60) #[] #[], Value.func (Fn.func 61) #[] #[], Value.func (Fn.func 62) #[] #[], Value.func (Fn.func 63) #[] #[]] 105 (0,0)) ∧ w'.cell? ⟨ga, 1, none⟩ = some (Value.func (Fn.func 58) #[] #[]) ∧ w'.cell? ⟨gi, 0, none⟩ = some (.int .i64 1) ∧ w'.cell? ⟨gi, 1, none⟩ = some (.int .i64 x1) ∧ w'.cell? ⟨gi, 2, none⟩ = some (.int .i64 x2) ∧ w'.cell? ⟨gi, 3, none⟩ = some (.string x3)) (first | exact ⟨hgi4, hta4, (blk_cell hta4 1).trans rfl, (blk_cell hgi4 0).trans rfl, (blk_cell hgi4 1).trans rfl, (blk_cell hgi4 2).trans rfl, (blk_cell hgi4 3).trans rfl⟩ | exact keepT (by assumption) (IsS107.drew hix4) hk5) (first | (go_at_call 58; refine (code_checker_any.calls _ s _ x1 x2 x3 _ s' w _ (IsS107.drew hix4) (below_drew1 hb4) Hst2.out).mono ?_; rintro e w5 ⟨rfl, hix5, hb5, hk5⟩))
                  have hbk5 := Aside0.mk (hk5.blk (blk_drew hbk4) (by rintro rfl; exact absurd (hix4.1.symm.trans hbk4) (by simp)) (by simp))
                  have hta5 := Aside0.mk (hk5.blk (blk_drew hta4) (by omega) (by simp))
                  clear hb4 hbk4 hta4 hix4 hgi4 hk5
                  go_wp2_with fail
                  go_roundw
                  case rel => exact ⟨k + 1, s', by go_num, ⟨by have := Hlt.out; omega⟩, ⟨by rw [← Hrd.out]⟩, ⟨hb5⟩, hbk5, hta5, ⟨hix5⟩⟩
                  case measure => have := Hlt.out; simp [intOf]; omega
              · clear hop
                have ca : wr.cell? ⟨ga, 2, none⟩ = some (Value.func (Fn.func 59) #[] #[]) := (blk_cell hta.out 2).trans rfl
                have Hst2 : Aside0 (code_checker_first.f s 2 x1 x2 x3 = some (b, s')) := Hst
                clear Hst
                go_wp2_with fail
                have hb4 := below_alloc hb.out (.cells #[.int .i64 2, .int .i64 x1, .int .i64 x2, .string x3] 39)
                have hbk4 := blk_alloc hbk.out (.cells #[.int .i64 2, .int .i64 x1, .int .i64 x2, .string x3] 39)
                have hta4 := blk_alloc hta.out (.cells #[.int .i64 2, .int .i64 x1, .int .i64 x2, .string x3] 39)
                have hix4 := IsS107.alloc hix.out (.cells #[.int .i64 2, .int .i64 x1, .int .i64 x2, .string x3] 39)
                have hgi4 := heap_alloc_new wr (.cells #[.int .i64 2, .int .i64 x1, .int .i64 x2, .string x3] 39)
                clear hb hbk hta hix c2 cx ca q0 q1 q2 q3
                generalize (wr.alloc (.cells #[.int .i64 2, .int .i64 x1, .int .i64 x2, .string x3] 39)) = w4 at *
                generalize wr.heap.size = gi at *
                cases b
                · go_region_held3 (fun w' => w'.heap[gi]? = some (.cells #[.int .i64 2, .int .i64 x1, .int .i64 x2, .string x3] 39 (0,0)) ∧ w'.heap[ga]? = some (.cells #[Value.nilFunc, Value.func (Fn.func 58) #[] #[], Value.func (Fn.func 59) #[] #[], Value.func (Fn.func 60) #[] #[], Value.func (Fn.func 61) #[] #[], Value.func (Fn.func 62) #[] #[], Value.func (Fn.func 63) #[] #[]] 105 (0,0)) ∧ w'.cell? ⟨ga, 2, none⟩ = some (Value.func (Fn.func 59) #[] #[]) ∧ w'.cell? ⟨gi, 0, none⟩ = some (.int .i64 2) ∧ w'.cell? ⟨gi, 1, none⟩ = some (.int .i64 x1) ∧ w'.cell? ⟨gi, 2, none⟩ = some (.int .i64 x2) ∧ w'.cell? ⟨gi, 3, none⟩ = some (.string x3)) (first | exact ⟨hgi4, hta4, (blk_cell hta4 2).trans rfl, (blk_cell hgi4 0).trans rfl, (blk_cell hgi4 1).trans rfl, (blk_cell hgi4 2).trans rfl, (blk_cell hgi4 3).trans rfl⟩ | exact keepT (by assumption) (IsS107.drew hix4) hk5) (first | (go_at_call 59; refine (code_checker_first.calls _ s _ x1 x2 x3 _ s' w _ (IsS107.drew hix4) (below_drew1 hb4) Hst2.out).mono ?_; rintro e w5 ⟨rfl, hix5, hb5, hk5⟩))
                  clear hb4 hbk4 hta4 hix4 hgi4 hk5
                  go_wp2_with fail
                  go_ret
                  exact ⟨by rw [HFIN.out, ← Hrd.out]; rfl, hb5⟩
                · go_region_held3 (fun w' => w'.heap[gi]? = some (.cells #[.int .i64 2, .int .i64 x1, .int .i64 x2, .string x3] 39 (0,0)) ∧ w'.heap[ga]? = some (.cells #[Value.nilFunc, Value.func (Fn.func 58) #[] #[], Value.func (Fn.func 59) #[] #[], Value.func (Fn.func 60) #[] #[], Value.func (Fn.func 61) #[] #[], Value.func (Fn.func 62) #[] #[], Value.func (Fn.func 63) #[] #[]] 105 (0,0)) ∧ w'.cell? ⟨ga, 2, none⟩ = some (Value.func (Fn.func 59) #[] #[]) ∧ w'.cell? ⟨gi, 0, none⟩ = some (.int .i64 2) ∧ w'.cell? ⟨gi, 1, none⟩ = some (.int .i64 x1) ∧ w'.cell? ⟨gi, 2, none⟩ = some (.int .i64 x2) ∧ w'.cell? ⟨gi, 3, none⟩ = some (.string x3)) (first | exact ⟨hgi4, hta4, (blk_cell hta4 2).trans rfl, (blk_cell hgi4 0).trans rfl, (blk_cell hgi4 1).trans rfl, (blk_cell hgi4 2).trans rfl, (blk_cell hgi4 3).trans rfl⟩ | exact keepT (by assumption) (IsS107.drew hix4) hk5) (first | (go_at_call 59; refine (code_checker_first.calls _ s _ x1 x2 x3 _ s' w _ (IsS107.drew hix4) (below_drew1 hb4) Hst2.out).mono ?_; rintro e w5 ⟨rfl, hix5, hb5, hk5⟩))
                  have hbk5 := Aside0.mk (hk5.blk (blk_drew hbk4) (by rintro rfl; exact absurd (hix4.1.symm.trans hbk4) (by simp)) (by simp))
                  have hta5 := Aside0.mk (hk5.blk (blk_drew hta4) (by omega) (by simp))
                  clear hb4 hbk4 hta4 hix4 hgi4 hk5
                  go_wp2_with fail
                  go_roundw
                  case rel => exact ⟨k + 1, s', by go_num, ⟨by have := Hlt.out; omega⟩, ⟨by rw [← Hrd.out]⟩, ⟨hb5⟩, hbk5, hta5, ⟨hix5⟩⟩
                  case measure => have := Hlt.out; simp [intOf]; omega
              · clear hop
                have ca : wr.cell? ⟨ga, 3, none⟩ = some (Value.func (Fn.func 60) #[] #[]) := (blk_cell hta.out 3).trans rfl
                have Hst2 : Aside0 (code_checker_again.f s 3 x1 x2 x3 = some (b, s')) := Hst
                clear Hst
                go_wp2_with fail
                have hb4 := below_alloc hb.out (.cells #[.int .i64 3, .int .i64 x1, .int .i64 x2, .string x3] 39)
                have hbk4 := blk_alloc hbk.out (.cells #[.int .i64 3, .int .i64 x1, .int .i64 x2, .string x3] 39)
                have hta4 := blk_alloc hta.out (.cells #[.int .i64 3, .int .i64 x1, .int .i64 x2, .string x3] 39)
                have hix4 := IsS107.alloc hix.out (.cells #[.int .i64 3, .int .i64 x1, .int .i64 x2, .string x3] 39)
                have hgi4 := heap_alloc_new wr (.cells #[.int .i64 3, .int .i64 x1, .int .i64 x2, .string x3] 39)
                clear hb hbk hta hix c2 cx ca q0 q1 q2 q3
                generalize (wr.alloc (.cells #[.int .i64 3, .int .i64 x1, .int .i64 x2, .string x3] 39)) = w4 at *
                generalize wr.heap.size = gi at *
                cases b
                · go_region_held3 (fun w' => w'.heap[gi]? = some (.cells #[.int .i64 3, .int .i64 x1, .int .i64 x2, .string x3] 39 (0,0)) ∧ w'.heap[ga]? = some (.cells #[Value.nilFunc, Value.func (Fn.func 58) #[] #[], Value.func (Fn.func 59) #[] #[], Value.func (Fn.func 60) #[] #[], Value.func (Fn.func 61) #[] #[], Value.func (Fn.func 62) #[] #[], Value.func (Fn.func 63) #[] #[]] 105 (0,0)) ∧ w'.cell? ⟨ga, 3, none⟩ = some (Value.func (Fn.func 60) #[] #[]) ∧ w'.cell? ⟨gi, 0, none⟩ = some (.int .i64 3) ∧ w'.cell? ⟨gi, 1, none⟩ = some (.int .i64 x1) ∧ w'.cell? ⟨gi, 2, none⟩ = some (.int .i64 x2) ∧ w'.cell? ⟨gi, 3, none⟩ = some (.string x3)) (first | exact ⟨hgi4, hta4, (blk_cell hta4 3).trans rfl, (blk_cell hgi4 0).trans rfl, (blk_cell hgi4 1).trans rfl, (blk_cell hgi4 2).trans rfl, (blk_cell hgi4 3).trans rfl⟩ | exact keepT (by assumption) (IsS107.drew hix4) hk5) (first | (go_at_call 60; refine (code_checker_again.calls _ s _ x1 x2 x3 _ s' w _ (IsS107.drew hix4) (below_drew1 hb4) Hst2.out).mono ?_; rintro e w5 ⟨rfl, hix5, hb5, hk5⟩))
                  clear hb4 hbk4 hta4 hix4 hgi4 hk5
                  go_wp2_with fail
                  go_ret
                  exact ⟨by rw [HFIN.out, ← Hrd.out]; rfl, hb5⟩
                · go_region_held3 (fun w' => w'.heap[gi]? = some (.cells #[.int .i64 3, .int .i64 x1, .int .i64 x2, .string x3] 39 (0,0)) ∧ w'.heap[ga]? = some (.cells #[Value.nilFunc, Value.func (Fn.func 58) #[] #[], Value.func (Fn.func 59) #[] #[], Value.func (Fn.func 60) #[] #[], Value.func (Fn.func 61) #[] #[], Value.func (Fn.func 62) #[] #[], Value.func (Fn.func 63) #[] #[]] 105 (0,0)) ∧ w'.cell? ⟨ga, 3, none⟩ = some (Value.func (Fn.func 60) #[] #[]) ∧ w'.cell? ⟨gi, 0, none⟩ = some (.int .i64 3) ∧ w'.cell? ⟨gi, 1, none⟩ = some (.int .i64 x1) ∧ w'.cell? ⟨gi, 2, none⟩ = some (.int .i64 x2) ∧ w'.cell? ⟨gi, 3, none⟩ = some (.string x3)) (first | exact ⟨hgi4, hta4, (blk_cell hta4 3).trans rfl, (blk_cell hgi4 0).trans rfl, (blk_cell hgi4 1).trans rfl, (blk_cell hgi4 2).trans rfl, (blk_cell hgi4 3).trans rfl⟩ | exact keepT (by assumption) (IsS107.drew hix4) hk5) (first | (go_at_call 60; refine (code_checker_again.calls _ s _ x1 x2 x3 _ s' w _ (IsS107.drew hix4) (below_drew1 hb4) Hst2.out).mono ?_; rintro e w5 ⟨rfl, hix5, hb5, hk5⟩))
                  have hbk5 := Aside0.mk (hk5.blk (blk_drew hbk4) (by rintro rfl; exact absurd (hix4.1.symm.trans hbk4) (by simp)) (by simp))
                  have hta5 := Aside0.mk (hk5.blk (blk_drew hta4) (by omega) (by simp))
                  clear hb4 hbk4 hta4 hix4 hgi4 hk5
                  go_wp2_with fail
                  go_roundw
                  case rel => exact ⟨k + 1, s', by go_num, ⟨by have := Hlt.out; omega⟩, ⟨by rw [← Hrd.out]⟩, ⟨hb5⟩, hbk5, hta5, ⟨hix5⟩⟩
                  case measure => have := Hlt.out; simp [intOf]; omega
              · clear hop
                have ca : wr.cell? ⟨ga, 4, none⟩ = some (Value.func (Fn.func 61) #[] #[]) := (blk_cell hta.out 4).trans rfl
                have Hst2 : Aside0 (code_checker_num.f s 4 x1 x2 x3 = some (b, s')) := Hst
                clear Hst
                go_wp2_with fail
                have hb4 := below_alloc hb.out (.cells #[.int .i64 4, .int .i64 x1, .int .i64 x2, .string x3] 39)
                have hbk4 := blk_alloc hbk.out (.cells #[.int .i64 4, .int .i64 x1, .int .i64 x2, .string x3] 39)
                have hta4 := blk_alloc hta.out (.cells #[.int .i64 4, .int .i64 x1, .int .i64 x2, .string x3] 39)
                have hix4 := IsS107.alloc hix.out (.cells #[.int .i64 4, .int .i64 x1, .int .i64 x2, .string x3] 39)
                have hgi4 := heap_alloc_new wr (.cells #[.int .i64 4, .int .i64 x1, .int .i64 x2, .string x3] 39)
                clear hb hbk hta hix c2 cx ca q0 q1 q2 q3
                generalize (wr.alloc (.cells #[.int .i64 4, .int .i64 x1, .int .i64 x2, .string x3] 39)) = w4 at *
                generalize wr.heap.size = gi at *
                cases b
                · go_region_held3 (fun w' => w'.heap[gi]? = some (.cells #[.int .i64 4, .int .i64 x1, .int .i64 x2, .string x3] 39 (0,0)) ∧ w'.heap[ga]? = some (.cells #[Value.nilFunc, Value.func (Fn.func 58) #[] #[], Value.func (Fn.func 59) #[] #[], Value.func (Fn.func 60) #[] #[], Value.func (Fn.func 61) #[] #[], Value.func (Fn.func 62) #[] #[], Value.func (Fn.func 63) #[] #[]] 105 (0,0)) ∧ w'.cell? ⟨ga, 4, none⟩ = some (Value.func (Fn.func 61) #[] #[]) ∧ w'.cell? ⟨gi, 0, none⟩ = some (.int .i64 4) ∧ w'.cell? ⟨gi, 1, none⟩ = some (.int .i64 x1) ∧ w'.cell? ⟨gi, 2, none⟩ = some (.int .i64 x2) ∧ w'.cell? ⟨gi, 3, none⟩ = some (.string x3)) (first | exact ⟨hgi4, hta4, (blk_cell hta4 4).trans rfl, (blk_cell hgi4 0).trans rfl, (blk_cell hgi4 1).trans rfl, (blk_cell hgi4 2).trans rfl, (blk_cell hgi4 3).trans rfl⟩ | exact keepT (by assumption) (IsS107.drew hix4) hk5) (first | (go_at_call 61; refine (code_checker_num.calls _ s _ x1 x2 x3 _ s' w _ (IsS107.drew hix4) (below_drew1 hb4) Hst2.out).mono ?_; rintro e w5 ⟨rfl, hix5, hb5, hk5⟩))
                  clear hb4 hbk4 hta4 hix4 hgi4 hk5
                  go_wp2_with fail
                  go_ret
                  exact ⟨by rw [HFIN.out, ← Hrd.out]; rfl, hb5⟩
                · go_region_held3 (fun w' => w'.heap[gi]? = some (.cells #[.int .i64 4, .int .i64 x1, .int .i64 x2, .string x3] 39 (0,0)) ∧ w'.heap[ga]? = some (.cells #[Value.nilFunc, Value.func (Fn.func 58) #[] #[], Value.func (Fn.func 59) #[] #[], Value.func (Fn.func 60) #[] #[], Value.func (Fn.func 61) #[] #[], Value.func (Fn.func 62) #[] #[], Value.func (Fn.func 63) #[] #[]] 105 (0,0)) ∧ w'.cell? ⟨ga, 4, none⟩ = some (Value.func (Fn.func 61) #[] #[]) ∧ w'.cell? ⟨gi, 0, none⟩ = some (.int .i64 4) ∧ w'.cell? ⟨gi, 1, none⟩ = some (.int .i64 x1) ∧ w'.cell? ⟨gi, 2, none⟩ = some (.int .i64 x2) ∧ w'.cell? ⟨gi, 3, none⟩ = some (.string x3)) (first | exact ⟨hgi4, hta4, (blk_cell hta4 4).trans rfl, (blk_cell hgi4 0).trans rfl, (blk_cell hgi4 1).trans rfl, (blk_cell hgi4 2).trans rfl, (blk_cell hgi4 3).trans rfl⟩ | exact keepT (by assumption) (IsS107.drew hix4) hk5) (first | (go_at_call 61; refine (code_checker_num.calls _ s _ x1 x2 x3 _ s' w _ (IsS107.drew hix4) (below_drew1 hb4) Hst2.out).mono ?_; rintro e w5 ⟨rfl, hix5, hb5, hk5⟩))
                  have hbk5 := Aside0.mk (hk5.blk (blk_drew hbk4) (by rintro rfl; exact absurd (hix4.1.symm.trans hbk4) (by simp)) (by simp))
                  have hta5 := Aside0.mk (hk5.blk (blk_drew hta4) (by omega) (by simp))
                  clear hb4 hbk4 hta4 hix4 hgi4 hk5
                  go_wp2_with fail
                  go_roundw
                  case rel => exact ⟨k + 1, s', by go_num, ⟨by have := Hlt.out; omega⟩, ⟨by rw [← Hrd.out]⟩, ⟨hb5⟩, hbk5, hta5, ⟨hix5⟩⟩
                  case measure => have := Hlt.out; simp [intOf]; omega
              · clear hop
                have ca : wr.cell? ⟨ga, 5, none⟩ = some (Value.func (Fn.func 62) #[] #[]) := (blk_cell hta.out 5).trans rfl
                have Hst2 : Aside0 (code_checker_name.f s 5 x1 x2 x3 = some (b, s')) := Hst
                clear Hst
                go_wp2_with fail
                have hb4 := below_alloc hb.out (.cells #[.int .i64 5, .int .i64 x1, .int .i64 x2, .string x3] 39)
                have hbk4 := blk_alloc hbk.out (.cells #[.int .i64 5, .int .i64 x1, .int .i64 x2, .string x3] 39)
                have hta4 := blk_alloc hta.out (.cells #[.int .i64 5, .int .i64 x1, .int .i64 x2, .string x3] 39)
                have hix4 := IsS107.alloc hix.out (.cells #[.int .i64 5, .int .i64 x1, .int .i64 x2, .string x3] 39)
                have hgi4 := heap_alloc_new wr (.cells #[.int .i64 5, .int .i64 x1, .int .i64 x2, .string x3] 39)
                clear hb hbk hta hix c2 cx ca q0 q1 q2 q3
                generalize (wr.alloc (.cells #[.int .i64 5, .int .i64 x1, .int .i64 x2, .string x3] 39)) = w4 at *
                generalize wr.heap.size = gi at *
                cases b
                · go_region_held3 (fun w' => w'.heap[gi]? = some (.cells #[.int .i64 5, .int .i64 x1, .int .i64 x2, .string x3] 39 (0,0)) ∧ w'.heap[ga]? = some (.cells #[Value.nilFunc, Value.func (Fn.func 58) #[] #[], Value.func (Fn.func 59) #[] #[], Value.func (Fn.func 60) #[] #[], Value.func (Fn.func 61) #[] #[], Value.func (Fn.func 62) #[] #[], Value.func (Fn.func 63) #[] #[]] 105 (0,0)) ∧ w'.cell? ⟨ga, 5, none⟩ = some (Value.func (Fn.func 62) #[] #[]) ∧ w'.cell? ⟨gi, 0, none⟩ = some (.int .i64 5) ∧ w'.cell? ⟨gi, 1, none⟩ = some (.int .i64 x1) ∧ w'.cell? ⟨gi, 2, none⟩ = some (.int .i64 x2) ∧ w'.cell? ⟨gi, 3, none⟩ = some (.string x3)) (first | exact ⟨hgi4, hta4, (blk_cell hta4 5).trans rfl, (blk_cell hgi4 0).trans rfl, (blk_cell hgi4 1).trans rfl, (blk_cell hgi4 2).trans rfl, (blk_cell hgi4 3).trans rfl⟩ | exact keepT (by assumption) (IsS107.drew hix4) hk5) (first | (go_at_call 62; refine (code_checker_name.calls _ s _ x1 x2 x3 _ s' w _ (IsS107.drew hix4) (below_drew1 hb4) Hst2.out).mono ?_; rintro e w5 ⟨rfl, hix5, hb5, hk5⟩))
                  clear hb4 hbk4 hta4 hix4 hgi4 hk5
                  go_wp2_with fail
                  go_ret
                  exact ⟨by rw [HFIN.out, ← Hrd.out]; rfl, hb5⟩
                · go_region_held3 (fun w' => w'.heap[gi]? = some (.cells #[.int .i64 5, .int .i64 x1, .int .i64 x2, .string x3] 39 (0,0)) ∧ w'.heap[ga]? = some (.cells #[Value.nilFunc, Value.func (Fn.func 58) #[] #[], Value.func (Fn.func 59) #[] #[], Value.func (Fn.func 60) #[] #[], Value.func (Fn.func 61) #[] #[], Value.func (Fn.func 62) #[] #[], Value.func (Fn.func 63) #[] #[]] 105 (0,0)) ∧ w'.cell? ⟨ga, 5, none⟩ = some (Value.func (Fn.func 62) #[] #[]) ∧ w'.cell? ⟨gi, 0, none⟩ = some (.int .i64 5) ∧ w'.cell? ⟨gi, 1, none⟩ = some (.int .i64 x1) ∧ w'.cell? ⟨gi, 2, none⟩ = some (.int .i64 x2) ∧ w'.cell? ⟨gi, 3, none⟩ = some (.string x3)) (first | exact ⟨hgi4, hta4, (blk_cell hta4 5).trans rfl, (blk_cell hgi4 0).trans rfl, (blk_cell hgi4 1).trans rfl, (blk_cell hgi4 2).trans rfl, (blk_cell hgi4 3).trans rfl⟩ | exact keepT (by assumption) (IsS107.drew hix4) hk5) (first | (go_at_call 62; refine (code_checker_name.calls _ s _ x1 x2 x3 _ s' w _ (IsS107.drew hix4) (below_drew1 hb4) Hst2.out).mono ?_; rintro e w5 ⟨rfl, hix5, hb5, hk5⟩))
                  have hbk5 := Aside0.mk (hk5.blk (blk_drew hbk4) (by rintro rfl; exact absurd (hix4.1.symm.trans hbk4) (by simp)) (by simp))
                  have hta5 := Aside0.mk (hk5.blk (blk_drew hta4) (by omega) (by simp))
                  clear hb4 hbk4 hta4 hix4 hgi4 hk5
                  go_wp2_with fail
                  go_roundw
                  case rel => exact ⟨k + 1, s', by go_num, ⟨by have := Hlt.out; omega⟩, ⟨by rw [← Hrd.out]⟩, ⟨hb5⟩, hbk5, hta5, ⟨hix5⟩⟩
                  case measure => have := Hlt.out; simp [intOf]; omega
              · clear hop
                have ca : wr.cell? ⟨ga, 6, none⟩ = some (Value.func (Fn.func 63) #[] #[]) := (blk_cell hta.out 6).trans rfl
                have Hst2 : Aside0 (code_checker_comp.f s 6 x1 x2 x3 = some (b, s')) := Hst
                clear Hst
                go_wp2_with fail
                have hb4 := below_alloc hb.out (.cells #[.int .i64 6, .int .i64 x1, .int .i64 x2, .string x3] 39)
                have hbk4 := blk_alloc hbk.out (.cells #[.int .i64 6, .int .i64 x1, .int .i64 x2, .string x3] 39)
                have hta4 := blk_alloc hta.out (.cells #[.int .i64 6, .int .i64 x1, .int .i64 x2, .string x3] 39)
                have hix4 := IsS107.alloc hix.out (.cells #[.int .i64 6, .int .i64 x1, .int .i64 x2, .string x3] 39)
                have hgi4 := heap_alloc_new wr (.cells #[.int .i64 6, .int .i64 x1, .int .i64 x2, .string x3] 39)
                clear hb hbk hta hix c2 cx ca q0 q1 q2 q3
                generalize (wr.alloc (.cells #[.int .i64 6, .int .i64 x1, .int .i64 x2, .string x3] 39)) = w4 at *
                generalize wr.heap.size = gi at *
                cases b
                · go_region_held3 (fun w' => w'.heap[gi]? = some (.cells #[.int .i64 6, .int .i64 x1, .int .i64 x2, .string x3] 39 (0,0)) ∧ w'.heap[ga]? = some (.cells #[Value.nilFunc, Value.func (Fn.func 58) #[] #[], Value.func (Fn.func 59) #[] #[], Value.func (Fn.func 60) #[] #[], Value.func (Fn.func 61) #[] #[], Value.func (Fn.func 62) #[] #[], Value.func (Fn.func 63) #[] #[]] 105 (0,0)) ∧ w'.cell? ⟨ga, 6, none⟩ = some (Value.func (Fn.func 63) #[] #[]) ∧ w'.cell? ⟨gi, 0, none⟩ = some (.int .i64 6) ∧ w'.cell? ⟨gi, 1, none⟩ = some (.int .i64 x1) ∧ w'.cell? ⟨gi, 2, none⟩ = some (.int .i64 x2) ∧ w'.cell? ⟨gi, 3, none⟩ = some (.string x3)) (first | exact ⟨hgi4, hta4, (blk_cell hta4 6).trans rfl, (blk_cell hgi4 0).trans rfl, (blk_cell hgi4 1).trans rfl, (blk_cell hgi4 2).trans rfl, (blk_cell hgi4 3).trans rfl⟩ | exact keepT (by assumption) (IsS107.drew hix4) hk5) (first | (go_at_call 63; refine (code_checker_comp.calls _ s _ x1 x2 x3 _ s' w _ (IsS107.drew hix4) (below_drew1 hb4) Hst2.out).mono ?_; rintro e w5 ⟨rfl, hix5, hb5, hk5⟩))
                  clear hb4 hbk4 hta4 hix4 hgi4 hk5
                  go_wp2_with fail
                  go_ret
                  exact ⟨by rw [HFIN.out, ← Hrd.out]; rfl, hb5⟩
                · go_region_held3 (fun w' => w'.heap[gi]? = some (.cells #[.int .i64 6, .int .i64 x1, .int .i64 x2, .string x3] 39 (0,0)) ∧ w'.heap[ga]? = some (.cells #[Value.nilFunc, Value.func (Fn.func 58) #[] #[], Value.func (Fn.func 59) #[] #[], Value.func (Fn.func 60) #[] #[], Value.func (Fn.func 61) #[] #[], Value.func (Fn.func 62) #[] #[], Value.func (Fn.func 63) #[] #[]] 105 (0,0)) ∧ w'.cell? ⟨ga, 6, none⟩ = some (Value.func (Fn.func 63) #[] #[]) ∧ w'.cell? ⟨gi, 0, none⟩ = some (.int .i64 6) ∧ w'.cell? ⟨gi, 1, none⟩ = some (.int .i64 x1) ∧ w'.cell? ⟨gi, 2, none⟩ = some (.int .i64 x2) ∧ w'.cell? ⟨gi, 3, none⟩ = some (.string x3)) (first | exact ⟨hgi4, hta4, (blk_cell hta4 6).trans rfl, (blk_cell hgi4 0).trans rfl, (blk_cell hgi4 1).trans rfl, (blk_cell hgi4 2).trans rfl, (blk_cell hgi4 3).trans rfl⟩ | exact keepT (by assumption) (IsS107.drew hix4) hk5) (first | (go_at_call 63; refine (code_checker_comp.calls _ s _ x1 x2 x3 _ s' w _ (IsS107.drew hix4) (below_drew1 hb4) Hst2.out).mono ?_; rintro e w5 ⟨rfl, hix5, hb5, hk5⟩))
                  have hbk5 := Aside0.mk (hk5.blk (blk_drew hbk4) (by rintro rfl; exact absurd (hix4.1.symm.trans hbk4) (by simp)) (by simp))
                  have hta5 := Aside0.mk (hk5.blk (blk_drew hta4) (by omega) (by simp))
                  clear hb4 hbk4 hta4 hix4 hgi4 hk5
                  go_wp2_with fail
                  go_roundw
                  case rel => exact ⟨k + 1, s', by go_num, ⟨by have := Hlt.out; omega⟩, ⟨by rw [← Hrd.out]⟩, ⟨hb5⟩, hbk5, hta5, ⟨hix5⟩⟩
                  case measure => have := Hlt.out; simp [intOf]; omega
            · have hltb : decide ((k : Int) < (l0_4.length : Int)) = false := decide_eq_false (by omega)
              have hltc : decide (k < l0_4.length) = false := decide_eq_false (by omega)
              have hend : runI l0_4 0 = some s := by rw [← hs.out, List.drop_of_length_le (by omega)]; rfl
              have HFIN2 := HFIN.out
              rw [hend] at HFIN2
              clear hlt hend
              by_cases hz : s = a0_2
              · have hzb : (s != a0_2) = false := by simpa using hz
                have hzc : (s == a0_2) = true := by simpa using hz
                simp only [hz, if_true] at HFIN2
                have HF := Aside0.mk HFIN2
                clear HFIN2 hz
                go_wp2_with fail
                go_quiet (fail)
                go_wp2_with fail
                go_ret
                exact ⟨by rw [HF.out]; rfl, pw_below_drewN hb.out _⟩
              · have hzb : (s != a0_2) = true := by simpa using hz
                have hzc : (s == a0_2) = false := by simpa using hz
                simp only [hz, if_false] at HFIN2
                have HF := Aside0.mk HFIN2
                clear HFIN2 hz
                go_wp2_with fail
                go_quiet (fail)
                go_wp2_with fail
                go_ret
                exact ⟨by rw [HF.out]; rfl, pw_below_drewN hb.out _⟩
        · have hqb2 : (skp l0_4 p != (l0_4.length : Int)) = true := by simpa using hq2
          have hqc2 : (skp l0_4 p == (l0_4.length : Int)) = false := by simpa using hq2
          have HF := Aside0.mk (HV.out.2.1 (by rw [← HPS.out]; exact fun h => hq2 h.2))
          clear hq hq2
          go_wp2_with fail
          clear hs hp hk hltb
          go_region_held3 (fun w' => w'.cell? ⟨g, 3, none⟩ = some (.int .i64 a0_3) ∧ w'.cell? ⟨g, 4, none⟩ = some (.slice A0_4 l0_4.length c0_4) ∧ Below g w w' ∧ w'.heap[g]? = some (.cells #[.string a0_0, .int .i64 a0_1, .int .i64 a0_2, .int .i64 a0_3, .slice A0_4 l0_4.length c0_4] 28 (0,0))) (first | exact ⟨c3, c4, hb.out.drew, blk_drew hbk.out⟩ | exact keepS HG.out (by assumption) hb2) (first | (go_at_call 19; refine (skp_calls _ _ _ l0_4 _ _ (Kd.C_below HR0_4.out (by rw [HG.out]; exact hb.out.drew)) HC0_4.out (Nat.le_trans hl20 (by decide))).mono ?_; rintro e w2 ⟨rfl, hb2⟩))
          have hb2' := (below_step (show Below w.heap.size w wr.drew by rw [HG.out]; exact hb.out.drew) hb2)
          clear hb2 hb hbk c1 c3 c4
          go_wp2_with fail
          go_ret
          exact ⟨by rw [HF.out]; rfl, hb2'⟩
      · have hqb : (p != a0_3) = true := by simpa using hq
        have hqc : (p == a0_3) = false := by simpa using hq
        have HF := Aside0.mk (HV.out.2.1 (by rw [← HPS.out]; exact fun h => hq h.1))
        have HB2 := Aside0.mk (show Below w.heap.size w wr by rw [HG.out]; exact hb.out)
        clear hq hs hp hk hb hbk
        go_wp2_with fail
        go_quiet (fail)
        go_wp2_with fail
        go_ret
        exact ⟨by rw [HF.out]; rfl, pw_below_drewN HB2.out _⟩
def code_Check.f (k : Nat) (a0_0 : ByteArray) (a0_1 : Int) (a0_2 : Int) (a0_3 : Int) (l0_4 : List (S39)) : Option (Int) := some (chkv a0_0 a0_1 a0_2 a0_3 l0_4)
theorem code_Check.mono : ∀ a0 a1 a2 a3 a4 k, LeO (code_Check.f k a0 a1 a2 a3 a4) (code_Check.f (k + 1) a0 a1 a2 a3 a4) := fun _ _ _ _ _ _ => LeO.refl _
theorem code_Check.calls (k : Nat) (a0_0 : ByteArray) (a0_1 : Int) (a0_2 : Int) (a0_3 : Int) (A0_4 : Option Addr) (c0_4 : Nat) (l0_4 : List (S39)) (r : Int) (w : World) (hr0_4 : Kd.C k39 w A0_4 l0_4.length l0_4) (hc0_4 : l0_4.length ≤ c0_4) (h : code_Check.f k a0_0 a0_1 a0_2 a0_3 l0_4 = some r) :
    Calls Try.prog 17 #[.agg #[.string a0_0, .int .i64 a0_1, .int .i64 a0_2, .int .i64 a0_3, .slice A0_4 l0_4.length c0_4]] w fun e w' => e = .returned (.int .i64 r) ∧ Below w.heap.size w w' := by
  obtain rfl := Option.some.inj h
  by_cases h1 : (20000 : Int) < l0_4.length
  · exact chk_long _ _ _ _ _ _ _ _ hr0_4 hc0_4 h1
  by_cases h2 : a0_1 < 0
  · exact chk_neg _ _ _ _ _ _ _ _ hr0_4 hc0_4 h1 h2
  by_cases h3 : 255 < a0_1
  · exact chk_many _ _ _ _ _ _ _ _ hr0_4 hc0_4 h1 h3
  by_cases h4 : 1000 < a0_0.size
  · exact chk_name _ _ _ _ _ _ _ _ hr0_4 hc0_4 h1 ⟨by omega, by omega, h4⟩
  exact chk_main _ _ _ _ _ _ _ _ hr0_4 hc0_4 h1 ⟨by omega, by omega, by omega⟩
end Go.Proofs.Ythdnaliahdohhaa.D
