/- Regions that leave their order open: the kinds of values, and what each sort of operation owes. -/
import Derived.Test.YtffgekboieimhaaReg
import Derived.Test.YtffgekboieimhaaDraw2
namespace Go.Proofs.Ytffgekboieimhaa.K
open Go.RowKit

theorem cons_len {α : Type} {n : Nat} {l : List α} (h : l.length = n + 1) : ∃ x l', l = x :: l' ∧ l'.length = n := by
  rcases l with _ | ⟨x, l'⟩
  · simp at h
  · exact ⟨x, l', rfl, by simpa using h⟩

section
variable {P : Program} {ops : Array Oper} {Q : Exit → Act → World → Prop}
theorem wpOp_plain {i : Nat} {o : Oper} {K : Act → World → Prop} {a : Act} {w : World} (ho : ops[i]? = some o) (hg : o.guard = none) (h : o.wp P a w K Q) : wpOp P ops Q i K a w := by
  unfold wpOp
  rw [ho]
  simp only [Region.wanted, hg, if_true]
  exact .inl h
theorem yield_bool {a : Act} {j t : Nat} {oj : Oper} {b : Bool} (hj : ops[j]? = some oj) (ht : oj.dst = some t) (hv : a.tmps.getD t undef = .bool b) : yielded ops a.tmps j = some b := by
  have h : a.tmps[t]? = some (.bool b) := by
    rw [Array.getD_eq_getD_getElem?] at hv
    rcases h : a.tmps[t]? with _ | x
    · rw [h] at hv; cases hv
    · rw [h] at hv; exact congrArg some hv
  unfold yielded
  rw [hj]
  simp only [Option.bind_some, ht, h]
theorem wpOp_taken {i j t : Nat} {o oj : Oper} {b : Bool} {K : Act → World → Prop} {a : Act} {w : World} (ho : ops[i]? = some o) (hg : o.guard = some (j, b)) (hj : ops[j]? = some oj) (ht : oj.dst = some t) (hv : a.tmps.getD t undef = .bool b) (h : o.wp P a w K Q) : wpOp P ops Q i K a w := by
  unfold wpOp
  rw [ho]
  simp only [Region.wanted, hg, yield_bool hj ht hv, beq_self_eq_true, if_true]
  exact .inl h
theorem wpOp_passed {i j t : Nat} {o oj : Oper} {b b' : Bool} {K : Act → World → Prop} {a : Act} {w : World} (ho : ops[i]? = some o) (hg : o.guard = some (j, b)) (hj : ops[j]? = some oj) (ht : oj.dst = some t) (hv : a.tmps.getD t undef = .bool b') (hne : b' ≠ b) (h : K (a.put o.dst undef) w) : wpOp P ops Q i K a w := by
  unfold wpOp
  rw [ho]
  have e : (some b' == some b) = false := by cases b <;> cases b' <;> first | rfl | exact absurd rfl hne
  simp only [Region.wanted, hg, yield_bool hj ht hv, e, Bool.false_eq_true, if_false]
  exact h
end

/-- A kind of value that writes to block B alone, and new blocks, do not turn. -/
def Stable (B : Nat) (p : Value → World → Prop) : Prop := ∀ x w w', w.grownBy w' (some B) → p x w → p x w'
abbrev Kind (B : Nat) : Type := { p : Value → World → Prop // Stable B p }
def kIs (B : Nat) (v : Value) : Kind B := ⟨fun x _ => x = v, fun _ _ _ _ h => h⟩
/-- a number between lo and hi -/
def kInt (B : Nat) (lo hi : Int) : Kind B := ⟨fun x _ => ∃ n : Int, x = .int .i64 n ∧ lo ≤ n ∧ n ≤ hi, fun _ _ _ _ h => h⟩
/-- a slice of k numbers between lo and hi -/
def kTab (B k : Nat) (lo hi : Int) : Kind B := ⟨fun x w => ∃ g, x = .slice (some ⟨g, 0, none⟩) k k ∧ g ≠ B ∧ g < w.heap.size ∧ ∀ j, j < k → ∃ n : Int, w.cell? ⟨g, j, none⟩ = some (.int .i64 n) ∧ lo ≤ n ∧ n ≤ hi, by
  rintro x w w' hg ⟨g, rfl, hne, hlt, hc⟩
  refine ⟨g, rfl, hne, Nat.lt_of_lt_of_le hlt hg.size, fun j hj => ?_⟩
  obtain ⟨n, h1, h2⟩ := hc j hj
  exact ⟨n, by rw [← h1]; exact World.cell?_of_block (a := ⟨g, j, none⟩) (hg.block g hlt (fun e => hne (by injection e))), h2⟩⟩
/-- the address of a number between lo and hi -/
def kCell (B : Nat) (lo hi : Int) : Kind B := ⟨fun x w => ∃ g j, x = .pointer (some ⟨g, j, none⟩) ∧ g ≠ B ∧ g < w.heap.size ∧ ∃ n : Int, w.cell? ⟨g, j, none⟩ = some (.int .i64 n) ∧ lo ≤ n ∧ n ≤ hi, by
  rintro x w w' hg ⟨g, j, rfl, hne, hlt, n, h1, h2⟩
  exact ⟨g, j, rfl, hne, Nat.lt_of_lt_of_le hlt hg.size, n, by rw [← h1]; exact World.cell?_of_block (a := ⟨g, j, none⟩) (hg.block g hlt (fun e => hne (by injection e))), h2⟩⟩

theorem kInt_out {B : Nat} {lo hi : Int} {x : Value} {w : World} (h : (kInt B lo hi).1 x w) : ∃ n : Int, x = .int .i64 n ∧ lo ≤ n ∧ n ≤ hi := h
theorem kInt_mk {B : Nat} {lo hi n : Int} {w : World} (h1 : lo ≤ n) (h2 : n ≤ hi) : (kInt B lo hi).1 (.int .i64 n) w := ⟨n, rfl, h1, h2⟩
theorem kTab_out {B k : Nat} {lo hi : Int} {x : Value} {w : World} (h : (kTab B k lo hi).1 x w) : ∃ g, x = .slice (some ⟨g, 0, none⟩) k k ∧ g ≠ B ∧ g < w.heap.size ∧ ∀ j, j < k → ∃ n : Int, w.cell? ⟨g, j, none⟩ = some (.int .i64 n) ∧ lo ≤ n ∧ n ≤ hi := h
theorem kCell_out {B : Nat} {lo hi : Int} {x : Value} {w : World} (h : (kCell B lo hi).1 x w) : ∃ g j, x = .pointer (some ⟨g, j, none⟩) ∧ g ≠ B ∧ g < w.heap.size ∧ ∃ n : Int, w.cell? ⟨g, j, none⟩ = some (.int .i64 n) ∧ lo ≤ n ∧ n ≤ hi := h
theorem kCell_mk {B g j : Nat} {lo hi : Int} {w : World} (h1 : g ≠ B) (h2 : g < w.heap.size) (h3 : ∃ n : Int, w.cell? ⟨g, j, none⟩ = some (.int .i64 n) ∧ lo ≤ n ∧ n ≤ hi) : (kCell B lo hi).1 (.pointer (some ⟨g, j, none⟩)) w := ⟨g, j, rfl, h1, h2, h3⟩
theorem tab_new {B k : Nat} {lo hi : Int} (w : World) (xs : List Int) (hB : B < w.heap.size) (h : ∀ x ∈ xs, lo ≤ x ∧ x ≤ hi) (hk : xs.length = k) : (kTab B k lo hi).1 (.slice (some ⟨w.heap.size, 0, none⟩) k k) (w.alloc (.cells (xs.map (Value.int .i64)).toArray 3)) := by
  refine ⟨w.heap.size, rfl, by omega, by simp, fun j hj => ?_⟩
  have hj' : j < xs.length := by omega
  refine ⟨xs[j], ?_, h _ (List.getElem_mem hj')⟩
  rw [cell_of_row _ w.heap.size j _ 3 (0, 0) (heap_alloc_new w _)]
  simp [hj']

def kindAt {B : Nat} (Vs : List (Kind B)) (i : Nat) (x : Value) (w : World) : Prop := match Vs[i]? with | some p => p.1 x w | none => True
theorem kindAt_keep {B : Nat} {Vs : List (Kind B)} {w w' : World} (h : w.grownBy w' (some B)) : ∀ j x, kindAt Vs j x w → kindAt Vs j x w' := by
  intro j x hx
  unfold kindAt at *
  split
  · rename_i p hp
    rw [hp] at hx
    exact p.2 x w w' h hx
  · trivial

/-- A region over a reader: one goal an operation. -/
theorem wp_region_kinds {P : Program} {ops : Array Oper} {Q : Exit → Act → World → Prop} {id : Nat} {A : Act} {w : World} {B lim : Nat} (Vs : List (Kind B)) (hm : P.follows .mixedOrders = true) (hap : apartDst ops = true) (hdown : downEdges ops = true)
    (hdst : ∀ o ∈ ops.toList, ∀ t, o.dst = some t → t < A.tmps.size) (hR : Rd w B lim)
    (hops : AllOwe P ops Q A (fun c w' => Rd w' B (lim + c) ∧ w.grownBy w' (some B)) (kindAt Vs) 0 ops.toList)
    (hend : ∀ a w', Rd w' B (lim + ops.size) → w.grownBy w' (some B) → a.defers = A.defers → a.tmps.size = A.tmps.size → (∀ t, (∀ o ∈ ops.toList, o.dst ≠ some t) → a.tmps.getD t undef = A.tmps.getD t undef) →
      (∀ i o t, ops[i]? = some o → o.dst = some t → kindAt Vs i (a.tmps.getD t undef) w') → Q .normal a w') :
    (Code.region id ops true).wp P Q A w :=
  wp_region_owe hm (fun c w' => Rd w' B (lim + c) ∧ w.grownBy w' (some B)) (kindAt Vs) hap hdst (fun c c' w' hc h => ⟨h.1.more (by omega), h.2⟩) ⟨hR.drew, gdrew (World.grownBy.refl _ _)⟩ hops
    (fun a w' h => hend a w' h.1 h.2) hdown

/-- A region whose values are all known, and whose callees lay blocks at most. -/
theorem wp_region_vals {P : Program} {ops : Array Oper} {Q : Exit → Act → World → Prop} {id : Nat} {A : Act} {w : World} (Vals : List Value) (hm : P.follows .mixedOrders = true) (hap : apartDst ops = true) (hdown : downEdges ops = true)
    (hdst : ∀ o ∈ ops.toList, ∀ t, o.dst = some t → t < A.tmps.size)
    (hops : AllOwe P ops Q A (fun _ w' => Below w.heap.size w w') (fun i x _ => x = Vals.getD i undef) 0 ops.toList)
    (hend : ∀ a w', Below w.heap.size w w' → a.defers = A.defers → a.tmps.size = A.tmps.size → (∀ t, (∀ o ∈ ops.toList, o.dst ≠ some t) → a.tmps.getD t undef = A.tmps.getD t undef) →
      (∀ i o t, ops[i]? = some o → o.dst = some t → a.tmps.getD t undef = Vals.getD i undef) → Q .normal a w') :
    (Code.region id ops true).wp P Q A w :=
  wp_region_owe hm (fun _ w' => Below w.heap.size w w') (fun i x _ => x = Vals.getD i undef) hap hdst (fun c c' w' hc h => h) (bdrew (Below.refl _ _)) hops
    (fun a w' h => hend a w' h) hdown

end Go.Proofs.Ytffgekboieimhaa.K
