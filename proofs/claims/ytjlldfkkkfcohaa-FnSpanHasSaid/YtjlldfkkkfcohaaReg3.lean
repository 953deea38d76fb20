/- A region that leaves its order open and writes to blocks that lie below: one goal an operation, and of each operation a fact on the world. -/
import Derived.Test.YtjlldfkkkfcohaaReg2
import Derived.Test.YtjlldfkkkfcohaaPairs
namespace Go.Proofs.Ytjlldfkkkfcohaa.K
open Go.RowKit

section
variable {P : Program} {ops : Array Oper} {Q : Exit → Act → World → Prop}

structure Known3 (ops : Array Oper) (A : Act) (J : Nat → World → Prop) (V : Nat → Value → World → Prop) (D : Nat → World → Prop) (listed : Array Bool) (a : Act) (w : World) : Prop where
  world : J (ops.size - left ops listed) w
  defers : a.defers = A.defers
  size : a.tmps.size = A.tmps.size
  old : ∀ t, (∀ o ∈ ops.toList, o.dst ≠ some t) → a.tmps.getD t undef = A.tmps.getD t undef
  new : ∀ i o t, ops[i]? = some o → o.dst = some t → listed.getD i false = true → V i (a.tmps.getD t undef) w
  eff : ∀ i, listed.getD i false = true → D i w

/-- What each operation owes. -/
def Owes3 (P : Program) (ops : Array Oper) (Q : Exit → Act → World → Prop) (A : Act) (J : Nat → World → Prop) (V : Nat → Value → World → Prop) (D : Nat → World → Prop) (i : Nat) (o : Oper) : Prop :=
  ∀ (a : Act) (w : World) (c : Nat), c ≤ ops.size → J c w → (∀ t, (∀ o ∈ ops.toList, o.dst ≠ some t) → a.tmps.getD t undef = A.tmps.getD t undef) →
    (∀ (j : Nat) (oj : Oper) (t : Nat), (o.after.any fun e => e.on == j && Region.binds .any e) = true → ops[j]? = some oj → oj.dst = some t → V j (a.tmps.getD t undef) w) →
    ∀ K : Act → World → Prop, (∀ v w', V i v w' → D i w' → J (c + 1) w' → (∀ j x, V j x w → V j x w') → (∀ j, D j w → D j w') → K (a.put o.dst v) w') → wpOp P ops Q i K a w
def AllOwe3 (P : Program) (ops : Array Oper) (Q : Exit → Act → World → Prop) (A : Act) (J : Nat → World → Prop) (V : Nat → Value → World → Prop) (D : Nat → World → Prop) : Nat → List Oper → Prop
  | _, [] => True
  | k, o :: rest => Owes3 P ops Q A J V D k o ∧ AllOwe3 P ops Q A J V D (k + 1) rest
theorem AllOwe3.get {A : Act} {J : Nat → World → Prop} {V : Nat → Value → World → Prop} {D : Nat → World → Prop} : ∀ (l : List Oper) (k : Nat), AllOwe3 P ops Q A J V D k l → ∀ i o, l[i]? = some o → Owes3 P ops Q A J V D (k + i) o
  | [], _, _, _, _, h => by simp at h
  | o :: rest, k, h, 0, o', e => by simp at e; subst e; exact h.1
  | o :: rest, k, h, i + 1, o', e => by
    have := AllOwe3.get rest (k + 1) h.2 i o' (by simpa using e)
    rwa [show k + 1 + i = k + (i + 1) by omega] at this

/-- Each operation waits for elder ones alone, in every order. -/
def downBinds (ops : Array Oper) : Bool := (List.range ops.size).all fun i => ((ops[i]?).map (·.after.all fun e => !Region.binds .any e || decide (e.on < i))).getD false
theorem full_of3 (h : downBinds ops = true) {listed : Array Bool} (hs : listed.size = ops.size) (hr : Region.ready .any ops listed = []) : ∀ i, i < ops.size → listed.getD i false = true := by
  intro i
  induction i using Nat.strongRecOn with
  | _ i ih =>
    intro hi
    have hd := List.all_eq_true.1 h i (List.mem_range.2 hi)
    rw [Array.getElem?_eq_getElem hi] at hd
    simp only [Option.map_some, Option.getD_some] at hd
    have hd' := Array.all_eq_true_iff_forall_mem.1 hd
    rcases hb : listed.getD i false with _ | _
    · exfalso
      have hm : i ∈ Region.ready .any ops listed := by
        refine mem_ready.2 ⟨?_, _, Array.getElem?_eq_getElem hi, fun e he hbd => ?_⟩
        · rw [Array.getD_eq_getD_getElem?, Array.getElem?_eq_getElem (by omega)] at hb ⊢
          exact hb
        · have h1 := hd' e he
          rw [hbd] at h1
          exact ih e.on (of_decide_eq_true (by simpa using h1)) (by have := of_decide_eq_true (p := e.on < i) (by simpa using h1); omega)
      rw [hr] at hm; cases hm
    · rfl

theorem wp_region_owe3 {id : Nat} {A : Act} {w : World} (hm : P.follows .mixedOrders = true) (J : Nat → World → Prop) (V : Nat → Value → World → Prop) (D : Nat → World → Prop) (hap : apartDst ops = true)
    (hdst : ∀ o ∈ ops.toList, ∀ t, o.dst = some t → t < A.tmps.size) (hJ : ∀ c c' w, c ≤ c' → J c w → J c' w) (h0 : J 0 w.drew)
    (hops : AllOwe3 P ops Q A J V D 0 ops.toList)
    (hend : ∀ a w, J ops.size w → a.defers = A.defers → a.tmps.size = A.tmps.size → (∀ t, (∀ o ∈ ops.toList, o.dst ≠ some t) → a.tmps.getD t undef = A.tmps.getD t undef) →
      (∀ i o t, ops[i]? = some o → o.dst = some t → V i (a.tmps.getD t undef) w) → (∀ i, i < ops.size → D i w) → Q .normal a w)
    (hdown : downBinds ops = true) :
    (Code.region id ops true).wp P Q A w := by
  refine wp_region_any hm (wpAny_inv (fun listed a w => listed.size = ops.size ∧ Known3 ops A J V D listed a w) ?_ ?_ ops.size _ A _ ?_ ⟨by simp, ⟨hJ _ _ _ (Nat.zero_le _) h0, rfl, rfl, fun _ _ => rfl, fun i o t _ _ h => ?_, fun i h => ?_⟩⟩)
  · rintro listed a w i ⟨hs, K⟩ hi
    obtain ⟨h1, o, ho, hall⟩ := mem_ready.1 hi
    have hlt := (Array.getElem?_eq_some_iff.1 ho).1
    have how := AllOwe3.get ops.toList 0 hops i o (by simpa using ho)
    rw [Nat.zero_add] at how
    refine how a w _ (Nat.sub_le _ _) K.world K.old (fun j oj t hj hoj ht => ?_) _ (fun v w' hv hD hJ' hst hsd => ?_)
    rotate_left
    · refine ⟨by simpa using hs, ⟨hJ _ _ _ (by have := left_lt hi; have := left_le (ops := ops) listed; omega) hJ', ?_, ?_, fun t ht => ?_, fun k ok t hk ht hl => ?_, fun k hl => ?_⟩⟩
      · rw [← K.defers]; unfold Act.put; split <;> rfl
      · rw [← K.size]; unfold Act.put; split <;> simp
      · rw [put_getD_ne (ht o (by exact List.mem_of_getElem? (by simpa using ho)))]; exact K.old t ht
      · by_cases e : i = k
        · subst e
          rw [ho] at hk
          injection hk with hk
          subst hk
          rw [ht, put_getD_eq (by rw [K.size]; exact hdst o (List.mem_of_getElem? (by simpa using ho)) t ht)]
          exact hv
        · have hne : o.dst ≠ some t := fun e2 => e (apartDst_spec hap ho hk e2 ht)
          rw [put_getD_ne hne]
          refine hst k _ (K.new k ok t hk ht ?_)
          simpa [Array.getD_eq_getD_getElem?, Array.getElem?_setIfInBounds_ne e] using hl
      · by_cases e : i = k
        · subst e
          exact hD
        · refine hsd k (K.eff k ?_)
          simpa [Array.getD_eq_getD_getElem?, Array.getElem?_setIfInBounds_ne e] using hl
    · obtain ⟨e, he, heq⟩ := Array.any_eq_true'.1 hj
      simp only [Bool.and_eq_true, beq_iff_eq] at heq
      obtain ⟨rfl, hb⟩ := heq
      exact K.new _ oj t hoj ht (hall e he hb)
  · rintro listed a w ⟨hs, K⟩ hr
    exact hend a w (hJ _ _ _ (Nat.sub_le _ _) K.world) K.defers K.size K.old (fun i o t ho ht => K.new i o t ho ht (full_of3 hdown hs hr i (Array.getElem?_eq_some_iff.1 ho).1)) (fun i hi => K.eff i (full_of3 hdown hs hr i hi))
  · unfold left
    exact Nat.le_trans (List.length_filter_le _ _) (by simp)
  · have e : (Array.replicate ops.size false).getD i false = false := by rw [Array.getD_eq_getD_getElem?, Array.getElem?_replicate]; split <;> rfl
    rw [e] at h; cases h
  · have e : (Array.replicate ops.size false).getD i false = false := by rw [Array.getD_eq_getD_getElem?, Array.getElem?_replicate]; split <;> rfl
    rw [e] at h; cases h

end

/-- Blocks from W0 on are kept. -/
def St (W0 : Nat) (w w' : World) : Prop := w.heap.size ≤ w'.heap.size ∧ ∀ b, W0 ≤ b → b < w.heap.size → w'.heap[b]? = w.heap[b]?
theorem St.refl (W0 : Nat) (w : World) : St W0 w w := ⟨Nat.le_refl _, fun _ _ _ => rfl⟩
theorem St.alloc (W0 : Nat) (w : World) (o : Obj) : St W0 w (w.alloc o) := ⟨by simp, fun _ _ h => Below.heap_alloc _ _ _ h⟩
theorem St.grown {W0 B : Nat} {w w' : World} (h : w.grownBy w' (some B)) (hB : B < W0) : St W0 w w' := ⟨h.size, fun b h1 h2 => h.block b h2 (fun e => by injection e; omega)⟩
theorem St.set {W0 : Nat} {w X : World} (h : St W0 w X) {a : Addr} (ha : a.block < W0) (u : Value) : St W0 w (X.setCell a u) := ⟨by simpa using h.1, fun b h1 h2 => (Below.heap_setCell _ _ _ _ (by omega)).trans (h.2 b h1 h2)⟩
abbrev Kin (W0 : Nat) : Type := { p : Value → World → Prop // ∀ x w w', St W0 w w' → p x w → p x w' }
def jIs (W0 : Nat) (v : Value) : Kin W0 := ⟨fun x _ => x = v, fun _ _ _ _ h => h⟩
def jInt (W0 : Nat) (lo hi : Int) : Kin W0 := ⟨fun x _ => ∃ n : Int, x = .int .i64 n ∧ lo ≤ n ∧ n ≤ hi, fun _ _ _ _ h => h⟩
def jTab (W0 k : Nat) (lo hi : Int) : Kin W0 := ⟨fun x w => ∃ g, x = .slice (some ⟨g, 0, none⟩) k k ∧ W0 ≤ g ∧ g < w.heap.size ∧ ∀ j, j < k → ∃ n : Int, w.cell? ⟨g, j, none⟩ = some (.int .i64 n) ∧ lo ≤ n ∧ n ≤ hi, by
  rintro x w w' hg ⟨g, rfl, hne, hlt, hc⟩
  refine ⟨g, rfl, hne, Nat.lt_of_lt_of_le hlt hg.1, fun j hj => ?_⟩
  obtain ⟨n, h1, h2⟩ := hc j hj
  exact ⟨n, by rw [← h1]; exact World.cell?_of_block (a := ⟨g, j, none⟩) (hg.2 g hne hlt), h2⟩⟩
def jCell (W0 : Nat) (lo hi : Int) : Kin W0 := ⟨fun x w => ∃ g j, x = .pointer (some ⟨g, j, none⟩) ∧ W0 ≤ g ∧ g < w.heap.size ∧ ∃ n : Int, w.cell? ⟨g, j, none⟩ = some (.int .i64 n) ∧ lo ≤ n ∧ n ≤ hi, by
  rintro x w w' hg ⟨g, j, rfl, hne, hlt, n, h1, h2⟩
  exact ⟨g, j, rfl, hne, Nat.lt_of_lt_of_le hlt hg.1, n, by rw [← h1]; exact World.cell?_of_block (a := ⟨g, j, none⟩) (hg.2 g hne hlt), h2⟩⟩
theorem jInt_out {W0 : Nat} {lo hi : Int} {x : Value} {w : World} (h : (jInt W0 lo hi).1 x w) : ∃ n : Int, x = .int .i64 n ∧ lo ≤ n ∧ n ≤ hi := h
theorem jInt_mk {W0 : Nat} {lo hi n : Int} {w : World} (h1 : lo ≤ n) (h2 : n ≤ hi) : (jInt W0 lo hi).1 (.int .i64 n) w := ⟨n, rfl, h1, h2⟩
theorem jTab_out {W0 k : Nat} {lo hi : Int} {x : Value} {w : World} (h : (jTab W0 k lo hi).1 x w) : ∃ g, x = .slice (some ⟨g, 0, none⟩) k k ∧ W0 ≤ g ∧ g < w.heap.size ∧ ∀ j, j < k → ∃ n : Int, w.cell? ⟨g, j, none⟩ = some (.int .i64 n) ∧ lo ≤ n ∧ n ≤ hi := h
theorem jCell_out {W0 : Nat} {lo hi : Int} {x : Value} {w : World} (h : (jCell W0 lo hi).1 x w) : ∃ g j, x = .pointer (some ⟨g, j, none⟩) ∧ W0 ≤ g ∧ g < w.heap.size ∧ ∃ n : Int, w.cell? ⟨g, j, none⟩ = some (.int .i64 n) ∧ lo ≤ n ∧ n ≤ hi := h
theorem jCell_mk {W0 g j : Nat} {lo hi : Int} {w : World} (h1 : W0 ≤ g) (h2 : g < w.heap.size) (h3 : ∃ n : Int, w.cell? ⟨g, j, none⟩ = some (.int .i64 n) ∧ lo ≤ n ∧ n ≤ hi) : (jCell W0 lo hi).1 (.pointer (some ⟨g, j, none⟩)) w := ⟨g, j, rfl, h1, h2, h3⟩
theorem jtab_new {W0 k : Nat} {lo hi : Int} (w : World) (xs : List Int) (hB : W0 ≤ w.heap.size) (h : ∀ x ∈ xs, lo ≤ x ∧ x ≤ hi) (hk : xs.length = k) : (jTab W0 k lo hi).1 (.slice (some ⟨w.heap.size, 0, none⟩) k k) (w.alloc (.cells (xs.map (Value.int .i64)).toArray 3)) := by
  refine ⟨w.heap.size, rfl, hB, by simp, fun j hj => ?_⟩
  have hj' : j < xs.length := by omega
  refine ⟨xs[j], ?_, h _ (List.getElem_mem hj')⟩
  rw [cell_of_row _ w.heap.size j _ 3 (0, 0) (heap_alloc_new w _)]
  simp [hj']
def kinAt {W0 : Nat} (Vs : List (Kin W0)) (i : Nat) (x : Value) (w : World) : Prop := match Vs[i]? with | some p => p.1 x w | none => True
theorem kinAt_keep {W0 : Nat} {Vs : List (Kin W0)} {w w' : World} (h : St W0 w w') : ∀ j x, kinAt Vs j x w → kinAt Vs j x w' := by
  intro j x hx
  unfold kinAt at *
  split
  · rename_i p hp
    rw [hp] at hx
    exact p.2 x w w' h hx
  · trivial

/-- A reader is kept where a struct of two numbers is written to, wherever it lies. -/
theorem Rd.pair {w : World} {B lim R : Nat} {p q : Int} {t : TypeId} (h : Rd w B lim) (hp : Pair w R p q t) (hne : R ≠ B) (j : Nat) (u : Value) : Rd (w.setCell ⟨R, j, none⟩ u) B lim := by
  obtain ⟨A, n, c, pp, f, h1, h2, h3, h4⟩ := h
  refine ⟨A, n, c, pp, f, (Below.heap_setCell _ _ _ _ (fun e => hne e.symm)).trans h1, h2, h3, fun hn => ?_⟩
  obtain ⟨b, off, e, hb, hc⟩ := h4 hn
  have hbR : b ≠ R := by
    rintro rfl
    have h0 := (hc 0 hn).1
    rw [cell_of_row _ b _ _ t (0, 0) hp] at h0
    match off, h0 with
    | 0, h0 => simp at h0
    | 1, h0 => simp at h0
    | k + 2, h0 => simp at h0
  exact ⟨b, off, e, hb, fun i hi => ⟨(World.cell?_of_block (Below.heap_setCell _ _ _ _ hbR)).trans (hc i hi).1, (hc i hi).2⟩⟩

end Go.Proofs.Ytjlldfkkkfcohaa.K
