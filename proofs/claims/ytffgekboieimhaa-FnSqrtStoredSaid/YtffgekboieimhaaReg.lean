/- A region that leaves its order open, by one goal an operation: each operation, whenever it comes up, leaves a value of its kind, and what was known stays known. -/
import Derived.Test.YtffgekboieimhaaBase
namespace Go.Proofs.Ytffgekboieimhaa.K
open Go.RowKit

section
variable {P : Program} {ops : Array Oper} {Q : Exit → Act → World → Prop}

theorem filt_lt {α : Type} {p p' : α → Bool} (i : α) (hi : p i = true) (hi' : p' i = false) (hle : ∀ j, p' j = true → p j = true) : ∀ l : List α, i ∈ l → (l.filter p').length < (l.filter p).length := by
  have le : ∀ l : List α, (l.filter p').length ≤ (l.filter p).length := by
    intro l
    induction l with
    | nil => simp
    | cons a l ih =>
      simp only [List.filter_cons]
      rcases h' : p' a with _ | _
      · rcases p a with _ | _ <;> simp <;> omega
      · rw [hle a h']; simpa using ih
  intro l
  induction l with
  | nil => intro h; cases h
  | cons a l ih =>
    intro h
    simp only [List.filter_cons]
    rcases List.mem_cons.1 h with rfl | h
    · rw [hi, hi']; simp; have := le l; omega
    · have h1 := ih h
      rcases h' : p' a with _ | _
      · rcases p a with _ | _ <;> simp <;> omega
      · rw [hle a h']; simpa using h1

/-- How many are still to come up. -/
def left (ops : Array Oper) (listed : Array Bool) : Nat := ((List.range ops.size).filter fun i => !listed.getD i true).length

theorem left_lt {listed : Array Bool} {i : Nat} (hi : i ∈ Region.ready .any ops listed) : left ops (listed.setIfInBounds i true) < left ops listed := by
  obtain ⟨h0, o, ho, _⟩ := mem_ready.1 hi
  have hlt := (Array.getElem?_eq_some_iff.1 ho).1
  have hin : i < listed.size := by
    rcases Nat.lt_or_ge i listed.size with h | h
    · exact h
    · rw [Array.getD_eq_getD_getElem?, Array.getElem?_eq_none h] at h0; cases h0
  exact filt_lt (p := fun i => !listed.getD i true) (p' := fun j => !(listed.setIfInBounds i true).getD j true) i (by simp only [h0]; rfl)
    (by simp [Array.getD_eq_getD_getElem?, Array.getElem?_setIfInBounds, hin]) (fun j hj => by
      by_cases e : i = j
      · subst e; simp [Array.getD_eq_getD_getElem?, Array.getElem?_setIfInBounds, hin] at hj
      · simpa [Array.getD_eq_getD_getElem?, Array.getElem?_setIfInBounds_ne e] using hj) (List.range ops.size) (List.mem_range.2 hlt)
theorem left_le (listed : Array Bool) : left ops listed ≤ ops.size := Nat.le_trans (List.length_filter_le _ _) (by simp)

theorem wpAny_inv (I : Array Bool → Act → World → Prop)
    (hstep : ∀ listed a w i, I listed a w → i ∈ Region.ready .any ops listed → wpOp P ops Q i (fun a' w' => I (listed.setIfInBounds i true) a' w') a w)
    (hend : ∀ listed a w, I listed a w → Region.ready .any ops listed = [] → Q .normal a w) :
    ∀ (fuel : Nat) (listed : Array Bool) (a : Act) (w : World), left ops listed ≤ fuel → I listed a w → wpAny P .any ops Q fuel listed a w := by
  intro fuel
  induction fuel with
  | zero =>
    intro listed a w hl hI
    have hr : Region.ready .any ops listed = [] := by
      rcases h : Region.ready .any ops listed with _ | ⟨i, rs⟩
      · rfl
      · exfalso
        have hi : i ∈ Region.ready .any ops listed := by rw [h]; simp
        obtain ⟨h0, o, ho, _⟩ := mem_ready.1 hi
        have hm : i ∈ (List.range ops.size).filter fun i => !listed.getD i true := List.mem_filter.2 ⟨List.mem_range.2 (Array.getElem?_eq_some_iff.1 ho).1, by rw [h0]; rfl⟩
        have := List.length_pos_of_mem hm
        unfold left at hl
        omega
    exact ⟨hr, hend listed a w hI hr⟩
  | succ fuel ih =>
    intro listed a w hl hI
    refine ⟨hend listed a w hI, fun i hi => ?_⟩
    refine wpOp_mono (fun a' w' h => ih _ a' w' ?_ h) (hstep listed a w i hI hi)
    have := left_lt hi
    omega

/-- What is known while the region runs: J of the world; the slots that the region does not write are as they were; each operation that has come up has left a value of its kind. -/
structure Known (ops : Array Oper) (A : Act) (J : Nat → World → Prop) (V : Nat → Value → World → Prop) (listed : Array Bool) (a : Act) (w : World) : Prop where
  world : J (ops.size - left ops listed) w
  defers : a.defers = A.defers
  size : a.tmps.size = A.tmps.size
  old : ∀ t, (∀ o ∈ ops.toList, o.dst ≠ some t) → a.tmps.getD t undef = A.tmps.getD t undef
  new : ∀ i o t, ops[i]? = some o → o.dst = some t → listed.getD i false = true → V i (a.tmps.getD t undef) w

/-- What each operation owes. -/
def Owes (P : Program) (ops : Array Oper) (Q : Exit → Act → World → Prop) (A : Act) (J : Nat → World → Prop) (V : Nat → Value → World → Prop) (i : Nat) (o : Oper) : Prop :=
  ∀ (a : Act) (w : World) (c : Nat), c ≤ ops.size → J c w → (∀ t, (∀ o ∈ ops.toList, o.dst ≠ some t) → a.tmps.getD t undef = A.tmps.getD t undef) →
    (∀ (j : Nat) (oj : Oper) (t : Nat), (o.after.any fun e => e.on == j && Region.binds .any e) = true → ops[j]? = some oj → oj.dst = some t → V j (a.tmps.getD t undef) w) →
    ∀ K : Act → World → Prop, (∀ v w', V i v w' → J (c + 1) w' → (∀ j x, V j x w → V j x w') → K (a.put o.dst v) w') → wpOp P ops Q i K a w

def AllOwe (P : Program) (ops : Array Oper) (Q : Exit → Act → World → Prop) (A : Act) (J : Nat → World → Prop) (V : Nat → Value → World → Prop) : Nat → List Oper → Prop
  | _, [] => True
  | k, o :: rest => Owes P ops Q A J V k o ∧ AllOwe P ops Q A J V (k + 1) rest
theorem AllOwe.get {A : Act} {J : Nat → World → Prop} {V : Nat → Value → World → Prop} : ∀ (l : List Oper) (k : Nat), AllOwe P ops Q A J V k l → ∀ i o, l[i]? = some o → Owes P ops Q A J V (k + i) o
  | [], _, _, _, _, h => by simp at h
  | o :: rest, k, h, 0, o', e => by simp at e; subst e; exact h.1
  | o :: rest, k, h, i + 1, o', e => by
    have := AllOwe.get rest (k + 1) h.2 i o' (by simpa using e)
    rwa [show k + 1 + i = k + (i + 1) by omega] at this

/-- No two operations write one slot. -/
def apartDst (ops : Array Oper) : Bool := (List.range ops.size).all fun i => (List.range ops.size).all fun j => i == j || (((ops[i]?).bind (·.dst)) == none) || ((ops[i]?).bind (·.dst)) != ((ops[j]?).bind (·.dst))
theorem apartDst_spec (h : apartDst ops = true) {i j : Nat} {oi oj : Oper} {t : Nat} (hi : ops[i]? = some oi) (hj : ops[j]? = some oj) (ti : oi.dst = some t) (tj : oj.dst = some t) : i = j := by
  unfold apartDst at h
  have h1 := List.all_eq_true.1 h i (List.mem_range.2 (Array.getElem?_eq_some_iff.1 hi).1)
  have h2 := List.all_eq_true.1 h1 j (List.mem_range.2 (Array.getElem?_eq_some_iff.1 hj).1)
  simp [hi, hj, ti, tj] at h2
  exact h2

theorem put_getD_ne {a : Act} {d : Option Tmp} {v : Value} {t : Nat} (h : d ≠ some t) : (a.put d v).tmps.getD t undef = a.tmps.getD t undef := by
  unfold Act.put
  split
  · rename_i k
    show (a.tmps.setIfInBounds k v).getD t undef = _
    rw [Array.getD_eq_getD_getElem?, Array.getD_eq_getD_getElem?, Array.getElem?_setIfInBounds_ne (fun e => h (by rw [e]))]
  · rfl
theorem put_getD_eq {a : Act} {v : Value} {t : Nat} (h : t < a.tmps.size) : (a.put (some t) v).tmps.getD t undef = v := by
  show (a.tmps.setIfInBounds t v).getD t undef = v
  rw [Array.getD_eq_getD_getElem?, Array.getElem?_setIfInBounds_self_of_lt h]; rfl

/-- Each operation waits for elder ones alone. -/
def downEdges (ops : Array Oper) : Bool := (List.range ops.size).all fun i => ((ops[i]?).map (·.after.all fun e => decide (e.on < i))).getD false
theorem full_of (h : downEdges ops = true) {listed : Array Bool} (hs : listed.size = ops.size) (hr : Region.ready .any ops listed = []) : ∀ i, i < ops.size → listed.getD i false = true := by
  intro i
  induction i using Nat.strongRecOn with
  | _ i ih =>
    intro hi
    have hd := List.all_eq_true.1 h i (List.mem_range.2 hi)
    rw [Array.getElem?_eq_getElem hi] at hd
    simp only [Option.map_some, Option.getD_some] at hd
    have hd' := Array.all_eq_true_iff_forall_mem.1 hd
    rcases hb : listed.getD i false with _ | _
    · exfalso
      have hm : i ∈ Region.ready .any ops listed := by
        refine mem_ready.2 ⟨?_, _, Array.getElem?_eq_getElem hi, fun e he _ => ?_⟩
        · rw [Array.getD_eq_getD_getElem?, Array.getElem?_eq_getElem (by omega)] at hb ⊢
          exact hb
        · have := of_decide_eq_true (hd' e he)
          exact ih e.on this (by omega)
      rw [hr] at hm; cases hm
    · rfl

/-- THE REGION: one goal an operation, and what follows once. -/
theorem wp_region_owe {id : Nat} {A : Act} {w : World} (hm : P.follows .mixedOrders = true) (J : Nat → World → Prop) (V : Nat → Value → World → Prop) (hap : apartDst ops = true)
    (hdst : ∀ o ∈ ops.toList, ∀ t, o.dst = some t → t < A.tmps.size) (hJ : ∀ c c' w, c ≤ c' → J c w → J c' w) (h0 : J 0 w.drew)
    (hops : AllOwe P ops Q A J V 0 ops.toList)
    (hend : ∀ a w, J ops.size w → a.defers = A.defers → a.tmps.size = A.tmps.size → (∀ t, (∀ o ∈ ops.toList, o.dst ≠ some t) → a.tmps.getD t undef = A.tmps.getD t undef) →
      (∀ i o t, ops[i]? = some o → o.dst = some t → V i (a.tmps.getD t undef) w) → Q .normal a w)
    (hdown : downEdges ops = true) :
    (Code.region id ops true).wp P Q A w := by
  refine wp_region_any hm (wpAny_inv (fun listed a w => listed.size = ops.size ∧ Known ops A J V listed a w) ?_ ?_ ops.size _ A _ ?_ ⟨by simp, ⟨hJ _ _ _ (Nat.zero_le _) h0, rfl, rfl, fun _ _ => rfl, fun i o t _ _ h => ?_⟩⟩)
  · rintro listed a w i ⟨hs, K⟩ hi
    obtain ⟨h1, o, ho, hall⟩ := mem_ready.1 hi
    have hlt := (Array.getElem?_eq_some_iff.1 ho).1
    have how := AllOwe.get ops.toList 0 hops i o (by simpa using ho)
    rw [Nat.zero_add] at how
    refine how a w _ (Nat.sub_le _ _) K.world K.old (fun j oj t hj hoj ht => ?_) _ (fun v w' hv hJ' hst => ?_)
    rotate_left
    · refine ⟨by simpa using hs, ⟨hJ _ _ _ (by have := left_lt hi; have := left_le (ops := ops) listed; omega) hJ', ?_, ?_, fun t ht => ?_, fun k ok t hk ht hl => ?_⟩⟩
      · rw [← K.defers]; unfold Act.put; split <;> rfl
      · rw [← K.size]; unfold Act.put; split <;> simp
      · rw [put_getD_ne (ht o (by exact List.mem_of_getElem? (by simpa using ho)))]; exact K.old t ht
      · by_cases e : i = k
        · subst e
          rw [ho] at hk
          injection hk with hk
          subst hk
          rw [ht, put_getD_eq (by rw [K.size]; exact hdst o (List.mem_of_getElem? (by simpa using ho)) t ht)]
          exact hv
        · have hne : o.dst ≠ some t := fun e2 => e (apartDst_spec hap ho hk e2 ht)
          rw [put_getD_ne hne]
          refine hst k _ (K.new k ok t hk ht ?_)
          simpa [Array.getD_eq_getD_getElem?, Array.getElem?_setIfInBounds_ne e] using hl
    · obtain ⟨e, he, heq⟩ := Array.any_eq_true'.1 hj
      simp only [Bool.and_eq_true, beq_iff_eq] at heq
      obtain ⟨rfl, hb⟩ := heq
      exact K.new _ oj t hoj ht (hall e he hb)
  · rintro listed a w ⟨hs, K⟩ hr
    exact hend a w (hJ _ _ _ (Nat.sub_le _ _) K.world) K.defers K.size K.old (fun i o t ho ht => K.new i o t ho ht (full_of hdown hs hr i (Array.getElem?_eq_some_iff.1 ho).1))
  · unfold left
    exact Nat.le_trans (List.length_filter_le _ _) (by simp)
  · have e : (Array.replicate ops.size false).getD i false = false := by rw [Array.getD_eq_getD_getElem?, Array.getElem?_replicate]; split <;> rfl
    rw [e] at h; cases h

end
end Go.Proofs.Ytffgekboieimhaa.K
