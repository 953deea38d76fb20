/- Slices of numbers that the call itself has made: what is known of them, and how that goes on from world to world; which lists are long numbers. -/
import Derived.Test.YtbnmkbkjoofekaaDoorBase
import Derived.Test.YtbnmkbkjoofekaaDoorLongMath
import Derived.Laws.CopyOwn
import Derived.Laws.OwnMore
namespace Go.Proofs.YtbnmkbkjoofekaaDoor.K
open Go.RowKit

/-- The slice at 'ao' (as long as xs) holds the numbers xs, in a block of the call's own with a number of at least lo; or it is nil. -/
def Row (w : World) (lo : Nat) (ao : Option Addr) (cap : Nat) (xs : List Int) : Prop :=
  xs.length ≤ cap ∧ cap ≤ maxLen ∧ ((ao = none ∧ xs = [] ∧ cap = 0) ∨
    ∃ g cur, ao = some ⟨g, 0, none⟩ ∧ lo ≤ g ∧ w.heap[g]? = some (.cells cur 3 (0, 0)) ∧ ∀ j, j < xs.length → cur[j]? = some (.int .i64 (xs.getD j 0)))

def vs (xs : List Int) : List Value := xs.map (Value.int .i64)

theorem Row.of_own {w : World} {lo : Nat} {ao : Option Addr} {n cap : Nat} {xs : List Int} (h : w.ownsRow lo 3 1 (.slice ao n cap) n (vs xs)) : n = xs.length ∧ Row w lo ao cap xs := by
  have hl : n = xs.length := by simpa [vs] using h.1.symm
  subst hl
  refine ⟨rfl, ?_⟩
  rcases h.2 with ⟨h1, h2⟩ | ⟨g, c, cur, h1, hg, hh, hn, hc, hs, ht⟩
  · injection h1 with h1 _ h3
    subst h1 h3
    exact ⟨by omega, by decide, .inl ⟨rfl, List.eq_nil_of_length_eq_zero h2, rfl⟩⟩
  · injection h1 with h1 _ h3
    subst h1 h3
    refine ⟨hn, hc, .inr ⟨g, cur, rfl, hg, hh, fun j hj => ?_⟩⟩
    have e : (cur.toList.take (xs.length * 1))[j]? = (vs xs)[j]? := by rw [ht]
    rw [List.getElem?_take, if_pos (by omega)] at e
    simp only [vs, List.getElem?_map, List.getElem?_eq_getElem hj, Option.map_some, Array.getElem?_toList] at e
    rw [e, List.getD_eq_getElem?_getD, List.getElem?_eq_getElem hj]
    rfl

section
variable {w w' : World} {lo : Nat} {ao : Option Addr} {cap : Nat} {xs : List Int}

theorem Row.kept (h : Row w lo ao cap xs) (hk : ∀ g, ao = some ⟨g, 0, none⟩ → g < w.heap.size → w'.heap[g]? = w.heap[g]?) : Row w' lo ao cap xs := by
  refine ⟨h.1, h.2.1, ?_⟩
  rcases h.2.2 with h | ⟨g, cur, rfl, hg, hh, hc⟩
  · exact .inl h
  · exact .inr ⟨g, cur, rfl, hg, (hk g rfl (Array.getElem?_eq_some_iff.1 hh).1).trans hh, hc⟩
theorem Row.keep (h : Row w lo ao cap xs) (hb : Below w.heap.size w w') : Row w' lo ao cap xs := h.kept fun g _ hg => hb.block g hg
theorem Row.alloc (h : Row w lo ao cap xs) (o : Obj) : Row (w.alloc o) lo ao cap xs := h.kept fun g _ hg => Below.heap_alloc w o g hg
theorem Row.drew (h : Row w lo ao cap xs) : Row w.drew lo ao cap xs := h
theorem Row.drewN (h : Row w lo ao cap xs) (n : Nat) : Row (w.drewN n) lo ao cap xs := h
theorem Row.grown (h : Row w lo ao cap xs) {g : Nat} (hg : w.grownBy w' (some g)) (hne : ao ≠ some ⟨g, 0, none⟩) : Row w' lo ao cap xs :=
  h.kept fun k hk hl => hg.block k hl (fun e => hne (by injection e with e; rw [← e]; exact hk))
theorem Row.grown_lt (h : Row w lo ao cap xs) {g : Nat} (hg : w.grownBy w' (some g)) (hne : ∀ k, ao = some ⟨k, 0, none⟩ → k < g) : Row w' lo ao cap xs :=
  h.grown hg fun e => Nat.lt_irrefl g (hne g e)
theorem Row.less (h : Row w lo ao cap xs) {lo' : Nat} (hl : lo' ≤ lo) : Row w lo' ao cap xs := by
  refine ⟨h.1, h.2.1, ?_⟩
  rcases h.2.2 with h | ⟨g, cur, rfl, hg, r⟩
  · exact .inl h
  · exact .inr ⟨g, cur, rfl, Nat.le_trans hl hg, r⟩
theorem Row.nil (w : World) (lo : Nat) : Row w lo none 0 [] := ⟨Nat.le_refl _, by decide, .inl ⟨rfl, rfl, rfl⟩⟩
theorem Row.none_nil (h : Row w lo none cap xs) : xs = [] ∧ cap = 0 := by
  rcases h.2.2 with h | ⟨g, cur, h, _⟩
  · exact h.2
  · cases h
/-- Where there is an element there is a block. -/
theorem Row.block (h : Row w lo ao cap xs) (hne : 0 < xs.length) : ∃ g, ao = some ⟨g, 0, none⟩ ∧ lo ≤ g ∧ g < w.heap.size := by
  rcases h.2.2 with ⟨_, rfl, _⟩ | ⟨g, cur, rfl, hg, hh, _⟩
  · simp at hne
  · exact ⟨g, rfl, hg, (Array.getElem?_eq_some_iff.1 hh).1⟩
theorem Row.shape (h : Row w lo ao cap xs) : (ao = none ∧ xs = [] ∧ cap = 0) ∨ ∃ g, ao = some ⟨g, 0, none⟩ ∧ lo ≤ g ∧ g < w.heap.size := by
  rcases h.2.2 with h | ⟨g, cur, rfl, hg, hh, _⟩
  · exact .inl h
  · exact .inr ⟨g, rfl, hg, (Array.getElem?_eq_some_iff.1 hh).1⟩
theorem Row.lt {g : Nat} (h : Row w lo (some ⟨g, 0, none⟩) cap xs) : lo ≤ g ∧ g < w.heap.size := by
  rcases h.shape with ⟨h, _⟩ | ⟨k, hk, h1, h2⟩
  · cases h
  · injection hk with hk; injection hk with hk; subst hk; exact ⟨h1, h2⟩
theorem Row.cell {g : Nat} (h : Row w lo (some ⟨g, 0, none⟩) cap xs) {j : Nat} (hj : j < xs.length) : w.cell? ⟨g, j, none⟩ = some (.int .i64 (xs.getD j 0)) := by
  rcases h.2.2 with ⟨h, _⟩ | ⟨k, cur, hk, _, hh, hc⟩
  · cases h
  · injection hk with hk; injection hk with hk; subst hk
    rw [cell_of_row w g j cur 3 (0, 0) hh]
    exact hc j hj
theorem Row.frozen {g : Nat} (h : Row w lo (some ⟨g, 0, none⟩) cap xs) (j : Nat) : w.frozen? ⟨g, j, none⟩ = false := by
  rcases h.2.2 with ⟨h, _⟩ | ⟨k, cur, hk, _, hh, hc⟩
  · cases h
  · injection hk with hk; injection hk with hk; subst hk
    exact frozen_of_row w g j cur 3 hh
theorem Row.take {g : Nat} (h : Row w lo (some ⟨g, 0, none⟩) cap xs) {n c : Nat} (hn : n ≤ xs.length) (h1 : n ≤ c) (h2 : c ≤ maxLen) : Row w lo (some ⟨g, 0, none⟩) c (xs.take n) := by
  rcases h.2.2 with ⟨h, _⟩ | ⟨k, cur, hk, hl, hh, hc⟩
  · cases h
  · have hlen : (xs.take n).length = n := by rw [List.length_take, Nat.min_eq_left hn]
    refine ⟨by omega, h2, .inr ⟨k, cur, hk, hl, hh, fun j hj => ?_⟩⟩
    rw [hc j (by omega), List.getD_eq_getElem?_getD, List.getD_eq_getElem?_getD, List.getElem?_take, if_pos (by omega)]
theorem Row.set {g : Nat} (h : Row w lo (some ⟨g, 0, none⟩) cap xs) (j : Nat) (v : Int) :
    Row (w.setCell ⟨g, j, none⟩ (.int .i64 v)) lo (some ⟨g, 0, none⟩) cap (xs.set j v) ∧ w.grownBy (w.setCell ⟨g, j, none⟩ (.int .i64 v)) (some g) := by
  rcases h.2.2 with ⟨h, _⟩ | ⟨k, cur, hk, hl, hh, hc⟩
  · cases h
  · injection hk with hk; injection hk with hk; subst hk
    refine ⟨⟨by simpa using h.1, h.2.1, .inr ⟨g, cur.setIfInBounds j (.int .i64 v), rfl, hl, heap_setCell_same w g j cur 3 _ hh, fun i hi => ?_⟩⟩, ⟨rfl, rfl, rfl, by simp, fun k _ hk => heap_setCell_other w ⟨g, j, none⟩ k _ (fun e => hk (by simp [e]))⟩⟩
    have hi' : i < xs.length := by simpa using hi
    by_cases e : j = i
    · subst e
      have hs : j < cur.size := (Array.getElem?_eq_some_iff.1 (hc j hi')).1
      rw [Array.getElem?_setIfInBounds_self_of_lt hs, List.getD_eq_getElem?_getD, List.getElem?_set_self hi']
      rfl
    · rw [Array.getElem?_setIfInBounds_ne e, List.getD_eq_getElem?_getD, List.getElem?_set_ne e, hc i hi', List.getD_eq_getElem?_getD]
end

theorem Row.len_lt {w : World} {lo : Nat} {ao : Option Addr} {cap : Nat} {xs : List Int} (h : Row w lo ao cap xs) : xs.length ≤ cap ∧ (cap : Int) ≤ 9223372036854775807 := by
  have h1 := h.1
  have h2 := h.2.1
  unfold maxLen at h2
  exact ⟨h1, by omega⟩

theorem Tryd.infoInt : (Tryd.prog.info? 3).map (fun i => (i.zero, i.size, i.bytes)) = some (some (.int .i64 0), 1, 8) := by kernel_rfl

/-! which lists are long numbers -/
/-- The digits of n, as numbers of the program. -/
def ofN (n : Nat) : List Int := (digs n).map Int.ofNat
/-- The number that digits make. -/
def toN (xs : List Int) : Nat := val (xs.map Int.toNat)
/-- A long number: at most 60 digits, each in its range, the last one no zero. -/
def lv (xs : List Int) : Bool := decide (xs.length ≤ 60) && (xs.all fun x => decide (0 ≤ x ∧ x < 10000)) && decide (xs.getLast? ≠ some 0)

theorem lv_iff (xs : List Int) : lv xs = true ↔ xs.length ≤ 60 ∧ (∀ x ∈ xs, 0 ≤ x ∧ x < 10000) ∧ xs.getLast? ≠ some 0 := by
  simp [lv, and_assoc]
theorem toNat_ofNat (l : List Nat) : (l.map Int.ofNat).map Int.toNat = l := by
  rw [List.map_map]
  conv => rhs; rw [← List.map_id l]
  exact List.map_congr_left fun x _ => rfl
theorem toN_ofN (n : Nat) : toN (ofN n) = n := by unfold toN ofN; rw [toNat_ofNat, val_digs]
theorem ofN_inj {n m : Nat} (h : ofN n = ofN m) : n = m := by rw [← toN_ofN n, h, toN_ofN]
theorem ofN_zero : ofN 0 = [] := by unfold ofN; rw [digs_zero]; rfl
theorem ofN_len (n : Nat) : (ofN n).length = (digs n).length := by unfold ofN; simp
theorem lv_ofN {n : Nat} (h : n < 10000 ^ 60) : lv (ofN n) = true := by
  rw [lv_iff]
  refine ⟨by rw [ofN_len]; exact (digs_len n 60).2 h, fun x hx => ?_, ?_⟩
  · obtain ⟨d, hd, rfl⟩ := List.mem_map.1 hx
    have := dig_digs n d hd
    show 0 ≤ (d : Int) ∧ (d : Int) < 10000
    omega
  · have := (canon_iff_getLast (dig_digs n)).1 (canon_digs n)
    intro e
    apply this
    unfold ofN at e
    rw [List.getLast?_map] at e
    rcases h1 : (digs n).getLast? with _ | d
    · rw [h1] at e; cases e
    · rw [h1] at e
      have e' : (d : Int) = 0 := by simpa using e
      have : d = 0 := by omega
      rw [this]
theorem lv_long {n : Nat} (h : ¬ n < 10000 ^ 60) : lv (ofN n) = false := by
  rcases hb : lv (ofN n) with _ | _
  · rfl
  · exfalso
    have h1 := ((lv_iff _).1 hb).1
    rw [ofN_len] at h1
    exact h ((digs_len n 60).1 h1)
/-- A long number is the digits of a number. -/
theorem lv_out {xs : List Int} (h : lv xs = true) : ∃ l : List Nat, xs = l.map Int.ofNat ∧ Canon l ∧ l.length ≤ 60 ∧ xs = ofN (val l) ∧ val l < 10000 ^ 60 ∧ toN xs = val l := by
  obtain ⟨h1, h2, h3⟩ := (lv_iff _).1 h
  have e : xs = (xs.map Int.toNat).map Int.ofNat := by
    rw [List.map_map]
    conv => lhs; rw [← List.map_id xs]
    exact List.map_congr_left fun x hx => by have := h2 x hx; show x = ((x.toNat : Nat) : Int); omega
  have hd : Dig (xs.map Int.toNat) := fun d hd => by
    obtain ⟨x, hx, rfl⟩ := List.mem_map.1 hd
    have := h2 x hx
    omega
  have hc : Canon (xs.map Int.toNat) := by
    rw [canon_iff_getLast hd, List.getLast?_map]
    intro e2
    rcases h4 : xs.getLast? with _ | x
    · rw [h4] at e2; cases e2
    · rw [h4] at e2
      have e3 : x.toNat = 0 := by simpa using e2
      have hx := h2 x (List.mem_of_getLast? h4)
      exact h3 (by rw [h4]; congr 1; omega)
  have hl : (xs.map Int.toNat).length ≤ 60 := by simpa using h1
  refine ⟨xs.map Int.toNat, e, hc, hl, ?_, ?_, rfl⟩
  · unfold ofN; rw [digs_val hc]; exact e
  · exact Nat.lt_of_lt_of_le (val_lt hd) (Nat.pow_le_pow_right (by omega) hl)
theorem lv_ofN_out {xs : List Int} (h : lv xs = true) : xs = ofN (toN xs) ∧ toN xs < 10000 ^ 60 := by
  obtain ⟨l, _, _, _, h1, h2, h3⟩ := lv_out h
  rw [h3]; exact ⟨h1, h2⟩
theorem lv_nil : lv [] = true := rfl
/-- A zero behind the last digit. -/
theorem lv_zero (xs : List Int) : lv (xs ++ [0]) = false := by
  rcases hb : lv (xs ++ [0]) with _ | _
  · rfl
  · exact absurd ((lv_iff _).1 hb).2.2 (by simp)
theorem getLast_getD (xs : List Int) (h : 0 < xs.length) : xs.getLast? = some (xs.getD (xs.length - 1) 0) := by
  rw [List.getLast?_eq_getElem?, List.getD_eq_getElem?_getD, List.getElem?_eq_getElem (by omega)]
  rfl
theorem lv_false_of_big {xs : List Int} (h : 60 < xs.length) : lv xs = false := by
  rcases hb : lv xs with _ | _
  · rfl
  · have := ((lv_iff _).1 hb).1; omega
theorem lv_false_of_digit {xs : List Int} {j : Nat} (hj : j < xs.length) (h : xs.getD j 0 < 0 ∨ 9999 < xs.getD j 0) : lv xs = false := by
  rcases hb : lv xs with _ | _
  · rfl
  · have := ((lv_iff _).1 hb).2.1 (xs.getD j 0) (by rw [List.getD_eq_getElem?_getD, List.getElem?_eq_getElem hj]; exact List.getElem_mem hj); omega
/-- What a loop over all digits has seen. -/
theorem lv_of_digits {xs : List Int} (h : ∀ j, j < xs.length → 0 ≤ xs.getD j 0 ∧ xs.getD j 0 ≤ 9999) : lv xs = (decide (xs.length ≤ 60) && (decide (xs.length = 0) || decide (xs.getD (xs.length - 1) 0 ≠ 0))) := by
  have e : (lv xs = true) ↔ ((decide (xs.length ≤ 60) && (decide (xs.length = 0) || decide (xs.getD (xs.length - 1) 0 ≠ 0))) = true) := by
    rw [lv_iff]
    simp only [Bool.and_eq_true, Bool.or_eq_true, decide_eq_true_eq]
    constructor
    · rintro ⟨a, _, b⟩
      refine ⟨a, ?_⟩
      rcases Nat.eq_zero_or_pos xs.length with h0 | h0
      · exact .inl h0
      · exact .inr fun e => b (by rw [getLast_getD xs h0, e])
    · rintro ⟨a, b⟩
      refine ⟨a, fun x hx => ?_, ?_⟩
      · obtain ⟨j, hj, rfl⟩ := List.getElem_of_mem hx
        have := h j hj
        rw [List.getD_eq_getElem?_getD, List.getElem?_eq_getElem hj] at this
        simp at this
        omega
      · rcases b with b | b
        · rw [List.eq_nil_of_length_eq_zero b]; simp
        · rcases Nat.eq_zero_or_pos xs.length with h0 | h0
          · rw [List.eq_nil_of_length_eq_zero h0]; simp
          · rw [getLast_getD xs h0]; intro e; injection e with e; exact b e
  exact Bool.eq_iff_iff.2 e

/-! what the functions compute -/
def addL (xs ys : List Int) : List Int × Bool := if lv xs && lv ys && decide (toN xs + toN ys < 10000 ^ 60) then (ofN (toN xs + toN ys), true) else ([], false)
def mulL (xs ys : List Int) : List Int × Bool := if lv xs && lv ys && decide (toN xs * toN ys < 10000 ^ 60) then (ofN (toN xs * toN ys), true) else ([], false)
def cmpL (xs ys : List Int) : Int := if lv xs && lv ys then cmpN (toN xs) (toN ys) else 2
def ofL (n : Int) : List Int := if 0 ≤ n ∧ n ≤ 1152921504606846976 then ofN n.toNat else []

theorem getD_map_ofNat (l : List Nat) (j : Nat) : (l.map Int.ofNat).getD j 0 = ((l.getD j 0 : Nat) : Int) := by
  rw [List.getD_eq_getElem?_getD, List.getD_eq_getElem?_getD, List.getElem?_map]
  cases l[j]? <;> rfl

end Go.Proofs.YtbnmkbkjoofekaaDoor.K
