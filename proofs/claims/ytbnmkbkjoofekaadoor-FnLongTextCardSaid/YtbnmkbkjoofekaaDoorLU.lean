/- Contracts of the functions that copy, compare and mark slices of numbers. -/
import Derived.Test.YtbnmkbkjoofekaaDoorLB
namespace Go.Proofs.YtbnmkbkjoofekaaDoor.K
open Go.RowKit

/-- A slice of ints that came in: its elements are xs. -/
def Arg (w : World) (a : Option Addr) (cap : Nat) (xs : List Int) : Prop :=
  xs.length ≤ cap ∧ cap ≤ maxLen ∧ ∀ j, j < xs.length → ∃ b off, a = some ⟨b, off, none⟩ ∧ b < w.heap.size ∧ w.cell? ⟨b, off + j, none⟩ = some (.int .i64 (xs.getD j 0))
theorem Arg.of {w : World} {a : Option Addr} {len cap : Nat} {zs : List Int} (h : IsRow .i64 w a len cap zs) : ∃ xs : List Int, len = xs.length ∧ Arg w a cap xs := by
  rcases h with ⟨rfl, rfl, rfl, rfl⟩ | ⟨x, rfl, hl, hc, hz, hcell, hwf⟩
  · exact ⟨[], rfl, Nat.le_refl _, by decide, fun j hj => by simp at hj⟩
  · have e : (zs.take len).length = len := by rw [List.length_take]; omega
    refine ⟨zs.take len, e.symm, by omega, hc, fun j hj => ?_⟩
    rw [e] at hj
    obtain ⟨b, off, spot⟩ := x
    have h0 := hcell j (by omega)
    have hs : spot = none := by
      have h00 := hcell 0 (by omega)
      simpa [Addr.add] using World.cell?_spot h00
    subst hs
    have ea : (Addr.add ⟨b, off, none⟩ j) = ⟨b, off + j, none⟩ := by unfold Addr.add; split <;> simp_all
    rw [ea] at h0
    refine ⟨b, off, rfl, by simpa using World.block_lt_of_cell? w _ h0, ?_⟩
    rw [h0, List.getD_eq_getElem?_getD, List.getD_eq_getElem?_getD, List.getElem?_take, if_pos hj]
theorem Arg.keep {w w' : World} {a : Option Addr} {cap : Nat} {xs : List Int} (h : Arg w a cap xs) (hb : Below w.heap.size w w') : Arg w' a cap xs := by
  refine ⟨h.1, h.2.1, fun j hj => ?_⟩
  obtain ⟨b, off, rfl, hl, hc⟩ := h.2.2 j hj
  exact ⟨b, off, rfl, Nat.lt_of_lt_of_le hl hb.size, (hb.cell (p := ⟨b, off + j, none⟩) hl).trans hc⟩

/-- w' is w but for the cells of the block at 'ao'. -/
structure Touch (w w' : World) (ao : Option Addr) : Prop where
  os : w'.os = w.os
  tape : w'.tape = w.tape
  output : w'.output = w.output
  size : w'.heap.size = w.heap.size
  block : ∀ k, ao ≠ some ⟨k, 0, none⟩ → w'.heap[k]? = w.heap[k]?
theorem Touch.refl (w : World) (ao : Option Addr) : Touch w w ao := ⟨rfl, rfl, rfl, rfl, fun _ _ => rfl⟩
theorem Touch.set {w X : World} {g : Nat} (h : Touch w X (some ⟨g, 0, none⟩)) (j : Nat) (u : Value) : Touch w (X.setCell ⟨g, j, none⟩ u) (some ⟨g, 0, none⟩) :=
  ⟨h.os, h.tape, h.output, by simpa [World.setCell] using h.size, fun k hk => (Below.heap_setCell X ⟨g, j, none⟩ u k (fun e => hk (by rw [e]))).trans (h.block k hk)⟩
theorem Row.touch {w w' : World} {lo : Nat} {ao bo : Option Addr} {cap : Nat} {xs : List Int} (h : Row w lo ao cap xs) (t : Touch w w' bo) (hne : ∀ k, ao = some ⟨k, 0, none⟩ → bo ≠ some ⟨k, 0, none⟩) : Row w' lo ao cap xs :=
  h.kept fun g hg _ => t.block g (hne g hg)
/-- Of two rows the elder lies below. -/
theorem Row.apart {w w2 : World} {lo lo' : Nat} {ao bo : Option Addr} {cap cap' : Nat} {xs ys : List Int} (_h : Row w lo ao cap xs) (h' : Row w2 lo' bo cap' ys) (hlt : ∀ k, ao = some ⟨k, 0, none⟩ → k < lo') : ∀ k, ao = some ⟨k, 0, none⟩ → bo ≠ some ⟨k, 0, none⟩ := by
  intro k hk hb
  have h1 := hlt k hk
  subst hb
  have := h'.lt
  omega
theorem Row.top {w : World} {lo : Nat} {ao : Option Addr} {cap : Nat} {xs : List Int} (h : Row w lo ao cap xs) : ∀ k, ao = some ⟨k, 0, none⟩ → k < w.heap.size := by
  rintro k rfl; exact h.lt.2
theorem Row.bot {w : World} {lo : Nat} {ao : Option Addr} {cap : Nat} {xs : List Int} (h : Row w lo ao cap xs) : ∀ k, ao = some ⟨k, 0, none⟩ → lo ≤ k := by
  rintro k rfl; exact h.lt.1
theorem btouch {W X w' : World} {ao : Option Addr} (h : Below W.heap.size W X) (t : Touch X w' ao) (hlo : ∀ k, ao = some ⟨k, 0, none⟩ → W.heap.size ≤ k) : Below W.heap.size W w' :=
  ⟨t.os.trans h.os, t.tape.trans h.tape, t.output.trans h.output, by rw [t.size]; exact h.size, fun k hk => (t.block k (fun e => by have := hlo k e; omega)).trans (h.block k hk)⟩

/-- The marks k, k + 1, .. -/
def Marks (k : Int) (ys : List Int) : Prop := ∀ j, j < ys.length → ys.getD j 0 = k + j

theorem list_eq_iff {xs ys : List Int} (hl : xs.length = ys.length) : xs = ys ↔ ∀ j, j < xs.length → xs.getD j 0 = ys.getD j 0 := by
  constructor
  · rintro rfl _ _; rfl
  · intro h
    refine List.ext_getElem hl fun j h1 h2 => ?_
    have := h j h1
    rw [List.getD_eq_getElem?_getD, List.getD_eq_getElem?_getD, List.getElem?_eq_getElem h1, List.getElem?_eq_getElem h2] at this
    exact this

theorem ret_bool' {a b : Bool} (h : a = b) : Ending.returned (.bool a) = .returned (.bool b) := by rw [h]

theorem eqIntS_any (lo lo' : Nat) (ao bo : Option Addr) (cap cap' : Nat) (xs ys : List Int) (w : World) (ha : Row w lo ao cap xs) (hb : Row w lo' bo cap' ys) : Calls Tryd.prog 8 #[.slice ao xs.length cap, .slice bo ys.length cap'] w fun e w' => e = .returned (.bool (decide (xs = ys))) ∧ Below w.heap.size w w' := by
  obtain ⟨hlc, hcap⟩ := ha.len_lt
  obtain ⟨hlc', hcap'⟩ := hb.len_lt
  obtain ⟨f, hf⟩ : ∃ f : Nat → Int, ∀ j, f j = xs.getD j 0 := ⟨_, fun _ => rfl⟩
  obtain ⟨f', hf'⟩ : ∃ f' : Nat → Int, ∀ j, f' j = ys.getD j 0 := ⟨_, fun _ => rfl⟩
  have H1 : Hid (xs.length ≠ ys.length → false = decide (xs = ys)) := Lib.hid fun h => (decide_eq_false (fun e => h (by rw [e]))).symm
  have H2 : Hid (xs.length = ys.length → (∀ j, j < xs.length → f j = f' j) → true = decide (xs = ys)) := Lib.hid fun hl h => (decide_eq_true ((list_eq_iff hl).2 fun j hj => by rw [← hf, ← hf']; exact h j hj)).symm
  have H3 : Hid (∀ j, f j ≠ f' j → false = decide (xs = ys)) := Lib.hid fun j hj => (decide_eq_false (fun e => hj (by rw [hf, hf', e]))).symm
  have HC : Hid (∀ g, ao = some ⟨g, 0, none⟩ → ∀ j, j < xs.length → w.cell? ⟨g, j, none⟩ = some (.int .i64 (f j))) := Lib.hid fun g hg j hj => by
    have := ha; rw [hg] at this; rw [this.cell hj, hf]
  have HB : Hid (0 < xs.length → ∃ g, ao = some ⟨g, 0, none⟩) := Lib.hid fun h0 => by obtain ⟨g, hg, _⟩ := ha.block h0; exact ⟨g, hg⟩
  have HC' : Hid (∀ g, bo = some ⟨g, 0, none⟩ → ∀ j, j < ys.length → w.cell? ⟨g, j, none⟩ = some (.int .i64 (f' j))) := Lib.hid fun g hg j hj => by
    have := hb; rw [hg] at this; rw [this.cell hj, hf']
  have HB' : Hid (0 < ys.length → ∃ g, bo = some ⟨g, 0, none⟩) := Lib.hid fun h0 => by obtain ⟨g, hg, _⟩ := hb.block h0; exact ⟨g, hg⟩
  clear ha hb hf hf'
  generalize xs.length = n at *
  generalize ys.length = n' at *
  by_cases hn : n = n'
  · subst hn
    go_enter Tryd.func8, Tryd.ntmps8
    go_wp2
    go_loopw [5] (fun i wr => ∃ k m : Nat, k ≤ n ∧ i = .int .i64 k ∧ wr = w.drewN m ∧ ∀ j, j < k → f j = f' j) (fun i _ => n - (intOf i).toNat)
    case atStart => exact ⟨0, 0, by omega, rfl, rfl, fun j hj => by omega⟩
    case round =>
      obtain ⟨k, m, hk, rfl, rfl, hd⟩ := hrel
      have D := Lib.hid hd
      clear hd
      by_cases hkn : k < n
      · obtain ⟨g, rfl⟩ := HB.out (by omega)
        obtain ⟨g', rfl⟩ := HB'.out (by omega)
        have hc := HC.out g rfl k hkn
        have hc' := HC'.out g' rfl k hkn
        have hkn' : (k : Int) < (n : Int) := by omega
        by_cases he : f k = f' k
        · go_wp2_with fail
          go_quiet (fail)
          go_wp2
          go_roundw
          case rel => exact ⟨k + 1, m + _, by omega, by go_num, rfl, fun j hj => by
            rcases Nat.lt_or_ge j k with h | h
            · exact D.out j h
            · obtain rfl : j = k := by omega
              exact he⟩
          case measure => simp [intOf]; omega
        · go_wp2_with fail
          go_quiet (fail)
          go_wp2
          go_ret
          exact ⟨ret_bool' (H3.out k he), (by repeat (first | exact Below.refl _ _ | refine balloc ?_ _ | refine bdrew ?_ | refine bdrewN ?_ _ | refine bset ?_ (by first | (simp; done) | (simp; omega)) _ | (refine bseq ?_ (by assumption)) | (refine bgrow ?_ (by assumption) (by omega))))⟩
      · obtain rfl : k = n := by omega
        go_wp2
        go_ret
        exact ⟨ret_bool' (H2.out (by first | rfl | trivial) D.out), (by repeat (first | exact Below.refl _ _ | refine balloc ?_ _ | refine bdrew ?_ | refine bdrewN ?_ _ | refine bset ?_ (by first | (simp; done) | (simp; omega)) _ | (refine bseq ?_ (by assumption)) | (refine bgrow ?_ (by assumption) (by omega))))⟩
  · have hn' : ¬ (n : Int) = (n' : Int) := by omega
    go_enter Tryd.func8, Tryd.ntmps8
    go_wp2
    go_ret
    exact ⟨ret_bool' (H1.out hn), (by repeat (first | exact Below.refl _ _ | refine balloc ?_ _ | refine bdrew ?_ | refine bdrewN ?_ _ | refine bset ?_ (by first | (simp; done) | (simp; omega)) _ | (refine bseq ?_ (by assumption)) | (refine bgrow ?_ (by assumption) (by omega))))⟩


theorem toIntS_any (a : Option Addr) (cap : Nat) (xs : List Int) (w : World) (h : Arg w a cap xs) (hl : xs.length ≤ 1048576) : Calls Tryd.prog 6 #[.slice a xs.length cap] w fun e w' =>
    ∃ g, e = .returned (.slice (some ⟨g, 0, none⟩) xs.length xs.length) ∧ Row w' w.heap.size (some ⟨g, 0, none⟩) xs.length xs ∧ Below w.heap.size w w' := by
  obtain ⟨i0, hi, hz0, hz1, hz2⟩ := info_parts Tryd.infoInt
  obtain ⟨f, hf⟩ : ∃ f : Nat → Int, ∀ j, f j = xs.getD j 0 := ⟨_, fun _ => rfl⟩
  have HC : Hid (∀ j, j < xs.length → ∃ b off, a = some ⟨b, off, none⟩ ∧ b < w.heap.size ∧ w.cell? ⟨b, off + j, none⟩ = some (.int .i64 (f j))) := Lib.hid fun j hj => by
    obtain ⟨b, off, h1, h2, h3⟩ := h.2.2 j hj
    exact ⟨b, off, h1, h2, by rw [h3, hf]⟩
  have HR : Hid (∀ (w' : World) ys, ys.length = xs.length → (∀ j, j < xs.length → ys.getD j 0 = f j) → Row w' w.heap.size (some ⟨w.heap.size, 0, none⟩) xs.length ys → Row w' w.heap.size (some ⟨w.heap.size, 0, none⟩) xs.length xs) := Lib.hid fun w' ys hl he hr => by
    rwa [(list_eq_iff hl).2 fun j hj => by rw [he j (by omega), hf]] at hr
  clear h hf
  generalize xs.length = n at *
  go_enter Tryd.func6, Tryd.ntmps6
  go_wp2_with (first
    | (at_make; refine wpList_make_full _ rfl _ _ 22 rfl w.heap.size 3 i0 (.int .i64 0) 1 Tryd.underlying22 hi hz0 hz1 .i64 .i64 _ _ n rfl rfl rfl rfl ?b1 ?b2 ?b3 ?_))
  case b1 => rw [hz2]; omega
  case b2 => unfold maxLen; omega
  case b3 => exact Nat.le_refl _
  intro w1 hown hgrow
  have R0 : ∃ ys, ys.length = n ∧ Row w1 w.heap.size (some ⟨w.heap.size, 0, none⟩) n ys := by
    have e : (madeCells #[Value.int .i64 0] n).toList = vs (List.replicate n 0) := by
      rw [toList_madeCells_one]; simp [vs]
    rw [e] at hown
    exact ⟨_, by simp, (Row.of_own hown).2⟩
  have B0 : Below w.heap.size w w1 := (Below.refl _ _).grown hgrow (Nat.le_refl _) (fun k e => by cases e)
  clear hown hgrow
  obtain ⟨ys0, hy0, hr0⟩ := R0
  have Y0 := Lib.hid hy0
  clear hy0
  go_wp2
  go_loopw [4] (fun i wr => ∃ k : Nat, k ≤ n ∧ i = .int .i64 k ∧ Below w.heap.size w wr ∧ ∃ ys, Hid (ys.length = n ∧ ∀ j, j < k → ys.getD j 0 = f j) ∧ Row wr w.heap.size (some ⟨w.heap.size, 0, none⟩) n ys) (fun i _ => n - (intOf i).toNat)
  case atStart => exact ⟨0, by omega, rfl, B0, ys0, Lib.hid ⟨Y0.out, fun j hj => by omega⟩, hr0⟩
  case round =>
    obtain ⟨k, hk, rfl, hb, ys, HY, hr⟩ := hrel
    by_cases hkn : k < n
    · obtain ⟨b, off, rfl, hbl, hc⟩ := HC.out k hkn
      have hc' : wr.cell? ⟨b, off + k, none⟩ = some (.int .i64 (f k)) := (hb.cell (p := ⟨b, off + k, none⟩) hbl).trans hc
      have ht := hr.cell (j := k) (by rw [HY.out.1]; exact hkn)
      have hfz := hr.frozen k
      generalize ys.getD k 0 = y at ht
      have hkn' : (k : Int) < (n : Int) := by omega
      clear hc
      go_wp2
      go_roundw
      case rel => exact ⟨k + 1, by omega, by go_num, hb.setCell (Nat.le_refl _) _, ys.set k (f k), Lib.hid ⟨by simpa using HY.out.1, fun j hj => by
        rcases Nat.lt_or_ge j k with h | h
        · rw [List.getD_eq_getElem?_getD, List.getElem?_set_ne (by omega), ← List.getD_eq_getElem?_getD]; exact HY.out.2 j h
        · obtain rfl : j = k := by omega
          rw [List.getD_eq_getElem?_getD, List.getElem?_set_self (by rw [HY.out.1]; exact hkn)]; rfl⟩, (hr.set k (f k)).1⟩
      case measure => simp [intOf]; omega
    · obtain rfl : k = n := by omega
      go_wp2
      go_ret
      exact ⟨w.heap.size, rfl, HR.out wr ys HY.out.1 HY.out.2 hr, hb⟩


theorem eqIntS_same (lo lo' : Nat) (ao bo : Option Addr) (cap cap' : Nat) (xs : List Int) (w : World) (ha : Row w lo ao cap xs) (hb : Row w lo' bo cap' xs) : Calls Tryd.prog 8 #[.slice ao xs.length cap, .slice bo xs.length cap'] w fun e w' => e = .returned (.bool true) ∧ Below w.heap.size w w' := by
  refine (eqIntS_any lo lo' ao bo cap cap' xs xs w ha hb).mono ?_
  rintro e w' ⟨rfl, h⟩
  exact ⟨by simp, h⟩


end Go.Proofs.YtbnmkbkjoofekaaDoor.K
