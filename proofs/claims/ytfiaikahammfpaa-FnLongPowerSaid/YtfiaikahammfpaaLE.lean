/- Contracts of the functions that draw one long number or two. -/
import Derived.Test.YtfiaikahammfpaaLD
import Derived.Test.YtfiaikahammfpaaLU
namespace Go.Proofs.Ytfiaikahammfpaa.K
open Go.RowKit

def DrewL (w : World) (e : Ending) (w' : World) : Prop := ∃ g cap xs, e = .returned (.slice (some ⟨g, 0, none⟩) xs.length cap) ∧ Row w' w.heap.size (some ⟨g, 0, none⟩) cap xs ∧ xs.length ≤ 61 ∧ Below w.heap.size w w'
def DrewLL (w : World) (e : Ending) (w' : World) : Prop := ∃ g cap xs g' cap' ys, e = .returned (.tuple #[.slice (some ⟨g, 0, none⟩) xs.length cap, .slice (some ⟨g', 0, none⟩) ys.length cap']) ∧ Row w' w.heap.size (some ⟨g, 0, none⟩) cap xs ∧ xs.length ≤ 61 ∧ Row w' w.heap.size (some ⟨g', 0, none⟩) cap' ys ∧ ys.length ≤ 61 ∧ Below w.heap.size w w'
/-- a row that is no reader stays over a draw -/
theorem Row.picked {w w' : World} {lo B : Nat} {ao : Option Addr} {cap : Nat} {xs : List Int} (h : Row w lo ao cap xs) (hg : w.grownBy w' (some B)) (hB : B < lo) : Row w' lo ao cap xs :=
  h.grown hg (fun e => by have := h.bot B e; omega)
theorem row_cells {w : World} {lo g cap : Nat} {xs : List Int} (h : Row w lo (some ⟨g, 0, none⟩) cap xs) : ∀ j u, (vs xs)[j]? = some u → w.cell? ((⟨g, 0, none⟩ : Addr).add j) = some u := by
  intro j u hu
  have hj : j < xs.length := by have := (List.getElem?_eq_some_iff.1 hu).1; simpa [vs] using this
  have e : ((⟨g, 0, none⟩ : Addr).add j) = ⟨g, j, none⟩ := by unfold Addr.add; split <;> simp_all
  rw [e, h.cell hj, ← hu]
  simp only [vs, List.getElem?_map, List.getElem?_eq_getElem hj, Option.map_some, List.getD_eq_getElem?_getD]
  rfl

/-- 'append([]int{}, a...)' -/
theorem copy_step {w1 w2 : World} {s' : Value} {xs : List Int} (hown' : w2.ownsRow w1.heap.size 3 1 s' xs.length (vs xs)) (hgrow : (w1.alloc (.cells #[] 3)).grownBy w2 (some w1.heap.size)) (hne : s' ≠ .slice none 0 0) :
    OwnI w2 w1.heap.size s' xs ∧ Below w1.heap.size w1 w2 ∧ ∃ g' c', s' = .slice (some ⟨g', 0, none⟩) xs.length c' ∧ Row w2 w1.heap.size (some ⟨g', 0, none⟩) c' xs := by
  have o : OwnI w2 w1.heap.size s' xs := hown'
  refine ⟨o, ?_, o.row hne⟩
  exact ((Below.refl _ _).alloc (Nat.le_refl _) _).grown hgrow (by simp) (fun k e => by injection e with e; omega)
theorem own_snocI {w' : World} {lo : Nat} {s' : Value} {xs : List Int} {u : Int} (h : w'.ownsRow lo 3 1 s' (xs.length + 1) (vs xs ++ [Value.int .i64 u])) : OwnI w' lo s' (xs ++ [u]) := by
  unfold OwnI
  rw [List.length_append, List.length_singleton]
  have e : vs (xs ++ [u]) = vs xs ++ [Value.int .i64 u] := by unfold vs; simp
  rw [e]; exact h


theorem DrawLongOf_any (a : Option Addr) (len cap : Nat) (zs : List Int) (w : World) (h : IsRow .u8 w a len cap zs) : Calls Try.prog 26 #[.slice a len cap] w fun e w' => ∃ n : Int, -1152921504606846977 ≤ n ∧ n ≤ 1152921504606846977 ∧ e = .returned (.int .i64 n) ∧ Below w.heap.size w w' := by
  go_enter Try.func26, Try.ntmps26
  go_wp2_with fail
  refine (l20Open_any _ _ _ _ _ h).mono ?_
  rintro e w0 ⟨B, hB, rfl, hr0, hb0⟩
  go_wp2_with fail
  refine (odd_any _ _ _ _ hr0 (by omega) (by omega) (by omega)).mono ?_
  rintro e w1 ⟨v, rfl, hr1, hg1⟩
  by_cases hv : v = true
  · subst hv
    go_wp2
    go_ret
    exact ⟨_, by omega, by omega, rfl, bgrow hb0 hg1 hB⟩
  · obtain rfl : v = false := by simpa using hv
    go_wp2_with fail
    refine (l20Work_any _ _ _ hr1 (by omega)).mono ?_
    rintro e w2 ⟨n, ⟨hn1, hn2⟩, rfl, hr2, hg2⟩
    go_wp2
    go_ret
    exact ⟨n, by omega, by omega, rfl, bgrow (bgrow hb0 hg1 hB) hg2 hB⟩

theorem DrawLongAdd_any (a : Option Addr) (len cap : Nat) (zs : List Int) (w : World) (h : IsRow .u8 w a len cap zs) : Calls Try.prog 33 #[.slice a len cap] w (DrewLL w) := by
  go_enter Try.func33, Try.ntmps33
  go_wp2_with fail
  refine (l20Open_any _ _ _ _ _ h).mono ?_
  rintro e w0 ⟨B, hB, rfl, hr0, hb0⟩
  have hs0 := hb0.size
  have hl0 := hr0.lt
  go_wp2_with fail
  refine (l20Long_any _ _ _ _ hr0 (by omega) (by omega) (by omega)).mono ?_
  rintro e w1 ⟨g, c, xs, rfl, r1, hl1, hr1, hg1⟩
  have hs1 := hg1.size
  go_wp2_with fail
  refine (l20Long_any _ _ _ _ hr1 (by omega) (by omega) (by omega)).mono ?_
  rintro e w2 ⟨g', c', ys, rfl, r2, hl2, hr2, hg2⟩
  go_wp2
  go_ret2
  exact ⟨g, c, xs, g', c', ys, rfl, (r1.picked hg2 hl0).less hs0, hl1, r2.less (by omega), hl2, bgrow (bgrow hb0 hg1 hB) hg2 hB⟩
theorem DrawLongMul_any (a : Option Addr) (len cap : Nat) (zs : List Int) (w : World) (h : IsRow .u8 w a len cap zs) : Calls Try.prog 15 #[.slice a len cap] w (DrewLL w) := by
  go_enter Try.func15, Try.ntmps15
  go_wp2_with fail
  refine (DrawLongAdd_any _ _ _ _ _ h).mono ?_
  rintro e w1 ⟨g, c, xs, g', c', ys, rfl, r1, hl1, r2, hl2, hb⟩
  go_wp2
  go_ret2
  exact ⟨g, c, xs, g', c', ys, rfl, r1, hl1, r2, hl2, hb⟩

set_option maxHeartbeats 1000000 in
theorem DrawLongCompare_any (a : Option Addr) (len cap : Nat) (zs : List Int) (w : World) (h : IsRow .u8 w a len cap zs) : Calls Try.prog 23 #[.slice a len cap] w (DrewLL w) := by
  obtain ⟨i0, hi, hz0, hz1, hz2⟩ := info_parts Try.infoInt
  go_enter Try.func23, Try.ntmps23
  go_wp2_with fail
  refine (l20Open_any _ _ _ _ _ h).mono ?_
  rintro e w0 ⟨B, hB, rfl, hr0, hb0⟩
  have hs0 := hb0.size
  have hl0 := hr0.lt
  go_wp2_with fail
  refine (l20Long_any _ _ _ _ hr0 (by omega) (by omega) (by omega)).mono ?_
  rintro e w1 ⟨g, c, xs, rfl, r1, hl1, hr1, hg1⟩
  have hs1 := hg1.size
  have hb1 := bgrow hb0 hg1 hB
  clear hg1 hr0 hb0
  go_wp2_with fail
  refine (pick_any _ _ _ _ hr1 (by omega)).mono ?_
  rintro e w2 ⟨v2, hv2, rfl, hr2, hg2⟩
  have hs2 := hg2.size
  replace r1 := r1.picked hg2 hl0
  replace hb1 := bgrow hb1 hg2 hB
  clear hg2 hr1
  have hgw2 : g < w2.heap.size := r1.lt.2
  by_cases hv : v2 = 0
  · subst hv
    have hlc := r1.len_lt
    have H0 : (w2.alloc (.cells #[] 3)).ownsRow w2.heap.size 3 1 (.slice (some ⟨w2.heap.size, 0, none⟩) 0 0) 0 [] := World.ownsRow_lit w2 #[] 0 (Nat.le_refl _) (by decide) rfl
    have HN := row_cells (r1.alloc (.cells #[] 3))
    have HV : (vs xs).length = xs.length * 1 := by simp [vs]
    go_wp2_with (first
      | (at_builtin; refine wpList_append_own _ rfl _ _ 22 rfl w2.heap.size 3 i0 (.int .i64 0) 1 8 Try.underlying22 hi hz0 hz1 hz2 rfl (by decide) _ _ _ rfl H0 ⟨g, 0, none⟩ xs.length c (vs xs) rfl HV HN (ints_oneCell _ _) (by unfold maxLen; omega) (by omega) (by simp) ?_))
    intro s' w3 hown' hgrow hnil
    have o3 : OwnI w3 w2.heap.size s' xs := by unfold OwnI; simpa using hown'
    have hne : s' ≠ .slice none 0 0 := by intro e; first | exact absurd e hnil | (have := (hnil.1 e).1; simp at this)
    obtain ⟨g', c', rfl, r2⟩ := o3.row hne
    have hgg : w2.grownBy w3 none := by
      refine ⟨hgrow.os, hgrow.tape, hgrow.output, Nat.le_trans (by simp) hgrow.size, fun i hi _ => ?_⟩
      exact (hgrow.block i (by simp; omega) (fun e => by simp [Value.ownBlock] at e; omega)).trans (Below.heap_alloc _ _ _ hi)
    have hs3 := hgg.size
    replace r1 := r1.kept (fun k _ hk => hgg.block k hk (fun e => by cases e))
    replace hb1 : Below w.heap.size w w3 := hb1.grown hgg hb1.size (fun k e => by cases e)
    have hr3 := hr2.grown hgg (fun k e => by cases e)
    clear hown' hgrow hnil H0 HN HV hgg hr2
    by_cases hx0 : 0 < xs.length
    · have hx0' : (0 : Int) < (xs.length : Int) := by omega
      go_wp2_with fail
      refine (pick_any _ _ _ _ hr3 (by omega)).mono ?_
      rintro e w4 ⟨v4, hv4, rfl, hr4, hg4⟩
      replace r1 := r1.picked hg4 hl0
      replace o3 := o3.pick hg4 (by omega)
      replace r2 := r2.picked hg4 (by omega)
      replace hb1 := bgrow hb1 hg4 hB
      clear hg4
      by_cases hv4 : v4 = 0
      · subst hv4
        go_wp2_with fail
        refine (pick_any _ _ _ _ hr4 (by omega)).mono ?_
        rintro e w5 ⟨v5, hv5, rfl, hr5, hg5⟩
        replace r1 := r1.picked hg5 hl0
        replace o3 := o3.pick hg5 (by omega)
        replace r2 := r2.picked hg5 (by omega)
        replace hb1 := bgrow hb1 hg5 hB
        clear hg5
        have b5 : v5 < xs.length := by omega
        have b5' : (v5 : Int) < (xs.length : Int) := by omega
        have hc := r2.cell (j := v5) b5
        have hfz := r2.frozen v5
        obtain ⟨y, hy⟩ : ∃ y, xs.getD v5 0 = y := ⟨_, rfl⟩
        rw [hy] at hc
        clear hy
        have hlc2 := r2.len_lt
        have HF : Hid (∀ u : Int, DrewLL w (.returned (.tuple #[.slice (some ⟨g, 0, none⟩) xs.length c, .slice (some ⟨g', 0, none⟩) xs.length c'])) (w5.setCell ⟨g', v5, none⟩ (.int .i64 u))) := Lib.hid fun u => by
          have hg := r1.lt
          have hg' := r2.lt
          have e1 : (xs.set v5 u).length = xs.length := by simp
          refine ⟨g, c, xs, g', c', xs.set v5 u, by rw [e1], ?_, hl1, (r2.set v5 u).1.less (by omega), by rw [e1]; exact hl1, hb1.setCell (by simp; omega) _⟩
          exact (r1.kept (fun k hk hl => Below.heap_setCell _ _ _ _ (by injection hk with hk; injection hk with hk; subst hk; simp; omega))).less (by omega)
        go_wp2
        all_goals
          go_ret2
          exact HF.out _
      · have hv4' : ¬ (v4 : Int) = 0 := by omega
        go_wp2
        go_ret2
        exact ⟨g, c, xs, g', c', xs, rfl, r1.less (by omega), hl1, r2.less (by omega), hl1, hb1⟩
    · have hx0' : ¬ (0 : Int) < (xs.length : Int) := by omega
      go_wp2
      go_ret2
      exact ⟨g, c, xs, g', c', xs, rfl, r1.less (by omega), hl1, r2.less (by omega), hl1, hb1⟩
  · have hv' : ¬ (v2 : Int) = 0 := by omega
    go_wp2_with fail
    refine (l20Long_any _ _ _ _ hr2 (by omega) (by omega) (by omega)).mono ?_
    rintro e w3 ⟨g', c', ys, rfl, r2, hl2, hr3, hg3⟩
    go_wp2
    go_ret2
    exact ⟨g, c, xs, g', c', ys, rfl, (r1.picked hg3 hl0).less hs0, hl1, r2.less (by omega), hl2, bgrow hb1 hg3 hB⟩
end Go.Proofs.Ytfiaikahammfpaa.K
