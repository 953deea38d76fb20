/- The contract of the function that draws spans. -/
import Derived.Test.YtjlldfkkkfcohaaDraw3
namespace Go.Proofs.Ytjlldfkkkfcohaa.K
open Go.RowKit

/-- What a draw of a span from a reader leaves. -/
def PickS (w : World) (B lim : Nat) (e : Ending) (w' : World) : Prop := ∃ a b : Int, (-1073741825 ≤ a ∧ a ≤ 1073741825) ∧ (-1073741825 ≤ b ∧ b ≤ 1073741825) ∧ e = .returned (.agg #[.int .i64 a, .int .i64 b]) ∧ Rd w' B lim ∧ w.grownBy w' (some B)

set_option maxRecDepth 100000 in
set_option maxHeartbeats 8000000 in
theorem l20Span_any (B lim : Nat) (n : Int) (w : World) (h : Rd w B lim) (hl : lim ≤ 900000) (hn : 0 < n) (hn' : n ≤ 1000) : Calls Try.prog 47 #[.pointer (some ⟨B, 0, none⟩), .int .i64 n] w (PickS w B (lim + 9)) := by
  have hB := h.lt
  have n3 : w.heap.size ≠ B := by omega
  go_enter Try.func47, Try.ntmps47
  go_wp2_with fail
  refine (pick_any _ _ _ _ (h.alloc _) (by omega)).mono ?_
  rintro e w1 ⟨v1, hv1, rfl, hr1, hg1⟩
  have b1 : (v1 : Int) < 256 := by omega
  have hz1 := hg1.size
  (try simp only [World.size_setCell, World.size_alloc, World.size_drew] at hz1)
  have Q1 := (Pair.new w 0 0 24).grown hg1 n3
  go_wp2_with fail
  refine (pick_any _ _ _ _ (hr1) (by omega)).mono ?_
  rintro e w2 ⟨v2, hv2, rfl, hr2, hg2⟩
  have b2 : (v2 : Int) < 256 := by omega
  have hz2 := hg2.size
  (try simp only [World.size_setCell, World.size_alloc, World.size_drew] at hz2)
  have Q2 := Q1.grown hg2 n3
  go_wp2_with fail
  refine (pick_any _ _ _ _ (hr2) (by omega)).mono ?_
  rintro e w3 ⟨v3, hv3, rfl, hr3, hg3⟩
  have b3 : (v3 : Int) < 256 := by omega
  have hz3 := hg3.size
  (try simp only [World.size_setCell, World.size_alloc, World.size_drew] at hz3)
  have Q3 := Q2.grown hg3 n3
  go_wp2_with fail
  refine (pick_any _ _ _ _ ((hr3.alloc _).alloc _) (by omega)).mono ?_
  rintro e w4 ⟨v4, hv4, rfl, hr4, hg4⟩
  have b4 : (v4 : Int) < 9 := by omega
  have hz4 := hg4.size
  (try simp only [World.size_setCell, World.size_alloc, World.size_drew] at hz4)
  have Q4 := ((Q3.alloc _).alloc _).grown hg4 n3
  obtain ⟨k, hk, ek⟩ := sel_nat [0, 0, 0, 1, 1, 2, 3, 4, 5] v4 5 (by decide) (by simp; omega)
  have r9 := at9
  have r6 := at6
  have b4' : v4 < 9 := by omega
  have bk : (k : Int) < 6 := by omega
  have bk' : k < 6 := by omega
  obtain ⟨hc4, hf4⟩ := gcell hg4
  have hB2 : w3.heap.size ≠ B := by omega
  have hB3 : w3.heap.size + 1 ≠ B := by omega
  obtain ⟨u, hu1, hu2, eu⟩ : ∃ u : Int, -1073741824 ≤ u ∧ u ≤ 1073741824 ∧ selI [((v1 : Int) - 128) * 8388608, ((v2 : Int) - 128) * 32768, (v3 : Int) - 128, 268435456, 1073741824, -1073741824] k = u := by
    obtain ⟨h1, h2⟩ := sel_bd (l := [((v1 : Int) - 128) * 8388608, ((v2 : Int) - 128) * 32768, (v3 : Int) - 128, 268435456, 1073741824, -1073741824]) (k := k) (lo := -1073741824) (hi := 1073741824) (by simp only [List.forall_mem_cons]; refine ⟨?_, ?_, ?_, ?_, ?_, ?_, ?_⟩ <;> first | omega | simp) (by simp; omega)
    exact ⟨_, h1, h2, rfl⟩
  go_wp2_with fail
  refine (pick_any _ _ _ _ (hr4) (by omega)).mono ?_
  rintro e w5 ⟨v5, hv5, rfl, hr5, hg5⟩
  have b5 : (v5 : Int) < 256 := by omega
  have hz5 := hg5.size
  (try simp only [World.size_setCell, World.size_alloc, World.size_drew] at hz5)
  have Q5 := Q4.grown hg5 n3
  go_wp2_with fail
  refine (pick_any _ _ _ _ (hr5) (by omega)).mono ?_
  rintro e w6 ⟨v6, hv6, rfl, hr6, hg6⟩
  have b6 : (v6 : Int) < 256 := by omega
  have hz6 := hg6.size
  (try simp only [World.size_setCell, World.size_alloc, World.size_drew] at hz6)
  have Q6 := Q5.grown hg6 n3
  go_wp2_with fail
  refine (pick_any _ _ _ _ (hr6.alloc _) (by omega)).mono ?_
  rintro e w7 ⟨v7, hv7, rfl, hr7, hg7⟩
  have b7 : (v7 : Int) < 3 := by omega
  have hz7 := hg7.size
  (try simp only [World.size_setCell, World.size_alloc, World.size_drew] at hz7)
  have Q7 := (Q6.alloc _).grown hg7 n3
  have r3 := at3
  have b7' : v7 < 3 := by omega
  obtain ⟨hc7, hf7⟩ := gcell hg7
  have hB6 : w6.heap.size ≠ B := by omega
  have n2 : w7.heap.size ≠ B := by omega
  obtain ⟨z, hz1, hz2, ez⟩ : ∃ z : Int, 0 ≤ z ∧ z ≤ 4177920 ∧ selI [0, (v5 : Int), (v6 : Int) * 16384] v7 = z := by
    obtain ⟨h1, h2⟩ := sel_bd (l := [0, (v5 : Int), (v6 : Int) * 16384]) (k := v7) (lo := 0) (hi := 4177920) (by simp only [List.forall_mem_cons]; refine ⟨?_, ?_, ?_, ?_⟩ <;> first | omega | simp) (by simp; omega)
    exact ⟨_, h1, h2, rfl⟩
  by_cases hm : u + z < 1073741824
  · go_wp2_with fail
    refine (odd_any _ _ _ _ (hr7.alloc _) (by omega) hn hn').mono ?_
    rintro e w8 ⟨q, rfl, hr8, hg8⟩
    have hz8 := hg8.size
    (try simp only [World.size_setCell, World.size_alloc, World.size_drew] at hz8)
    have P8 := (Pair.new w7 u (u + z) 24).grown hg8 n2
    have Q8 := (Q7.alloc _).grown hg8 n3
    obtain ⟨⟨d80, d81⟩, d82, d83⟩ := P8.cells
    obtain ⟨⟨d84, d85⟩, d86, d87⟩ := Q8.cells
    cases q
    · go_wp2
      have E := (Q8.set u (u + z)).cells.1
      refine bodyPost_ret (v := .agg #[.int .i64 u, .int .i64 (u + z)]) (by simp [results, Try.results47, go_sem, E.1, E.2]) rfl ?_
      exact ⟨_, _, ⟨by omega, by omega⟩, ⟨by omega, by omega⟩, rfl, ((hr8.setCell (by simp; omega) _).setCell (by simp; omega) _).more (by omega), (by repeat (first | exact World.grownBy.refl _ _ | refine galloc ?_ _ | refine gdrew ?_ | refine gdrewN ?_ _ | (refine gseq ?_ (by assumption)) | (refine gbelow ?_ (by assumption)) | (refine gset ?_ (by first | (right; simp; done) | (right; simp; omega)) _)))⟩
    · go_wp2_with fail
      refine (pick_any _ _ _ _ (hr8.alloc _) (by omega)).mono ?_
      rintro e w9 ⟨v9, hv9, rfl, hr9, hg9⟩
      have b9 : (v9 : Int) < 3 := by omega
      have hz9 := hg9.size
      (try simp only [World.size_setCell, World.size_alloc, World.size_drew] at hz9)
      have P9 := (P8.alloc _).grown hg9 n2
      have Q9 := (Q8.alloc _).grown hg9 n3
      obtain ⟨⟨d90, d91⟩, d92, d93⟩ := P9.cells
      obtain ⟨⟨d94, d95⟩, d96, d97⟩ := Q9.cells
      obtain ⟨hc9, hf9⟩ := gcell hg9
      have n6 : w8.heap.size ≠ B := by omega
      have b9' : v9 = 0 ∨ v9 = 1 ∨ v9 = 2 := by omega
      clear r3 r6 r9
      rcases b9' with rfl | rfl | rfl
      · go_wp2
        have E := (((Q9.keep (a := ⟨w7.heap.size, 0, none⟩) (by simp; omega) (.int .i64 (2))).keep (a := ⟨w7.heap.size, 1, none⟩) (by simp; omega) (.int .i64 (1))).set (2) (1)).cells.1
        refine bodyPost_ret (v := .agg #[.int .i64 (2), .int .i64 (1)]) (by simp [results, Try.results47, go_sem, E.1, E.2]) rfl ?_
        exact ⟨_, _, ⟨by decide, by decide⟩, ⟨by decide, by decide⟩, rfl, ((((hr9.setCell (by simp; omega) _).setCell (by simp; omega) _).setCell (by simp; omega) _).setCell (by simp; omega) _).more (by omega), (by repeat (first | exact World.grownBy.refl _ _ | refine galloc ?_ _ | refine gdrew ?_ | refine gdrewN ?_ _ | (refine gseq ?_ (by assumption)) | (refine gbelow ?_ (by assumption)) | (refine gset ?_ (by first | (right; simp; done) | (right; simp; omega)) _)))⟩
      · go_wp2
        have E := (((Q9.keep (a := ⟨w7.heap.size, 0, none⟩) (by simp; omega) (.int .i64 (-1073741825))).keep (a := ⟨w7.heap.size, 1, none⟩) (by simp; omega) (.int .i64 (0))).set (-1073741825) (0)).cells.1
        refine bodyPost_ret (v := .agg #[.int .i64 (-1073741825), .int .i64 (0)]) (by simp [results, Try.results47, go_sem, E.1, E.2]) rfl ?_
        exact ⟨_, _, ⟨by decide, by decide⟩, ⟨by decide, by decide⟩, rfl, ((((hr9.setCell (by simp; omega) _).setCell (by simp; omega) _).setCell (by simp; omega) _).setCell (by simp; omega) _).more (by omega), (by repeat (first | exact World.grownBy.refl _ _ | refine galloc ?_ _ | refine gdrew ?_ | refine gdrewN ?_ _ | (refine gseq ?_ (by assumption)) | (refine gbelow ?_ (by assumption)) | (refine gset ?_ (by first | (right; simp; done) | (right; simp; omega)) _)))⟩
      · go_wp2
        have E := (((Q9.keep (a := ⟨w7.heap.size, 0, none⟩) (by simp; omega) (.int .i64 (0))).keep (a := ⟨w7.heap.size, 1, none⟩) (by simp; omega) (.int .i64 (1073741825))).set (0) (1073741825)).cells.1
        refine bodyPost_ret (v := .agg #[.int .i64 (0), .int .i64 (1073741825)]) (by simp [results, Try.results47, go_sem, E.1, E.2]) rfl ?_
        exact ⟨_, _, ⟨by decide, by decide⟩, ⟨by decide, by decide⟩, rfl, ((((hr9.setCell (by simp; omega) _).setCell (by simp; omega) _).setCell (by simp; omega) _).setCell (by simp; omega) _).more (by omega), (by repeat (first | exact World.grownBy.refl _ _ | refine galloc ?_ _ | refine gdrew ?_ | refine gdrewN ?_ _ | (refine gseq ?_ (by assumption)) | (refine gbelow ?_ (by assumption)) | (refine gset ?_ (by first | (right; simp; done) | (right; simp; omega)) _)))⟩
  · have hm' : 1073741824 ≤ u + z := by omega
    go_wp2_with fail
    refine (odd_any _ _ _ _ (hr7.alloc _) (by omega) hn hn').mono ?_
    rintro e w8 ⟨q, rfl, hr8, hg8⟩
    have hz8 := hg8.size
    (try simp only [World.size_setCell, World.size_alloc, World.size_drew] at hz8)
    have P8 := (Pair.new w7 u (1073741824) 24).grown hg8 n2
    have Q8 := (Q7.alloc _).grown hg8 n3
    obtain ⟨⟨d80, d81⟩, d82, d83⟩ := P8.cells
    obtain ⟨⟨d84, d85⟩, d86, d87⟩ := Q8.cells
    cases q
    · go_wp2
      have E := (Q8.set u (1073741824)).cells.1
      refine bodyPost_ret (v := .agg #[.int .i64 u, .int .i64 (1073741824)]) (by simp [results, Try.results47, go_sem, E.1, E.2]) rfl ?_
      exact ⟨_, _, ⟨by omega, by omega⟩, ⟨by omega, by omega⟩, rfl, ((hr8.setCell (by simp; omega) _).setCell (by simp; omega) _).more (by omega), (by repeat (first | exact World.grownBy.refl _ _ | refine galloc ?_ _ | refine gdrew ?_ | refine gdrewN ?_ _ | (refine gseq ?_ (by assumption)) | (refine gbelow ?_ (by assumption)) | (refine gset ?_ (by first | (right; simp; done) | (right; simp; omega)) _)))⟩
    · go_wp2_with fail
      refine (pick_any _ _ _ _ (hr8.alloc _) (by omega)).mono ?_
      rintro e w9 ⟨v9, hv9, rfl, hr9, hg9⟩
      have b9 : (v9 : Int) < 3 := by omega
      have hz9 := hg9.size
      (try simp only [World.size_setCell, World.size_alloc, World.size_drew] at hz9)
      have P9 := (P8.alloc _).grown hg9 n2
      have Q9 := (Q8.alloc _).grown hg9 n3
      obtain ⟨⟨d90, d91⟩, d92, d93⟩ := P9.cells
      obtain ⟨⟨d94, d95⟩, d96, d97⟩ := Q9.cells
      obtain ⟨hc9, hf9⟩ := gcell hg9
      have n6 : w8.heap.size ≠ B := by omega
      have b9' : v9 = 0 ∨ v9 = 1 ∨ v9 = 2 := by omega
      clear r3 r6 r9
      rcases b9' with rfl | rfl | rfl
      · go_wp2
        have E := (((Q9.keep (a := ⟨w7.heap.size, 0, none⟩) (by simp; omega) (.int .i64 (2))).keep (a := ⟨w7.heap.size, 1, none⟩) (by simp; omega) (.int .i64 (1))).set (2) (1)).cells.1
        refine bodyPost_ret (v := .agg #[.int .i64 (2), .int .i64 (1)]) (by simp [results, Try.results47, go_sem, E.1, E.2]) rfl ?_
        exact ⟨_, _, ⟨by decide, by decide⟩, ⟨by decide, by decide⟩, rfl, ((((hr9.setCell (by simp; omega) _).setCell (by simp; omega) _).setCell (by simp; omega) _).setCell (by simp; omega) _).more (by omega), (by repeat (first | exact World.grownBy.refl _ _ | refine galloc ?_ _ | refine gdrew ?_ | refine gdrewN ?_ _ | (refine gseq ?_ (by assumption)) | (refine gbelow ?_ (by assumption)) | (refine gset ?_ (by first | (right; simp; done) | (right; simp; omega)) _)))⟩
      · go_wp2
        have E := (((Q9.keep (a := ⟨w7.heap.size, 0, none⟩) (by simp; omega) (.int .i64 (-1073741825))).keep (a := ⟨w7.heap.size, 1, none⟩) (by simp; omega) (.int .i64 (0))).set (-1073741825) (0)).cells.1
        refine bodyPost_ret (v := .agg #[.int .i64 (-1073741825), .int .i64 (0)]) (by simp [results, Try.results47, go_sem, E.1, E.2]) rfl ?_
        exact ⟨_, _, ⟨by decide, by decide⟩, ⟨by decide, by decide⟩, rfl, ((((hr9.setCell (by simp; omega) _).setCell (by simp; omega) _).setCell (by simp; omega) _).setCell (by simp; omega) _).more (by omega), (by repeat (first | exact World.grownBy.refl _ _ | refine galloc ?_ _ | refine gdrew ?_ | refine gdrewN ?_ _ | (refine gseq ?_ (by assumption)) | (refine gbelow ?_ (by assumption)) | (refine gset ?_ (by first | (right; simp; done) | (right; simp; omega)) _)))⟩
      · go_wp2
        have E := (((Q9.keep (a := ⟨w7.heap.size, 0, none⟩) (by simp; omega) (.int .i64 (0))).keep (a := ⟨w7.heap.size, 1, none⟩) (by simp; omega) (.int .i64 (1073741825))).set (0) (1073741825)).cells.1
        refine bodyPost_ret (v := .agg #[.int .i64 (0), .int .i64 (1073741825)]) (by simp [results, Try.results47, go_sem, E.1, E.2]) rfl ?_
        exact ⟨_, _, ⟨by decide, by decide⟩, ⟨by decide, by decide⟩, rfl, ((((hr9.setCell (by simp; omega) _).setCell (by simp; omega) _).setCell (by simp; omega) _).setCell (by simp; omega) _).more (by omega), (by repeat (first | exact World.grownBy.refl _ _ | refine galloc ?_ _ | refine gdrew ?_ | refine gdrewN ?_ _ | (refine gseq ?_ (by assumption)) | (refine gbelow ?_ (by assumption)) | (refine gset ?_ (by first | (right; simp; done) | (right; simp; omega)) _)))⟩

end Go.Proofs.Ytjlldfkkkfcohaa.K
