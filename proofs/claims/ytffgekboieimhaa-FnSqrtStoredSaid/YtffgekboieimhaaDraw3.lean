/- Contracts of the functions that draw formats and stored numbers. -/
import Derived.Test.YtffgekboieimhaaDraw2
import Derived.Test.YtffgekboieimhaaFmt
namespace Go.Proofs.Ytffgekboieimhaa.K
open Go.RowKit

/-- What a draw of a format from a reader leaves. -/
def PickF (w : World) (B lim : Nat) (e : Ending) (w' : World) : Prop := ∃ a b : Int, (0 ≤ a ∧ a ≤ 13) ∧ (-1 ≤ b ∧ b ≤ 17) ∧ e = .returned (.agg #[.int .i64 a, .int .i64 b]) ∧ Rd w' B lim ∧ w.grownBy w' (some B)

/-- a struct of two numbers that lies in a block -/
def Pair (w : World) (b : Nat) (x y : Int) (t : TypeId) : Prop := w.heap[b]? = some (.cells #[.int .i64 x, .int .i64 y] t (0, 0))
theorem Pair.cells {w : World} {b : Nat} {x y : Int} {t : TypeId} (h : Pair w b x y t) : (w.cell? ⟨b, 0, none⟩ = some (.int .i64 x) ∧ w.cell? ⟨b, 1, none⟩ = some (.int .i64 y)) ∧ w.frozen? ⟨b, 0, none⟩ = false ∧ w.frozen? ⟨b, 1, none⟩ = false := by
  unfold Pair at h
  refine ⟨⟨?_, ?_⟩, ?_, ?_⟩
  · rw [cell_of_row w b 0 _ _ _ h]; rfl
  · rw [cell_of_row w b 1 _ _ _ h]; rfl
  · simp [World.frozen?, h]
  · simp [World.frozen?, h]
theorem Pair.grown {w w' : World} {b B : Nat} {x y : Int} {t : TypeId} (h : Pair w b x y t) (g : w.grownBy w' (some B)) (hn : b ≠ B) : Pair w' b x y t := by
  have hb : b < w.heap.size := by
    rcases Nat.lt_or_ge b w.heap.size with hlt | hge
    · exact hlt
    · unfold Pair at h; rw [Array.getElem?_eq_none hge] at h; cases h
  exact (g.block b hb (fun e => hn (by injection e))).trans h
theorem Pair.alloc {w : World} {b : Nat} {x y : Int} {t : TypeId} (h : Pair w b x y t) (o : Obj) : Pair (w.alloc o) b x y t := by
  have hb : b < w.heap.size := by
    rcases Nat.lt_or_ge b w.heap.size with hlt | hge
    · exact hlt
    · unfold Pair at h; rw [Array.getElem?_eq_none hge] at h; cases h
  exact (Below.heap_alloc _ _ _ hb).trans h
theorem Pair.new (w : World) (x y : Int) (t : TypeId) : Pair (w.alloc (.cells #[.int .i64 x, .int .i64 y] t)) w.heap.size x y t := heap_alloc_new w _
theorem Pair.set {w : World} {b : Nat} {x y : Int} {t : TypeId} (h : Pair w b x y t) (x' y' : Int) : Pair ((w.setCell ⟨b, 0, none⟩ (.int .i64 x')).setCell ⟨b, 1, none⟩ (.int .i64 y')) b x' y' t := by
  unfold Pair at *
  simp [World.setCell, Array.getElem?_modify, h]
theorem Pair.keep {w : World} {b : Nat} {x y : Int} {t : TypeId} (h : Pair w b x y t) {a : Addr} (ha : b ≠ a.block) (u : Value) : Pair (w.setCell a u) b x y t := (Below.heap_setCell _ _ _ _ ha).trans h

set_option maxHeartbeats 8000000 in
theorem l20Format_any (B lim : Nat) (n : Int) (w : World) (h : Rd w B lim) (hl : lim ≤ 900000) (hn : 0 < n) (hn' : n ≤ 1000) : Calls Try.prog 47 #[.pointer (some ⟨B, 0, none⟩), .int .i64 n] w (PickF w B (lim + 7)) := by
  have hB := h.lt
  go_enter Try.func47, Try.ntmps47
  go_wp2_with fail
  refine (pick_any _ _ _ _ (h.alloc _) (by omega)).mono ?_
  rintro e w1 ⟨v1, hv1, rfl, hr1, hg1⟩
  have b1 : (v1 : Int) < 12 := by omega
  have hz1 := hg1.size
  (try simp only [World.size_setCell, World.size_alloc, World.size_drew] at hz1)
  have Q1 := (Pair.new w 0 0 26).grown hg1 (by omega)
  go_wp2_with fail
  refine (pick_any _ _ _ _ (hr1) (by omega)).mono ?_
  rintro e w2 ⟨v2, hv2, rfl, hr2, hg2⟩
  have b2 : (v2 : Int) < 17 := by omega
  have hz2 := hg2.size
  (try simp only [World.size_setCell, World.size_alloc, World.size_drew] at hz2)
  have Q2 := Q1.grown hg2 (by omega)
  have n2 : w2.heap.size ≠ B := by omega
  have n3 : w.heap.size ≠ B := by omega
  go_wp2_with fail
  refine (pick_any _ _ _ _ (hr2.alloc _) (by omega)).mono ?_
  rintro e w3 ⟨v3, hv3, rfl, hr3, hg3⟩
  have b3 : (v3 : Int) < 3 := by omega
  have hz3 := hg3.size
  (try simp only [World.size_setCell, World.size_alloc, World.size_drew] at hz3)
  have P3 := (Pair.new w2 (1 + v1) v2 26).grown hg3 n2
  have Q3 := (Q2.alloc _).grown hg3 n3
  by_cases hp : v3 = 0
  · subst hp
    go_wp2_with fail
    refine (pick_any _ _ _ _ (hr3) (by omega)).mono ?_
    rintro e w4 ⟨v4, hv4, rfl, hr4, hg4⟩
    have b4 : (v4 : Int) < 3 := by omega
    have hz4 := hg4.size
    (try simp only [World.size_setCell, World.size_alloc, World.size_drew] at hz4)
    have P4 := P3.grown hg4 n2
    have Q4 := Q3.grown hg4 n3
    go_wp2_with fail
    refine (pick_any _ _ _ _ (hr4) (by omega)).mono ?_
    rintro e w5 ⟨v5, hv5, rfl, hr5, hg5⟩
    have b5 : (v5 : Int) < 4 := by omega
    have hz5 := hg5.size
    (try simp only [World.size_setCell, World.size_alloc, World.size_drew] at hz5)
    have P5 := P4.grown hg5 n2
    have Q5 := Q4.grown hg5 n3
    obtain ⟨⟨d50, d51⟩, d52, d53⟩ := P5.cells
    go_wp2_with fail
    refine (odd_any _ _ _ _ ((hr5.setCell (by simp; omega) _).setCell (by simp; omega) _) (by omega) hn hn').mono ?_
    rintro e w6 ⟨q, rfl, hr6, hg6⟩
    have hz6 := hg6.size
    (try simp only [World.size_setCell, World.size_alloc, World.size_drew] at hz6)
    have P6 := (P5.set _ _).grown hg6 n2
    have Q6 := ((Q5.keep (by simp; omega) _).keep (by simp; omega) _).grown hg6 n3
    obtain ⟨⟨d60, d61⟩, d62, d63⟩ := P6.cells
    obtain ⟨⟨d64, d65⟩, d66, d67⟩ := Q6.cells
    cases q
    · go_wp2
      have E := (Q6.set (1 + v4) (v5)).cells.1
      refine bodyPost_ret (v := .agg #[.int .i64 (1 + v4), .int .i64 (v5)]) (by simp [results, Try.results47, go_sem, E.1, E.2]) rfl ?_
      exact ⟨_, _, ⟨by omega, by omega⟩, ⟨by omega, by omega⟩, rfl, ((hr6.setCell (by simp; omega) _).setCell (by simp; omega) _).more (by omega), (by repeat (first | exact World.grownBy.refl _ _ | refine galloc ?_ _ | refine gdrew ?_ | refine gdrewN ?_ _ | (refine gseq ?_ (by assumption)) | (refine gbelow ?_ (by assumption)) | (refine gset ?_ (by first | (right; simp; done) | (right; simp; omega)) _)))⟩
    · go_wp2_with fail
      refine (pick_any _ _ _ _ (hr6.alloc _) (by omega)).mono ?_
      rintro e w7 ⟨v7, hv7, rfl, hr7, hg7⟩
      have b7 : (v7 : Int) < 4 := by omega
      have hz7 := hg7.size
      (try simp only [World.size_setCell, World.size_alloc, World.size_drew] at hz7)
      have P7 := (P6.alloc _).grown hg7 n2
      have Q7 := (Q6.alloc _).grown hg7 n3
      obtain ⟨⟨d70, d71⟩, d72, d73⟩ := P7.cells
      obtain ⟨⟨d74, d75⟩, d76, d77⟩ := Q7.cells
      obtain ⟨hc7, hf7⟩ := gcell hg7
      have n6 : w6.heap.size ≠ B := by omega
      have b7' : v7 = 0 ∨ v7 = 1 ∨ v7 = 2 ∨ v7 = 3 := by omega
      rcases b7' with rfl | rfl | rfl | rfl
      · go_wp2
        have E := (((Q7.keep (a := ⟨w2.heap.size, 0, none⟩) (by simp; omega) (.int .i64 (0))).keep (a := ⟨w2.heap.size, 1, none⟩) (by simp; omega) (.int .i64 (3))).set (0) (3)).cells.1
        refine bodyPost_ret (v := .agg #[.int .i64 (0), .int .i64 (3)]) (by simp [results, Try.results47, go_sem, E.1, E.2]) rfl ?_
        exact ⟨_, _, ⟨by decide, by decide⟩, ⟨by decide, by decide⟩, rfl, ((((hr7.setCell (by simp; omega) _).setCell (by simp; omega) _).setCell (by simp; omega) _).setCell (by simp; omega) _).more (by omega), (by repeat (first | exact World.grownBy.refl _ _ | refine galloc ?_ _ | refine gdrew ?_ | refine gdrewN ?_ _ | (refine gseq ?_ (by assumption)) | (refine gbelow ?_ (by assumption)) | (refine gset ?_ (by first | (right; simp; done) | (right; simp; omega)) _)))⟩
      · go_wp2
        have E := (((Q7.keep (a := ⟨w2.heap.size, 0, none⟩) (by simp; omega) (.int .i64 (13))).keep (a := ⟨w2.heap.size, 1, none⟩) (by simp; omega) (.int .i64 (3))).set (13) (3)).cells.1
        refine bodyPost_ret (v := .agg #[.int .i64 (13), .int .i64 (3)]) (by simp [results, Try.results47, go_sem, E.1, E.2]) rfl ?_
        exact ⟨_, _, ⟨by decide, by decide⟩, ⟨by decide, by decide⟩, rfl, ((((hr7.setCell (by simp; omega) _).setCell (by simp; omega) _).setCell (by simp; omega) _).setCell (by simp; omega) _).more (by omega), (by repeat (first | exact World.grownBy.refl _ _ | refine galloc ?_ _ | refine gdrew ?_ | refine gdrewN ?_ _ | (refine gseq ?_ (by assumption)) | (refine gbelow ?_ (by assumption)) | (refine gset ?_ (by first | (right; simp; done) | (right; simp; omega)) _)))⟩
      · go_wp2
        have E := (((Q7.keep (a := ⟨w2.heap.size, 0, none⟩) (by simp; omega) (.int .i64 (3))).keep (a := ⟨w2.heap.size, 1, none⟩) (by simp; omega) (.int .i64 (-1))).set (3) (-1)).cells.1
        refine bodyPost_ret (v := .agg #[.int .i64 (3), .int .i64 (-1)]) (by simp [results, Try.results47, go_sem, E.1, E.2]) rfl ?_
        exact ⟨_, _, ⟨by decide, by decide⟩, ⟨by decide, by decide⟩, rfl, ((((hr7.setCell (by simp; omega) _).setCell (by simp; omega) _).setCell (by simp; omega) _).setCell (by simp; omega) _).more (by omega), (by repeat (first | exact World.grownBy.refl _ _ | refine galloc ?_ _ | refine gdrew ?_ | refine gdrewN ?_ _ | (refine gseq ?_ (by assumption)) | (refine gbelow ?_ (by assumption)) | (refine gset ?_ (by first | (right; simp; done) | (right; simp; omega)) _)))⟩
      · go_wp2
        have E := (((Q7.keep (a := ⟨w2.heap.size, 0, none⟩) (by simp; omega) (.int .i64 (3))).keep (a := ⟨w2.heap.size, 1, none⟩) (by simp; omega) (.int .i64 (17))).set (3) (17)).cells.1
        refine bodyPost_ret (v := .agg #[.int .i64 (3), .int .i64 (17)]) (by simp [results, Try.results47, go_sem, E.1, E.2]) rfl ?_
        exact ⟨_, _, ⟨by decide, by decide⟩, ⟨by decide, by decide⟩, rfl, ((((hr7.setCell (by simp; omega) _).setCell (by simp; omega) _).setCell (by simp; omega) _).setCell (by simp; omega) _).more (by omega), (by repeat (first | exact World.grownBy.refl _ _ | refine galloc ?_ _ | refine gdrew ?_ | refine gdrewN ?_ _ | (refine gseq ?_ (by assumption)) | (refine gbelow ?_ (by assumption)) | (refine gset ?_ (by first | (right; simp; done) | (right; simp; omega)) _)))⟩
  · have hp' : ¬ (v3 : Int) = 0 := by omega
    go_wp2_with fail
    refine (odd_any _ _ _ _ (hr3) (by omega) hn hn').mono ?_
    rintro e w6 ⟨q, rfl, hr6, hg6⟩
    have hz6 := hg6.size
    (try simp only [World.size_setCell, World.size_alloc, World.size_drew] at hz6)
    have P6 := (P3).grown hg6 n2
    have Q6 := (Q3).grown hg6 n3
    obtain ⟨⟨d60, d61⟩, d62, d63⟩ := P6.cells
    obtain ⟨⟨d64, d65⟩, d66, d67⟩ := Q6.cells
    cases q
    · go_wp2
      have E := (Q6.set (1 + v1) (v2)).cells.1
      refine bodyPost_ret (v := .agg #[.int .i64 (1 + v1), .int .i64 (v2)]) (by simp [results, Try.results47, go_sem, E.1, E.2]) rfl ?_
      exact ⟨_, _, ⟨by omega, by omega⟩, ⟨by omega, by omega⟩, rfl, ((hr6.setCell (by simp; omega) _).setCell (by simp; omega) _).more (by omega), (by repeat (first | exact World.grownBy.refl _ _ | refine galloc ?_ _ | refine gdrew ?_ | refine gdrewN ?_ _ | (refine gseq ?_ (by assumption)) | (refine gbelow ?_ (by assumption)) | (refine gset ?_ (by first | (right; simp; done) | (right; simp; omega)) _)))⟩
    · go_wp2_with fail
      refine (pick_any _ _ _ _ (hr6.alloc _) (by omega)).mono ?_
      rintro e w7 ⟨v7, hv7, rfl, hr7, hg7⟩
      have b7 : (v7 : Int) < 4 := by omega
      have hz7 := hg7.size
      (try simp only [World.size_setCell, World.size_alloc, World.size_drew] at hz7)
      have P7 := (P6.alloc _).grown hg7 n2
      have Q7 := (Q6.alloc _).grown hg7 n3
      obtain ⟨⟨d70, d71⟩, d72, d73⟩ := P7.cells
      obtain ⟨⟨d74, d75⟩, d76, d77⟩ := Q7.cells
      obtain ⟨hc7, hf7⟩ := gcell hg7
      have n6 : w6.heap.size ≠ B := by omega
      have b7' : v7 = 0 ∨ v7 = 1 ∨ v7 = 2 ∨ v7 = 3 := by omega
      rcases b7' with rfl | rfl | rfl | rfl
      · go_wp2
        have E := (((Q7.keep (a := ⟨w2.heap.size, 0, none⟩) (by simp; omega) (.int .i64 (0))).keep (a := ⟨w2.heap.size, 1, none⟩) (by simp; omega) (.int .i64 (3))).set (0) (3)).cells.1
        refine bodyPost_ret (v := .agg #[.int .i64 (0), .int .i64 (3)]) (by simp [results, Try.results47, go_sem, E.1, E.2]) rfl ?_
        exact ⟨_, _, ⟨by decide, by decide⟩, ⟨by decide, by decide⟩, rfl, ((((hr7.setCell (by simp; omega) _).setCell (by simp; omega) _).setCell (by simp; omega) _).setCell (by simp; omega) _).more (by omega), (by repeat (first | exact World.grownBy.refl _ _ | refine galloc ?_ _ | refine gdrew ?_ | refine gdrewN ?_ _ | (refine gseq ?_ (by assumption)) | (refine gbelow ?_ (by assumption)) | (refine gset ?_ (by first | (right; simp; done) | (right; simp; omega)) _)))⟩
      · go_wp2
        have E := (((Q7.keep (a := ⟨w2.heap.size, 0, none⟩) (by simp; omega) (.int .i64 (13))).keep (a := ⟨w2.heap.size, 1, none⟩) (by simp; omega) (.int .i64 (3))).set (13) (3)).cells.1
        refine bodyPost_ret (v := .agg #[.int .i64 (13), .int .i64 (3)]) (by simp [results, Try.results47, go_sem, E.1, E.2]) rfl ?_
        exact ⟨_, _, ⟨by decide, by decide⟩, ⟨by decide, by decide⟩, rfl, ((((hr7.setCell (by simp; omega) _).setCell (by simp; omega) _).setCell (by simp; omega) _).setCell (by simp; omega) _).more (by omega), (by repeat (first | exact World.grownBy.refl _ _ | refine galloc ?_ _ | refine gdrew ?_ | refine gdrewN ?_ _ | (refine gseq ?_ (by assumption)) | (refine gbelow ?_ (by assumption)) | (refine gset ?_ (by first | (right; simp; done) | (right; simp; omega)) _)))⟩
      · go_wp2
        have E := (((Q7.keep (a := ⟨w2.heap.size, 0, none⟩) (by simp; omega) (.int .i64 (3))).keep (a := ⟨w2.heap.size, 1, none⟩) (by simp; omega) (.int .i64 (-1))).set (3) (-1)).cells.1
        refine bodyPost_ret (v := .agg #[.int .i64 (3), .int .i64 (-1)]) (by simp [results, Try.results47, go_sem, E.1, E.2]) rfl ?_
        exact ⟨_, _, ⟨by decide, by decide⟩, ⟨by decide, by decide⟩, rfl, ((((hr7.setCell (by simp; omega) _).setCell (by simp; omega) _).setCell (by simp; omega) _).setCell (by simp; omega) _).more (by omega), (by repeat (first | exact World.grownBy.refl _ _ | refine galloc ?_ _ | refine gdrew ?_ | refine gdrewN ?_ _ | (refine gseq ?_ (by assumption)) | (refine gbelow ?_ (by assumption)) | (refine gset ?_ (by first | (right; simp; done) | (right; simp; omega)) _)))⟩
      · go_wp2
        have E := (((Q7.keep (a := ⟨w2.heap.size, 0, none⟩) (by simp; omega) (.int .i64 (3))).keep (a := ⟨w2.heap.size, 1, none⟩) (by simp; omega) (.int .i64 (17))).set (3) (17)).cells.1
        refine bodyPost_ret (v := .agg #[.int .i64 (3), .int .i64 (17)]) (by simp [results, Try.results47, go_sem, E.1, E.2]) rfl ?_
        exact ⟨_, _, ⟨by decide, by decide⟩, ⟨by decide, by decide⟩, rfl, ((((hr7.setCell (by simp; omega) _).setCell (by simp; omega) _).setCell (by simp; omega) _).setCell (by simp; omega) _).more (by omega), (by repeat (first | exact World.grownBy.refl _ _ | refine galloc ?_ _ | refine gdrew ?_ | refine gdrewN ?_ _ | (refine gseq ?_ (by assumption)) | (refine gbelow ?_ (by assumption)) | (refine gset ?_ (by first | (right; simp; done) | (right; simp; omega)) _)))⟩

end Go.Proofs.Ytffgekboieimhaa.K
