/- The walks of the exact laws on spans. -/
import Derived.Test.YtjlldfkkkfcohaaSpn2
namespace Go.Proofs.Ytjlldfkkkfcohaa.K
open Go.RowKit

set_option maxHeartbeats 1000000 in
theorem FnExactSpanNeg_walk (a0 b0 : Int) (w : World) (_wa0 : (Lit.int .i64 a0).wf = true) (_wb0 : (Lit.int .i64 b0).wf = true) : Calls Try.prog 3 #[.agg #[.int .i64 a0, .int .i64 b0]] w fun e w' => e = .returned (.bool true) ∧ Below w.heap.size w w' := by
  by_cases h : SV a0 b0
  · have H := Lib.hid h
    clear h
    go_enter Try.func3, Try.ntmps3
    go_wp2_with fail
    refine (toSpan_any _ _ _).mono ?_
    rintro e w' ⟨rfl, rfl⟩
    go_wp2_with fail
    refine (sSpanNeg_in _ _ _ H.out).mono ?_
    rintro e w1 ⟨rfl, hb1⟩
    have hz1 := hb1.size
    try simp only [World.size_alloc] at hz1
    have hl1 : w.heap.size < w1.heap.size := (by omega)
    have r0 : w1.cell? ⟨w.heap.size, 0, none⟩ = some (.int .i64 (a0)) := (bcell hb1).1 (w.heap.size) 0 (by first | (simp; done) | (simp; omega) | omega) |>.trans (by go_simp)
    have r1 : w1.cell? ⟨w.heap.size, 1, none⟩ = some (.int .i64 (b0)) := (bcell hb1).1 (w.heap.size) 1 (by first | (simp; done) | (simp; omega) | omega) |>.trans (by go_simp)
    go_wp2_with fail
    refine (toSpan_any _ _ _).mono ?_
    rintro e w' ⟨rfl, rfl⟩
    go_wp2_with fail
    refine (SpanNeg_in _ _ _ H.out).mono ?_
    rintro e w2 ⟨rfl, hb2⟩
    have t0 : w2.cell? ⟨w1.heap.size, 0, none⟩ = some (.int .i64 (-b0)) := (bcell hb2).1 (w1.heap.size) 0 (by first | (simp; done) | (simp; omega) | omega) |>.trans (by go_simp)
    have t1 : w2.cell? ⟨w1.heap.size, 1, none⟩ = some (.int .i64 (-a0)) := (bcell hb2).1 (w1.heap.size) 1 (by first | (simp; done) | (simp; omega) | omega) |>.trans (by go_simp)
    have hz2 := hb2.size
    try simp only [World.size_alloc] at hz2
    have hl2 : w1.heap.size < w2.heap.size := (by omega)
    go_wp2_with fail
    refine (eqSpan_same _ _ _).mono ?_
    rintro e w' ⟨rfl, rfl⟩
    go_wp2
    go_ret
    exact ⟨rfl, (by repeat (first | exact Below.refl _ _ | refine balloc ?_ _ | refine bdrew ?_ | refine bdrewN ?_ _ | refine bset ?_ (by first | (simp; done) | (simp; omega)) _ | (refine bseq ?_ (by assumption))))⟩
  · have H := Lib.hid h
    clear h
    go_enter Try.func3, Try.ntmps3
    go_wp2_with fail
    refine (toSpan_any _ _ _).mono ?_
    rintro e w' ⟨rfl, rfl⟩
    go_wp2_with fail
    refine (sSpanNeg_no _ _ _ H.out).mono ?_
    rintro e w1 ⟨rfl, hb1⟩
    have hz1 := hb1.size
    try simp only [World.size_alloc] at hz1
    have hl1 : w.heap.size < w1.heap.size := (by omega)
    have r0 : w1.cell? ⟨w.heap.size, 0, none⟩ = some (.int .i64 (a0)) := (bcell hb1).1 (w.heap.size) 0 (by first | (simp; done) | (simp; omega) | omega) |>.trans (by go_simp)
    have r1 : w1.cell? ⟨w.heap.size, 1, none⟩ = some (.int .i64 (b0)) := (bcell hb1).1 (w.heap.size) 1 (by first | (simp; done) | (simp; omega) | omega) |>.trans (by go_simp)
    go_wp2_with fail
    refine (toSpan_any _ _ _).mono ?_
    rintro e w' ⟨rfl, rfl⟩
    go_wp2_with fail
    refine (SpanNeg_no _ _ _ H.out).mono ?_
    rintro e w2 ⟨rfl, hb2⟩
    have t0 : w2.cell? ⟨w1.heap.size, 0, none⟩ = some (.int .i64 (0)) := (bcell hb2).1 (w1.heap.size) 0 (by first | (simp; done) | (simp; omega) | omega) |>.trans (by go_simp)
    have t1 : w2.cell? ⟨w1.heap.size, 1, none⟩ = some (.int .i64 (0)) := (bcell hb2).1 (w1.heap.size) 1 (by first | (simp; done) | (simp; omega) | omega) |>.trans (by go_simp)
    have hz2 := hb2.size
    try simp only [World.size_alloc] at hz2
    have hl2 : w1.heap.size < w2.heap.size := (by omega)
    go_wp2_with fail
    refine (eqSpan_same _ _ _).mono ?_
    rintro e w' ⟨rfl, rfl⟩
    go_wp2
    go_ret
    exact ⟨rfl, (by repeat (first | exact Below.refl _ _ | refine balloc ?_ _ | refine bdrew ?_ | refine bdrewN ?_ _ | refine bset ?_ (by first | (simp; done) | (simp; omega)) _ | (refine bseq ?_ (by assumption))))⟩

set_option maxHeartbeats 1000000 in
theorem FnExactSpanTimes_walk (a0 b0 a1 : Int) (w : World) (_wa0 : (Lit.int .i64 a0).wf = true) (_wb0 : (Lit.int .i64 b0).wf = true) (_wa1 : (Lit.int .i64 a1).wf = true) : Calls Try.prog 6 #[.agg #[.int .i64 a0, .int .i64 b0], .int .i64 a1] w fun e w' => e = .returned (.bool true) ∧ Below w.heap.size w w' := by
  by_cases h : SV a0 b0 ∧ -1000 ≤ a1 ∧ a1 ≤ 1000
  · obtain ⟨hv, n1, n2⟩ := h
    have H := Lib.hid hv
    clear hv
    go_enter Try.func6, Try.ntmps6
    go_wp2_with fail
    refine (toSpan_any _ _ _).mono ?_
    rintro e w' ⟨rfl, rfl⟩
    go_wp2_with fail
    refine (sSpanTimes_in _ _ _ _ H.out n1 n2).mono ?_
    rintro e w1 ⟨rfl, hb1⟩
    have hz1 := hb1.size
    try simp only [World.size_alloc] at hz1
    have hl1 : w.heap.size < w1.heap.size := (by omega)
    have r0 : w1.cell? ⟨w.heap.size, 0, none⟩ = some (.int .i64 (a0)) := (bcell hb1).1 (w.heap.size) 0 (by first | (simp; done) | (simp; omega) | omega) |>.trans (by go_simp)
    have r1 : w1.cell? ⟨w.heap.size, 1, none⟩ = some (.int .i64 (b0)) := (bcell hb1).1 (w.heap.size) 1 (by first | (simp; done) | (simp; omega) | omega) |>.trans (by go_simp)
    go_wp2_with fail
    refine (toSpan_any _ _ _).mono ?_
    rintro e w' ⟨rfl, rfl⟩
    go_wp2_with fail
    refine (SpanTimes_in _ _ _ _ H.out n1 n2).mono ?_
    rintro e w2 ⟨rfl, hb2⟩
    have t0 : w2.cell? ⟨w1.heap.size, 0, none⟩ = some (.int .i64 (gl (mn (a0 * a1) (b0 * a1)) (mx (a0 * a1) (b0 * a1)))) := (bcell hb2).1 (w1.heap.size) 0 (by first | (simp; done) | (simp; omega) | omega) |>.trans (by go_simp)
    have t1 : w2.cell? ⟨w1.heap.size, 1, none⟩ = some (.int .i64 (gh (mn (a0 * a1) (b0 * a1)) (mx (a0 * a1) (b0 * a1)))) := (bcell hb2).1 (w1.heap.size) 1 (by first | (simp; done) | (simp; omega) | omega) |>.trans (by go_simp)
    have hz2 := hb2.size
    try simp only [World.size_alloc] at hz2
    have hl2 : w1.heap.size < w2.heap.size := (by omega)
    go_wp2_with fail
    refine (eqSpan_same _ _ _).mono ?_
    rintro e w' ⟨rfl, rfl⟩
    go_wp2
    go_ret
    exact ⟨rfl, (by repeat (first | exact Below.refl _ _ | refine balloc ?_ _ | refine bdrew ?_ | refine bdrewN ?_ _ | refine bset ?_ (by first | (simp; done) | (simp; omega)) _ | (refine bseq ?_ (by assumption))))⟩
  · have H : Hid (¬ SV a0 b0 ∨ a1 < -1000 ∨ 1000 < a1) := Lib.hid (by by_cases hv : SV a0 b0; exact .inr (by have : ¬ (-1000 ≤ a1 ∧ a1 ≤ 1000) := fun k => h ⟨hv, k⟩; omega); exact .inl hv)
    clear h
    go_enter Try.func6, Try.ntmps6
    go_wp2_with fail
    refine (toSpan_any _ _ _).mono ?_
    rintro e w' ⟨rfl, rfl⟩
    go_wp2_with fail
    refine (sSpanTimes_no _ _ _ _ H.out).mono ?_
    rintro e w1 ⟨rfl, hb1⟩
    have hz1 := hb1.size
    try simp only [World.size_alloc] at hz1
    have hl1 : w.heap.size < w1.heap.size := (by omega)
    have r0 : w1.cell? ⟨w.heap.size, 0, none⟩ = some (.int .i64 (a0)) := (bcell hb1).1 (w.heap.size) 0 (by first | (simp; done) | (simp; omega) | omega) |>.trans (by go_simp)
    have r1 : w1.cell? ⟨w.heap.size, 1, none⟩ = some (.int .i64 (b0)) := (bcell hb1).1 (w.heap.size) 1 (by first | (simp; done) | (simp; omega) | omega) |>.trans (by go_simp)
    go_wp2_with fail
    refine (toSpan_any _ _ _).mono ?_
    rintro e w' ⟨rfl, rfl⟩
    go_wp2_with fail
    refine (SpanTimes_no _ _ _ _ H.out).mono ?_
    rintro e w2 ⟨rfl, hb2⟩
    have t0 : w2.cell? ⟨w1.heap.size, 0, none⟩ = some (.int .i64 (0)) := (bcell hb2).1 (w1.heap.size) 0 (by first | (simp; done) | (simp; omega) | omega) |>.trans (by go_simp)
    have t1 : w2.cell? ⟨w1.heap.size, 1, none⟩ = some (.int .i64 (0)) := (bcell hb2).1 (w1.heap.size) 1 (by first | (simp; done) | (simp; omega) | omega) |>.trans (by go_simp)
    have hz2 := hb2.size
    try simp only [World.size_alloc] at hz2
    have hl2 : w1.heap.size < w2.heap.size := (by omega)
    go_wp2_with fail
    refine (eqSpan_same _ _ _).mono ?_
    rintro e w' ⟨rfl, rfl⟩
    go_wp2
    go_ret
    exact ⟨rfl, (by repeat (first | exact Below.refl _ _ | refine balloc ?_ _ | refine bdrew ?_ | refine bdrewN ?_ _ | refine bset ?_ (by first | (simp; done) | (simp; omega)) _ | (refine bseq ?_ (by assumption))))⟩

set_option maxHeartbeats 1000000 in
theorem FnExactFractionSpan_walk (a0 a1 : Int) (w : World) (_wa0 : (Lit.int .i64 a0).wf = true) (_wa1 : (Lit.int .i64 a1).wf = true) : Calls Try.prog 7 #[.int .i64 a0, .int .i64 a1] w fun e w' => e = .returned (.bool true) ∧ Below w.heap.size w w' := by
  by_cases h : (-1073741824 ≤ a0 ∧ a0 ≤ 1073741824) ∧ 1 ≤ a1 ∧ a1 ≤ 1073741824
  · obtain ⟨⟨n1, n2⟩, d1, d2⟩ := h
    go_enter Try.func7, Try.ntmps7
    go_wp2_with fail
    refine (sFractionSpan_in _ _ _ n1 n2 d1 d2).mono ?_
    rintro e w1 ⟨rfl, hb1⟩
    have hz1 := hb1.size
    try simp only [World.size_alloc] at hz1
    go_wp2_with fail
    refine (FractionSpan_in _ _ _ n1 n2 d1 d2).mono ?_
    rintro e w2 ⟨rfl, hb2⟩
    have t0 : w2.cell? ⟨w1.heap.size, 0, none⟩ = some (.int .i64 (gl (a0 * 268435456 / a1) (cdiv (a0 * 268435456) a1))) := (bcell hb2).1 (w1.heap.size) 0 (by first | (simp; done) | (simp; omega) | omega) |>.trans (by go_simp)
    have t1 : w2.cell? ⟨w1.heap.size, 1, none⟩ = some (.int .i64 (gh (a0 * 268435456 / a1) (cdiv (a0 * 268435456) a1))) := (bcell hb2).1 (w1.heap.size) 1 (by first | (simp; done) | (simp; omega) | omega) |>.trans (by go_simp)
    have hz2 := hb2.size
    try simp only [World.size_alloc] at hz2
    have hl2 : w1.heap.size < w2.heap.size := (by omega)
    go_wp2_with fail
    refine (eqSpan_same _ _ _).mono ?_
    rintro e w' ⟨rfl, rfl⟩
    go_wp2
    go_ret
    exact ⟨rfl, (by repeat (first | exact Below.refl _ _ | refine balloc ?_ _ | refine bdrew ?_ | refine bdrewN ?_ _ | refine bset ?_ (by first | (simp; done) | (simp; omega)) _ | (refine bseq ?_ (by assumption))))⟩
  · have H : Hid ((a0 < -1073741824 ∨ 1073741824 < a0) ∨ a1 < 1 ∨ 1073741824 < a1) := Lib.hid (by omega)
    clear h
    go_enter Try.func7, Try.ntmps7
    go_wp2_with fail
    refine (sFractionSpan_no _ _ _ H.out).mono ?_
    rintro e w1 ⟨rfl, hb1⟩
    have hz1 := hb1.size
    try simp only [World.size_alloc] at hz1
    go_wp2_with fail
    refine (FractionSpan_no _ _ _ H.out).mono ?_
    rintro e w2 ⟨rfl, hb2⟩
    have t0 : w2.cell? ⟨w1.heap.size, 0, none⟩ = some (.int .i64 (0)) := (bcell hb2).1 (w1.heap.size) 0 (by first | (simp; done) | (simp; omega) | omega) |>.trans (by go_simp)
    have t1 : w2.cell? ⟨w1.heap.size, 1, none⟩ = some (.int .i64 (0)) := (bcell hb2).1 (w1.heap.size) 1 (by first | (simp; done) | (simp; omega) | omega) |>.trans (by go_simp)
    have hz2 := hb2.size
    try simp only [World.size_alloc] at hz2
    have hl2 : w1.heap.size < w2.heap.size := (by omega)
    go_wp2_with fail
    refine (eqSpan_same _ _ _).mono ?_
    rintro e w' ⟨rfl, rfl⟩
    go_wp2
    go_ret
    exact ⟨rfl, (by repeat (first | exact Below.refl _ _ | refine balloc ?_ _ | refine bdrew ?_ | refine bdrewN ?_ _ | refine bset ?_ (by first | (simp; done) | (simp; omega)) _ | (refine bseq ?_ (by assumption))))⟩

set_option maxHeartbeats 1000000 in
theorem FnExactSpanAdd_walk (a0 b0 a1 b1 : Int) (w : World) (_wa0 : (Lit.int .i64 a0).wf = true) (_wb0 : (Lit.int .i64 b0).wf = true) (_wa1 : (Lit.int .i64 a1).wf = true) (_wb1 : (Lit.int .i64 b1).wf = true) : Calls Try.prog 4 #[.agg #[.int .i64 a0, .int .i64 b0], .agg #[.int .i64 a1, .int .i64 b1]] w fun e w' => e = .returned (.bool true) ∧ Below w.heap.size w w' := by
  by_cases h : SV a0 b0 ∧ SV a1 b1
  · have H := Lib.hid h
    clear h
    go_enter Try.func4, Try.ntmps4
    go_upto_region 1 with fail
    go_cut [5, 6] (fun s5 s6 wx => ∃ g : Nat, s5 = .pointer (some ⟨g, 0, none⟩) ∧ s6 = .bool (gb (a0 + a1) (b0 + b1)) ∧ w.heap.size + 1 < g ∧ g < wx.heap.size ∧ wx.cell? ⟨g, 0, none⟩ = some (.int .i64 (gl (a0 + a1) (b0 + b1))) ∧ wx.cell? ⟨g, 1, none⟩ = some (.int .i64 (gh (a0 + a1) (b0 + b1))) ∧ Below w.heap.size w wx ∧ wx.cell? ⟨w.heap.size, 0, none⟩ = some (.int .i64 a0) ∧ wx.cell? ⟨w.heap.size, 1, none⟩ = some (.int .i64 b0) ∧ wx.cell? ⟨w.heap.size + 1, 0, none⟩ = some (.int .i64 a1) ∧ wx.cell? ⟨w.heap.size + 1, 1, none⟩ = some (.int .i64 b1))
    case first =>
      go_region_held3 (fun w' => w'.cell? ⟨w.heap.size, 0, none⟩ = some (.int .i64 a0) ∧ w'.cell? ⟨w.heap.size, 1, none⟩ = some (.int .i64 b0) ∧ w'.cell? ⟨w.heap.size + 1, 0, none⟩ = some (.int .i64 a1) ∧ w'.cell? ⟨w.heap.size + 1, 1, none⟩ = some (.int .i64 b1)) ((refine ⟨?_, ?_, ?_, ?_⟩ <;> (go_simp; done)))
        (first | (go_at_call 15; refine (toSpan_any _ _ _).mono ?_; rintro e w' ⟨rfl, rfl⟩) | (go_at_call 18; refine (sSpanAdd_in _ _ _ _ _ H.out.1 H.out.2).mono ?_; rintro e w1 ⟨rfl, hb1⟩; obtain ⟨hc1, hf1⟩ := bcell hb1; have hz1 := hb1.size; simp only [World.size_alloc, World.size_drew] at hz1; have hl1 : w.heap.size < w1.heap.size := (by omega); have hl1b : w.heap.size + 1 < w1.heap.size := (by omega)))
      all_goals (go_wp2_with fail; go_meet; exact ⟨_, rfl, rfl, (by first | (simp; done) | (simp; omega) | omega), (by first | (simp; done) | (simp; omega) | omega), by go_simp, by go_simp, (by repeat (first | exact Below.refl _ _ | refine balloc ?_ _ | refine bdrew ?_ | refine bdrewN ?_ _ | refine bset ?_ (by first | (simp; done) | (simp; omega)) _ | (refine bseq ?_ (by assumption)))), by assumption⟩)
    case rest =>
      obtain ⟨g, rfl, rfl, hg1, hg2, x0, x1, hB, r0, r1, r2, r3⟩ := hcut
      have hz0 := hB.size
      have hl0 : w.heap.size < wc.heap.size := by omega
      have hl0b : w.heap.size + 1 < wc.heap.size := by omega
      have KEEP : Hid (∀ W : World, Below wc.heap.size wc W → W.cell? ⟨g, 0, none⟩ = some (.int .i64 (gl (a0 + a1) (b0 + b1))) ∧ W.cell? ⟨g, 1, none⟩ = some (.int .i64 (gh (a0 + a1) (b0 + b1))) ∧ W.cell? ⟨w.heap.size, 0, none⟩ = some (.int .i64 a0) ∧ W.cell? ⟨w.heap.size, 1, none⟩ = some (.int .i64 b0) ∧ W.cell? ⟨w.heap.size + 1, 0, none⟩ = some (.int .i64 a1) ∧ W.cell? ⟨w.heap.size + 1, 1, none⟩ = some (.int .i64 b1)) := Lib.hid (fun W hb => ⟨(hb.cell (p := ⟨g, 0, none⟩) hg2).trans x0, (hb.cell (p := ⟨g, 1, none⟩) hg2).trans x1, (hb.cell (p := ⟨w.heap.size, 0, none⟩) hl0).trans r0, (hb.cell (p := ⟨w.heap.size, 1, none⟩) hl0).trans r1, (hb.cell (p := ⟨w.heap.size + 1, 0, none⟩) hl0b).trans r2, (hb.cell (p := ⟨w.heap.size + 1, 1, none⟩) hl0b).trans r3⟩)
      go_upto_region 2 with fail
      go_cut [7, 8] (fun s7 s8 wx => ∃ k : Nat, s7 = .pointer (some ⟨k, 0, none⟩) ∧ s8 = .bool (gb (a0 + a1) (b0 + b1)) ∧ wx.cell? ⟨k, 0, none⟩ = some (.int .i64 (gl (a0 + a1) (b0 + b1))) ∧ wx.cell? ⟨k, 1, none⟩ = some (.int .i64 (gh (a0 + a1) (b0 + b1))) ∧ wx.cell? ⟨g, 0, none⟩ = some (.int .i64 (gl (a0 + a1) (b0 + b1))) ∧ wx.cell? ⟨g, 1, none⟩ = some (.int .i64 (gh (a0 + a1) (b0 + b1))) ∧ Below w.heap.size w wx)
      case first =>
        go_region_held3 (fun w' => w'.cell? ⟨g, 0, none⟩ = some (.int .i64 (gl (a0 + a1) (b0 + b1))) ∧ w'.cell? ⟨g, 1, none⟩ = some (.int .i64 (gh (a0 + a1) (b0 + b1))) ∧ w'.cell? ⟨w.heap.size, 0, none⟩ = some (.int .i64 a0) ∧ w'.cell? ⟨w.heap.size, 1, none⟩ = some (.int .i64 b0) ∧ w'.cell? ⟨w.heap.size + 1, 0, none⟩ = some (.int .i64 a1) ∧ w'.cell? ⟨w.heap.size + 1, 1, none⟩ = some (.int .i64 b1)) (exact KEEP.out _ (by repeat (first | exact Below.refl _ _ | refine balloc ?_ _ | refine bdrew ?_ | refine bdrewN ?_ _ | refine bset ?_ (by first | (simp; done) | (simp; omega)) _ | (refine bseq ?_ (by assumption)))))
          (first | (go_at_call 15; refine (toSpan_any _ _ _).mono ?_; rintro e w' ⟨rfl, rfl⟩) | (go_at_call 19; refine (SpanAdd_in _ _ _ _ _ H.out.1 H.out.2).mono ?_; rintro e w2 ⟨rfl, hb2⟩; obtain ⟨hc2, hf2⟩ := bcell hb2; have hz2 := hb2.size; simp only [World.size_alloc, World.size_drew] at hz2; have hl2 : w.heap.size < w2.heap.size := (by omega); have hl2b : w.heap.size + 1 < w2.heap.size := (by omega); have hl2c : g < w2.heap.size := (by omega)))
        all_goals
          rename_i hS
          obtain ⟨y0, y1, _⟩ := hS
          go_wp2_with fail
          go_meet
          refine ⟨_, rfl, rfl, ?_, ?_, y0, y1, (by repeat (first | exact Below.refl _ _ | refine balloc ?_ _ | refine bdrew ?_ | refine bdrewN ?_ _ | refine bset ?_ (by first | (simp; done) | (simp; omega)) _ | (refine bseq ?_ (by assumption))))⟩
          all_goals first | (go_simp; done) | (have q0 : w2.cell? ⟨wc.heap.size, 0, none⟩ = some (.int .i64 0) := (hc2 wc.heap.size 0 (by first | (simp; done) | (simp; omega) | omega)).trans (by go_simp); have q1 : w2.cell? ⟨wc.heap.size, 1, none⟩ = some (.int .i64 0) := (hc2 wc.heap.size 1 (by first | (simp; done) | (simp; omega) | omega)).trans (by go_simp); go_simp)
      case rest =>
        obtain ⟨k, rfl, rfl, t0, t1, t2, t3, hB2⟩ := hcut
        clear x0 x1 r0 r1 r2 r3
        go_wp2_with fail
        refine (eqSpan_same _ _ _).mono ?_
        rintro e w' ⟨rfl, rfl⟩
        go_wp2
        go_ret
        exact ⟨rfl, balloc (balloc hB2 _) _⟩
  · have H : Hid (¬ SV a0 b0 ∨ ¬ SV a1 b1) := Lib.hid (by by_cases hv : SV a0 b0; exact .inr (fun k => h ⟨hv, k⟩); exact .inl hv)
    clear h
    go_enter Try.func4, Try.ntmps4
    go_upto_region 1 with fail
    go_cut [5, 6] (fun s5 s6 wx => ∃ g : Nat, s5 = .pointer (some ⟨g, 0, none⟩) ∧ s6 = .bool (false) ∧ w.heap.size + 1 < g ∧ g < wx.heap.size ∧ wx.cell? ⟨g, 0, none⟩ = some (.int .i64 (0)) ∧ wx.cell? ⟨g, 1, none⟩ = some (.int .i64 (0)) ∧ Below w.heap.size w wx ∧ wx.cell? ⟨w.heap.size, 0, none⟩ = some (.int .i64 a0) ∧ wx.cell? ⟨w.heap.size, 1, none⟩ = some (.int .i64 b0) ∧ wx.cell? ⟨w.heap.size + 1, 0, none⟩ = some (.int .i64 a1) ∧ wx.cell? ⟨w.heap.size + 1, 1, none⟩ = some (.int .i64 b1))
    case first =>
      go_region_held3 (fun w' => w'.cell? ⟨w.heap.size, 0, none⟩ = some (.int .i64 a0) ∧ w'.cell? ⟨w.heap.size, 1, none⟩ = some (.int .i64 b0) ∧ w'.cell? ⟨w.heap.size + 1, 0, none⟩ = some (.int .i64 a1) ∧ w'.cell? ⟨w.heap.size + 1, 1, none⟩ = some (.int .i64 b1)) ((refine ⟨?_, ?_, ?_, ?_⟩ <;> (go_simp; done)))
        (first | (go_at_call 15; refine (toSpan_any _ _ _).mono ?_; rintro e w' ⟨rfl, rfl⟩) | (go_at_call 18; refine (sSpanAdd_no _ _ _ _ _ H.out).mono ?_; rintro e w1 ⟨rfl, hb1⟩; obtain ⟨hc1, hf1⟩ := bcell hb1; have hz1 := hb1.size; simp only [World.size_alloc, World.size_drew] at hz1; have hl1 : w.heap.size < w1.heap.size := (by omega); have hl1b : w.heap.size + 1 < w1.heap.size := (by omega)))
      all_goals (go_wp2_with fail; go_meet; exact ⟨_, rfl, rfl, (by first | (simp; done) | (simp; omega) | omega), (by first | (simp; done) | (simp; omega) | omega), by go_simp, by go_simp, (by repeat (first | exact Below.refl _ _ | refine balloc ?_ _ | refine bdrew ?_ | refine bdrewN ?_ _ | refine bset ?_ (by first | (simp; done) | (simp; omega)) _ | (refine bseq ?_ (by assumption)))), by assumption⟩)
    case rest =>
      obtain ⟨g, rfl, rfl, hg1, hg2, x0, x1, hB, r0, r1, r2, r3⟩ := hcut
      have hz0 := hB.size
      have hl0 : w.heap.size < wc.heap.size := by omega
      have hl0b : w.heap.size + 1 < wc.heap.size := by omega
      have KEEP : Hid (∀ W : World, Below wc.heap.size wc W → W.cell? ⟨g, 0, none⟩ = some (.int .i64 (0)) ∧ W.cell? ⟨g, 1, none⟩ = some (.int .i64 (0)) ∧ W.cell? ⟨w.heap.size, 0, none⟩ = some (.int .i64 a0) ∧ W.cell? ⟨w.heap.size, 1, none⟩ = some (.int .i64 b0) ∧ W.cell? ⟨w.heap.size + 1, 0, none⟩ = some (.int .i64 a1) ∧ W.cell? ⟨w.heap.size + 1, 1, none⟩ = some (.int .i64 b1)) := Lib.hid (fun W hb => ⟨(hb.cell (p := ⟨g, 0, none⟩) hg2).trans x0, (hb.cell (p := ⟨g, 1, none⟩) hg2).trans x1, (hb.cell (p := ⟨w.heap.size, 0, none⟩) hl0).trans r0, (hb.cell (p := ⟨w.heap.size, 1, none⟩) hl0).trans r1, (hb.cell (p := ⟨w.heap.size + 1, 0, none⟩) hl0b).trans r2, (hb.cell (p := ⟨w.heap.size + 1, 1, none⟩) hl0b).trans r3⟩)
      go_upto_region 2 with fail
      go_cut [7, 8] (fun s7 s8 wx => ∃ k : Nat, s7 = .pointer (some ⟨k, 0, none⟩) ∧ s8 = .bool (false) ∧ wx.cell? ⟨k, 0, none⟩ = some (.int .i64 (0)) ∧ wx.cell? ⟨k, 1, none⟩ = some (.int .i64 (0)) ∧ wx.cell? ⟨g, 0, none⟩ = some (.int .i64 (0)) ∧ wx.cell? ⟨g, 1, none⟩ = some (.int .i64 (0)) ∧ Below w.heap.size w wx)
      case first =>
        go_region_held3 (fun w' => w'.cell? ⟨g, 0, none⟩ = some (.int .i64 (0)) ∧ w'.cell? ⟨g, 1, none⟩ = some (.int .i64 (0)) ∧ w'.cell? ⟨w.heap.size, 0, none⟩ = some (.int .i64 a0) ∧ w'.cell? ⟨w.heap.size, 1, none⟩ = some (.int .i64 b0) ∧ w'.cell? ⟨w.heap.size + 1, 0, none⟩ = some (.int .i64 a1) ∧ w'.cell? ⟨w.heap.size + 1, 1, none⟩ = some (.int .i64 b1)) (exact KEEP.out _ (by repeat (first | exact Below.refl _ _ | refine balloc ?_ _ | refine bdrew ?_ | refine bdrewN ?_ _ | refine bset ?_ (by first | (simp; done) | (simp; omega)) _ | (refine bseq ?_ (by assumption)))))
          (first | (go_at_call 15; refine (toSpan_any _ _ _).mono ?_; rintro e w' ⟨rfl, rfl⟩) | (go_at_call 19; refine (SpanAdd_no _ _ _ _ _ H.out).mono ?_; rintro e w2 ⟨rfl, hb2⟩; obtain ⟨hc2, hf2⟩ := bcell hb2; have hz2 := hb2.size; simp only [World.size_alloc, World.size_drew] at hz2; have hl2 : w.heap.size < w2.heap.size := (by omega); have hl2b : w.heap.size + 1 < w2.heap.size := (by omega); have hl2c : g < w2.heap.size := (by omega)))
        all_goals
          rename_i hS
          obtain ⟨y0, y1, _⟩ := hS
          go_wp2_with fail
          go_meet
          refine ⟨_, rfl, rfl, ?_, ?_, y0, y1, (by repeat (first | exact Below.refl _ _ | refine balloc ?_ _ | refine bdrew ?_ | refine bdrewN ?_ _ | refine bset ?_ (by first | (simp; done) | (simp; omega)) _ | (refine bseq ?_ (by assumption))))⟩
          all_goals first | (go_simp; done) | (have q0 : w2.cell? ⟨wc.heap.size, 0, none⟩ = some (.int .i64 0) := (hc2 wc.heap.size 0 (by first | (simp; done) | (simp; omega) | omega)).trans (by go_simp); have q1 : w2.cell? ⟨wc.heap.size, 1, none⟩ = some (.int .i64 0) := (hc2 wc.heap.size 1 (by first | (simp; done) | (simp; omega) | omega)).trans (by go_simp); go_simp)
      case rest =>
        obtain ⟨k, rfl, rfl, t0, t1, t2, t3, hB2⟩ := hcut
        clear x0 x1 r0 r1 r2 r3
        go_wp2_with fail
        refine (eqSpan_same _ _ _).mono ?_
        rintro e w' ⟨rfl, rfl⟩
        go_wp2
        go_ret
        exact ⟨rfl, balloc (balloc hB2 _) _⟩

set_option maxHeartbeats 1000000 in
theorem FnExactSpanMeet_walk (a0 b0 a1 b1 : Int) (w : World) (_wa0 : (Lit.int .i64 a0).wf = true) (_wb0 : (Lit.int .i64 b0).wf = true) (_wa1 : (Lit.int .i64 a1).wf = true) (_wb1 : (Lit.int .i64 b1).wf = true) : Calls Try.prog 5 #[.agg #[.int .i64 a0, .int .i64 b0], .agg #[.int .i64 a1, .int .i64 b1]] w fun e w' => e = .returned (.bool true) ∧ Below w.heap.size w w' := by
  by_cases h : SV a0 b0 ∧ SV a1 b1
  · have H := Lib.hid h
    clear h
    go_enter Try.func5, Try.ntmps5
    go_upto_region 1 with fail
    go_cut [5, 6] (fun s5 s6 wx => ∃ g : Nat, s5 = .pointer (some ⟨g, 0, none⟩) ∧ s6 = .bool (gb (mx a0 a1) (mn b0 b1)) ∧ w.heap.size + 1 < g ∧ g < wx.heap.size ∧ wx.cell? ⟨g, 0, none⟩ = some (.int .i64 (gl (mx a0 a1) (mn b0 b1))) ∧ wx.cell? ⟨g, 1, none⟩ = some (.int .i64 (gh (mx a0 a1) (mn b0 b1))) ∧ Below w.heap.size w wx ∧ wx.cell? ⟨w.heap.size, 0, none⟩ = some (.int .i64 a0) ∧ wx.cell? ⟨w.heap.size, 1, none⟩ = some (.int .i64 b0) ∧ wx.cell? ⟨w.heap.size + 1, 0, none⟩ = some (.int .i64 a1) ∧ wx.cell? ⟨w.heap.size + 1, 1, none⟩ = some (.int .i64 b1))
    case first =>
      go_region_held3 (fun w' => w'.cell? ⟨w.heap.size, 0, none⟩ = some (.int .i64 a0) ∧ w'.cell? ⟨w.heap.size, 1, none⟩ = some (.int .i64 b0) ∧ w'.cell? ⟨w.heap.size + 1, 0, none⟩ = some (.int .i64 a1) ∧ w'.cell? ⟨w.heap.size + 1, 1, none⟩ = some (.int .i64 b1)) ((refine ⟨?_, ?_, ?_, ?_⟩ <;> (go_simp; done)))
        (first | (go_at_call 15; refine (toSpan_any _ _ _).mono ?_; rintro e w' ⟨rfl, rfl⟩) | (go_at_call 20; refine (sSpanMeet_in _ _ _ _ _ H.out.1 H.out.2).mono ?_; rintro e w1 ⟨rfl, hb1⟩; obtain ⟨hc1, hf1⟩ := bcell hb1; have hz1 := hb1.size; simp only [World.size_alloc, World.size_drew] at hz1; have hl1 : w.heap.size < w1.heap.size := (by omega); have hl1b : w.heap.size + 1 < w1.heap.size := (by omega)))
      all_goals (go_wp2_with fail; go_meet; exact ⟨_, rfl, rfl, (by first | (simp; done) | (simp; omega) | omega), (by first | (simp; done) | (simp; omega) | omega), by go_simp, by go_simp, (by repeat (first | exact Below.refl _ _ | refine balloc ?_ _ | refine bdrew ?_ | refine bdrewN ?_ _ | refine bset ?_ (by first | (simp; done) | (simp; omega)) _ | (refine bseq ?_ (by assumption)))), by assumption⟩)
    case rest =>
      obtain ⟨g, rfl, rfl, hg1, hg2, x0, x1, hB, r0, r1, r2, r3⟩ := hcut
      have hz0 := hB.size
      have hl0 : w.heap.size < wc.heap.size := by omega
      have hl0b : w.heap.size + 1 < wc.heap.size := by omega
      have KEEP : Hid (∀ W : World, Below wc.heap.size wc W → W.cell? ⟨g, 0, none⟩ = some (.int .i64 (gl (mx a0 a1) (mn b0 b1))) ∧ W.cell? ⟨g, 1, none⟩ = some (.int .i64 (gh (mx a0 a1) (mn b0 b1))) ∧ W.cell? ⟨w.heap.size, 0, none⟩ = some (.int .i64 a0) ∧ W.cell? ⟨w.heap.size, 1, none⟩ = some (.int .i64 b0) ∧ W.cell? ⟨w.heap.size + 1, 0, none⟩ = some (.int .i64 a1) ∧ W.cell? ⟨w.heap.size + 1, 1, none⟩ = some (.int .i64 b1)) := Lib.hid (fun W hb => ⟨(hb.cell (p := ⟨g, 0, none⟩) hg2).trans x0, (hb.cell (p := ⟨g, 1, none⟩) hg2).trans x1, (hb.cell (p := ⟨w.heap.size, 0, none⟩) hl0).trans r0, (hb.cell (p := ⟨w.heap.size, 1, none⟩) hl0).trans r1, (hb.cell (p := ⟨w.heap.size + 1, 0, none⟩) hl0b).trans r2, (hb.cell (p := ⟨w.heap.size + 1, 1, none⟩) hl0b).trans r3⟩)
      go_upto_region 2 with fail
      go_cut [7, 8] (fun s7 s8 wx => ∃ k : Nat, s7 = .pointer (some ⟨k, 0, none⟩) ∧ s8 = .bool (gb (mx a0 a1) (mn b0 b1)) ∧ wx.cell? ⟨k, 0, none⟩ = some (.int .i64 (gl (mx a0 a1) (mn b0 b1))) ∧ wx.cell? ⟨k, 1, none⟩ = some (.int .i64 (gh (mx a0 a1) (mn b0 b1))) ∧ wx.cell? ⟨g, 0, none⟩ = some (.int .i64 (gl (mx a0 a1) (mn b0 b1))) ∧ wx.cell? ⟨g, 1, none⟩ = some (.int .i64 (gh (mx a0 a1) (mn b0 b1))) ∧ Below w.heap.size w wx)
      case first =>
        go_region_held3 (fun w' => w'.cell? ⟨g, 0, none⟩ = some (.int .i64 (gl (mx a0 a1) (mn b0 b1))) ∧ w'.cell? ⟨g, 1, none⟩ = some (.int .i64 (gh (mx a0 a1) (mn b0 b1))) ∧ w'.cell? ⟨w.heap.size, 0, none⟩ = some (.int .i64 a0) ∧ w'.cell? ⟨w.heap.size, 1, none⟩ = some (.int .i64 b0) ∧ w'.cell? ⟨w.heap.size + 1, 0, none⟩ = some (.int .i64 a1) ∧ w'.cell? ⟨w.heap.size + 1, 1, none⟩ = some (.int .i64 b1)) (exact KEEP.out _ (by repeat (first | exact Below.refl _ _ | refine balloc ?_ _ | refine bdrew ?_ | refine bdrewN ?_ _ | refine bset ?_ (by first | (simp; done) | (simp; omega)) _ | (refine bseq ?_ (by assumption)))))
          (first | (go_at_call 15; refine (toSpan_any _ _ _).mono ?_; rintro e w' ⟨rfl, rfl⟩) | (go_at_call 21; refine (SpanMeet_in _ _ _ _ _ H.out.1 H.out.2).mono ?_; rintro e w2 ⟨rfl, hb2⟩; obtain ⟨hc2, hf2⟩ := bcell hb2; have hz2 := hb2.size; simp only [World.size_alloc, World.size_drew] at hz2; have hl2 : w.heap.size < w2.heap.size := (by omega); have hl2b : w.heap.size + 1 < w2.heap.size := (by omega); have hl2c : g < w2.heap.size := (by omega)))
        all_goals
          rename_i hS
          obtain ⟨y0, y1, _⟩ := hS
          go_wp2_with fail
          go_meet
          refine ⟨_, rfl, rfl, ?_, ?_, y0, y1, (by repeat (first | exact Below.refl _ _ | refine balloc ?_ _ | refine bdrew ?_ | refine bdrewN ?_ _ | refine bset ?_ (by first | (simp; done) | (simp; omega)) _ | (refine bseq ?_ (by assumption))))⟩
          all_goals first | (go_simp; done) | (have q0 : w2.cell? ⟨wc.heap.size, 0, none⟩ = some (.int .i64 0) := (hc2 wc.heap.size 0 (by first | (simp; done) | (simp; omega) | omega)).trans (by go_simp); have q1 : w2.cell? ⟨wc.heap.size, 1, none⟩ = some (.int .i64 0) := (hc2 wc.heap.size 1 (by first | (simp; done) | (simp; omega) | omega)).trans (by go_simp); go_simp)
      case rest =>
        obtain ⟨k, rfl, rfl, t0, t1, t2, t3, hB2⟩ := hcut
        clear x0 x1 r0 r1 r2 r3
        go_wp2_with fail
        refine (eqSpan_same _ _ _).mono ?_
        rintro e w' ⟨rfl, rfl⟩
        go_wp2
        go_ret
        exact ⟨rfl, balloc (balloc hB2 _) _⟩
  · have H : Hid (¬ SV a0 b0 ∨ ¬ SV a1 b1) := Lib.hid (by by_cases hv : SV a0 b0; exact .inr (fun k => h ⟨hv, k⟩); exact .inl hv)
    clear h
    go_enter Try.func5, Try.ntmps5
    go_upto_region 1 with fail
    go_cut [5, 6] (fun s5 s6 wx => ∃ g : Nat, s5 = .pointer (some ⟨g, 0, none⟩) ∧ s6 = .bool (false) ∧ w.heap.size + 1 < g ∧ g < wx.heap.size ∧ wx.cell? ⟨g, 0, none⟩ = some (.int .i64 (0)) ∧ wx.cell? ⟨g, 1, none⟩ = some (.int .i64 (0)) ∧ Below w.heap.size w wx ∧ wx.cell? ⟨w.heap.size, 0, none⟩ = some (.int .i64 a0) ∧ wx.cell? ⟨w.heap.size, 1, none⟩ = some (.int .i64 b0) ∧ wx.cell? ⟨w.heap.size + 1, 0, none⟩ = some (.int .i64 a1) ∧ wx.cell? ⟨w.heap.size + 1, 1, none⟩ = some (.int .i64 b1))
    case first =>
      go_region_held3 (fun w' => w'.cell? ⟨w.heap.size, 0, none⟩ = some (.int .i64 a0) ∧ w'.cell? ⟨w.heap.size, 1, none⟩ = some (.int .i64 b0) ∧ w'.cell? ⟨w.heap.size + 1, 0, none⟩ = some (.int .i64 a1) ∧ w'.cell? ⟨w.heap.size + 1, 1, none⟩ = some (.int .i64 b1)) ((refine ⟨?_, ?_, ?_, ?_⟩ <;> (go_simp; done)))
        (first | (go_at_call 15; refine (toSpan_any _ _ _).mono ?_; rintro e w' ⟨rfl, rfl⟩) | (go_at_call 20; refine (sSpanMeet_no _ _ _ _ _ H.out).mono ?_; rintro e w1 ⟨rfl, hb1⟩; obtain ⟨hc1, hf1⟩ := bcell hb1; have hz1 := hb1.size; simp only [World.size_alloc, World.size_drew] at hz1; have hl1 : w.heap.size < w1.heap.size := (by omega); have hl1b : w.heap.size + 1 < w1.heap.size := (by omega)))
      all_goals (go_wp2_with fail; go_meet; exact ⟨_, rfl, rfl, (by first | (simp; done) | (simp; omega) | omega), (by first | (simp; done) | (simp; omega) | omega), by go_simp, by go_simp, (by repeat (first | exact Below.refl _ _ | refine balloc ?_ _ | refine bdrew ?_ | refine bdrewN ?_ _ | refine bset ?_ (by first | (simp; done) | (simp; omega)) _ | (refine bseq ?_ (by assumption)))), by assumption⟩)
    case rest =>
      obtain ⟨g, rfl, rfl, hg1, hg2, x0, x1, hB, r0, r1, r2, r3⟩ := hcut
      have hz0 := hB.size
      have hl0 : w.heap.size < wc.heap.size := by omega
      have hl0b : w.heap.size + 1 < wc.heap.size := by omega
      have KEEP : Hid (∀ W : World, Below wc.heap.size wc W → W.cell? ⟨g, 0, none⟩ = some (.int .i64 (0)) ∧ W.cell? ⟨g, 1, none⟩ = some (.int .i64 (0)) ∧ W.cell? ⟨w.heap.size, 0, none⟩ = some (.int .i64 a0) ∧ W.cell? ⟨w.heap.size, 1, none⟩ = some (.int .i64 b0) ∧ W.cell? ⟨w.heap.size + 1, 0, none⟩ = some (.int .i64 a1) ∧ W.cell? ⟨w.heap.size + 1, 1, none⟩ = some (.int .i64 b1)) := Lib.hid (fun W hb => ⟨(hb.cell (p := ⟨g, 0, none⟩) hg2).trans x0, (hb.cell (p := ⟨g, 1, none⟩) hg2).trans x1, (hb.cell (p := ⟨w.heap.size, 0, none⟩) hl0).trans r0, (hb.cell (p := ⟨w.heap.size, 1, none⟩) hl0).trans r1, (hb.cell (p := ⟨w.heap.size + 1, 0, none⟩) hl0b).trans r2, (hb.cell (p := ⟨w.heap.size + 1, 1, none⟩) hl0b).trans r3⟩)
      go_upto_region 2 with fail
      go_cut [7, 8] (fun s7 s8 wx => ∃ k : Nat, s7 = .pointer (some ⟨k, 0, none⟩) ∧ s8 = .bool (false) ∧ wx.cell? ⟨k, 0, none⟩ = some (.int .i64 (0)) ∧ wx.cell? ⟨k, 1, none⟩ = some (.int .i64 (0)) ∧ wx.cell? ⟨g, 0, none⟩ = some (.int .i64 (0)) ∧ wx.cell? ⟨g, 1, none⟩ = some (.int .i64 (0)) ∧ Below w.heap.size w wx)
      case first =>
        go_region_held3 (fun w' => w'.cell? ⟨g, 0, none⟩ = some (.int .i64 (0)) ∧ w'.cell? ⟨g, 1, none⟩ = some (.int .i64 (0)) ∧ w'.cell? ⟨w.heap.size, 0, none⟩ = some (.int .i64 a0) ∧ w'.cell? ⟨w.heap.size, 1, none⟩ = some (.int .i64 b0) ∧ w'.cell? ⟨w.heap.size + 1, 0, none⟩ = some (.int .i64 a1) ∧ w'.cell? ⟨w.heap.size + 1, 1, none⟩ = some (.int .i64 b1)) (exact KEEP.out _ (by repeat (first | exact Below.refl _ _ | refine balloc ?_ _ | refine bdrew ?_ | refine bdrewN ?_ _ | refine bset ?_ (by first | (simp; done) | (simp; omega)) _ | (refine bseq ?_ (by assumption)))))
          (first | (go_at_call 15; refine (toSpan_any _ _ _).mono ?_; rintro e w' ⟨rfl, rfl⟩) | (go_at_call 21; refine (SpanMeet_no _ _ _ _ _ H.out).mono ?_; rintro e w2 ⟨rfl, hb2⟩; obtain ⟨hc2, hf2⟩ := bcell hb2; have hz2 := hb2.size; simp only [World.size_alloc, World.size_drew] at hz2; have hl2 : w.heap.size < w2.heap.size := (by omega); have hl2b : w.heap.size + 1 < w2.heap.size := (by omega); have hl2c : g < w2.heap.size := (by omega)))
        all_goals
          rename_i hS
          obtain ⟨y0, y1, _⟩ := hS
          go_wp2_with fail
          go_meet
          refine ⟨_, rfl, rfl, ?_, ?_, y0, y1, (by repeat (first | exact Below.refl _ _ | refine balloc ?_ _ | refine bdrew ?_ | refine bdrewN ?_ _ | refine bset ?_ (by first | (simp; done) | (simp; omega)) _ | (refine bseq ?_ (by assumption))))⟩
          all_goals first | (go_simp; done) | (have q0 : w2.cell? ⟨wc.heap.size, 0, none⟩ = some (.int .i64 0) := (hc2 wc.heap.size 0 (by first | (simp; done) | (simp; omega) | omega)).trans (by go_simp); have q1 : w2.cell? ⟨wc.heap.size, 1, none⟩ = some (.int .i64 0) := (hc2 wc.heap.size 1 (by first | (simp; done) | (simp; omega) | omega)).trans (by go_simp); go_simp)
      case rest =>
        obtain ⟨k, rfl, rfl, t0, t1, t2, t3, hB2⟩ := hcut
        clear x0 x1 r0 r1 r2 r3
        go_wp2_with fail
        refine (eqSpan_same _ _ _).mono ?_
        rintro e w' ⟨rfl, rfl⟩
        go_wp2
        go_ret
        exact ⟨rfl, balloc (balloc hB2 _) _⟩

set_option maxHeartbeats 1000000 in
theorem FnExactSpanDiv_walk (a0 b0 a1 b1 : Int) (w : World) (_wa0 : (Lit.int .i64 a0).wf = true) (_wb0 : (Lit.int .i64 b0).wf = true) (_wa1 : (Lit.int .i64 a1).wf = true) (_wb1 : (Lit.int .i64 b1).wf = true) : Calls Try.prog 8 #[.agg #[.int .i64 a0, .int .i64 b0], .agg #[.int .i64 a1, .int .i64 b1]] w fun e w' => e = .returned (.bool true) ∧ Below w.heap.size w w' := by
  by_cases h : SV a0 b0 ∧ SV a1 b1 ∧ 0 ≤ a0 ∧ 1 ≤ a1
  · have H := Lib.hid h
    clear h
    go_enter Try.func8, Try.ntmps8
    go_upto_region 1 with fail
    go_cut [5, 6] (fun s5 s6 wx => ∃ g : Nat, s5 = .pointer (some ⟨g, 0, none⟩) ∧ s6 = .bool (gb (a0 * 268435456 / b1) (cdiv (b0 * 268435456) a1)) ∧ w.heap.size + 1 < g ∧ g < wx.heap.size ∧ wx.cell? ⟨g, 0, none⟩ = some (.int .i64 (gl (a0 * 268435456 / b1) (cdiv (b0 * 268435456) a1))) ∧ wx.cell? ⟨g, 1, none⟩ = some (.int .i64 (gh (a0 * 268435456 / b1) (cdiv (b0 * 268435456) a1))) ∧ Below w.heap.size w wx ∧ wx.cell? ⟨w.heap.size, 0, none⟩ = some (.int .i64 a0) ∧ wx.cell? ⟨w.heap.size, 1, none⟩ = some (.int .i64 b0) ∧ wx.cell? ⟨w.heap.size + 1, 0, none⟩ = some (.int .i64 a1) ∧ wx.cell? ⟨w.heap.size + 1, 1, none⟩ = some (.int .i64 b1))
    case first =>
      go_region_held3 (fun w' => w'.cell? ⟨w.heap.size, 0, none⟩ = some (.int .i64 a0) ∧ w'.cell? ⟨w.heap.size, 1, none⟩ = some (.int .i64 b0) ∧ w'.cell? ⟨w.heap.size + 1, 0, none⟩ = some (.int .i64 a1) ∧ w'.cell? ⟨w.heap.size + 1, 1, none⟩ = some (.int .i64 b1)) ((refine ⟨?_, ?_, ?_, ?_⟩ <;> (go_simp; done)))
        (first | (go_at_call 15; refine (toSpan_any _ _ _).mono ?_; rintro e w' ⟨rfl, rfl⟩) | (go_at_call 26; refine (sSpanDiv_in _ _ _ _ _ H.out.1 H.out.2.1 H.out.2.2.1 H.out.2.2.2).mono ?_; rintro e w1 ⟨rfl, hb1⟩; obtain ⟨hc1, hf1⟩ := bcell hb1; have hz1 := hb1.size; simp only [World.size_alloc, World.size_drew] at hz1; have hl1 : w.heap.size < w1.heap.size := (by omega); have hl1b : w.heap.size + 1 < w1.heap.size := (by omega)))
      all_goals (go_wp2_with fail; go_meet; exact ⟨_, rfl, rfl, (by first | (simp; done) | (simp; omega) | omega), (by first | (simp; done) | (simp; omega) | omega), by go_simp, by go_simp, (by repeat (first | exact Below.refl _ _ | refine balloc ?_ _ | refine bdrew ?_ | refine bdrewN ?_ _ | refine bset ?_ (by first | (simp; done) | (simp; omega)) _ | (refine bseq ?_ (by assumption)))), by assumption⟩)
    case rest =>
      obtain ⟨g, rfl, rfl, hg1, hg2, x0, x1, hB, r0, r1, r2, r3⟩ := hcut
      have hz0 := hB.size
      have hl0 : w.heap.size < wc.heap.size := by omega
      have hl0b : w.heap.size + 1 < wc.heap.size := by omega
      have KEEP : Hid (∀ W : World, Below wc.heap.size wc W → W.cell? ⟨g, 0, none⟩ = some (.int .i64 (gl (a0 * 268435456 / b1) (cdiv (b0 * 268435456) a1))) ∧ W.cell? ⟨g, 1, none⟩ = some (.int .i64 (gh (a0 * 268435456 / b1) (cdiv (b0 * 268435456) a1))) ∧ W.cell? ⟨w.heap.size, 0, none⟩ = some (.int .i64 a0) ∧ W.cell? ⟨w.heap.size, 1, none⟩ = some (.int .i64 b0) ∧ W.cell? ⟨w.heap.size + 1, 0, none⟩ = some (.int .i64 a1) ∧ W.cell? ⟨w.heap.size + 1, 1, none⟩ = some (.int .i64 b1)) := Lib.hid (fun W hb => ⟨(hb.cell (p := ⟨g, 0, none⟩) hg2).trans x0, (hb.cell (p := ⟨g, 1, none⟩) hg2).trans x1, (hb.cell (p := ⟨w.heap.size, 0, none⟩) hl0).trans r0, (hb.cell (p := ⟨w.heap.size, 1, none⟩) hl0).trans r1, (hb.cell (p := ⟨w.heap.size + 1, 0, none⟩) hl0b).trans r2, (hb.cell (p := ⟨w.heap.size + 1, 1, none⟩) hl0b).trans r3⟩)
      go_upto_region 2 with fail
      go_cut [7, 8] (fun s7 s8 wx => ∃ k : Nat, s7 = .pointer (some ⟨k, 0, none⟩) ∧ s8 = .bool (gb (a0 * 268435456 / b1) (cdiv (b0 * 268435456) a1)) ∧ wx.cell? ⟨k, 0, none⟩ = some (.int .i64 (gl (a0 * 268435456 / b1) (cdiv (b0 * 268435456) a1))) ∧ wx.cell? ⟨k, 1, none⟩ = some (.int .i64 (gh (a0 * 268435456 / b1) (cdiv (b0 * 268435456) a1))) ∧ wx.cell? ⟨g, 0, none⟩ = some (.int .i64 (gl (a0 * 268435456 / b1) (cdiv (b0 * 268435456) a1))) ∧ wx.cell? ⟨g, 1, none⟩ = some (.int .i64 (gh (a0 * 268435456 / b1) (cdiv (b0 * 268435456) a1))) ∧ Below w.heap.size w wx)
      case first =>
        go_region_held3 (fun w' => w'.cell? ⟨g, 0, none⟩ = some (.int .i64 (gl (a0 * 268435456 / b1) (cdiv (b0 * 268435456) a1))) ∧ w'.cell? ⟨g, 1, none⟩ = some (.int .i64 (gh (a0 * 268435456 / b1) (cdiv (b0 * 268435456) a1))) ∧ w'.cell? ⟨w.heap.size, 0, none⟩ = some (.int .i64 a0) ∧ w'.cell? ⟨w.heap.size, 1, none⟩ = some (.int .i64 b0) ∧ w'.cell? ⟨w.heap.size + 1, 0, none⟩ = some (.int .i64 a1) ∧ w'.cell? ⟨w.heap.size + 1, 1, none⟩ = some (.int .i64 b1)) (exact KEEP.out _ (by repeat (first | exact Below.refl _ _ | refine balloc ?_ _ | refine bdrew ?_ | refine bdrewN ?_ _ | refine bset ?_ (by first | (simp; done) | (simp; omega)) _ | (refine bseq ?_ (by assumption)))))
          (first | (go_at_call 15; refine (toSpan_any _ _ _).mono ?_; rintro e w' ⟨rfl, rfl⟩) | (go_at_call 27; refine (SpanDiv_in _ _ _ _ _ H.out.1 H.out.2.1 H.out.2.2.1 H.out.2.2.2).mono ?_; rintro e w2 ⟨rfl, hb2⟩; obtain ⟨hc2, hf2⟩ := bcell hb2; have hz2 := hb2.size; simp only [World.size_alloc, World.size_drew] at hz2; have hl2 : w.heap.size < w2.heap.size := (by omega); have hl2b : w.heap.size + 1 < w2.heap.size := (by omega); have hl2c : g < w2.heap.size := (by omega)))
        all_goals
          rename_i hS
          obtain ⟨y0, y1, _⟩ := hS
          go_wp2_with fail
          go_meet
          refine ⟨_, rfl, rfl, ?_, ?_, y0, y1, (by repeat (first | exact Below.refl _ _ | refine balloc ?_ _ | refine bdrew ?_ | refine bdrewN ?_ _ | refine bset ?_ (by first | (simp; done) | (simp; omega)) _ | (refine bseq ?_ (by assumption))))⟩
          all_goals first | (go_simp; done) | (have q0 : w2.cell? ⟨wc.heap.size, 0, none⟩ = some (.int .i64 0) := (hc2 wc.heap.size 0 (by first | (simp; done) | (simp; omega) | omega)).trans (by go_simp); have q1 : w2.cell? ⟨wc.heap.size, 1, none⟩ = some (.int .i64 0) := (hc2 wc.heap.size 1 (by first | (simp; done) | (simp; omega) | omega)).trans (by go_simp); go_simp)
      case rest =>
        obtain ⟨k, rfl, rfl, t0, t1, t2, t3, hB2⟩ := hcut
        clear x0 x1 r0 r1 r2 r3
        go_wp2_with fail
        refine (eqSpan_same _ _ _).mono ?_
        rintro e w' ⟨rfl, rfl⟩
        go_wp2
        go_ret
        exact ⟨rfl, balloc (balloc hB2 _) _⟩
  · have H : Hid (¬ SV a0 b0 ∨ ¬ SV a1 b1 ∨ a0 < 0 ∨ a1 < 1) := Lib.hid (by by_cases hv : SV a0 b0; (by_cases hu : SV a1 b1; exact .inr (.inr (by have : ¬ (0 ≤ a0 ∧ 1 ≤ a1) := fun k => h ⟨hv, hu, k⟩; omega)); exact .inr (.inl hu)); exact .inl hv)
    clear h
    go_enter Try.func8, Try.ntmps8
    go_upto_region 1 with fail
    go_cut [5, 6] (fun s5 s6 wx => ∃ g : Nat, s5 = .pointer (some ⟨g, 0, none⟩) ∧ s6 = .bool (false) ∧ w.heap.size + 1 < g ∧ g < wx.heap.size ∧ wx.cell? ⟨g, 0, none⟩ = some (.int .i64 (0)) ∧ wx.cell? ⟨g, 1, none⟩ = some (.int .i64 (0)) ∧ Below w.heap.size w wx ∧ wx.cell? ⟨w.heap.size, 0, none⟩ = some (.int .i64 a0) ∧ wx.cell? ⟨w.heap.size, 1, none⟩ = some (.int .i64 b0) ∧ wx.cell? ⟨w.heap.size + 1, 0, none⟩ = some (.int .i64 a1) ∧ wx.cell? ⟨w.heap.size + 1, 1, none⟩ = some (.int .i64 b1))
    case first =>
      go_region_held3 (fun w' => w'.cell? ⟨w.heap.size, 0, none⟩ = some (.int .i64 a0) ∧ w'.cell? ⟨w.heap.size, 1, none⟩ = some (.int .i64 b0) ∧ w'.cell? ⟨w.heap.size + 1, 0, none⟩ = some (.int .i64 a1) ∧ w'.cell? ⟨w.heap.size + 1, 1, none⟩ = some (.int .i64 b1)) ((refine ⟨?_, ?_, ?_, ?_⟩ <;> (go_simp; done)))
        (first | (go_at_call 15; refine (toSpan_any _ _ _).mono ?_; rintro e w' ⟨rfl, rfl⟩) | (go_at_call 26; refine (sSpanDiv_no _ _ _ _ _ H.out).mono ?_; rintro e w1 ⟨rfl, hb1⟩; obtain ⟨hc1, hf1⟩ := bcell hb1; have hz1 := hb1.size; simp only [World.size_alloc, World.size_drew] at hz1; have hl1 : w.heap.size < w1.heap.size := (by omega); have hl1b : w.heap.size + 1 < w1.heap.size := (by omega)))
      all_goals (go_wp2_with fail; go_meet; exact ⟨_, rfl, rfl, (by first | (simp; done) | (simp; omega) | omega), (by first | (simp; done) | (simp; omega) | omega), by go_simp, by go_simp, (by repeat (first | exact Below.refl _ _ | refine balloc ?_ _ | refine bdrew ?_ | refine bdrewN ?_ _ | refine bset ?_ (by first | (simp; done) | (simp; omega)) _ | (refine bseq ?_ (by assumption)))), by assumption⟩)
    case rest =>
      obtain ⟨g, rfl, rfl, hg1, hg2, x0, x1, hB, r0, r1, r2, r3⟩ := hcut
      have hz0 := hB.size
      have hl0 : w.heap.size < wc.heap.size := by omega
      have hl0b : w.heap.size + 1 < wc.heap.size := by omega
      have KEEP : Hid (∀ W : World, Below wc.heap.size wc W → W.cell? ⟨g, 0, none⟩ = some (.int .i64 (0)) ∧ W.cell? ⟨g, 1, none⟩ = some (.int .i64 (0)) ∧ W.cell? ⟨w.heap.size, 0, none⟩ = some (.int .i64 a0) ∧ W.cell? ⟨w.heap.size, 1, none⟩ = some (.int .i64 b0) ∧ W.cell? ⟨w.heap.size + 1, 0, none⟩ = some (.int .i64 a1) ∧ W.cell? ⟨w.heap.size + 1, 1, none⟩ = some (.int .i64 b1)) := Lib.hid (fun W hb => ⟨(hb.cell (p := ⟨g, 0, none⟩) hg2).trans x0, (hb.cell (p := ⟨g, 1, none⟩) hg2).trans x1, (hb.cell (p := ⟨w.heap.size, 0, none⟩) hl0).trans r0, (hb.cell (p := ⟨w.heap.size, 1, none⟩) hl0).trans r1, (hb.cell (p := ⟨w.heap.size + 1, 0, none⟩) hl0b).trans r2, (hb.cell (p := ⟨w.heap.size + 1, 1, none⟩) hl0b).trans r3⟩)
      go_upto_region 2 with fail
      go_cut [7, 8] (fun s7 s8 wx => ∃ k : Nat, s7 = .pointer (some ⟨k, 0, none⟩) ∧ s8 = .bool (false) ∧ wx.cell? ⟨k, 0, none⟩ = some (.int .i64 (0)) ∧ wx.cell? ⟨k, 1, none⟩ = some (.int .i64 (0)) ∧ wx.cell? ⟨g, 0, none⟩ = some (.int .i64 (0)) ∧ wx.cell? ⟨g, 1, none⟩ = some (.int .i64 (0)) ∧ Below w.heap.size w wx)
      case first =>
        go_region_held3 (fun w' => w'.cell? ⟨g, 0, none⟩ = some (.int .i64 (0)) ∧ w'.cell? ⟨g, 1, none⟩ = some (.int .i64 (0)) ∧ w'.cell? ⟨w.heap.size, 0, none⟩ = some (.int .i64 a0) ∧ w'.cell? ⟨w.heap.size, 1, none⟩ = some (.int .i64 b0) ∧ w'.cell? ⟨w.heap.size + 1, 0, none⟩ = some (.int .i64 a1) ∧ w'.cell? ⟨w.heap.size + 1, 1, none⟩ = some (.int .i64 b1)) (exact KEEP.out _ (by repeat (first | exact Below.refl _ _ | refine balloc ?_ _ | refine bdrew ?_ | refine bdrewN ?_ _ | refine bset ?_ (by first | (simp; done) | (simp; omega)) _ | (refine bseq ?_ (by assumption)))))
          (first | (go_at_call 15; refine (toSpan_any _ _ _).mono ?_; rintro e w' ⟨rfl, rfl⟩) | (go_at_call 27; refine (SpanDiv_no _ _ _ _ _ H.out).mono ?_; rintro e w2 ⟨rfl, hb2⟩; obtain ⟨hc2, hf2⟩ := bcell hb2; have hz2 := hb2.size; simp only [World.size_alloc, World.size_drew] at hz2; have hl2 : w.heap.size < w2.heap.size := (by omega); have hl2b : w.heap.size + 1 < w2.heap.size := (by omega); have hl2c : g < w2.heap.size := (by omega)))
        all_goals
          rename_i hS
          obtain ⟨y0, y1, _⟩ := hS
          go_wp2_with fail
          go_meet
          refine ⟨_, rfl, rfl, ?_, ?_, y0, y1, (by repeat (first | exact Below.refl _ _ | refine balloc ?_ _ | refine bdrew ?_ | refine bdrewN ?_ _ | refine bset ?_ (by first | (simp; done) | (simp; omega)) _ | (refine bseq ?_ (by assumption))))⟩
          all_goals first | (go_simp; done) | (have q0 : w2.cell? ⟨wc.heap.size, 0, none⟩ = some (.int .i64 0) := (hc2 wc.heap.size 0 (by first | (simp; done) | (simp; omega) | omega)).trans (by go_simp); have q1 : w2.cell? ⟨wc.heap.size, 1, none⟩ = some (.int .i64 0) := (hc2 wc.heap.size 1 (by first | (simp; done) | (simp; omega) | omega)).trans (by go_simp); go_simp)
      case rest =>
        obtain ⟨k, rfl, rfl, t0, t1, t2, t3, hB2⟩ := hcut
        clear x0 x1 r0 r1 r2 r3
        go_wp2_with fail
        refine (eqSpan_same _ _ _).mono ?_
        rintro e w' ⟨rfl, rfl⟩
        go_wp2
        go_ret
        exact ⟨rfl, balloc (balloc hB2 _) _⟩

end Go.Proofs.Ytjlldfkkkfcohaa.K
