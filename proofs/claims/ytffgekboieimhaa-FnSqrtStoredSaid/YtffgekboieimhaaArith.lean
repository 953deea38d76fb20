/- Contracts of sums and differences of stored numbers. -/
import Derived.Test.YtffgekboieimhaaCut
namespace Go.Proofs.Ytffgekboieimhaa.K
open Go.RowKit

theorem addFn (x y : Int) (w : World) (h1 : -1152921504606846976 ≤ x ∧ x ≤ 1152921504606846976) (h2 : -1152921504606846976 ≤ y ∧ y ≤ 1152921504606846976) : Calls Try.prog 41 #[.int .i64 x, .int .i64 y] w fun e w' => e = .returned (.int .i64 (x + y)) ∧ w = w' := by
  obtain ⟨a1, a2⟩ := h1
  obtain ⟨b1, b2⟩ := h2
  go_enter Try.func41, Try.ntmps41
  go_wp2
  go_ret
  exact ⟨rfl, rfl⟩
theorem joinAdd_in (a b x y : Int) (w : World) (h1 : 1 ≤ a) (h2 : a ≤ 12) (h3 : 0 ≤ b) (h4 : b ≤ 16) (x1 : -2 ^ (a + b).toNat ≤ x) (x2 : x ≤ 2 ^ (a + b).toNat - 1) (y1 : -2 ^ (a + b).toNat ≤ y) (y2 : y ≤ 2 ^ (a + b).toNat - 1) : Calls Try.prog 40 #[.agg #[.int .i64 a, .int .i64 b, .int .i64 x], .int .i64 y, .func (.func 41) #[] #[]] w fun e w' => e = .returned (.tuple #[.int .i64 (cutV (2 ^ (a + b).toNat) (x + y)), .bool (cutB (2 ^ (a + b).toNat) (x + y))]) ∧ Below w.heap.size w w' := by
  have p1 := pow_pos' (a + b).toNat
  have p2 := pow_60 (k := a + b) (by omega)
  have hx := StoredFits_yes a b x
  have hy := StoredFits_yes a b y
  go_enter Try.func40, Try.ntmps40
  go_wp2_with fail
  refine (StoredFits_yes _ _ _ _ h1 h2 h3 h4 x1 x2).mono ?_
  rintro e w1 ⟨rfl, hb1⟩
  obtain ⟨hc1, hf1⟩ := bcell hb1
  have hz1 := hb1.size
  simp only [World.size_alloc] at hz1
  go_wp2_with fail
  refine (StoredFits_yes _ _ _ _ h1 h2 h3 h4 y1 y2).mono ?_
  rintro e w2 ⟨rfl, hb2⟩
  obtain ⟨hc2, hf2⟩ := bcell hb2
  have hz2 := hb2.size
  have c0 : w2.cell? ⟨w.heap.size, 0, none⟩ = some (.int .i64 a) := by rw [hc2 _ _ (by omega), hc1 _ _ (by simp)]; simp
  have c1 : w2.cell? ⟨w.heap.size, 1, none⟩ = some (.int .i64 b) := by rw [hc2 _ _ (by omega), hc1 _ _ (by simp)]; simp
  have c2 : w2.cell? ⟨w.heap.size, 2, none⟩ = some (.int .i64 x) := by rw [hc2 _ _ (by omega), hc1 _ _ (by simp)]; simp
  clear hc1 hc2 hf1 hf2 hx hy
  go_wp2_with fail
  go_region_held3 (fun w' => w'.cell? ⟨w.heap.size, 0, none⟩ = some (.int .i64 a) ∧ w'.cell? ⟨w.heap.size, 1, none⟩ = some (.int .i64 b) ∧ w'.cell? ⟨w.heap.size, 2, none⟩ = some (.int .i64 x)) (first | exact ⟨c0, c1, c2⟩ | (have hk := bcell hb3; exact ⟨(hk.1 _ _ (by simp; omega)).trans c0, (hk.1 _ _ (by simp; omega)).trans c1, (hk.1 _ _ (by simp; omega)).trans c2⟩))
    (first | (go_at_call 41; refine (addFn _ _ _ (by omega) (by omega)).mono ?_; rintro e w' ⟨rfl, rfl⟩) | (go_at_call 16; refine (CutStored_in _ _ _ _ h1 h2 h3 h4).mono ?_; rintro e w3 ⟨rfl, hb3⟩))
  all_goals
    go_wp2
    go_ret2
    exact ⟨rfl, (by repeat (first | exact Below.refl _ _ | refine balloc ?_ _ | refine bdrew ?_ | refine bdrewN ?_ _ | refine bset ?_ (by first | (simp; done) | (simp; omega)) _ | (refine bseq ?_ (by assumption)) | (refine bgrow ?_ (by assumption) (by omega))))⟩

theorem subFn (x y : Int) (w : World) (h1 : -1152921504606846976 ≤ x ∧ x ≤ 1152921504606846976) (h2 : -1152921504606846976 ≤ y ∧ y ≤ 1152921504606846976) : Calls Try.prog 42 #[.int .i64 x, .int .i64 y] w fun e w' => e = .returned (.int .i64 (x - y)) ∧ w = w' := by
  obtain ⟨a1, a2⟩ := h1
  obtain ⟨b1, b2⟩ := h2
  go_enter Try.func42, Try.ntmps42
  go_wp2
  go_ret
  exact ⟨rfl, rfl⟩
theorem joinSub_in (a b x y : Int) (w : World) (h1 : 1 ≤ a) (h2 : a ≤ 12) (h3 : 0 ≤ b) (h4 : b ≤ 16) (x1 : -2 ^ (a + b).toNat ≤ x) (x2 : x ≤ 2 ^ (a + b).toNat - 1) (y1 : -2 ^ (a + b).toNat ≤ y) (y2 : y ≤ 2 ^ (a + b).toNat - 1) : Calls Try.prog 40 #[.agg #[.int .i64 a, .int .i64 b, .int .i64 x], .int .i64 y, .func (.func 42) #[] #[]] w fun e w' => e = .returned (.tuple #[.int .i64 (cutV (2 ^ (a + b).toNat) (x - y)), .bool (cutB (2 ^ (a + b).toNat) (x - y))]) ∧ Below w.heap.size w w' := by
  have p1 := pow_pos' (a + b).toNat
  have p2 := pow_60 (k := a + b) (by omega)
  have hx := StoredFits_yes a b x
  have hy := StoredFits_yes a b y
  go_enter Try.func40, Try.ntmps40
  go_wp2_with fail
  refine (StoredFits_yes _ _ _ _ h1 h2 h3 h4 x1 x2).mono ?_
  rintro e w1 ⟨rfl, hb1⟩
  obtain ⟨hc1, hf1⟩ := bcell hb1
  have hz1 := hb1.size
  simp only [World.size_alloc] at hz1
  go_wp2_with fail
  refine (StoredFits_yes _ _ _ _ h1 h2 h3 h4 y1 y2).mono ?_
  rintro e w2 ⟨rfl, hb2⟩
  obtain ⟨hc2, hf2⟩ := bcell hb2
  have hz2 := hb2.size
  have c0 : w2.cell? ⟨w.heap.size, 0, none⟩ = some (.int .i64 a) := by rw [hc2 _ _ (by omega), hc1 _ _ (by simp)]; simp
  have c1 : w2.cell? ⟨w.heap.size, 1, none⟩ = some (.int .i64 b) := by rw [hc2 _ _ (by omega), hc1 _ _ (by simp)]; simp
  have c2 : w2.cell? ⟨w.heap.size, 2, none⟩ = some (.int .i64 x) := by rw [hc2 _ _ (by omega), hc1 _ _ (by simp)]; simp
  clear hc1 hc2 hf1 hf2 hx hy
  go_wp2_with fail
  go_region_held3 (fun w' => w'.cell? ⟨w.heap.size, 0, none⟩ = some (.int .i64 a) ∧ w'.cell? ⟨w.heap.size, 1, none⟩ = some (.int .i64 b) ∧ w'.cell? ⟨w.heap.size, 2, none⟩ = some (.int .i64 x)) (first | exact ⟨c0, c1, c2⟩ | (have hk := bcell hb3; exact ⟨(hk.1 _ _ (by simp; omega)).trans c0, (hk.1 _ _ (by simp; omega)).trans c1, (hk.1 _ _ (by simp; omega)).trans c2⟩))
    (first | (go_at_call 42; refine (subFn _ _ _ (by omega) (by omega)).mono ?_; rintro e w' ⟨rfl, rfl⟩) | (go_at_call 16; refine (CutStored_in _ _ _ _ h1 h2 h3 h4).mono ?_; rintro e w3 ⟨rfl, hb3⟩))
  all_goals
    go_wp2
    go_ret2
    exact ⟨rfl, (by repeat (first | exact Below.refl _ _ | refine balloc ?_ _ | refine bdrew ?_ | refine bdrewN ?_ _ | refine bset ?_ (by first | (simp; done) | (simp; omega)) _ | (refine bseq ?_ (by assumption)) | (refine bgrow ?_ (by assumption) (by omega))))⟩

theorem join_no (c : FuncId) (a b x y : Int) (w : World) (h : ¬ Fit a b x ∨ ¬ Fit a b y) : Calls Try.prog 40 #[.agg #[.int .i64 a, .int .i64 b, .int .i64 x], .int .i64 y, .func (.func c) #[] #[]] w fun e w' => e = .returned (.tuple #[.int .i64 0, .bool false]) ∧ Below w.heap.size w w' := by
  have H := Lib.hid h
  clear h
  by_cases hx : Fit a b x
  · have HX := Lib.hid hx
    have HY : Hid (¬ Fit a b y) := Lib.hid (H.out.resolve_left (fun h => h hx))
    clear hx H
    go_enter Try.func40, Try.ntmps40
    go_wp2_with fail
    refine (StoredFits_fit _ _ _ _ HX.out).mono ?_
    rintro e w1 ⟨rfl, hb1⟩
    obtain ⟨hc1, hf1⟩ := bcell hb1
    have hz1 := hb1.size
    simp only [World.size_alloc] at hz1
    go_wp2_with fail
    refine (StoredFits_nofit _ _ _ _ HY.out).mono ?_
    rintro e w2 ⟨rfl, hb2⟩
    go_wp2
    go_ret2
    exact ⟨rfl, (by repeat (first | exact Below.refl _ _ | refine balloc ?_ _ | refine bdrew ?_ | refine bdrewN ?_ _ | refine bset ?_ (by first | (simp; done) | (simp; omega)) _ | (refine bseq ?_ (by assumption)) | (refine bgrow ?_ (by assumption) (by omega))))⟩
  · have HX := Lib.hid hx
    clear hx H
    go_enter Try.func40, Try.ntmps40
    go_wp2_with fail
    refine (StoredFits_nofit _ _ _ _ HX.out).mono ?_
    rintro e w1 ⟨rfl, hb1⟩
    go_wp2
    go_ret2
    exact ⟨rfl, (by repeat (first | exact Below.refl _ _ | refine balloc ?_ _ | refine bdrew ?_ | refine bdrewN ?_ _ | refine bset ?_ (by first | (simp; done) | (simp; omega)) _ | (refine bseq ?_ (by assumption)) | (refine bgrow ?_ (by assumption) (by omega))))⟩

theorem l6Both_yes (a b x y : Int) (w : World) (hx : Fit a b x) (hy : Fit a b y) : Calls Try.prog 39 #[.agg #[.int .i64 a, .int .i64 b], .int .i64 x, .int .i64 y] w fun e w' => e = .returned (.bool true) ∧ Below w.heap.size w w' := by
  have HX := Lib.hid hx
  have HY := Lib.hid hy
  clear hx hy
  go_enter Try.func39, Try.ntmps39
  go_wp2_with fail
  refine (sStoredFits_fit _ _ _ _ HX.out).mono ?_
  rintro e w1 ⟨rfl, hb1⟩
  obtain ⟨hc1, hf1⟩ := bcell hb1
  have hz1 := hb1.size
  simp only [World.size_alloc] at hz1
  go_wp2_with fail
  refine (sStoredFits_fit _ _ _ _ HY.out).mono ?_
  rintro e w2 ⟨rfl, hb2⟩
  go_wp2
  go_ret
  exact ⟨rfl, (by repeat (first | exact Below.refl _ _ | refine balloc ?_ _ | refine bdrew ?_ | refine bdrewN ?_ _ | refine bset ?_ (by first | (simp; done) | (simp; omega)) _ | (refine bseq ?_ (by assumption)) | (refine bgrow ?_ (by assumption) (by omega))))⟩
theorem l6Both_no (a b x y : Int) (w : World) (h : ¬ Fit a b x ∨ ¬ Fit a b y) : Calls Try.prog 39 #[.agg #[.int .i64 a, .int .i64 b], .int .i64 x, .int .i64 y] w fun e w' => e = .returned (.bool false) ∧ Below w.heap.size w w' := by
  have H := Lib.hid h
  clear h
  by_cases hx : Fit a b x
  · have HX := Lib.hid hx
    have HY : Hid (¬ Fit a b y) := Lib.hid (H.out.resolve_left (fun h => h hx))
    clear hx H
    go_enter Try.func39, Try.ntmps39
    go_wp2_with fail
    refine (sStoredFits_fit _ _ _ _ HX.out).mono ?_
    rintro e w1 ⟨rfl, hb1⟩
    obtain ⟨hc1, hf1⟩ := bcell hb1
    have hz1 := hb1.size
    simp only [World.size_alloc] at hz1
    go_wp2_with fail
    refine (sStoredFits_nofit _ _ _ _ HY.out).mono ?_
    rintro e w2 ⟨rfl, hb2⟩
    go_wp2
    go_ret
    exact ⟨rfl, (by repeat (first | exact Below.refl _ _ | refine balloc ?_ _ | refine bdrew ?_ | refine bdrewN ?_ _ | refine bset ?_ (by first | (simp; done) | (simp; omega)) _ | (refine bseq ?_ (by assumption)) | (refine bgrow ?_ (by assumption) (by omega))))⟩
  · have HX := Lib.hid hx
    clear hx H
    go_enter Try.func39, Try.ntmps39
    go_wp2_with fail
    refine (sStoredFits_nofit _ _ _ _ HX.out).mono ?_
    rintro e w1 ⟨rfl, hb1⟩
    go_wp2
    go_ret
    exact ⟨rfl, (by repeat (first | exact Below.refl _ _ | refine balloc ?_ _ | refine bdrew ?_ | refine bdrewN ?_ _ | refine bset ?_ (by first | (simp; done) | (simp; omega)) _ | (refine bseq ?_ (by assumption)) | (refine bgrow ?_ (by assumption) (by omega))))⟩

theorem AddStored_in (a b x y : Int) (w : World) (hx : Fit a b x) (hy : Fit a b y) : Calls Try.prog 18 #[.agg #[.int .i64 a, .int .i64 b], .int .i64 x, .int .i64 y] w fun e w' => e = .returned (.tuple #[.int .i64 (cutV (2 ^ (a + b).toNat) (x + y)), .bool (cutB (2 ^ (a + b).toNat) (x + y))]) ∧ Below w.heap.size w w' := by
  obtain ⟨⟨h1, h2, h3, h4⟩, x1, x2⟩ := hx
  obtain ⟨_, y1, y2⟩ := hy
  go_enter Try.func18, Try.ntmps18
  go_wp2_with (first | (go_at_call 40; refine (joinAdd_in _ _ _ _ _ h1 h2 h3 h4 x1 x2 y1 y2).mono ?_; rintro e w1 ⟨rfl, hb1⟩))
  go_ret2
  exact ⟨rfl, (by repeat (first | exact Below.refl _ _ | refine balloc ?_ _ | refine bdrew ?_ | refine bdrewN ?_ _ | refine bset ?_ (by first | (simp; done) | (simp; omega)) _ | (refine bseq ?_ (by assumption)) | (refine bgrow ?_ (by assumption) (by omega))))⟩
theorem AddStored_no (a b x y : Int) (w : World) (h : ¬ Fit a b x ∨ ¬ Fit a b y) : Calls Try.prog 18 #[.agg #[.int .i64 a, .int .i64 b], .int .i64 x, .int .i64 y] w fun e w' => e = .returned (.tuple #[.int .i64 0, .bool false]) ∧ Below w.heap.size w w' := by
  have H := Lib.hid h
  clear h
  go_enter Try.func18, Try.ntmps18
  go_wp2_with (first | (go_at_call 40; refine (join_no _ _ _ _ _ _ H.out).mono ?_; rintro e w1 ⟨rfl, hb1⟩))
  go_ret2
  exact ⟨rfl, (by repeat (first | exact Below.refl _ _ | refine balloc ?_ _ | refine bdrew ?_ | refine bdrewN ?_ _ | refine bset ?_ (by first | (simp; done) | (simp; omega)) _ | (refine bseq ?_ (by assumption)) | (refine bgrow ?_ (by assumption) (by omega))))⟩

theorem sAddStored_in (a b x y : Int) (w : World) (hx : Fit a b x) (hy : Fit a b y) : Calls Try.prog 17 #[.agg #[.int .i64 a, .int .i64 b], .int .i64 x, .int .i64 y] w fun e w' => e = .returned (.tuple #[.int .i64 (cutV (2 ^ (a + b).toNat) (x + y)), .bool (cutB (2 ^ (a + b).toNat) (x + y))]) ∧ Below w.heap.size w w' := by
  obtain ⟨h1, h2, h3, h4⟩ := hx.valid
  obtain ⟨x1, x2⟩ := hx.bnd
  obtain ⟨y1, y2⟩ := hy.bnd
  have HX := Lib.hid hx
  have HY := Lib.hid hy
  clear hx hy
  go_enter Try.func17, Try.ntmps17
  go_wp2_with fail
  refine (l6Both_yes _ _ _ _ _ HX.out HY.out).mono ?_
  rintro e w1 ⟨rfl, hb1⟩
  obtain ⟨hc1, hf1⟩ := bcell hb1
  have hz1 := hb1.size
  simp only [World.size_alloc] at hz1
  go_wp2_with fail
  refine (l4Cut_in _ _ _ _ h1 h2 h3 h4).mono ?_
  rintro e w2 ⟨rfl, hb2⟩
  go_wp2
  go_ret2
  exact ⟨rfl, (by repeat (first | exact Below.refl _ _ | refine balloc ?_ _ | refine bdrew ?_ | refine bdrewN ?_ _ | refine bset ?_ (by first | (simp; done) | (simp; omega)) _ | (refine bseq ?_ (by assumption)) | (refine bgrow ?_ (by assumption) (by omega))))⟩
theorem sAddStored_no (a b x y : Int) (w : World) (h : ¬ Fit a b x ∨ ¬ Fit a b y) : Calls Try.prog 17 #[.agg #[.int .i64 a, .int .i64 b], .int .i64 x, .int .i64 y] w fun e w' => e = .returned (.tuple #[.int .i64 0, .bool false]) ∧ Below w.heap.size w w' := by
  have H := Lib.hid h
  clear h
  go_enter Try.func17, Try.ntmps17
  go_wp2_with (first | (go_at_call 39; refine (l6Both_no _ _ _ _ _ H.out).mono ?_; rintro e w1 ⟨rfl, hb1⟩))
  go_ret2
  exact ⟨rfl, (by repeat (first | exact Below.refl _ _ | refine balloc ?_ _ | refine bdrew ?_ | refine bdrewN ?_ _ | refine bset ?_ (by first | (simp; done) | (simp; omega)) _ | (refine bseq ?_ (by assumption)) | (refine bgrow ?_ (by assumption) (by omega))))⟩

theorem SubStored_in (a b x y : Int) (w : World) (hx : Fit a b x) (hy : Fit a b y) : Calls Try.prog 20 #[.agg #[.int .i64 a, .int .i64 b], .int .i64 x, .int .i64 y] w fun e w' => e = .returned (.tuple #[.int .i64 (cutV (2 ^ (a + b).toNat) (x - y)), .bool (cutB (2 ^ (a + b).toNat) (x - y))]) ∧ Below w.heap.size w w' := by
  obtain ⟨⟨h1, h2, h3, h4⟩, x1, x2⟩ := hx
  obtain ⟨_, y1, y2⟩ := hy
  go_enter Try.func20, Try.ntmps20
  go_wp2_with (first | (go_at_call 40; refine (joinSub_in _ _ _ _ _ h1 h2 h3 h4 x1 x2 y1 y2).mono ?_; rintro e w1 ⟨rfl, hb1⟩))
  go_ret2
  exact ⟨rfl, (by repeat (first | exact Below.refl _ _ | refine balloc ?_ _ | refine bdrew ?_ | refine bdrewN ?_ _ | refine bset ?_ (by first | (simp; done) | (simp; omega)) _ | (refine bseq ?_ (by assumption)) | (refine bgrow ?_ (by assumption) (by omega))))⟩
theorem SubStored_no (a b x y : Int) (w : World) (h : ¬ Fit a b x ∨ ¬ Fit a b y) : Calls Try.prog 20 #[.agg #[.int .i64 a, .int .i64 b], .int .i64 x, .int .i64 y] w fun e w' => e = .returned (.tuple #[.int .i64 0, .bool false]) ∧ Below w.heap.size w w' := by
  have H := Lib.hid h
  clear h
  go_enter Try.func20, Try.ntmps20
  go_wp2_with (first | (go_at_call 40; refine (join_no _ _ _ _ _ _ H.out).mono ?_; rintro e w1 ⟨rfl, hb1⟩))
  go_ret2
  exact ⟨rfl, (by repeat (first | exact Below.refl _ _ | refine balloc ?_ _ | refine bdrew ?_ | refine bdrewN ?_ _ | refine bset ?_ (by first | (simp; done) | (simp; omega)) _ | (refine bseq ?_ (by assumption)) | (refine bgrow ?_ (by assumption) (by omega))))⟩

theorem sSubStored_in (a b x y : Int) (w : World) (hx : Fit a b x) (hy : Fit a b y) : Calls Try.prog 19 #[.agg #[.int .i64 a, .int .i64 b], .int .i64 x, .int .i64 y] w fun e w' => e = .returned (.tuple #[.int .i64 (cutV (2 ^ (a + b).toNat) (x - y)), .bool (cutB (2 ^ (a + b).toNat) (x - y))]) ∧ Below w.heap.size w w' := by
  obtain ⟨h1, h2, h3, h4⟩ := hx.valid
  obtain ⟨x1, x2⟩ := hx.bnd
  obtain ⟨y1, y2⟩ := hy.bnd
  have HX := Lib.hid hx
  have HY := Lib.hid hy
  clear hx hy
  go_enter Try.func19, Try.ntmps19
  go_wp2_with fail
  refine (l6Both_yes _ _ _ _ _ HX.out HY.out).mono ?_
  rintro e w1 ⟨rfl, hb1⟩
  obtain ⟨hc1, hf1⟩ := bcell hb1
  have hz1 := hb1.size
  simp only [World.size_alloc] at hz1
  go_wp2_with fail
  refine (l4Cut_in _ _ _ _ h1 h2 h3 h4).mono ?_
  rintro e w2 ⟨rfl, hb2⟩
  go_wp2
  go_ret2
  exact ⟨rfl, (by repeat (first | exact Below.refl _ _ | refine balloc ?_ _ | refine bdrew ?_ | refine bdrewN ?_ _ | refine bset ?_ (by first | (simp; done) | (simp; omega)) _ | (refine bseq ?_ (by assumption)) | (refine bgrow ?_ (by assumption) (by omega))))⟩
theorem sSubStored_no (a b x y : Int) (w : World) (h : ¬ Fit a b x ∨ ¬ Fit a b y) : Calls Try.prog 19 #[.agg #[.int .i64 a, .int .i64 b], .int .i64 x, .int .i64 y] w fun e w' => e = .returned (.tuple #[.int .i64 0, .bool false]) ∧ Below w.heap.size w w' := by
  have H := Lib.hid h
  clear h
  go_enter Try.func19, Try.ntmps19
  go_wp2_with (first | (go_at_call 39; refine (l6Both_no _ _ _ _ _ H.out).mono ?_; rintro e w1 ⟨rfl, hb1⟩))
  go_ret2
  exact ⟨rfl, (by repeat (first | exact Below.refl _ _ | refine balloc ?_ _ | refine bdrew ?_ | refine bdrewN ?_ _ | refine bset ?_ (by first | (simp; done) | (simp; omega)) _ | (refine bseq ?_ (by assumption)) | (refine bgrow ?_ (by assumption) (by omega))))⟩

theorem WholeOf_in (a b n : Int) (w : World) (h : Fit a b n) : Calls Try.prog 22 #[.agg #[.int .i64 a, .int .i64 b], .int .i64 n] w fun e w' => e = .returned (.int .i64 (rnd n (2 ^ b.toNat))) ∧ Below w.heap.size w w' := by
  obtain ⟨h1, h2, h3, h4⟩ := h.valid
  obtain ⟨x1, x2⟩ := h.bnd
  have p1 := pow_pos' b.toNat
  have p2 := pow_60 (k := b) (by omega)
  have H := Lib.hid h
  clear h
  go_enter Try.func22, Try.ntmps22
  go_wp2_with fail
  refine (StoredFits_fit _ _ _ _ H.out).mono ?_
  rintro e w1 ⟨rfl, hb1⟩
  obtain ⟨hc1, hf1⟩ := bcell hb1
  have hz1 := hb1.size
  simp only [World.size_alloc] at hz1
  go_wp2_with (first | (go_at_call 44; refine (RoundShift_in _ _ _ (by omega) (by omega)).mono ?_; rintro e w' ⟨rfl, rfl⟩))
  go_ret
  exact ⟨rfl, (by repeat (first | exact Below.refl _ _ | refine balloc ?_ _ | refine bdrew ?_ | refine bdrewN ?_ _ | refine bset ?_ (by first | (simp; done) | (simp; omega)) _ | (refine bseq ?_ (by assumption)) | (refine bgrow ?_ (by assumption) (by omega))))⟩
theorem WholeOf_no (a b n : Int) (w : World) (h : ¬ Fit a b n) : Calls Try.prog 22 #[.agg #[.int .i64 a, .int .i64 b], .int .i64 n] w fun e w' => e = .returned (.int .i64 0) ∧ Below w.heap.size w w' := by
  have H := Lib.hid h
  clear h
  go_enter Try.func22, Try.ntmps22
  go_wp2_with (first | (go_at_call 30; refine (StoredFits_nofit _ _ _ _ H.out).mono ?_; rintro e w1 ⟨rfl, hb1⟩))
  go_ret
  exact ⟨rfl, (by repeat (first | exact Below.refl _ _ | refine balloc ?_ _ | refine bdrew ?_ | refine bdrewN ?_ _ | refine bset ?_ (by first | (simp; done) | (simp; omega)) _ | (refine bseq ?_ (by assumption)) | (refine bgrow ?_ (by assumption) (by omega))))⟩

theorem sWholeOf_in (a b n : Int) (w : World) (h : Fit a b n) : Calls Try.prog 21 #[.agg #[.int .i64 a, .int .i64 b], .int .i64 n] w fun e w' => e = .returned (.int .i64 (rnd n (2 ^ b.toNat))) ∧ Below w.heap.size w w' := by
  obtain ⟨h1, h2, h3, h4⟩ := h.valid
  obtain ⟨x1, x2⟩ := h.bnd
  have p1 := pow_pos' b.toNat
  have p2 := pow_60 (k := b) (by omega)
  have H := Lib.hid h
  clear h
  go_enter Try.func21, Try.ntmps21
  go_wp2_with fail
  refine (sStoredFits_fit _ _ _ _ H.out).mono ?_
  rintro e w1 ⟨rfl, hb1⟩
  obtain ⟨hc1, hf1⟩ := bcell hb1
  have hz1 := hb1.size
  simp only [World.size_alloc] at hz1
  go_wp2_with (first | (go_at_call 43; refine (l1Round_in _ _ _ (by omega) (by omega)).mono ?_; rintro e w' ⟨rfl, rfl⟩))
  go_ret
  exact ⟨rfl, (by repeat (first | exact Below.refl _ _ | refine balloc ?_ _ | refine bdrew ?_ | refine bdrewN ?_ _ | refine bset ?_ (by first | (simp; done) | (simp; omega)) _ | (refine bseq ?_ (by assumption)) | (refine bgrow ?_ (by assumption) (by omega))))⟩
theorem sWholeOf_no (a b n : Int) (w : World) (h : ¬ Fit a b n) : Calls Try.prog 21 #[.agg #[.int .i64 a, .int .i64 b], .int .i64 n] w fun e w' => e = .returned (.int .i64 0) ∧ Below w.heap.size w w' := by
  have H := Lib.hid h
  clear h
  go_enter Try.func21, Try.ntmps21
  go_wp2_with (first | (go_at_call 31; refine (sStoredFits_nofit _ _ _ _ H.out).mono ?_; rintro e w1 ⟨rfl, hb1⟩))
  go_ret
  exact ⟨rfl, (by repeat (first | exact Below.refl _ _ | refine balloc ?_ _ | refine bdrew ?_ | refine bdrewN ?_ _ | refine bset ?_ (by first | (simp; done) | (simp; omega)) _ | (refine bseq ?_ (by assumption)) | (refine bgrow ?_ (by assumption) (by omega))))⟩

end Go.Proofs.Ytffgekboieimhaa.K
