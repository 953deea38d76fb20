/- Contracts of the functions that cut a number to what can be stored. -/
import Derived.Test.YtffgekboieimhaaFmt
namespace Go.Proofs.Ytffgekboieimhaa.K
open Go.RowKit

/-! cutting to what can be stored: p is 2^(Whole+Part) -/
def cutV (p n : Int) : Int := if n < -p then -p else if p - 1 < n then p - 1 else n
def cutB (p n : Int) : Bool := decide (-p ≤ n ∧ n ≤ p - 1)
theorem ret_cut {v p n : Int} {b : Bool} (h1 : v = cutV p n) (h2 : b = cutB p n) : Ending.returned (.tuple #[.int .i64 v, .bool b]) = .returned (.tuple #[.int .i64 (cutV p n), .bool (cutB p n)]) := by rw [h1, h2]
theorem cut_low {p n : Int} (h : n < -p) : -p = cutV p n ∧ false = cutB p n := ⟨by unfold cutV; rw [if_pos h], by unfold cutB; exact (decide_eq_false (by omega)).symm⟩
theorem cut_high {p n : Int} (_hp : 1 ≤ p) (h : p - 1 < n) : p - 1 = cutV p n ∧ false = cutB p n := ⟨by unfold cutV; rw [if_neg (by omega), if_pos h], by unfold cutB; exact (decide_eq_false (by omega)).symm⟩
theorem cut_mid {p n : Int} (h : -p ≤ n) (h' : n ≤ p - 1) : n = cutV p n ∧ true = cutB p n := ⟨by unfold cutV; rw [if_neg (by omega), if_neg (by omega)], by unfold cutB; exact (decide_eq_true ⟨h, h'⟩).symm⟩

theorem l4Cut_low (a b n : Int) (w : World) (h1 : 1 ≤ a) (h2 : a ≤ 12) (h3 : 0 ≤ b) (h4 : b ≤ 16) (h5 : n < -2 ^ (a + b).toNat) : Calls Try.prog 36 #[.agg #[.int .i64 a, .int .i64 b], .int .i64 n] w fun e w' => e = .returned (.tuple #[.int .i64 (-(2 ^ (a + b).toNat - 1) - 1), .bool false]) ∧ Below w.heap.size w w' := by
  have p1 := pow_pos' (a + b).toNat
  have p2 := pow_60 (k := a + b) (by omega)
  have e1 := IntWalk.i64_in (-(2 ^ (a + b).toNat - 1)) (by omega)
  have e2 := IntWalk.i64_in (-(2 ^ (a + b).toNat - 1) - 1) (by omega)
  have e3 : (if n < 2 ^ (a + b).toNat - 1 then n else 2 ^ (a + b).toNat - 1) = n := by split <;> omega
  have e4 : (if -(2 ^ (a + b).toNat - 1) - 1 < n then n else -(2 ^ (a + b).toNat - 1) - 1) = -(2 ^ (a + b).toNat - 1) - 1 := by split <;> omega
  have e5 : ((-(2 ^ (a + b).toNat - 1) - 1) == n) = false := by simp; omega
  go_enter Try.func36, Try.ntmps36
  go_wp2_with fail
  go_region_held3 (fun w' => w'.cell? ⟨w.heap.size, 0, none⟩ = some (.int .i64 a) ∧ w'.cell? ⟨w.heap.size, 1, none⟩ = some (.int .i64 b)) (go_keep)
    (first | (go_at_call 52; refine (l4Most_in _ _ _ h1 h2 h3 h4).mono ?_; rintro e w' ⟨rfl, rfl⟩))
  all_goals
    go_wp2
    go_ret2
    exact ⟨rfl, (by repeat (first | exact Below.refl _ _ | refine balloc ?_ _ | refine bdrew ?_ | refine bdrewN ?_ _ | refine bset ?_ (by first | (simp; done) | (simp; omega)) _ | (refine bseq ?_ (by assumption)) | (refine bgrow ?_ (by assumption) (by omega))))⟩
theorem l4Cut_mid (a b n : Int) (w : World) (h1 : 1 ≤ a) (h2 : a ≤ 12) (h3 : 0 ≤ b) (h4 : b ≤ 16) (h5 : -2 ^ (a + b).toNat ≤ n) (h6 : n ≤ 2 ^ (a + b).toNat - 1) : Calls Try.prog 36 #[.agg #[.int .i64 a, .int .i64 b], .int .i64 n] w fun e w' => e = .returned (.tuple #[.int .i64 (n), .bool true]) ∧ Below w.heap.size w w' := by
  have p1 := pow_pos' (a + b).toNat
  have p2 := pow_60 (k := a + b) (by omega)
  have e1 := IntWalk.i64_in (-(2 ^ (a + b).toNat - 1)) (by omega)
  have e2 := IntWalk.i64_in (-(2 ^ (a + b).toNat - 1) - 1) (by omega)
  have e3 : (if n < 2 ^ (a + b).toNat - 1 then n else 2 ^ (a + b).toNat - 1) = n := by split <;> omega
  have e4 : (if -(2 ^ (a + b).toNat - 1) - 1 < n then n else -(2 ^ (a + b).toNat - 1) - 1) = n := by split <;> omega
  go_enter Try.func36, Try.ntmps36
  go_wp2_with fail
  go_region_held3 (fun w' => w'.cell? ⟨w.heap.size, 0, none⟩ = some (.int .i64 a) ∧ w'.cell? ⟨w.heap.size, 1, none⟩ = some (.int .i64 b)) (go_keep)
    (first | (go_at_call 52; refine (l4Most_in _ _ _ h1 h2 h3 h4).mono ?_; rintro e w' ⟨rfl, rfl⟩))
  all_goals
    go_wp2
    go_ret2
    exact ⟨rfl, (by repeat (first | exact Below.refl _ _ | refine balloc ?_ _ | refine bdrew ?_ | refine bdrewN ?_ _ | refine bset ?_ (by first | (simp; done) | (simp; omega)) _ | (refine bseq ?_ (by assumption)) | (refine bgrow ?_ (by assumption) (by omega))))⟩
theorem l4Cut_high (a b n : Int) (w : World) (h1 : 1 ≤ a) (h2 : a ≤ 12) (h3 : 0 ≤ b) (h4 : b ≤ 16) (h5 : 2 ^ (a + b).toNat - 1 < n) : Calls Try.prog 36 #[.agg #[.int .i64 a, .int .i64 b], .int .i64 n] w fun e w' => e = .returned (.tuple #[.int .i64 (2 ^ (a + b).toNat - 1), .bool false]) ∧ Below w.heap.size w w' := by
  have p1 := pow_pos' (a + b).toNat
  have p2 := pow_60 (k := a + b) (by omega)
  have e1 := IntWalk.i64_in (-(2 ^ (a + b).toNat - 1)) (by omega)
  have e2 := IntWalk.i64_in (-(2 ^ (a + b).toNat - 1) - 1) (by omega)
  have e3 : (if n < 2 ^ (a + b).toNat - 1 then n else 2 ^ (a + b).toNat - 1) = 2 ^ (a + b).toNat - 1 := by split <;> omega
  have e4 : (if -(2 ^ (a + b).toNat - 1) - 1 < 2 ^ (a + b).toNat - 1 then 2 ^ (a + b).toNat - 1 else -(2 ^ (a + b).toNat - 1) - 1) = 2 ^ (a + b).toNat - 1 := by split <;> omega
  have e5 : ((2 ^ (a + b).toNat - 1) == n) = false := by simp; omega
  go_enter Try.func36, Try.ntmps36
  go_wp2_with fail
  go_region_held3 (fun w' => w'.cell? ⟨w.heap.size, 0, none⟩ = some (.int .i64 a) ∧ w'.cell? ⟨w.heap.size, 1, none⟩ = some (.int .i64 b)) (go_keep)
    (first | (go_at_call 52; refine (l4Most_in _ _ _ h1 h2 h3 h4).mono ?_; rintro e w' ⟨rfl, rfl⟩))
  all_goals
    go_wp2
    go_ret2
    exact ⟨rfl, (by repeat (first | exact Below.refl _ _ | refine balloc ?_ _ | refine bdrew ?_ | refine bdrewN ?_ _ | refine bset ?_ (by first | (simp; done) | (simp; omega)) _ | (refine bseq ?_ (by assumption)) | (refine bgrow ?_ (by assumption) (by omega))))⟩
theorem l4Cut_in (a b n : Int) (w : World) (h1 : 1 ≤ a) (h2 : a ≤ 12) (h3 : 0 ≤ b) (h4 : b ≤ 16) : Calls Try.prog 36 #[.agg #[.int .i64 a, .int .i64 b], .int .i64 n] w fun e w' => e = .returned (.tuple #[.int .i64 (cutV (2 ^ (a + b).toNat) n), .bool (cutB (2 ^ (a + b).toNat) n)]) ∧ Below w.heap.size w w' := by
  have p1 := pow_pos' (a + b).toNat
  by_cases h5 : n < -2 ^ (a + b).toNat
  · exact (l4Cut_low a b n w h1 h2 h3 h4 h5).mono fun e w' ⟨he, hb⟩ => ⟨he.trans (ret_cut (by have := (cut_low h5).1; omega) (cut_low h5).2), hb⟩
  · by_cases h6 : 2 ^ (a + b).toNat - 1 < n
    · exact (l4Cut_high a b n w h1 h2 h3 h4 h6).mono fun e w' ⟨he, hb⟩ => ⟨he.trans (ret_cut (cut_high p1 h6).1 (cut_high p1 h6).2), hb⟩
    · exact (l4Cut_mid a b n w h1 h2 h3 h4 (by omega) (by omega)).mono fun e w' ⟨he, hb⟩ => ⟨he.trans (ret_cut (cut_mid (by omega) (by omega)).1 (cut_mid (by omega) (by omega)).2), hb⟩

theorem least_in (a b : Int) (w : World) (h1 : 1 ≤ a) (h2 : a ≤ 12) (h3 : 0 ≤ b) (h4 : b ≤ 16) : Calls Try.prog 37 #[.agg #[.int .i64 a, .int .i64 b]] w fun e w' => e = .returned (.int .i64 (-2 ^ (a + b).toNat)) ∧ w.alloc (.cells #[.int .i64 a, .int .i64 b] 26) = w' := by
  have p1 := pow_pos' (a + b).toNat
  have p2 := pow_60 (k := a + b) (by omega)
  go_enter Try.func37, Try.ntmps37
  go_wp2
  go_ret
  exact ⟨ret_int (by omega), rfl⟩
theorem greatest_in (a b : Int) (w : World) (h1 : 1 ≤ a) (h2 : a ≤ 12) (h3 : 0 ≤ b) (h4 : b ≤ 16) : Calls Try.prog 38 #[.agg #[.int .i64 a, .int .i64 b]] w fun e w' => e = .returned (.int .i64 (2 ^ (a + b).toNat - 1)) ∧ w.alloc (.cells #[.int .i64 a, .int .i64 b] 26) = w' := by
  have p1 := pow_pos' (a + b).toNat
  have p2 := pow_60 (k := a + b) (by omega)
  go_enter Try.func38, Try.ntmps38
  go_wp2
  go_ret
  exact ⟨rfl, rfl⟩

theorem CutStored_low (a b n : Int) (w : World) (h1 : 1 ≤ a) (h2 : a ≤ 12) (h3 : 0 ≤ b) (h4 : b ≤ 16) (h5 : n < -2 ^ (a + b).toNat) : Calls Try.prog 16 #[.agg #[.int .i64 a, .int .i64 b], .int .i64 n] w fun e w' => e = .returned (.tuple #[.int .i64 (-2 ^ (a + b).toNat), .bool false]) ∧ Below w.heap.size w w' := by
  have p1 := pow_pos' (a + b).toNat
  have p2 := pow_60 (k := a + b) (by omega)
  have e3 : (if n < -2 ^ (a + b).toNat then -2 ^ (a + b).toNat else n) = -2 ^ (a + b).toNat := by split <;> omega
  have e4 : (if 2 ^ (a + b).toNat - 1 < -2 ^ (a + b).toNat then 2 ^ (a + b).toNat - 1 else -2 ^ (a + b).toNat) = -2 ^ (a + b).toNat := by split <;> omega
  have e5 : ((-2 ^ (a + b).toNat : Int) == n) = false := by simp; omega
  go_enter Try.func16, Try.ntmps16
  go_wp2_with (first | (go_at_call 26; refine (FormatValid_yes _ _ _ h1 h2 h3 h4).mono ?_; rintro e w' ⟨rfl, rfl⟩))
  go_region_held3 (fun w' => w'.cell? ⟨w.heap.size, 0, none⟩ = some (.int .i64 a) ∧ w'.cell? ⟨w.heap.size, 1, none⟩ = some (.int .i64 b)) (go_keep)
    (first | (go_at_call 37; refine (least_in _ _ _ h1 h2 h3 h4).mono ?_; rintro e w' ⟨rfl, rfl⟩) | (go_at_call 38; refine (greatest_in _ _ _ h1 h2 h3 h4).mono ?_; rintro e w' ⟨rfl, rfl⟩))
  all_goals
    go_wp2
    go_ret2
    exact ⟨rfl, (by repeat (first | exact Below.refl _ _ | refine balloc ?_ _ | refine bdrew ?_ | refine bdrewN ?_ _ | refine bset ?_ (by first | (simp; done) | (simp; omega)) _ | (refine bseq ?_ (by assumption)) | (refine bgrow ?_ (by assumption) (by omega))))⟩
theorem CutStored_mid (a b n : Int) (w : World) (h1 : 1 ≤ a) (h2 : a ≤ 12) (h3 : 0 ≤ b) (h4 : b ≤ 16) (h5 : -2 ^ (a + b).toNat ≤ n) (h6 : n ≤ 2 ^ (a + b).toNat - 1) : Calls Try.prog 16 #[.agg #[.int .i64 a, .int .i64 b], .int .i64 n] w fun e w' => e = .returned (.tuple #[.int .i64 (n), .bool true]) ∧ Below w.heap.size w w' := by
  have p1 := pow_pos' (a + b).toNat
  have p2 := pow_60 (k := a + b) (by omega)
  have e3 : (if n < -2 ^ (a + b).toNat then -2 ^ (a + b).toNat else n) = n := by split <;> omega
  have e4 : (if 2 ^ (a + b).toNat - 1 < n then 2 ^ (a + b).toNat - 1 else n) = n := by split <;> omega
  go_enter Try.func16, Try.ntmps16
  go_wp2_with (first | (go_at_call 26; refine (FormatValid_yes _ _ _ h1 h2 h3 h4).mono ?_; rintro e w' ⟨rfl, rfl⟩))
  go_region_held3 (fun w' => w'.cell? ⟨w.heap.size, 0, none⟩ = some (.int .i64 a) ∧ w'.cell? ⟨w.heap.size, 1, none⟩ = some (.int .i64 b)) (go_keep)
    (first | (go_at_call 37; refine (least_in _ _ _ h1 h2 h3 h4).mono ?_; rintro e w' ⟨rfl, rfl⟩) | (go_at_call 38; refine (greatest_in _ _ _ h1 h2 h3 h4).mono ?_; rintro e w' ⟨rfl, rfl⟩))
  all_goals
    go_wp2
    go_ret2
    exact ⟨rfl, (by repeat (first | exact Below.refl _ _ | refine balloc ?_ _ | refine bdrew ?_ | refine bdrewN ?_ _ | refine bset ?_ (by first | (simp; done) | (simp; omega)) _ | (refine bseq ?_ (by assumption)) | (refine bgrow ?_ (by assumption) (by omega))))⟩
theorem CutStored_high (a b n : Int) (w : World) (h1 : 1 ≤ a) (h2 : a ≤ 12) (h3 : 0 ≤ b) (h4 : b ≤ 16) (h5 : 2 ^ (a + b).toNat - 1 < n) : Calls Try.prog 16 #[.agg #[.int .i64 a, .int .i64 b], .int .i64 n] w fun e w' => e = .returned (.tuple #[.int .i64 (2 ^ (a + b).toNat - 1), .bool false]) ∧ Below w.heap.size w w' := by
  have p1 := pow_pos' (a + b).toNat
  have p2 := pow_60 (k := a + b) (by omega)
  have e3 : (if n < -2 ^ (a + b).toNat then -2 ^ (a + b).toNat else n) = n := by split <;> omega
  have e4 : (if 2 ^ (a + b).toNat - 1 < n then 2 ^ (a + b).toNat - 1 else n) = 2 ^ (a + b).toNat - 1 := by split <;> omega
  have e5 : ((2 ^ (a + b).toNat - 1 : Int) == n) = false := by simp; omega
  go_enter Try.func16, Try.ntmps16
  go_wp2_with (first | (go_at_call 26; refine (FormatValid_yes _ _ _ h1 h2 h3 h4).mono ?_; rintro e w' ⟨rfl, rfl⟩))
  go_region_held3 (fun w' => w'.cell? ⟨w.heap.size, 0, none⟩ = some (.int .i64 a) ∧ w'.cell? ⟨w.heap.size, 1, none⟩ = some (.int .i64 b)) (go_keep)
    (first | (go_at_call 37; refine (least_in _ _ _ h1 h2 h3 h4).mono ?_; rintro e w' ⟨rfl, rfl⟩) | (go_at_call 38; refine (greatest_in _ _ _ h1 h2 h3 h4).mono ?_; rintro e w' ⟨rfl, rfl⟩))
  all_goals
    go_wp2
    go_ret2
    exact ⟨rfl, (by repeat (first | exact Below.refl _ _ | refine balloc ?_ _ | refine bdrew ?_ | refine bdrewN ?_ _ | refine bset ?_ (by first | (simp; done) | (simp; omega)) _ | (refine bseq ?_ (by assumption)) | (refine bgrow ?_ (by assumption) (by omega))))⟩
theorem CutStored_in (a b n : Int) (w : World) (h1 : 1 ≤ a) (h2 : a ≤ 12) (h3 : 0 ≤ b) (h4 : b ≤ 16) : Calls Try.prog 16 #[.agg #[.int .i64 a, .int .i64 b], .int .i64 n] w fun e w' => e = .returned (.tuple #[.int .i64 (cutV (2 ^ (a + b).toNat) n), .bool (cutB (2 ^ (a + b).toNat) n)]) ∧ Below w.heap.size w w' := by
  have p1 := pow_pos' (a + b).toNat
  by_cases h5 : n < -2 ^ (a + b).toNat
  · exact (CutStored_low a b n w h1 h2 h3 h4 h5).mono fun e w' ⟨he, hb⟩ => ⟨he.trans (ret_cut (by have := (cut_low h5).1; omega) (cut_low h5).2), hb⟩
  · by_cases h6 : 2 ^ (a + b).toNat - 1 < n
    · exact (CutStored_high a b n w h1 h2 h3 h4 h6).mono fun e w' ⟨he, hb⟩ => ⟨he.trans (ret_cut (cut_high p1 h6).1 (cut_high p1 h6).2), hb⟩
    · exact (CutStored_mid a b n w h1 h2 h3 h4 (by omega) (by omega)).mono fun e w' ⟨he, hb⟩ => ⟨he.trans (ret_cut (cut_mid (by omega) (by omega)).1 (cut_mid (by omega) (by omega)).2), hb⟩
theorem CutStored_bad (a b n : Int) (w : World) (h : a < 1 ∨ 12 < a ∨ b < 0 ∨ 16 < b) : Calls Try.prog 16 #[.agg #[.int .i64 a, .int .i64 b], .int .i64 n] w fun e w' => e = .returned (.tuple #[.int .i64 0, .bool false]) ∧ Below w.heap.size w w' := by
  have H := Lib.hid h
  clear h
  go_enter Try.func16, Try.ntmps16
  go_wp2_with (first | (go_at_call 26; refine (FormatValid_no _ _ _ H.out).mono ?_; rintro e w' ⟨rfl, rfl⟩))
  go_ret2
  exact ⟨rfl, (by repeat (first | exact Below.refl _ _ | refine balloc ?_ _ | refine bdrew ?_ | refine bdrewN ?_ _ | refine bset ?_ (by first | (simp; done) | (simp; omega)) _ | (refine bseq ?_ (by assumption)) | (refine bgrow ?_ (by assumption) (by omega))))⟩

theorem sCutStored_in (a b n : Int) (w : World) (h1 : 1 ≤ a) (h2 : a ≤ 12) (h3 : 0 ≤ b) (h4 : b ≤ 16) : Calls Try.prog 14 #[.agg #[.int .i64 a, .int .i64 b], .int .i64 n] w fun e w' => e = .returned (.tuple #[.int .i64 (cutV (2 ^ (a + b).toNat) n), .bool (cutB (2 ^ (a + b).toNat) n)]) ∧ Below w.heap.size w w' := by
  go_enter Try.func14, Try.ntmps14
  go_wp2_with (first | (go_at_call 27; refine (sFormatValid_yes _ _ _ h1 h2 h3 h4).mono ?_; rintro e w' ⟨rfl, rfl⟩) | (go_at_call 36; refine (l4Cut_in _ _ _ _ h1 h2 h3 h4).mono ?_; rintro e w1 ⟨rfl, hb1⟩))
  go_ret2
  exact ⟨rfl, (by repeat (first | exact Below.refl _ _ | refine balloc ?_ _ | refine bdrew ?_ | refine bdrewN ?_ _ | refine bset ?_ (by first | (simp; done) | (simp; omega)) _ | (refine bseq ?_ (by assumption)) | (refine bgrow ?_ (by assumption) (by omega))))⟩
theorem sCutStored_bad (a b n : Int) (w : World) (h : a < 1 ∨ 12 < a ∨ b < 0 ∨ 16 < b) : Calls Try.prog 14 #[.agg #[.int .i64 a, .int .i64 b], .int .i64 n] w fun e w' => e = .returned (.tuple #[.int .i64 0, .bool false]) ∧ Below w.heap.size w w' := by
  have H := Lib.hid h
  clear h
  go_enter Try.func14, Try.ntmps14
  go_wp2_with (first | (go_at_call 27; refine (sFormatValid_no _ _ _ H.out).mono ?_; rintro e w' ⟨rfl, rfl⟩))
  go_ret2
  exact ⟨rfl, (by repeat (first | exact Below.refl _ _ | refine balloc ?_ _ | refine bdrew ?_ | refine bdrewN ?_ _ | refine bset ?_ (by first | (simp; done) | (simp; omega)) _ | (refine bseq ?_ (by assumption)) | (refine bgrow ?_ (by assumption) (by omega))))⟩

end Go.Proofs.Ytffgekboieimhaa.K
