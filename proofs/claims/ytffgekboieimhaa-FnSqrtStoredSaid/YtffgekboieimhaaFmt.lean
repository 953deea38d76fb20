/- Contracts of the functions that take or return formats and spans. -/
import Derived.Test.YtffgekboieimhaaNum
namespace Go.Proofs.Ytffgekboieimhaa.K
open Go.RowKit

theorem toFormat_any (a b : Int) (w : World) : Calls Try.prog 15 #[.agg #[.int .i64 a, .int .i64 b]] w fun e w' => e = .returned (.agg #[.int .i64 a, .int .i64 b]) ∧
    ((w.alloc (.cells #[.int .i64 a, .int .i64 b] 23)).alloc (.cells #[.int .i64 a, .int .i64 b] 26)).alloc (.cells #[.int .i64 a, .int .i64 b] 26) = w' := by
  go_enter Try.func15, Try.ntmps15
  go_wp2
  exact bodyPost_ret (v := .agg #[.int .i64 a, .int .i64 b]) (by simp [results, Try.results15, go_sem]) rfl ⟨rfl, rfl⟩


theorem FormatValid_yes (a b : Int) (w : World) (h1 : 1 ≤ a) (h2 : a ≤ 12) (h3 : 0 ≤ b) (h4 : b ≤ 16) : Calls Try.prog 26 #[.agg #[.int .i64 a, .int .i64 b]] w fun e w' => e = .returned (.bool true) ∧ w.alloc (.cells #[.int .i64 a, .int .i64 b] 26) = w' := by
  go_enter Try.func26, Try.ntmps26
  go_wp2
  go_ret
  exact ⟨rfl, rfl⟩
theorem FormatValid_no (a b : Int) (w : World) (h : a < 1 ∨ 12 < a ∨ b < 0 ∨ 16 < b) : Calls Try.prog 26 #[.agg #[.int .i64 a, .int .i64 b]] w fun e w' => e = .returned (.bool false) ∧ w.alloc (.cells #[.int .i64 a, .int .i64 b] 26) = w' := by
  by_cases h1 : 1 ≤ a
  · by_cases h2 : a ≤ 12
    · by_cases h3 : 0 ≤ b
      · have h4 : ¬ b ≤ 16 := by omega
        have hd : decide (b ≤ 16) = false := decide_eq_false h4
        clear h
        go_enter Try.func26, Try.ntmps26
        go_wp2
        go_ret
        exact ⟨rfl, rfl⟩
      · clear h
        go_enter Try.func26, Try.ntmps26
        go_wp2
        go_ret
        exact ⟨rfl, rfl⟩
    · clear h
      go_enter Try.func26, Try.ntmps26
      go_wp2
      go_ret
      exact ⟨rfl, rfl⟩
  · clear h
    go_enter Try.func26, Try.ntmps26
    go_wp2
    go_ret
    exact ⟨rfl, rfl⟩

theorem sFormatValid_yes (a b : Int) (w : World) (h1 : 1 ≤ a) (h2 : a ≤ 12) (h3 : 0 ≤ b) (h4 : b ≤ 16) : Calls Try.prog 27 #[.agg #[.int .i64 a, .int .i64 b]] w fun e w' => e = .returned (.bool true) ∧ w.alloc (.cells #[.int .i64 a, .int .i64 b] 26) = w' := by
  go_enter Try.func27, Try.ntmps27
  go_wp2
  go_ret
  exact ⟨rfl, rfl⟩
theorem sFormatValid_no (a b : Int) (w : World) (h : a < 1 ∨ 12 < a ∨ b < 0 ∨ 16 < b) : Calls Try.prog 27 #[.agg #[.int .i64 a, .int .i64 b]] w fun e w' => e = .returned (.bool false) ∧ w.alloc (.cells #[.int .i64 a, .int .i64 b] 26) = w' := by
  by_cases h1 : 1 ≤ a
  · by_cases h2 : a ≤ 12
    · by_cases h3 : 0 ≤ b
      · have h4 : ¬ b ≤ 16 := by omega
        have hd : decide (b ≤ 16) = false := decide_eq_false h4
        clear h
        go_enter Try.func27, Try.ntmps27
        go_wp2
        go_ret
        exact ⟨rfl, rfl⟩
      · clear h
        go_enter Try.func27, Try.ntmps27
        go_wp2
        go_ret
        exact ⟨rfl, rfl⟩
    · have hd : decide (a ≤ 12) = false := decide_eq_false h2
      clear h
      go_enter Try.func27, Try.ntmps27
      go_wp2
      go_ret
      exact ⟨rfl, rfl⟩
  · clear h
    go_enter Try.func27, Try.ntmps27
    go_wp2
    go_ret
    exact ⟨rfl, rfl⟩

theorem l4Most_in (a b : Int) (w : World) (h1 : 1 ≤ a) (h2 : a ≤ 12) (h3 : 0 ≤ b) (h4 : b ≤ 16) : Calls Try.prog 52 #[.agg #[.int .i64 a, .int .i64 b]] w fun e w' => e = .returned (.int .i64 (2 ^ (a + b).toNat - 1)) ∧ w.alloc (.cells #[.int .i64 a, .int .i64 b] 26) = w' := by
  have p1 := pow_pos' (a + b).toNat
  have p2 := pow_60 (k := a + b) (by omega)
  go_enter Try.func52, Try.ntmps52
  go_wp2
  go_ret
  exact ⟨rfl, rfl⟩

theorem l1In_yes (n lo hi : Int) (w : World) (h1 : lo ≤ n) (h2 : n ≤ hi) : Calls Try.prog 49 #[.int .i64 n, .int .i64 lo, .int .i64 hi] w fun e w' => e = .returned (.bool true) ∧ w = w' := by
  go_enter Try.func49, Try.ntmps49
  go_wp2
  go_ret
  exact ⟨rfl, rfl⟩
theorem l1In_no (n lo hi : Int) (w : World) (h : n < lo ∨ hi < n) : Calls Try.prog 49 #[.int .i64 n, .int .i64 lo, .int .i64 hi] w fun e w' => e = .returned (.bool false) ∧ w = w' := by
  by_cases h1 : lo ≤ n
  · have hd : decide (n ≤ hi) = false := decide_eq_false (by omega)
    clear h
    go_enter Try.func49, Try.ntmps49
    go_wp2
    go_ret
    exact ⟨rfl, rfl⟩
  · clear h
    go_enter Try.func49, Try.ntmps49
    go_wp2
    go_ret
    exact ⟨rfl, rfl⟩

theorem sStoredFits_yes (a b n : Int) (w : World) (h1 : 1 ≤ a) (h2 : a ≤ 12) (h3 : 0 ≤ b) (h4 : b ≤ 16) (h5 : -2 ^ (a + b).toNat ≤ n) (h6 : n ≤ 2 ^ (a + b).toNat - 1) : Calls Try.prog 31 #[.agg #[.int .i64 a, .int .i64 b], .int .i64 n] w fun e w' => e = .returned (.bool true) ∧ Below w.heap.size w w' := by
  have p1 := pow_pos' (a + b).toNat
  have p2 := pow_60 (k := a + b) (by omega)
  have e1 := IntWalk.i64_in (-(2 ^ (a + b).toNat - 1)) (by omega)
  have e2 := IntWalk.i64_in (-(2 ^ (a + b).toNat - 1) - 1) (by omega)
  go_enter Try.func31, Try.ntmps31
  go_wp2_with fail
  go_region_held3 (fun w' => w'.cell? ⟨w.heap.size, 0, none⟩ = some (.int .i64 a) ∧ w'.cell? ⟨w.heap.size, 1, none⟩ = some (.int .i64 b)) (go_keep)
    (first | (go_at_call 27; refine (sFormatValid_yes _ _ _ h1 h2 h3 h4).mono ?_; rintro e w' ⟨rfl, rfl⟩) | (go_at_call 52; refine (l4Most_in _ _ _ h1 h2 h3 h4).mono ?_; rintro e w' ⟨rfl, rfl⟩) | (go_at_call 49; refine (l1In_yes _ _ _ _ (by omega) (by omega)).mono ?_; rintro e w' ⟨rfl, rfl⟩))
  go_wp2
  go_ret
  exact ⟨rfl, (by repeat (first | exact Below.refl _ _ | refine balloc ?_ _ | refine bdrew ?_ | refine bdrewN ?_ _ | refine bset ?_ (by first | (simp; done) | (simp; omega)) _ | (refine bseq ?_ (by assumption)) | (refine bgrow ?_ (by assumption) (by omega))))⟩
theorem sStoredFits_far (a b n : Int) (w : World) (h1 : 1 ≤ a) (h2 : a ≤ 12) (h3 : 0 ≤ b) (h4 : b ≤ 16) (h5 : n < -2 ^ (a + b).toNat ∨ 2 ^ (a + b).toNat - 1 < n) : Calls Try.prog 31 #[.agg #[.int .i64 a, .int .i64 b], .int .i64 n] w fun e w' => e = .returned (.bool false) ∧ Below w.heap.size w w' := by
  have p1 := pow_pos' (a + b).toNat
  have p2 := pow_60 (k := a + b) (by omega)
  have e1 := IntWalk.i64_in (-(2 ^ (a + b).toNat - 1)) (by omega)
  have e2 := IntWalk.i64_in (-(2 ^ (a + b).toNat - 1) - 1) (by omega)
  have H := Lib.hid h5
  clear h5
  go_enter Try.func31, Try.ntmps31
  go_wp2_with fail
  go_region_held3 (fun w' => w'.cell? ⟨w.heap.size, 0, none⟩ = some (.int .i64 a) ∧ w'.cell? ⟨w.heap.size, 1, none⟩ = some (.int .i64 b)) (go_keep)
    (first | (go_at_call 27; refine (sFormatValid_yes _ _ _ h1 h2 h3 h4).mono ?_; rintro e w' ⟨rfl, rfl⟩) | (go_at_call 52; refine (l4Most_in _ _ _ h1 h2 h3 h4).mono ?_; rintro e w' ⟨rfl, rfl⟩) | (go_at_call 49; refine (l1In_no _ _ _ _ (by have := H.out; omega)).mono ?_; rintro e w' ⟨rfl, rfl⟩))
  go_wp2
  go_ret
  exact ⟨rfl, (by repeat (first | exact Below.refl _ _ | refine balloc ?_ _ | refine bdrew ?_ | refine bdrewN ?_ _ | refine bset ?_ (by first | (simp; done) | (simp; omega)) _ | (refine bseq ?_ (by assumption)) | (refine bgrow ?_ (by assumption) (by omega))))⟩
set_option maxHeartbeats 1000000 in
theorem sStoredFits_bad (a b n : Int) (w : World) (h : a < 1 ∨ 12 < a ∨ b < 0 ∨ 16 < b) : Calls Try.prog 31 #[.agg #[.int .i64 a, .int .i64 b], .int .i64 n] w fun e w' => e = .returned (.bool false) ∧ Below w.heap.size w w' := by
  have H := Lib.hid h
  clear h
  go_enter Try.func31, Try.ntmps31
  go_wp2_with fail
  refine wp_region_held_drew (S := fun w' => w'.cell? ⟨w.heap.size, 0, none⟩ = some (.int .i64 a) ∧ w'.cell? ⟨w.heap.size, 1, none⟩ = some (.int .i64 b)) (by kernel_rfl) ?_ (fun hS => ?_)
  · go_keep
  refine wpAnyH_take (i := 0) (v := .agg #[.int .i64 a, .int .i64 b]) rfl (by kernel_rfl) (by kernel_rfl) (by kernel_rfl) (fun _ _ _ h => h) (Or.inl ⟨by kernel_rfl, ?_⟩) hS ?_
  · intro w' hw
    go_simp
  (try simp only [Act.put, List.getElem_toArray, List.getElem_cons_succ, List.getElem_cons_zero, List.setIfInBounds_toArray, List.set_cons_zero, List.set_cons_succ])
  refine wpAnyH_ready (rs := [1]) (by kernel_rfl) (by simp) ?_
  refine AllReadyH.cons rfl (fun K hK => ?_) AllReadyH.nil
  go_simp
  go_at_call 27
  refine (sFormatValid_no _ _ _ H.out).mono ?_
  rintro e w' ⟨rfl, rfl⟩
  go_wp2_with fail
  refine hK.out _ _ ?_ (fun hS1 => ?_)
  · go_keep
  clear hK K
  refine wpAnyH_take (i := 2) (v := .bool false) rfl (by kernel_rfl) (by kernel_rfl) (by kernel_rfl) (fun _ _ _ h => h) (Or.inl ⟨by kernel_rfl, ?_⟩) hS1 ?_
  · intro w' _
    go_simp
  (try simp only [Act.put, List.getElem_toArray, List.getElem_cons_succ, List.getElem_cons_zero, List.setIfInBounds_toArray, List.set_cons_zero, List.set_cons_succ])
  refine wpAnyH_take (i := 3) rfl (by kernel_rfl) (by kernel_rfl) (by kernel_rfl) (fun _ _ _ h => h) (Or.inr ⟨by kernel_rfl, rfl⟩) hS1 ?_
  (try simp only [Act.put, List.getElem_toArray, List.getElem_cons_succ, List.getElem_cons_zero, List.setIfInBounds_toArray, List.set_cons_zero, List.set_cons_succ])
  refine wpAnyH_take (i := 4) rfl (by kernel_rfl) (by kernel_rfl) (by kernel_rfl) (fun _ _ _ h => h) (Or.inr ⟨by kernel_rfl, rfl⟩) hS1 ?_
  (try simp only [Act.put, List.getElem_toArray, List.getElem_cons_succ, List.getElem_cons_zero, List.setIfInBounds_toArray, List.set_cons_zero, List.set_cons_succ])
  refine wpAnyH_take (i := 5) rfl (by kernel_rfl) (by kernel_rfl) (by kernel_rfl) (fun _ _ _ h => h) (Or.inr ⟨by kernel_rfl, rfl⟩) hS1 ?_
  (try simp only [Act.put, List.getElem_toArray, List.getElem_cons_succ, List.getElem_cons_zero, List.setIfInBounds_toArray, List.set_cons_zero, List.set_cons_succ])
  refine wpAnyH_take (i := 6) rfl (by kernel_rfl) (by kernel_rfl) (by kernel_rfl) (fun _ _ _ h => h) (Or.inr ⟨by kernel_rfl, rfl⟩) hS1 ?_
  (try simp only [Act.put, List.getElem_toArray, List.getElem_cons_succ, List.getElem_cons_zero, List.setIfInBounds_toArray, List.set_cons_zero, List.set_cons_succ])
  refine wpAnyH_take (i := 7) rfl (by kernel_rfl) (by kernel_rfl) (by kernel_rfl) (fun _ _ _ h => h) (Or.inr ⟨by kernel_rfl, rfl⟩) hS1 ?_
  (try simp only [Act.put, List.getElem_toArray, List.getElem_cons_succ, List.getElem_cons_zero, List.setIfInBounds_toArray, List.set_cons_zero, List.set_cons_succ])
  refine wpAnyH_take (i := 8) rfl (by kernel_rfl) (by kernel_rfl) (by kernel_rfl) (fun _ _ _ h => h) (Or.inr ⟨by kernel_rfl, rfl⟩) hS1 ?_
  (try simp only [Act.put, List.getElem_toArray, List.getElem_cons_succ, List.getElem_cons_zero, List.setIfInBounds_toArray, List.set_cons_zero, List.set_cons_succ])
  refine wpAnyH_take (i := 9) rfl (by kernel_rfl) (by kernel_rfl) (by kernel_rfl) (fun _ _ _ h => h) (Or.inr ⟨by kernel_rfl, rfl⟩) hS1 ?_
  (try simp only [Act.put, List.getElem_toArray, List.getElem_cons_succ, List.getElem_cons_zero, List.setIfInBounds_toArray, List.set_cons_zero, List.set_cons_succ])
  refine wpAnyH_take (i := 10) rfl (by kernel_rfl) (by kernel_rfl) (by kernel_rfl) (fun _ _ _ h => h) (Or.inr ⟨by kernel_rfl, rfl⟩) hS1 ?_
  (try simp only [Act.put, List.getElem_toArray, List.getElem_cons_succ, List.getElem_cons_zero, List.setIfInBounds_toArray, List.set_cons_zero, List.set_cons_succ])
  refine wpAnyH_take (i := 11) (v := .bool false) rfl (by kernel_rfl) (by kernel_rfl) (by kernel_rfl) (fun _ _ _ h => h) (Or.inl ⟨by kernel_rfl, ?_⟩) hS1 ?_
  · intro w' _
    go_simp
  (try simp only [Act.put, List.getElem_toArray, List.getElem_cons_succ, List.getElem_cons_zero, List.setIfInBounds_toArray, List.set_cons_zero, List.set_cons_succ])
  refine wpAnyH_take (i := 12) (v := .bool false) rfl (by kernel_rfl) (by kernel_rfl) (by kernel_rfl) (fun _ _ _ h => h) (Or.inl ⟨by kernel_rfl, ?_⟩) hS1 ?_
  · intro w' _
    go_simp
  (try simp only [Act.put, List.getElem_toArray, List.getElem_cons_succ, List.getElem_cons_zero, List.setIfInBounds_toArray, List.set_cons_zero, List.set_cons_succ])
  refine wpAnyH_done (by kernel_rfl) ?_ _
  go_wp2
  go_ret
  exact ⟨rfl, (by repeat (first | exact Below.refl _ _ | refine balloc ?_ _ | refine bdrew ?_ | refine bdrewN ?_ _ | refine bset ?_ (by first | (simp; done) | (simp; omega)) _ | (refine bseq ?_ (by assumption)) | (refine bgrow ?_ (by assumption) (by omega))))⟩

theorem StoredFits_yes (a b n : Int) (w : World) (h1 : 1 ≤ a) (h2 : a ≤ 12) (h3 : 0 ≤ b) (h4 : b ≤ 16) (h5 : -2 ^ (a + b).toNat ≤ n) (h6 : n ≤ 2 ^ (a + b).toNat - 1) : Calls Try.prog 30 #[.agg #[.int .i64 a, .int .i64 b], .int .i64 n] w fun e w' => e = .returned (.bool true) ∧ Below w.heap.size w w' := by
  have p1 := pow_pos' (a + b).toNat
  have p2 := pow_60 (k := a + b) (by omega)
  go_enter Try.func30, Try.ntmps30
  go_wp2
  go_ret
  exact ⟨rfl, (by repeat (first | exact Below.refl _ _ | refine balloc ?_ _ | refine bdrew ?_ | refine bdrewN ?_ _ | refine bset ?_ (by first | (simp; done) | (simp; omega)) _ | (refine bseq ?_ (by assumption)) | (refine bgrow ?_ (by assumption) (by omega))))⟩
theorem StoredFits_far (a b n : Int) (w : World) (h1 : 1 ≤ a) (h2 : a ≤ 12) (h3 : 0 ≤ b) (h4 : b ≤ 16) (h5 : n < -2 ^ (a + b).toNat ∨ 2 ^ (a + b).toNat - 1 < n) : Calls Try.prog 30 #[.agg #[.int .i64 a, .int .i64 b], .int .i64 n] w fun e w' => e = .returned (.bool false) ∧ Below w.heap.size w w' := by
  have p1 := pow_pos' (a + b).toNat
  have p2 := pow_60 (k := a + b) (by omega)
  by_cases h6 : -2 ^ (a + b).toNat ≤ n
  · have hd : decide (n ≤ 2 ^ (a + b).toNat - 1) = false := decide_eq_false (by omega)
    clear h5
    go_enter Try.func30, Try.ntmps30
    go_wp2
    go_ret
    exact ⟨rfl, (by repeat (first | exact Below.refl _ _ | refine balloc ?_ _ | refine bdrew ?_ | refine bdrewN ?_ _ | refine bset ?_ (by first | (simp; done) | (simp; omega)) _ | (refine bseq ?_ (by assumption)) | (refine bgrow ?_ (by assumption) (by omega))))⟩
  · clear h5
    go_enter Try.func30, Try.ntmps30
    go_wp2
    go_ret
    exact ⟨rfl, (by repeat (first | exact Below.refl _ _ | refine balloc ?_ _ | refine bdrew ?_ | refine bdrewN ?_ _ | refine bset ?_ (by first | (simp; done) | (simp; omega)) _ | (refine bseq ?_ (by assumption)) | (refine bgrow ?_ (by assumption) (by omega))))⟩
theorem StoredFits_bad (a b n : Int) (w : World) (h : a < 1 ∨ 12 < a ∨ b < 0 ∨ 16 < b) : Calls Try.prog 30 #[.agg #[.int .i64 a, .int .i64 b], .int .i64 n] w fun e w' => e = .returned (.bool false) ∧ Below w.heap.size w w' := by
  have H := Lib.hid h
  clear h
  go_enter Try.func30, Try.ntmps30
  go_wp2_with (first | (go_at_call 26; refine (FormatValid_no _ _ _ H.out).mono ?_; rintro e w' ⟨rfl, rfl⟩))
  go_ret
  exact ⟨rfl, (by repeat (first | exact Below.refl _ _ | refine balloc ?_ _ | refine bdrew ?_ | refine bdrewN ?_ _ | refine bset ?_ (by first | (simp; done) | (simp; omega)) _ | (refine bseq ?_ (by assumption)) | (refine bgrow ?_ (by assumption) (by omega))))⟩

/-- a number that can be stored in a valid format -/
def Fit (a b n : Int) : Prop := (1 ≤ a ∧ a ≤ 12 ∧ 0 ≤ b ∧ b ≤ 16) ∧ -2 ^ (a + b).toNat ≤ n ∧ n ≤ 2 ^ (a + b).toNat - 1
theorem Fit.valid {a b n : Int} (h : Fit a b n) : 1 ≤ a ∧ a ≤ 12 ∧ 0 ≤ b ∧ b ≤ 16 := h.1
theorem Fit.bnd {a b n : Int} (h : Fit a b n) : -268435456 ≤ n ∧ n ≤ 268435455 := by
  obtain ⟨⟨h1, h2, h3, h4⟩, h5, h6⟩ := h
  have := pow_le' (k := (a + b).toNat) (m := 28) (by omega)
  omega
theorem not_fit {a b n : Int} (h : ¬ Fit a b n) : (a < 1 ∨ 12 < a ∨ b < 0 ∨ 16 < b) ∨ (1 ≤ a ∧ a ≤ 12 ∧ 0 ≤ b ∧ b ≤ 16) ∧ (n < -2 ^ (a + b).toNat ∨ 2 ^ (a + b).toNat - 1 < n) := by
  unfold Fit at h
  omega

theorem StoredFits_fit (a b n : Int) (w : World) (h : Fit a b n) : Calls Try.prog 30 #[.agg #[.int .i64 a, .int .i64 b], .int .i64 n] w fun e w' => e = .returned (.bool true) ∧ Below w.heap.size w w' := by
  obtain ⟨⟨h1, h2, h3, h4⟩, h5, h6⟩ := h
  exact StoredFits_yes a b n w h1 h2 h3 h4 h5 h6
theorem StoredFits_nofit (a b n : Int) (w : World) (h : ¬ Fit a b n) : Calls Try.prog 30 #[.agg #[.int .i64 a, .int .i64 b], .int .i64 n] w fun e w' => e = .returned (.bool false) ∧ Below w.heap.size w w' := by
  rcases not_fit h with h | ⟨⟨h1, h2, h3, h4⟩, h5⟩
  · exact StoredFits_bad a b n w h
  · exact StoredFits_far a b n w h1 h2 h3 h4 h5
theorem sStoredFits_fit (a b n : Int) (w : World) (h : Fit a b n) : Calls Try.prog 31 #[.agg #[.int .i64 a, .int .i64 b], .int .i64 n] w fun e w' => e = .returned (.bool true) ∧ Below w.heap.size w w' := by
  obtain ⟨⟨h1, h2, h3, h4⟩, h5, h6⟩ := h
  exact sStoredFits_yes a b n w h1 h2 h3 h4 h5 h6
theorem sStoredFits_nofit (a b n : Int) (w : World) (h : ¬ Fit a b n) : Calls Try.prog 31 #[.agg #[.int .i64 a, .int .i64 b], .int .i64 n] w fun e w' => e = .returned (.bool false) ∧ Below w.heap.size w w' := by
  rcases not_fit h with h | ⟨⟨h1, h2, h3, h4⟩, h5⟩
  · exact sStoredFits_bad a b n w h
  · exact sStoredFits_far a b n w h1 h2 h3 h4 h5

end Go.Proofs.Ytffgekboieimhaa.K
