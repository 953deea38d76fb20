/- Contracts of the functions that take or return formats and spans. -/
import Derived.Test.YtlmibbkiolengaaNum
namespace Go.Proofs.Ytlmibbkiolengaa.K
open Go.RowKit

theorem toFormat_any (a b : Int) (w : World) : Calls Try.prog 17 #[.agg #[.int .i64 a, .int .i64 b]] w fun e w' => e = .returned (.agg #[.int .i64 a, .int .i64 b]) ∧
    ((w.alloc (.cells #[.int .i64 a, .int .i64 b] 26)).alloc (.cells #[.int .i64 a, .int .i64 b] 28)).alloc (.cells #[.int .i64 a, .int .i64 b] 28) = w' := by
  go_enter Try.func17, Try.ntmps17
  go_wp2
  exact bodyPost_ret (v := .agg #[.int .i64 a, .int .i64 b]) (by simp [results, Try.results17, go_sem]) rfl ⟨rfl, rfl⟩

theorem toSpan_any (a b : Int) (w : World) : Calls Try.prog 20 #[.agg #[.int .i64 a, .int .i64 b]] w fun e w' => e = .returned (.agg #[.int .i64 a, .int .i64 b]) ∧
    ((w.alloc (.cells #[.int .i64 a, .int .i64 b] 32)).alloc (.cells #[.int .i64 a, .int .i64 b] 34)).alloc (.cells #[.int .i64 a, .int .i64 b] 34) = w' := by
  go_enter Try.func20, Try.ntmps20
  go_wp2
  exact bodyPost_ret (v := .agg #[.int .i64 a, .int .i64 b]) (by simp [results, Try.results20, go_sem]) rfl ⟨rfl, rfl⟩

theorem FormatValid_yes (a b : Int) (w : World) (h1 : 1 ≤ a) (h2 : a ≤ 12) (h3 : 0 ≤ b) (h4 : b ≤ 16) : Calls Try.prog 18 #[.agg #[.int .i64 a, .int .i64 b]] w fun e w' => e = .returned (.bool true) ∧ w.alloc (.cells #[.int .i64 a, .int .i64 b] 28) = w' := by
  go_enter Try.func18, Try.ntmps18
  go_wp2
  go_ret
  exact ⟨rfl, rfl⟩
theorem FormatValid_no (a b : Int) (w : World) (h : a < 1 ∨ 12 < a ∨ b < 0 ∨ 16 < b) : Calls Try.prog 18 #[.agg #[.int .i64 a, .int .i64 b]] w fun e w' => e = .returned (.bool false) ∧ w.alloc (.cells #[.int .i64 a, .int .i64 b] 28) = w' := by
  by_cases h1 : 1 ≤ a
  · by_cases h2 : a ≤ 12
    · by_cases h3 : 0 ≤ b
      · have h4 : ¬ b ≤ 16 := by omega
        have hd : decide (b ≤ 16) = false := decide_eq_false h4
        clear h
        go_enter Try.func18, Try.ntmps18
        go_wp2
        go_ret
        exact ⟨rfl, rfl⟩
      · clear h
        go_enter Try.func18, Try.ntmps18
        go_wp2
        go_ret
        exact ⟨rfl, rfl⟩
    · clear h
      go_enter Try.func18, Try.ntmps18
      go_wp2
      go_ret
      exact ⟨rfl, rfl⟩
  · clear h
    go_enter Try.func18, Try.ntmps18
    go_wp2
    go_ret
    exact ⟨rfl, rfl⟩

theorem sFormatValid_yes (a b : Int) (w : World) (h1 : 1 ≤ a) (h2 : a ≤ 12) (h3 : 0 ≤ b) (h4 : b ≤ 16) : Calls Try.prog 16 #[.agg #[.int .i64 a, .int .i64 b]] w fun e w' => e = .returned (.bool true) ∧ w.alloc (.cells #[.int .i64 a, .int .i64 b] 28) = w' := by
  go_enter Try.func16, Try.ntmps16
  go_wp2
  go_ret
  exact ⟨rfl, rfl⟩
theorem sFormatValid_no (a b : Int) (w : World) (h : a < 1 ∨ 12 < a ∨ b < 0 ∨ 16 < b) : Calls Try.prog 16 #[.agg #[.int .i64 a, .int .i64 b]] w fun e w' => e = .returned (.bool false) ∧ w.alloc (.cells #[.int .i64 a, .int .i64 b] 28) = w' := by
  by_cases h1 : 1 ≤ a
  · by_cases h2 : a ≤ 12
    · by_cases h3 : 0 ≤ b
      · have h4 : ¬ b ≤ 16 := by omega
        have hd : decide (b ≤ 16) = false := decide_eq_false h4
        clear h
        go_enter Try.func16, Try.ntmps16
        go_wp2
        go_ret
        exact ⟨rfl, rfl⟩
      · clear h
        go_enter Try.func16, Try.ntmps16
        go_wp2
        go_ret
        exact ⟨rfl, rfl⟩
    · have hd : decide (a ≤ 12) = false := decide_eq_false h2
      clear h
      go_enter Try.func16, Try.ntmps16
      go_wp2
      go_ret
      exact ⟨rfl, rfl⟩
  · clear h
    go_enter Try.func16, Try.ntmps16
    go_wp2
    go_ret
    exact ⟨rfl, rfl⟩

theorem l4Most_in (a b : Int) (w : World) (h1 : 1 ≤ a) (h2 : a ≤ 12) (h3 : 0 ≤ b) (h4 : b ≤ 16) : Calls Try.prog 41 #[.agg #[.int .i64 a, .int .i64 b]] w fun e w' => e = .returned (.int .i64 (2 ^ (a + b).toNat - 1)) ∧ w.alloc (.cells #[.int .i64 a, .int .i64 b] 28) = w' := by
  have p1 := pow_pos' (a + b).toNat
  have p2 := pow_60 (k := a + b) (by omega)
  go_enter Try.func41, Try.ntmps41
  go_wp2
  go_ret
  exact ⟨rfl, rfl⟩

theorem l1In_yes (n lo hi : Int) (w : World) (h1 : lo ≤ n) (h2 : n ≤ hi) : Calls Try.prog 36 #[.int .i64 n, .int .i64 lo, .int .i64 hi] w fun e w' => e = .returned (.bool true) ∧ w = w' := by
  go_enter Try.func36, Try.ntmps36
  go_wp2
  go_ret
  exact ⟨rfl, rfl⟩
theorem l1In_no (n lo hi : Int) (w : World) (h : n < lo ∨ hi < n) : Calls Try.prog 36 #[.int .i64 n, .int .i64 lo, .int .i64 hi] w fun e w' => e = .returned (.bool false) ∧ w = w' := by
  by_cases h1 : lo ≤ n
  · have hd : decide (n ≤ hi) = false := decide_eq_false (by omega)
    clear h
    go_enter Try.func36, Try.ntmps36
    go_wp2
    go_ret
    exact ⟨rfl, rfl⟩
  · clear h
    go_enter Try.func36, Try.ntmps36
    go_wp2
    go_ret
    exact ⟨rfl, rfl⟩

theorem sStoredFits_yes (a b n : Int) (w : World) (h1 : 1 ≤ a) (h2 : a ≤ 12) (h3 : 0 ≤ b) (h4 : b ≤ 16) (h5 : -2 ^ (a + b).toNat ≤ n) (h6 : n ≤ 2 ^ (a + b).toNat - 1) : Calls Try.prog 32 #[.agg #[.int .i64 a, .int .i64 b], .int .i64 n] w fun e w' => e = .returned (.bool true) ∧ Below w.heap.size w w' := by
  have p1 := pow_pos' (a + b).toNat
  have p2 := pow_60 (k := a + b) (by omega)
  have e1 := IntWalk.i64_in (-(2 ^ (a + b).toNat - 1)) (by omega)
  have e2 := IntWalk.i64_in (-(2 ^ (a + b).toNat - 1) - 1) (by omega)
  go_enter Try.func32, Try.ntmps32
  go_wp2_with fail
  go_region_held3 (fun w' => w'.cell? ⟨w.heap.size, 0, none⟩ = some (.int .i64 a) ∧ w'.cell? ⟨w.heap.size, 1, none⟩ = some (.int .i64 b)) (go_keep)
    (first | (go_at_call 16; refine (sFormatValid_yes _ _ _ h1 h2 h3 h4).mono ?_; rintro e w' ⟨rfl, rfl⟩) | (go_at_call 41; refine (l4Most_in _ _ _ h1 h2 h3 h4).mono ?_; rintro e w' ⟨rfl, rfl⟩) | (go_at_call 36; refine (l1In_yes _ _ _ _ (by omega) (by omega)).mono ?_; rintro e w' ⟨rfl, rfl⟩))
  go_wp2
  go_ret
  exact ⟨rfl, (by repeat (first | exact Below.refl _ _ | refine balloc ?_ _ | refine bdrew ?_ | refine bdrewN ?_ _ | (refine bseq ?_ (by assumption))))⟩
theorem sStoredFits_far (a b n : Int) (w : World) (h1 : 1 ≤ a) (h2 : a ≤ 12) (h3 : 0 ≤ b) (h4 : b ≤ 16) (h5 : n < -2 ^ (a + b).toNat ∨ 2 ^ (a + b).toNat - 1 < n) : Calls Try.prog 32 #[.agg #[.int .i64 a, .int .i64 b], .int .i64 n] w fun e w' => e = .returned (.bool false) ∧ Below w.heap.size w w' := by
  have p1 := pow_pos' (a + b).toNat
  have p2 := pow_60 (k := a + b) (by omega)
  have e1 := IntWalk.i64_in (-(2 ^ (a + b).toNat - 1)) (by omega)
  have e2 := IntWalk.i64_in (-(2 ^ (a + b).toNat - 1) - 1) (by omega)
  have H := Lib.hid h5
  clear h5
  go_enter Try.func32, Try.ntmps32
  go_wp2_with fail
  go_region_held3 (fun w' => w'.cell? ⟨w.heap.size, 0, none⟩ = some (.int .i64 a) ∧ w'.cell? ⟨w.heap.size, 1, none⟩ = some (.int .i64 b)) (go_keep)
    (first | (go_at_call 16; refine (sFormatValid_yes _ _ _ h1 h2 h3 h4).mono ?_; rintro e w' ⟨rfl, rfl⟩) | (go_at_call 41; refine (l4Most_in _ _ _ h1 h2 h3 h4).mono ?_; rintro e w' ⟨rfl, rfl⟩) | (go_at_call 36; refine (l1In_no _ _ _ _ (by have := H.out; omega)).mono ?_; rintro e w' ⟨rfl, rfl⟩))
  go_wp2
  go_ret
  exact ⟨rfl, (by repeat (first | exact Below.refl _ _ | refine balloc ?_ _ | refine bdrew ?_ | refine bdrewN ?_ _ | (refine bseq ?_ (by assumption))))⟩
set_option maxHeartbeats 1000000 in
theorem sStoredFits_bad (a b n : Int) (w : World) (h : a < 1 ∨ 12 < a ∨ b < 0 ∨ 16 < b) : Calls Try.prog 32 #[.agg #[.int .i64 a, .int .i64 b], .int .i64 n] w fun e w' => e = .returned (.bool false) ∧ Below w.heap.size w w' := by
  have H := Lib.hid h
  clear h
  go_enter Try.func32, Try.ntmps32
  go_wp2_with fail
  refine wp_region_held_drew (S := fun w' => w'.cell? ⟨w.heap.size, 0, none⟩ = some (.int .i64 a) ∧ w'.cell? ⟨w.heap.size, 1, none⟩ = some (.int .i64 b)) (by kernel_rfl) ?_ (fun hS => ?_)
  · go_keep
  refine wpAnyH_take (i := 0) (v := .agg #[.int .i64 a, .int .i64 b]) rfl (by kernel_rfl) (by kernel_rfl) (by kernel_rfl) (fun _ _ _ h => h) (Or.inl ⟨by kernel_rfl, ?_⟩) hS ?_
  · intro w' hw
    go_simp
  (try simp only [Act.put, List.getElem_toArray, List.getElem_cons_succ, List.getElem_cons_zero, List.setIfInBounds_toArray, List.set_cons_zero, List.set_cons_succ])
  refine wpAnyH_ready (rs := [1]) (by kernel_rfl) (by simp) ?_
  refine AllReadyH.cons rfl (fun K hK => ?_) AllReadyH.nil
  go_simp
  go_at_call 16
  refine (sFormatValid_no _ _ _ H.out).mono ?_
  rintro e w' ⟨rfl, rfl⟩
  go_wp2_with fail
  refine hK.out _ _ ?_ (fun hS1 => ?_)
  · go_keep
  clear hK K
  refine wpAnyH_take (i := 2) (v := .bool false) rfl (by kernel_rfl) (by kernel_rfl) (by kernel_rfl) (fun _ _ _ h => h) (Or.inl ⟨by kernel_rfl, ?_⟩) hS1 ?_
  · intro w' _
    go_simp
  (try simp only [Act.put, List.getElem_toArray, List.getElem_cons_succ, List.getElem_cons_zero, List.setIfInBounds_toArray, List.set_cons_zero, List.set_cons_succ])
  refine wpAnyH_take (i := 3) rfl (by kernel_rfl) (by kernel_rfl) (by kernel_rfl) (fun _ _ _ h => h) (Or.inr ⟨by kernel_rfl, rfl⟩) hS1 ?_
  (try simp only [Act.put, List.getElem_toArray, List.getElem_cons_succ, List.getElem_cons_zero, List.setIfInBounds_toArray, List.set_cons_zero, List.set_cons_succ])
  refine wpAnyH_take (i := 4) rfl (by kernel_rfl) (by kernel_rfl) (by kernel_rfl) (fun _ _ _ h => h) (Or.inr ⟨by kernel_rfl, rfl⟩) hS1 ?_
  (try simp only [Act.put, List.getElem_toArray, List.getElem_cons_succ, List.getElem_cons_zero, List.setIfInBounds_toArray, List.set_cons_zero, List.set_cons_succ])
  refine wpAnyH_take (i := 5) rfl (by kernel_rfl) (by kernel_rfl) (by kernel_rfl) (fun _ _ _ h => h) (Or.inr ⟨by kernel_rfl, rfl⟩) hS1 ?_
  (try simp only [Act.put, List.getElem_toArray, List.getElem_cons_succ, List.getElem_cons_zero, List.setIfInBounds_toArray, List.set_cons_zero, List.set_cons_succ])
  refine wpAnyH_take (i := 6) rfl (by kernel_rfl) (by kernel_rfl) (by kernel_rfl) (fun _ _ _ h => h) (Or.inr ⟨by kernel_rfl, rfl⟩) hS1 ?_
  (try simp only [Act.put, List.getElem_toArray, List.getElem_cons_succ, List.getElem_cons_zero, List.setIfInBounds_toArray, List.set_cons_zero, List.set_cons_succ])
  refine wpAnyH_take (i := 7) rfl (by kernel_rfl) (by kernel_rfl) (by kernel_rfl) (fun _ _ _ h => h) (Or.inr ⟨by kernel_rfl, rfl⟩) hS1 ?_
  (try simp only [Act.put, List.getElem_toArray, List.getElem_cons_succ, List.getElem_cons_zero, List.setIfInBounds_toArray, List.set_cons_zero, List.set_cons_succ])
  refine wpAnyH_take (i := 8) rfl (by kernel_rfl) (by kernel_rfl) (by kernel_rfl) (fun _ _ _ h => h) (Or.inr ⟨by kernel_rfl, rfl⟩) hS1 ?_
  (try simp only [Act.put, List.getElem_toArray, List.getElem_cons_succ, List.getElem_cons_zero, List.setIfInBounds_toArray, List.set_cons_zero, List.set_cons_succ])
  refine wpAnyH_take (i := 9) rfl (by kernel_rfl) (by kernel_rfl) (by kernel_rfl) (fun _ _ _ h => h) (Or.inr ⟨by kernel_rfl, rfl⟩) hS1 ?_
  (try simp only [Act.put, List.getElem_toArray, List.getElem_cons_succ, List.getElem_cons_zero, List.setIfInBounds_toArray, List.set_cons_zero, List.set_cons_succ])
  refine wpAnyH_take (i := 10) rfl (by kernel_rfl) (by kernel_rfl) (by kernel_rfl) (fun _ _ _ h => h) (Or.inr ⟨by kernel_rfl, rfl⟩) hS1 ?_
  (try simp only [Act.put, List.getElem_toArray, List.getElem_cons_succ, List.getElem_cons_zero, List.setIfInBounds_toArray, List.set_cons_zero, List.set_cons_succ])
  refine wpAnyH_take (i := 11) (v := .bool false) rfl (by kernel_rfl) (by kernel_rfl) (by kernel_rfl) (fun _ _ _ h => h) (Or.inl ⟨by kernel_rfl, ?_⟩) hS1 ?_
  · intro w' _
    go_simp
  (try simp only [Act.put, List.getElem_toArray, List.getElem_cons_succ, List.getElem_cons_zero, List.setIfInBounds_toArray, List.set_cons_zero, List.set_cons_succ])
  refine wpAnyH_take (i := 12) (v := .bool false) rfl (by kernel_rfl) (by kernel_rfl) (by kernel_rfl) (fun _ _ _ h => h) (Or.inl ⟨by kernel_rfl, ?_⟩) hS1 ?_
  · intro w' _
    go_simp
  (try simp only [Act.put, List.getElem_toArray, List.getElem_cons_succ, List.getElem_cons_zero, List.setIfInBounds_toArray, List.set_cons_zero, List.set_cons_succ])
  refine wpAnyH_done (by kernel_rfl) ?_ _
  go_wp2
  go_ret
  exact ⟨rfl, (by repeat (first | exact Below.refl _ _ | refine balloc ?_ _ | refine bdrew ?_ | refine bdrewN ?_ _ | (refine bseq ?_ (by assumption))))⟩

theorem StoredFits_yes (a b n : Int) (w : World) (h1 : 1 ≤ a) (h2 : a ≤ 12) (h3 : 0 ≤ b) (h4 : b ≤ 16) (h5 : -2 ^ (a + b).toNat ≤ n) (h6 : n ≤ 2 ^ (a + b).toNat - 1) : Calls Try.prog 33 #[.agg #[.int .i64 a, .int .i64 b], .int .i64 n] w fun e w' => e = .returned (.bool true) ∧ Below w.heap.size w w' := by
  have p1 := pow_pos' (a + b).toNat
  have p2 := pow_60 (k := a + b) (by omega)
  go_enter Try.func33, Try.ntmps33
  go_wp2
  go_ret
  exact ⟨rfl, (by repeat (first | exact Below.refl _ _ | refine balloc ?_ _ | refine bdrew ?_ | refine bdrewN ?_ _ | (refine bseq ?_ (by assumption))))⟩
theorem StoredFits_far (a b n : Int) (w : World) (h1 : 1 ≤ a) (h2 : a ≤ 12) (h3 : 0 ≤ b) (h4 : b ≤ 16) (h5 : n < -2 ^ (a + b).toNat ∨ 2 ^ (a + b).toNat - 1 < n) : Calls Try.prog 33 #[.agg #[.int .i64 a, .int .i64 b], .int .i64 n] w fun e w' => e = .returned (.bool false) ∧ Below w.heap.size w w' := by
  have p1 := pow_pos' (a + b).toNat
  have p2 := pow_60 (k := a + b) (by omega)
  by_cases h6 : -2 ^ (a + b).toNat ≤ n
  · have hd : decide (n ≤ 2 ^ (a + b).toNat - 1) = false := decide_eq_false (by omega)
    clear h5
    go_enter Try.func33, Try.ntmps33
    go_wp2
    go_ret
    exact ⟨rfl, (by repeat (first | exact Below.refl _ _ | refine balloc ?_ _ | refine bdrew ?_ | refine bdrewN ?_ _ | (refine bseq ?_ (by assumption))))⟩
  · clear h5
    go_enter Try.func33, Try.ntmps33
    go_wp2
    go_ret
    exact ⟨rfl, (by repeat (first | exact Below.refl _ _ | refine balloc ?_ _ | refine bdrew ?_ | refine bdrewN ?_ _ | (refine bseq ?_ (by assumption))))⟩
theorem StoredFits_bad (a b n : Int) (w : World) (h : a < 1 ∨ 12 < a ∨ b < 0 ∨ 16 < b) : Calls Try.prog 33 #[.agg #[.int .i64 a, .int .i64 b], .int .i64 n] w fun e w' => e = .returned (.bool false) ∧ Below w.heap.size w w' := by
  have H := Lib.hid h
  clear h
  go_enter Try.func33, Try.ntmps33
  go_wp2_with (first | (go_at_call 18; refine (FormatValid_no _ _ _ H.out).mono ?_; rintro e w' ⟨rfl, rfl⟩))
  go_ret
  exact ⟨rfl, (by repeat (first | exact Below.refl _ _ | refine balloc ?_ _ | refine bdrew ?_ | refine bdrewN ?_ _ | (refine bseq ?_ (by assumption))))⟩

end Go.Proofs.Ytlmibbkiolengaa.K
