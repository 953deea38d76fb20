/- The walks of the laws on stored numbers. -/
import Derived.Test.YtffgekboieimhaaDS
import Derived.Test.YtffgekboieimhaaSqrtS
namespace Go.Proofs.Ytffgekboieimhaa.K
open Go.RowKit

theorem alive_any (w : World) : Calls Try.prog 28 #[] w fun e w' => e = .returned (.bool true) ∧ w = w' := by
  have e5 : Lib.bitLen (Int.toNat 5) = 3 := by decide
  go_enter Try.func28, Try.ntmps28
  go_wp2_with (first | (go_at_call 50; refine (BitLength_in _ _ (by omega) (by omega)).mono ?_; rintro e w' ⟨rfl, rfl⟩))
  go_ret
  exact ⟨rfl, rfl⟩
theorem sFormatValid_t (a b : Int) (w : World) (h : 1 ≤ a ∧ a ≤ 12 ∧ 0 ≤ b ∧ b ≤ 16) : Calls Try.prog 27 #[.agg #[.int .i64 a, .int .i64 b]] w fun e w' => e = .returned (.bool true) ∧ Below w.heap.size w w' :=
  (sFormatValid_yes a b w h.1 h.2.1 h.2.2.1 h.2.2.2).mono fun e w' ⟨he, hw⟩ => ⟨he, hw ▸ balloc (Below.refl _ _) _⟩
theorem sFormatValid_f (a b : Int) (w : World) (h : a < 1 ∨ 12 < a ∨ b < 0 ∨ 16 < b) : Calls Try.prog 27 #[.agg #[.int .i64 a, .int .i64 b]] w fun e w' => e = .returned (.bool false) ∧ Below w.heap.size w w' :=
  (sFormatValid_no a b w h).mono fun e w' ⟨he, hw⟩ => ⟨he, hw ▸ balloc (Below.refl _ _) _⟩
theorem fit_zero {a b n : Int} (h : Fit a b n) : Fit a b 0 := by
  have := pow_pos' (a + b).toNat
  exact ⟨h.1, by omega, by omega⟩
theorem fit_pred {a b n : Int} (h : Fit a b n) (h2 : ¬ Fit a b (-n)) : ¬ Fit a b (n - 1) := by
  intro h3
  refine h2 ⟨h.1, ?_, ?_⟩
  · have := h.2.2; omega
  · have := h3.2.1; omega
theorem cut_fit {a b s : Int} (h : Fit a b s) : cutV (2 ^ (a + b).toNat) s = s ∧ cutB (2 ^ (a + b).toNat) s = true := by
  obtain ⟨h1, h2⟩ := cut_mid h.2.1 h.2.2
  exact ⟨h1.symm, h2.symm⟩
theorem cut_nofit {a b s : Int} (hv : 1 ≤ a ∧ a ≤ 12 ∧ 0 ≤ b ∧ b ≤ 16) (h : ¬ Fit a b s) : ∃ x, cutV (2 ^ (a + b).toNat) s = x ∧ Fit a b x ∧ x ≠ s ∧ cutB (2 ^ (a + b).toNat) s = false := by
  have hp := pow_pos' (a + b).toNat
  by_cases h1 : s < -2 ^ (a + b).toNat
  · obtain ⟨e1, e2⟩ := cut_low h1
    exact ⟨_, e1.symm, ⟨hv, by omega, by omega⟩, by omega, e2.symm⟩
  · have h2 : 2 ^ (a + b).toNat - 1 < s := by
      rcases Int.lt_or_le (2 ^ (a + b).toNat - 1) s with h3 | h3
      · exact h3
      · exact absurd ⟨hv, by omega, h3⟩ h
    obtain ⟨e1, e2⟩ := cut_high hp h2
    exact ⟨_, e1.symm, ⟨hv, by omega, by omega⟩, by omega, e2.symm⟩
/-- The root of a number that is no less than 0 can be stored, if the number can. -/
theorem sqrt_fit {a b n s : Int} (h : Fit a b n) (s0 : 0 ≤ s) (s1 : s * s ≤ n * 2 ^ b.toNat) : Fit a b s := by
  obtain ⟨⟨h1, h2, h3, h4⟩, h5, h6⟩ := h
  refine ⟨⟨h1, h2, h3, h4⟩, by have := pow_pos' (a + b).toNat; omega, ?_⟩
  have hp := pow_pos' b.toNat
  have hle : (2 : Int) ^ b.toNat ≤ 2 ^ (a + b).toNat := pow_le' (by omega)
  have hP := pow_pos' (a + b).toNat
  have h7 : n * 2 ^ b.toNat ≤ (2 ^ (a + b).toNat - 1) * 2 ^ b.toNat := Int.mul_le_mul_of_nonneg_right h6 (by omega)
  have h8 : ((2 : Int) ^ (a + b).toNat - 1) * 2 ^ b.toNat < 2 ^ (a + b).toNat * 2 ^ (a + b).toNat :=
    Int.lt_of_lt_of_le (Int.mul_lt_mul_of_pos_right (by omega) hp) (Int.mul_le_mul_of_nonneg_left hle (by omega))
  have := sq_lt (s := s) (r := 2 ^ (a + b).toNat) (n := s * s) (by omega) (Int.le_refl _) (by omega)
  omega

set_option maxHeartbeats 2000000 in
theorem FnStoredFits_walk (a0 : Option Addr) (len0 cap0 : Nat) (z0 : List Int) (w : World) (w0 : IsRow .u8 w a0 len0 cap0 z0) : Calls Try.prog 9 #[.slice a0 len0 cap0] w fun e w' => e = .returned (.bool true) ∧ Below w.heap.size w w' := by
  by_cases hlen : (1048576 : Int) < (len0 : Int)
  · go_enter Try.func9, Try.ntmps9
    go_wp2
    go_ret
    exact ⟨by first | rfl | (simp; done) | (simp; omega), Below.refl _ _⟩
  · have I0 := Lib.hid w0
    clear w0
    go_enter Try.func9, Try.ntmps9
    go_wp2_with fail
    refine (DrawStoredFits_any _ _ _ _ _ I0.out).mono ?_
    rintro e w1 ⟨a, b, n, hn, rfl, hb1⟩
    unfold I64 at *
    have Q : Pair (w1.alloc (.cells #[.int .i64 a, .int .i64 b] 26)) w1.heap.size a b 26 := Pair.new w1 a b _
    have HB : Below w.heap.size w (w1.alloc (.cells #[.int .i64 a, .int .i64 b] 26)) := balloc hb1 _
    clear hb1
    go_wp2_with fail
    generalize w1.heap.size = N at *
    generalize w1.alloc (.cells #[.int .i64 a, .int .i64 b] 26) = W at *
    obtain ⟨⟨c0, c1⟩, c2, c3⟩ := Q.cells
    by_cases h : Fit a b n
    · skip
      have bn := h.bnd
      have H := Lib.hid h
      have H0 := Lib.hid (fit_zero h)
      by_cases h2 : Fit a b (-n)
      · skip
        have H2 := Lib.hid h2
        clear h h2
        go_wp2_with fail
        refine (StoredFits_fit _ _ _ _ H.out).mono ?_
        rintro e w2 ⟨rfl, hb2⟩
        clear c0 c1 c2 c3
        replace Q := Q.below hb2
        obtain ⟨⟨c0, c1⟩, c2, c3⟩ := Q.cells
        replace HB := bseq HB hb2
        clear hb2
        go_wp2_with fail
        refine (sStoredFits_fit _ _ _ _ H.out).mono ?_
        rintro e w3 ⟨rfl, hb3⟩
        clear c0 c1 c2 c3
        replace Q := Q.below hb3
        obtain ⟨⟨c0, c1⟩, c2, c3⟩ := Q.cells
        replace HB := bseq HB hb3
        clear hb3
        go_wp2_with fail
        refine (StoredFits_fit _ _ _ _ H0.out).mono ?_
        rintro e w4 ⟨rfl, hb4⟩
        clear c0 c1 c2 c3
        replace Q := Q.below hb4
        obtain ⟨⟨c0, c1⟩, c2, c3⟩ := Q.cells
        replace HB := bseq HB hb4
        clear hb4
        go_wp2_with fail
        refine (StoredFits_fit _ _ _ _ H2.out).mono ?_
        rintro e w5 ⟨rfl, hb5⟩
        clear c0 c1 c2 c3
        replace Q := Q.below hb5
        obtain ⟨⟨c0, c1⟩, c2, c3⟩ := Q.cells
        replace HB := bseq HB hb5
        clear hb5
        go_wp2
        go_ret
        exact ⟨by first | rfl | (simp; done) | (simp; omega), HB⟩
      · skip
        have H2 := Lib.hid h2
        have H3 := Lib.hid (fit_pred h h2)
        clear h h2
        go_wp2_with fail
        refine (StoredFits_fit _ _ _ _ H.out).mono ?_
        rintro e w2 ⟨rfl, hb2⟩
        clear c0 c1 c2 c3
        replace Q := Q.below hb2
        obtain ⟨⟨c0, c1⟩, c2, c3⟩ := Q.cells
        replace HB := bseq HB hb2
        clear hb2
        go_wp2_with fail
        refine (sStoredFits_fit _ _ _ _ H.out).mono ?_
        rintro e w3 ⟨rfl, hb3⟩
        clear c0 c1 c2 c3
        replace Q := Q.below hb3
        obtain ⟨⟨c0, c1⟩, c2, c3⟩ := Q.cells
        replace HB := bseq HB hb3
        clear hb3
        go_wp2_with fail
        refine (StoredFits_fit _ _ _ _ H0.out).mono ?_
        rintro e w4 ⟨rfl, hb4⟩
        clear c0 c1 c2 c3
        replace Q := Q.below hb4
        obtain ⟨⟨c0, c1⟩, c2, c3⟩ := Q.cells
        replace HB := bseq HB hb4
        clear hb4
        go_wp2_with fail
        refine (StoredFits_nofit _ _ _ _ H2.out).mono ?_
        rintro e w5 ⟨rfl, hb5⟩
        clear c0 c1 c2 c3
        replace Q := Q.below hb5
        obtain ⟨⟨c0, c1⟩, c2, c3⟩ := Q.cells
        replace HB := bseq HB hb5
        clear hb5
        go_wp2_with fail
        refine (StoredFits_nofit _ _ _ _ H3.out).mono ?_
        rintro e w6 ⟨rfl, hb6⟩
        clear c0 c1 c2 c3
        replace Q := Q.below hb6
        obtain ⟨⟨c0, c1⟩, c2, c3⟩ := Q.cells
        replace HB := bseq HB hb6
        clear hb6
        go_wp2
        go_ret
        exact ⟨by first | rfl | (simp; done) | (simp; omega), HB⟩
    · skip
      have H := Lib.hid h
      clear h
      go_wp2_with fail
      refine (StoredFits_nofit _ _ _ _ H.out).mono ?_
      rintro e w2 ⟨rfl, hb2⟩
      clear c0 c1 c2 c3
      replace Q := Q.below hb2
      obtain ⟨⟨c0, c1⟩, c2, c3⟩ := Q.cells
      replace HB := bseq HB hb2
      clear hb2
      go_wp2_with fail
      refine (sStoredFits_nofit _ _ _ _ H.out).mono ?_
      rintro e w3 ⟨rfl, hb3⟩
      clear c0 c1 c2 c3
      replace Q := Q.below hb3
      obtain ⟨⟨c0, c1⟩, c2, c3⟩ := Q.cells
      replace HB := bseq HB hb3
      clear hb3
      go_wp2_with fail
      refine (alive_any _).mono ?_
      rintro e w' ⟨rfl, rfl⟩
      go_wp2
      go_ret
      exact ⟨by first | rfl | (simp; done) | (simp; omega), HB⟩

set_option maxHeartbeats 2000000 in
theorem FnCutStored_walk (a0 : Option Addr) (len0 cap0 : Nat) (z0 : List Int) (w : World) (w0 : IsRow .u8 w a0 len0 cap0 z0) : Calls Try.prog 10 #[.slice a0 len0 cap0] w fun e w' => e = .returned (.bool true) ∧ Below w.heap.size w w' := by
  by_cases hlen : (1048576 : Int) < (len0 : Int)
  · go_enter Try.func10, Try.ntmps10
    go_wp2
    go_ret
    exact ⟨by first | rfl | (simp; done) | (simp; omega), Below.refl _ _⟩
  · have I0 := Lib.hid w0
    clear w0
    go_enter Try.func10, Try.ntmps10
    go_wp2_with fail
    refine (DrawCutStored_any _ _ _ _ _ I0.out).mono ?_
    rintro e w1 ⟨a, b, n, hn, rfl, hb1⟩
    unfold I64 at *
    have Q : Pair (w1.alloc (.cells #[.int .i64 a, .int .i64 b] 26)) w1.heap.size a b 26 := Pair.new w1 a b _
    have HB : Below w.heap.size w (w1.alloc (.cells #[.int .i64 a, .int .i64 b] 26)) := balloc hb1 _
    clear hb1
    go_wp2_with fail
    generalize w1.heap.size = N at *
    generalize w1.alloc (.cells #[.int .i64 a, .int .i64 b] 26) = W at *
    obtain ⟨⟨c0, c1⟩, c2, c3⟩ := Q.cells
    by_cases hv : 1 ≤ a ∧ a ≤ 12 ∧ 0 ≤ b ∧ b ≤ 16
    · skip
      have HV := Lib.hid hv
      obtain ⟨v1, v2, v3, v4⟩ := hv
      by_cases h : Fit a b n
      · skip
        have e := cut_fit h
        have K1 : Hid (∀ w, Calls Try.prog 16 #[.agg #[.int .i64 a, .int .i64 b], .int .i64 (n)] w fun e w' => e = .returned (.tuple #[.int .i64 n, .bool true]) ∧ Below w.heap.size w w') := Lib.hid fun w => by have h := CutStored_in a b n w v1 v2 v3 v4; rw [e.1, e.2] at h; exact h
        have K2 : Hid (∀ w, Calls Try.prog 14 #[.agg #[.int .i64 a, .int .i64 b], .int .i64 (n)] w fun e w' => e = .returned (.tuple #[.int .i64 n, .bool true]) ∧ Below w.heap.size w w') := Lib.hid fun w => by have h := sCutStored_in a b n w v1 v2 v3 v4; rw [e.1, e.2] at h; exact h
        have H := Lib.hid h
        clear h e v1 v2 v3 v4
        go_wp2_with fail
        refine (K1.out _).mono ?_
        rintro e w2 ⟨rfl, hb2⟩
        clear c0 c1 c2 c3
        replace Q := Q.below hb2
        obtain ⟨⟨c0, c1⟩, c2, c3⟩ := Q.cells
        replace HB := bseq HB hb2
        clear hb2
        go_wp2_with fail
        refine (K2.out _).mono ?_
        rintro e w3 ⟨rfl, hb3⟩
        clear c0 c1 c2 c3
        replace Q := Q.below hb3
        obtain ⟨⟨c0, c1⟩, c2, c3⟩ := Q.cells
        replace HB := bseq HB hb3
        clear hb3
        go_wp2_with fail
        refine (sFormatValid_t _ _ _ HV.out).mono ?_
        rintro e w4 ⟨rfl, hb4⟩
        clear c0 c1 c2 c3
        replace Q := Q.below hb4
        obtain ⟨⟨c0, c1⟩, c2, c3⟩ := Q.cells
        replace HB := bseq HB hb4
        clear hb4
        go_wp2_with fail
        refine (K1.out _).mono ?_
        rintro e w5 ⟨rfl, hb5⟩
        clear c0 c1 c2 c3
        replace Q := Q.below hb5
        obtain ⟨⟨c0, c1⟩, c2, c3⟩ := Q.cells
        replace HB := bseq HB hb5
        clear hb5
        go_wp2_with fail
        refine (StoredFits_fit _ _ _ _ H.out).mono ?_
        rintro e w6 ⟨rfl, hb6⟩
        clear c0 c1 c2 c3
        replace Q := Q.below hb6
        obtain ⟨⟨c0, c1⟩, c2, c3⟩ := Q.cells
        replace HB := bseq HB hb6
        clear hb6
        go_wp2_with fail
        refine (StoredFits_fit _ _ _ _ H.out).mono ?_
        rintro e w7 ⟨rfl, hb7⟩
        clear c0 c1 c2 c3
        replace Q := Q.below hb7
        obtain ⟨⟨c0, c1⟩, c2, c3⟩ := Q.cells
        replace HB := bseq HB hb7
        clear hb7
        go_wp2
        go_ret
        exact ⟨by first | rfl | (simp; done) | (simp; omega), HB⟩
      · skip
        obtain ⟨x, e1, hx, hne, e2⟩ := cut_nofit HV.out h
        have e := cut_fit hx
        have K1 : Hid (∀ w, Calls Try.prog 16 #[.agg #[.int .i64 a, .int .i64 b], .int .i64 (n)] w fun e w' => e = .returned (.tuple #[.int .i64 x, .bool false]) ∧ Below w.heap.size w w') := Lib.hid fun w => by have h := CutStored_in a b n w v1 v2 v3 v4; rw [e1, e2] at h; exact h
        have K2 : Hid (∀ w, Calls Try.prog 14 #[.agg #[.int .i64 a, .int .i64 b], .int .i64 (n)] w fun e w' => e = .returned (.tuple #[.int .i64 x, .bool false]) ∧ Below w.heap.size w w') := Lib.hid fun w => by have h := sCutStored_in a b n w v1 v2 v3 v4; rw [e1, e2] at h; exact h
        have K3 : Hid (∀ w, Calls Try.prog 16 #[.agg #[.int .i64 a, .int .i64 b], .int .i64 (x)] w fun e w' => e = .returned (.tuple #[.int .i64 x, .bool true]) ∧ Below w.heap.size w w') := Lib.hid fun w => by have h := CutStored_in a b x w v1 v2 v3 v4; rw [e.1, e.2] at h; exact h
        have H := Lib.hid h
        have HX := Lib.hid hx
        have bx := hx.bnd
        clear h hx e e1 e2 v1 v2 v3 v4
        go_wp2_with fail
        refine (K1.out _).mono ?_
        rintro e w2 ⟨rfl, hb2⟩
        clear c0 c1 c2 c3
        replace Q := Q.below hb2
        obtain ⟨⟨c0, c1⟩, c2, c3⟩ := Q.cells
        replace HB := bseq HB hb2
        clear hb2
        go_wp2_with fail
        refine (K2.out _).mono ?_
        rintro e w3 ⟨rfl, hb3⟩
        clear c0 c1 c2 c3
        replace Q := Q.below hb3
        obtain ⟨⟨c0, c1⟩, c2, c3⟩ := Q.cells
        replace HB := bseq HB hb3
        clear hb3
        go_wp2_with fail
        refine (sFormatValid_t _ _ _ HV.out).mono ?_
        rintro e w4 ⟨rfl, hb4⟩
        clear c0 c1 c2 c3
        replace Q := Q.below hb4
        obtain ⟨⟨c0, c1⟩, c2, c3⟩ := Q.cells
        replace HB := bseq HB hb4
        clear hb4
        go_wp2_with fail
        refine (K3.out _).mono ?_
        rintro e w5 ⟨rfl, hb5⟩
        clear c0 c1 c2 c3
        replace Q := Q.below hb5
        obtain ⟨⟨c0, c1⟩, c2, c3⟩ := Q.cells
        replace HB := bseq HB hb5
        clear hb5
        go_wp2_with fail
        refine (StoredFits_fit _ _ _ _ HX.out).mono ?_
        rintro e w6 ⟨rfl, hb6⟩
        clear c0 c1 c2 c3
        replace Q := Q.below hb6
        obtain ⟨⟨c0, c1⟩, c2, c3⟩ := Q.cells
        replace HB := bseq HB hb6
        clear hb6
        go_wp2_with fail
        refine (StoredFits_nofit _ _ _ _ H.out).mono ?_
        rintro e w7 ⟨rfl, hb7⟩
        clear c0 c1 c2 c3
        replace Q := Q.below hb7
        obtain ⟨⟨c0, c1⟩, c2, c3⟩ := Q.cells
        replace HB := bseq HB hb7
        clear hb7
        go_wp2
        go_ret
        exact ⟨by first | rfl | (simp; done) | (simp; omega), HB⟩
    · skip
      have HV : Hid (a < 1 ∨ 12 < a ∨ b < 0 ∨ 16 < b) := Lib.hid (by omega)
      clear hv
      go_wp2_with fail
      refine (CutStored_bad _ _ _ _ HV.out).mono ?_
      rintro e w2 ⟨rfl, hb2⟩
      clear c0 c1 c2 c3
      replace Q := Q.below hb2
      obtain ⟨⟨c0, c1⟩, c2, c3⟩ := Q.cells
      replace HB := bseq HB hb2
      clear hb2
      go_wp2_with fail
      refine (sCutStored_bad _ _ _ _ HV.out).mono ?_
      rintro e w3 ⟨rfl, hb3⟩
      clear c0 c1 c2 c3
      replace Q := Q.below hb3
      obtain ⟨⟨c0, c1⟩, c2, c3⟩ := Q.cells
      replace HB := bseq HB hb3
      clear hb3
      go_wp2_with fail
      refine (sFormatValid_f _ _ _ HV.out).mono ?_
      rintro e w4 ⟨rfl, hb4⟩
      clear c0 c1 c2 c3
      replace Q := Q.below hb4
      obtain ⟨⟨c0, c1⟩, c2, c3⟩ := Q.cells
      replace HB := bseq HB hb4
      clear hb4
      go_wp2_with fail
      refine (alive_any _).mono ?_
      rintro e w' ⟨rfl, rfl⟩
      go_wp2
      go_ret
      exact ⟨by first | rfl | (simp; done) | (simp; omega), HB⟩

set_option maxHeartbeats 2000000 in
theorem FnAddStored_walk (a0 : Option Addr) (len0 cap0 : Nat) (z0 : List Int) (w : World) (w0 : IsRow .u8 w a0 len0 cap0 z0) : Calls Try.prog 12 #[.slice a0 len0 cap0] w fun e w' => e = .returned (.bool true) ∧ Below w.heap.size w w' := by
  by_cases hlen : (1048576 : Int) < (len0 : Int)
  · go_enter Try.func12, Try.ntmps12
    go_wp2
    go_ret
    exact ⟨by first | rfl | (simp; done) | (simp; omega), Below.refl _ _⟩
  · have I0 := Lib.hid w0
    clear w0
    go_enter Try.func12, Try.ntmps12
    go_wp2_with fail
    refine (DrawAddStored_any _ _ _ _ _ I0.out).mono ?_
    rintro e w1 ⟨a, b, n, m, hn, hm, rfl, hb1⟩
    unfold I64 at *
    have Q : Pair (w1.alloc (.cells #[.int .i64 a, .int .i64 b] 26)) w1.heap.size a b 26 := Pair.new w1 a b _
    have HB : Below w.heap.size w (w1.alloc (.cells #[.int .i64 a, .int .i64 b] 26)) := balloc hb1 _
    clear hb1
    go_wp2_with fail
    generalize w1.heap.size = N at *
    generalize w1.alloc (.cells #[.int .i64 a, .int .i64 b] 26) = W at *
    obtain ⟨⟨c0, c1⟩, c2, c3⟩ := Q.cells
    by_cases h : Fit a b n ∧ Fit a b m
    · skip
      obtain ⟨h1, h2⟩ := h
      have H1 := Lib.hid h1
      have H2 := Lib.hid h2
      have b1 := h1.bnd
      have b2 := h2.bnd
      have ec := Int.add_comm m n
      have h0 := fit_zero h1
      have e0 := cut_fit h1
      have K0 : Hid (∀ w, Calls Try.prog 18 #[.agg #[.int .i64 a, .int .i64 b], .int .i64 (n), .int .i64 (0)] w fun e w' => e = .returned (.tuple #[.int .i64 n, .bool true]) ∧ Below w.heap.size w w') := Lib.hid fun w => by have h := AddStored_in a b n 0 w h1 h0; rw [Int.add_zero, e0.1, e0.2] at h; exact h
      by_cases hs : Fit a b (n + m)
      · skip
        have e := cut_fit hs
        have K1 : Hid (∀ w, Calls Try.prog 18 #[.agg #[.int .i64 a, .int .i64 b], .int .i64 (n), .int .i64 (m)] w fun e w' => e = .returned (.tuple #[.int .i64 (n + m), .bool true]) ∧ Below w.heap.size w w') := Lib.hid fun w => by have h := AddStored_in a b n m w h1 h2; rw [e.1, e.2] at h; exact h
        have K2 : Hid (∀ w, Calls Try.prog 17 #[.agg #[.int .i64 a, .int .i64 b], .int .i64 (n), .int .i64 (m)] w fun e w' => e = .returned (.tuple #[.int .i64 (n + m), .bool true]) ∧ Below w.heap.size w w') := Lib.hid fun w => by have h := sAddStored_in a b n m w h1 h2; rw [e.1, e.2] at h; exact h
        have K3 : Hid (∀ w, Calls Try.prog 18 #[.agg #[.int .i64 a, .int .i64 b], .int .i64 (m), .int .i64 (n)] w fun e w' => e = .returned (.tuple #[.int .i64 (n + m), .bool true]) ∧ Below w.heap.size w w') := Lib.hid fun w => by have h := AddStored_in a b m n w h2 h1; rw [ec, e.1, e.2] at h; exact h
        have K4 : Hid (∀ w, Calls Try.prog 20 #[.agg #[.int .i64 a, .int .i64 b], .int .i64 (n + m), .int .i64 (m)] w fun e w' => e = .returned (.tuple #[.int .i64 n, .bool true]) ∧ Below w.heap.size w w') := Lib.hid fun w => by have h := SubStored_in a b (n + m) m w hs h2; rw [Int.add_sub_cancel, e0.1, e0.2] at h; exact h
        have HS := Lib.hid hs
        have bs := hs.bnd
        clear ec h0 e0 e hs h1 h2
        go_wp2_with fail
        refine (K1.out _).mono ?_
        rintro e w2 ⟨rfl, hb2⟩
        clear c0 c1 c2 c3
        replace Q := Q.below hb2
        obtain ⟨⟨c0, c1⟩, c2, c3⟩ := Q.cells
        replace HB := bseq HB hb2
        clear hb2
        go_wp2_with fail
        refine (K2.out _).mono ?_
        rintro e w3 ⟨rfl, hb3⟩
        clear c0 c1 c2 c3
        replace Q := Q.below hb3
        obtain ⟨⟨c0, c1⟩, c2, c3⟩ := Q.cells
        replace HB := bseq HB hb3
        clear hb3
        go_wp2_with fail
        refine (K3.out _).mono ?_
        rintro e w4 ⟨rfl, hb4⟩
        clear c0 c1 c2 c3
        replace Q := Q.below hb4
        obtain ⟨⟨c0, c1⟩, c2, c3⟩ := Q.cells
        replace HB := bseq HB hb4
        clear hb4
        go_wp2_with fail
        refine (sStoredFits_fit _ _ _ _ H1.out).mono ?_
        rintro e w5 ⟨rfl, hb5⟩
        clear c0 c1 c2 c3
        replace Q := Q.below hb5
        obtain ⟨⟨c0, c1⟩, c2, c3⟩ := Q.cells
        replace HB := bseq HB hb5
        clear hb5
        go_wp2_with fail
        refine (sStoredFits_fit _ _ _ _ H2.out).mono ?_
        rintro e w6 ⟨rfl, hb6⟩
        clear c0 c1 c2 c3
        replace Q := Q.below hb6
        obtain ⟨⟨c0, c1⟩, c2, c3⟩ := Q.cells
        replace HB := bseq HB hb6
        clear hb6
        go_wp2_with fail
        refine (K4.out _).mono ?_
        rintro e w7 ⟨rfl, hb7⟩
        clear c0 c1 c2 c3
        replace Q := Q.below hb7
        obtain ⟨⟨c0, c1⟩, c2, c3⟩ := Q.cells
        replace HB := bseq HB hb7
        clear hb7
        go_wp2_with fail
        refine (K0.out _).mono ?_
        rintro e w8 ⟨rfl, hb8⟩
        clear c0 c1 c2 c3
        replace Q := Q.below hb8
        obtain ⟨⟨c0, c1⟩, c2, c3⟩ := Q.cells
        replace HB := bseq HB hb8
        clear hb8
        go_wp2_with fail
        refine (StoredFits_fit _ _ _ _ HS.out).mono ?_
        rintro e w9 ⟨rfl, hb9⟩
        clear c0 c1 c2 c3
        replace Q := Q.below hb9
        obtain ⟨⟨c0, c1⟩, c2, c3⟩ := Q.cells
        replace HB := bseq HB hb9
        clear hb9
        go_wp2
        go_ret
        exact ⟨by first | rfl | (simp; done) | (simp; omega), HB⟩
      · skip
        obtain ⟨x, e1, hx, hne, e2⟩ := cut_nofit h1.valid hs
        have K1 : Hid (∀ w, Calls Try.prog 18 #[.agg #[.int .i64 a, .int .i64 b], .int .i64 (n), .int .i64 (m)] w fun e w' => e = .returned (.tuple #[.int .i64 x, .bool false]) ∧ Below w.heap.size w w') := Lib.hid fun w => by have h := AddStored_in a b n m w h1 h2; rw [e1, e2] at h; exact h
        have K2 : Hid (∀ w, Calls Try.prog 17 #[.agg #[.int .i64 a, .int .i64 b], .int .i64 (n), .int .i64 (m)] w fun e w' => e = .returned (.tuple #[.int .i64 x, .bool false]) ∧ Below w.heap.size w w') := Lib.hid fun w => by have h := sAddStored_in a b n m w h1 h2; rw [e1, e2] at h; exact h
        have K3 : Hid (∀ w, Calls Try.prog 18 #[.agg #[.int .i64 a, .int .i64 b], .int .i64 (m), .int .i64 (n)] w fun e w' => e = .returned (.tuple #[.int .i64 x, .bool false]) ∧ Below w.heap.size w w') := Lib.hid fun w => by have h := AddStored_in a b m n w h2 h1; rw [ec, e1, e2] at h; exact h
        obtain ⟨y, ey⟩ : ∃ y, cutV (2 ^ (a + b).toNat) (x - m) = y := ⟨_, rfl⟩
        obtain ⟨g, eg⟩ : ∃ g, cutB (2 ^ (a + b).toNat) (x - m) = g := ⟨_, rfl⟩
        have K4 : Hid (∀ w, Calls Try.prog 20 #[.agg #[.int .i64 a, .int .i64 b], .int .i64 (x), .int .i64 (m)] w fun e w' => e = .returned (.tuple #[.int .i64 y, .bool g]) ∧ Below w.heap.size w w') := Lib.hid fun w => by have h := SubStored_in a b x m w hx h2; rw [ey, eg] at h; exact h
        have HX := Lib.hid hx
        have bx := hx.bnd
        clear ec h0 e0 hs h1 h2 e1 e2 ey eg hx hne
        go_wp2_with fail
        refine (K1.out _).mono ?_
        rintro e w2 ⟨rfl, hb2⟩
        clear c0 c1 c2 c3
        replace Q := Q.below hb2
        obtain ⟨⟨c0, c1⟩, c2, c3⟩ := Q.cells
        replace HB := bseq HB hb2
        clear hb2
        go_wp2_with fail
        refine (K2.out _).mono ?_
        rintro e w3 ⟨rfl, hb3⟩
        clear c0 c1 c2 c3
        replace Q := Q.below hb3
        obtain ⟨⟨c0, c1⟩, c2, c3⟩ := Q.cells
        replace HB := bseq HB hb3
        clear hb3
        go_wp2_with fail
        refine (K3.out _).mono ?_
        rintro e w4 ⟨rfl, hb4⟩
        clear c0 c1 c2 c3
        replace Q := Q.below hb4
        obtain ⟨⟨c0, c1⟩, c2, c3⟩ := Q.cells
        replace HB := bseq HB hb4
        clear hb4
        go_wp2_with fail
        refine (sStoredFits_fit _ _ _ _ H1.out).mono ?_
        rintro e w5 ⟨rfl, hb5⟩
        clear c0 c1 c2 c3
        replace Q := Q.below hb5
        obtain ⟨⟨c0, c1⟩, c2, c3⟩ := Q.cells
        replace HB := bseq HB hb5
        clear hb5
        go_wp2_with fail
        refine (sStoredFits_fit _ _ _ _ H2.out).mono ?_
        rintro e w6 ⟨rfl, hb6⟩
        clear c0 c1 c2 c3
        replace Q := Q.below hb6
        obtain ⟨⟨c0, c1⟩, c2, c3⟩ := Q.cells
        replace HB := bseq HB hb6
        clear hb6
        go_wp2_with fail
        refine (K4.out _).mono ?_
        rintro e w7 ⟨rfl, hb7⟩
        clear c0 c1 c2 c3
        replace Q := Q.below hb7
        obtain ⟨⟨c0, c1⟩, c2, c3⟩ := Q.cells
        replace HB := bseq HB hb7
        clear hb7
        go_wp2_with fail
        refine (K0.out _).mono ?_
        rintro e w8 ⟨rfl, hb8⟩
        clear c0 c1 c2 c3
        replace Q := Q.below hb8
        obtain ⟨⟨c0, c1⟩, c2, c3⟩ := Q.cells
        replace HB := bseq HB hb8
        clear hb8
        go_wp2_with fail
        refine (StoredFits_fit _ _ _ _ HX.out).mono ?_
        rintro e w9 ⟨rfl, hb9⟩
        clear c0 c1 c2 c3
        replace Q := Q.below hb9
        obtain ⟨⟨c0, c1⟩, c2, c3⟩ := Q.cells
        replace HB := bseq HB hb9
        clear hb9
        go_wp2
        go_ret
        exact ⟨by first | rfl | (simp; done) | (simp; omega), HB⟩
    · skip
      have H : Hid (¬ Fit a b n ∨ ¬ Fit a b m) := Lib.hid (by by_cases h1 : Fit a b n; exact .inr (fun h2 => h ⟨h1, h2⟩); exact .inl h1)
      have H' : Hid (¬ Fit a b m ∨ ¬ Fit a b n) := Lib.hid (H.out.symm)
      clear h
      by_cases h1 : Fit a b n
      · skip
        have H1 := Lib.hid h1
        have H2 : Hid (¬ Fit a b m) := Lib.hid (H.out.resolve_left (fun h => h h1))
        clear h1
        go_wp2_with fail
        refine (AddStored_no _ _ _ _ _ H.out).mono ?_
        rintro e w2 ⟨rfl, hb2⟩
        clear c0 c1 c2 c3
        replace Q := Q.below hb2
        obtain ⟨⟨c0, c1⟩, c2, c3⟩ := Q.cells
        replace HB := bseq HB hb2
        clear hb2
        go_wp2_with fail
        refine (sAddStored_no _ _ _ _ _ H.out).mono ?_
        rintro e w3 ⟨rfl, hb3⟩
        clear c0 c1 c2 c3
        replace Q := Q.below hb3
        obtain ⟨⟨c0, c1⟩, c2, c3⟩ := Q.cells
        replace HB := bseq HB hb3
        clear hb3
        go_wp2_with fail
        refine (AddStored_no _ _ _ _ _ H'.out).mono ?_
        rintro e w4 ⟨rfl, hb4⟩
        clear c0 c1 c2 c3
        replace Q := Q.below hb4
        obtain ⟨⟨c0, c1⟩, c2, c3⟩ := Q.cells
        replace HB := bseq HB hb4
        clear hb4
        go_wp2_with fail
        refine (sStoredFits_fit _ _ _ _ H1.out).mono ?_
        rintro e w5 ⟨rfl, hb5⟩
        clear c0 c1 c2 c3
        replace Q := Q.below hb5
        obtain ⟨⟨c0, c1⟩, c2, c3⟩ := Q.cells
        replace HB := bseq HB hb5
        clear hb5
        go_wp2_with fail
        refine (sStoredFits_nofit _ _ _ _ H2.out).mono ?_
        rintro e w6 ⟨rfl, hb6⟩
        clear c0 c1 c2 c3
        replace Q := Q.below hb6
        obtain ⟨⟨c0, c1⟩, c2, c3⟩ := Q.cells
        replace HB := bseq HB hb6
        clear hb6
        go_wp2_with fail
        refine (alive_any _).mono ?_
        rintro e w' ⟨rfl, rfl⟩
        go_wp2
        go_ret
        exact ⟨by first | rfl | (simp; done) | (simp; omega), HB⟩
      · skip
        have H1 := Lib.hid h1
        clear h1
        go_wp2_with fail
        refine (AddStored_no _ _ _ _ _ H.out).mono ?_
        rintro e w2 ⟨rfl, hb2⟩
        clear c0 c1 c2 c3
        replace Q := Q.below hb2
        obtain ⟨⟨c0, c1⟩, c2, c3⟩ := Q.cells
        replace HB := bseq HB hb2
        clear hb2
        go_wp2_with fail
        refine (sAddStored_no _ _ _ _ _ H.out).mono ?_
        rintro e w3 ⟨rfl, hb3⟩
        clear c0 c1 c2 c3
        replace Q := Q.below hb3
        obtain ⟨⟨c0, c1⟩, c2, c3⟩ := Q.cells
        replace HB := bseq HB hb3
        clear hb3
        go_wp2_with fail
        refine (AddStored_no _ _ _ _ _ H'.out).mono ?_
        rintro e w4 ⟨rfl, hb4⟩
        clear c0 c1 c2 c3
        replace Q := Q.below hb4
        obtain ⟨⟨c0, c1⟩, c2, c3⟩ := Q.cells
        replace HB := bseq HB hb4
        clear hb4
        go_wp2_with fail
        refine (sStoredFits_nofit _ _ _ _ H1.out).mono ?_
        rintro e w5 ⟨rfl, hb5⟩
        clear c0 c1 c2 c3
        replace Q := Q.below hb5
        obtain ⟨⟨c0, c1⟩, c2, c3⟩ := Q.cells
        replace HB := bseq HB hb5
        clear hb5
        go_wp2_with fail
        refine (alive_any _).mono ?_
        rintro e w' ⟨rfl, rfl⟩
        go_wp2
        go_ret
        exact ⟨by first | rfl | (simp; done) | (simp; omega), HB⟩

set_option maxHeartbeats 2000000 in
theorem FnSubStored_walk (a0 : Option Addr) (len0 cap0 : Nat) (z0 : List Int) (w : World) (w0 : IsRow .u8 w a0 len0 cap0 z0) : Calls Try.prog 11 #[.slice a0 len0 cap0] w fun e w' => e = .returned (.bool true) ∧ Below w.heap.size w w' := by
  by_cases hlen : (1048576 : Int) < (len0 : Int)
  · go_enter Try.func11, Try.ntmps11
    go_wp2
    go_ret
    exact ⟨by first | rfl | (simp; done) | (simp; omega), Below.refl _ _⟩
  · have I0 := Lib.hid w0
    clear w0
    go_enter Try.func11, Try.ntmps11
    go_wp2_with fail
    refine (DrawSubStored_any _ _ _ _ _ I0.out).mono ?_
    rintro e w1 ⟨a, b, n, m, hn, hm, rfl, hb1⟩
    unfold I64 at *
    have Q : Pair (w1.alloc (.cells #[.int .i64 a, .int .i64 b] 26)) w1.heap.size a b 26 := Pair.new w1 a b _
    have HB : Below w.heap.size w (w1.alloc (.cells #[.int .i64 a, .int .i64 b] 26)) := balloc hb1 _
    clear hb1
    go_wp2_with fail
    generalize w1.heap.size = N at *
    generalize w1.alloc (.cells #[.int .i64 a, .int .i64 b] 26) = W at *
    obtain ⟨⟨c0, c1⟩, c2, c3⟩ := Q.cells
    by_cases h : Fit a b n ∧ Fit a b m
    · skip
      obtain ⟨h1, h2⟩ := h
      have H1 := Lib.hid h1
      have H2 := Lib.hid h2
      have b1 := h1.bnd
      have b2 := h2.bnd
      have e0 := cut_fit (fit_zero h1)
      have K0 : Hid (∀ w, Calls Try.prog 20 #[.agg #[.int .i64 a, .int .i64 b], .int .i64 (n), .int .i64 (n)] w fun e w' => e = .returned (.tuple #[.int .i64 0, .bool true]) ∧ Below w.heap.size w w') := Lib.hid fun w => by have h := SubStored_in a b n n w h1 h1; rw [Int.sub_self, e0.1, e0.2] at h; exact h
      by_cases hs : Fit a b (n - m)
      · skip
        have e := cut_fit hs
        have K1 : Hid (∀ w, Calls Try.prog 20 #[.agg #[.int .i64 a, .int .i64 b], .int .i64 (n), .int .i64 (m)] w fun e w' => e = .returned (.tuple #[.int .i64 (n - m), .bool true]) ∧ Below w.heap.size w w') := Lib.hid fun w => by have h := SubStored_in a b n m w h1 h2; rw [e.1, e.2] at h; exact h
        have K2 : Hid (∀ w, Calls Try.prog 19 #[.agg #[.int .i64 a, .int .i64 b], .int .i64 (n), .int .i64 (m)] w fun e w' => e = .returned (.tuple #[.int .i64 (n - m), .bool true]) ∧ Below w.heap.size w w') := Lib.hid fun w => by have h := sSubStored_in a b n m w h1 h2; rw [e.1, e.2] at h; exact h
        have HS := Lib.hid hs
        have bs := hs.bnd
        by_cases ht : Fit a b (m - n)
        · skip
          have e' := cut_fit ht
          have K3 : Hid (∀ w, Calls Try.prog 20 #[.agg #[.int .i64 a, .int .i64 b], .int .i64 (m), .int .i64 (n)] w fun e w' => e = .returned (.tuple #[.int .i64 (m - n), .bool true]) ∧ Below w.heap.size w w') := Lib.hid fun w => by have h := SubStored_in a b m n w h2 h1; rw [e'.1, e'.2] at h; exact h
          clear e0 e hs ht e' h1 h2
          go_wp2_with fail
          refine (K1.out _).mono ?_
          rintro e w2 ⟨rfl, hb2⟩
          clear c0 c1 c2 c3
          replace Q := Q.below hb2
          obtain ⟨⟨c0, c1⟩, c2, c3⟩ := Q.cells
          replace HB := bseq HB hb2
          clear hb2
          go_wp2_with fail
          refine (K2.out _).mono ?_
          rintro e w3 ⟨rfl, hb3⟩
          clear c0 c1 c2 c3
          replace Q := Q.below hb3
          obtain ⟨⟨c0, c1⟩, c2, c3⟩ := Q.cells
          replace HB := bseq HB hb3
          clear hb3
          go_wp2_with fail
          refine (sStoredFits_fit _ _ _ _ H1.out).mono ?_
          rintro e w4 ⟨rfl, hb4⟩
          clear c0 c1 c2 c3
          replace Q := Q.below hb4
          obtain ⟨⟨c0, c1⟩, c2, c3⟩ := Q.cells
          replace HB := bseq HB hb4
          clear hb4
          go_wp2_with fail
          refine (sStoredFits_fit _ _ _ _ H2.out).mono ?_
          rintro e w5 ⟨rfl, hb5⟩
          clear c0 c1 c2 c3
          replace Q := Q.below hb5
          obtain ⟨⟨c0, c1⟩, c2, c3⟩ := Q.cells
          replace HB := bseq HB hb5
          clear hb5
          go_wp2_with fail
          refine (K3.out _).mono ?_
          rintro e w6 ⟨rfl, hb6⟩
          clear c0 c1 c2 c3
          replace Q := Q.below hb6
          obtain ⟨⟨c0, c1⟩, c2, c3⟩ := Q.cells
          replace HB := bseq HB hb6
          clear hb6
          go_wp2_with fail
          refine (K0.out _).mono ?_
          rintro e w7 ⟨rfl, hb7⟩
          clear c0 c1 c2 c3
          replace Q := Q.below hb7
          obtain ⟨⟨c0, c1⟩, c2, c3⟩ := Q.cells
          replace HB := bseq HB hb7
          clear hb7
          go_wp2_with fail
          refine (StoredFits_fit _ _ _ _ HS.out).mono ?_
          rintro e w8 ⟨rfl, hb8⟩
          clear c0 c1 c2 c3
          replace Q := Q.below hb8
          obtain ⟨⟨c0, c1⟩, c2, c3⟩ := Q.cells
          replace HB := bseq HB hb8
          clear hb8
          go_wp2
          go_ret
          exact ⟨by first | rfl | (simp; done) | (simp; omega), HB⟩
        · skip
          obtain ⟨z, z1, hz, _, z2⟩ := cut_nofit h1.valid ht
          have bz := hz.bnd
          have K3 : Hid (∀ w, Calls Try.prog 20 #[.agg #[.int .i64 a, .int .i64 b], .int .i64 (m), .int .i64 (n)] w fun e w' => e = .returned (.tuple #[.int .i64 z, .bool false]) ∧ Below w.heap.size w w') := Lib.hid fun w => by have h := SubStored_in a b m n w h2 h1; rw [z1, z2] at h; exact h
          clear e0 e hs ht z1 z2 hz h1 h2
          go_wp2_with fail
          refine (K1.out _).mono ?_
          rintro e w2 ⟨rfl, hb2⟩
          clear c0 c1 c2 c3
          replace Q := Q.below hb2
          obtain ⟨⟨c0, c1⟩, c2, c3⟩ := Q.cells
          replace HB := bseq HB hb2
          clear hb2
          go_wp2_with fail
          refine (K2.out _).mono ?_
          rintro e w3 ⟨rfl, hb3⟩
          clear c0 c1 c2 c3
          replace Q := Q.below hb3
          obtain ⟨⟨c0, c1⟩, c2, c3⟩ := Q.cells
          replace HB := bseq HB hb3
          clear hb3
          go_wp2_with fail
          refine (sStoredFits_fit _ _ _ _ H1.out).mono ?_
          rintro e w4 ⟨rfl, hb4⟩
          clear c0 c1 c2 c3
          replace Q := Q.below hb4
          obtain ⟨⟨c0, c1⟩, c2, c3⟩ := Q.cells
          replace HB := bseq HB hb4
          clear hb4
          go_wp2_with fail
          refine (sStoredFits_fit _ _ _ _ H2.out).mono ?_
          rintro e w5 ⟨rfl, hb5⟩
          clear c0 c1 c2 c3
          replace Q := Q.below hb5
          obtain ⟨⟨c0, c1⟩, c2, c3⟩ := Q.cells
          replace HB := bseq HB hb5
          clear hb5
          go_wp2_with fail
          refine (K3.out _).mono ?_
          rintro e w6 ⟨rfl, hb6⟩
          clear c0 c1 c2 c3
          replace Q := Q.below hb6
          obtain ⟨⟨c0, c1⟩, c2, c3⟩ := Q.cells
          replace HB := bseq HB hb6
          clear hb6
          go_wp2_with fail
          refine (K0.out _).mono ?_
          rintro e w7 ⟨rfl, hb7⟩
          clear c0 c1 c2 c3
          replace Q := Q.below hb7
          obtain ⟨⟨c0, c1⟩, c2, c3⟩ := Q.cells
          replace HB := bseq HB hb7
          clear hb7
          go_wp2_with fail
          refine (StoredFits_fit _ _ _ _ HS.out).mono ?_
          rintro e w8 ⟨rfl, hb8⟩
          clear c0 c1 c2 c3
          replace Q := Q.below hb8
          obtain ⟨⟨c0, c1⟩, c2, c3⟩ := Q.cells
          replace HB := bseq HB hb8
          clear hb8
          go_wp2
          go_ret
          exact ⟨by first | rfl | (simp; done) | (simp; omega), HB⟩
      · skip
        obtain ⟨x, e1, hx, _, e2⟩ := cut_nofit h1.valid hs
        have K1 : Hid (∀ w, Calls Try.prog 20 #[.agg #[.int .i64 a, .int .i64 b], .int .i64 (n), .int .i64 (m)] w fun e w' => e = .returned (.tuple #[.int .i64 x, .bool false]) ∧ Below w.heap.size w w') := Lib.hid fun w => by have h := SubStored_in a b n m w h1 h2; rw [e1, e2] at h; exact h
        have K2 : Hid (∀ w, Calls Try.prog 19 #[.agg #[.int .i64 a, .int .i64 b], .int .i64 (n), .int .i64 (m)] w fun e w' => e = .returned (.tuple #[.int .i64 x, .bool false]) ∧ Below w.heap.size w w') := Lib.hid fun w => by have h := sSubStored_in a b n m w h1 h2; rw [e1, e2] at h; exact h
        obtain ⟨y, ey⟩ : ∃ y, cutV (2 ^ (a + b).toNat) (m - n) = y := ⟨_, rfl⟩
        obtain ⟨g, eg⟩ : ∃ g, cutB (2 ^ (a + b).toNat) (m - n) = g := ⟨_, rfl⟩
        have K3 : Hid (∀ w, Calls Try.prog 20 #[.agg #[.int .i64 a, .int .i64 b], .int .i64 (m), .int .i64 (n)] w fun e w' => e = .returned (.tuple #[.int .i64 y, .bool g]) ∧ Below w.heap.size w w') := Lib.hid fun w => by have h := SubStored_in a b m n w h2 h1; rw [ey, eg] at h; exact h
        have HX := Lib.hid hx
        have bx := hx.bnd
        clear e0 hs h1 h2 e1 e2 ey eg hx
        go_wp2_with fail
        refine (K1.out _).mono ?_
        rintro e w2 ⟨rfl, hb2⟩
        clear c0 c1 c2 c3
        replace Q := Q.below hb2
        obtain ⟨⟨c0, c1⟩, c2, c3⟩ := Q.cells
        replace HB := bseq HB hb2
        clear hb2
        go_wp2_with fail
        refine (K2.out _).mono ?_
        rintro e w3 ⟨rfl, hb3⟩
        clear c0 c1 c2 c3
        replace Q := Q.below hb3
        obtain ⟨⟨c0, c1⟩, c2, c3⟩ := Q.cells
        replace HB := bseq HB hb3
        clear hb3
        go_wp2_with fail
        refine (sStoredFits_fit _ _ _ _ H1.out).mono ?_
        rintro e w4 ⟨rfl, hb4⟩
        clear c0 c1 c2 c3
        replace Q := Q.below hb4
        obtain ⟨⟨c0, c1⟩, c2, c3⟩ := Q.cells
        replace HB := bseq HB hb4
        clear hb4
        go_wp2_with fail
        refine (sStoredFits_fit _ _ _ _ H2.out).mono ?_
        rintro e w5 ⟨rfl, hb5⟩
        clear c0 c1 c2 c3
        replace Q := Q.below hb5
        obtain ⟨⟨c0, c1⟩, c2, c3⟩ := Q.cells
        replace HB := bseq HB hb5
        clear hb5
        go_wp2_with fail
        refine (K3.out _).mono ?_
        rintro e w6 ⟨rfl, hb6⟩
        clear c0 c1 c2 c3
        replace Q := Q.below hb6
        obtain ⟨⟨c0, c1⟩, c2, c3⟩ := Q.cells
        replace HB := bseq HB hb6
        clear hb6
        go_wp2_with fail
        refine (K0.out _).mono ?_
        rintro e w7 ⟨rfl, hb7⟩
        clear c0 c1 c2 c3
        replace Q := Q.below hb7
        obtain ⟨⟨c0, c1⟩, c2, c3⟩ := Q.cells
        replace HB := bseq HB hb7
        clear hb7
        go_wp2_with fail
        refine (StoredFits_fit _ _ _ _ HX.out).mono ?_
        rintro e w8 ⟨rfl, hb8⟩
        clear c0 c1 c2 c3
        replace Q := Q.below hb8
        obtain ⟨⟨c0, c1⟩, c2, c3⟩ := Q.cells
        replace HB := bseq HB hb8
        clear hb8
        go_wp2
        go_ret
        exact ⟨by first | rfl | (simp; done) | (simp; omega), HB⟩
    · skip
      have H : Hid (¬ Fit a b n ∨ ¬ Fit a b m) := Lib.hid (by by_cases h1 : Fit a b n; exact .inr (fun h2 => h ⟨h1, h2⟩); exact .inl h1)
      have H' : Hid (¬ Fit a b m ∨ ¬ Fit a b n) := Lib.hid (H.out.symm)
      clear h
      by_cases h1 : Fit a b n
      · skip
        have H1 := Lib.hid h1
        have H2 : Hid (¬ Fit a b m) := Lib.hid (H.out.resolve_left (fun h => h h1))
        clear h1
        go_wp2_with fail
        refine (SubStored_no _ _ _ _ _ H.out).mono ?_
        rintro e w2 ⟨rfl, hb2⟩
        clear c0 c1 c2 c3
        replace Q := Q.below hb2
        obtain ⟨⟨c0, c1⟩, c2, c3⟩ := Q.cells
        replace HB := bseq HB hb2
        clear hb2
        go_wp2_with fail
        refine (sSubStored_no _ _ _ _ _ H.out).mono ?_
        rintro e w3 ⟨rfl, hb3⟩
        clear c0 c1 c2 c3
        replace Q := Q.below hb3
        obtain ⟨⟨c0, c1⟩, c2, c3⟩ := Q.cells
        replace HB := bseq HB hb3
        clear hb3
        go_wp2_with fail
        refine (sStoredFits_fit _ _ _ _ H1.out).mono ?_
        rintro e w4 ⟨rfl, hb4⟩
        clear c0 c1 c2 c3
        replace Q := Q.below hb4
        obtain ⟨⟨c0, c1⟩, c2, c3⟩ := Q.cells
        replace HB := bseq HB hb4
        clear hb4
        go_wp2_with fail
        refine (sStoredFits_nofit _ _ _ _ H2.out).mono ?_
        rintro e w5 ⟨rfl, hb5⟩
        clear c0 c1 c2 c3
        replace Q := Q.below hb5
        obtain ⟨⟨c0, c1⟩, c2, c3⟩ := Q.cells
        replace HB := bseq HB hb5
        clear hb5
        go_wp2_with fail
        refine (alive_any _).mono ?_
        rintro e w' ⟨rfl, rfl⟩
        go_wp2
        go_ret
        exact ⟨by first | rfl | (simp; done) | (simp; omega), HB⟩
      · skip
        have H1 := Lib.hid h1
        clear h1
        go_wp2_with fail
        refine (SubStored_no _ _ _ _ _ H.out).mono ?_
        rintro e w2 ⟨rfl, hb2⟩
        clear c0 c1 c2 c3
        replace Q := Q.below hb2
        obtain ⟨⟨c0, c1⟩, c2, c3⟩ := Q.cells
        replace HB := bseq HB hb2
        clear hb2
        go_wp2_with fail
        refine (sSubStored_no _ _ _ _ _ H.out).mono ?_
        rintro e w3 ⟨rfl, hb3⟩
        clear c0 c1 c2 c3
        replace Q := Q.below hb3
        obtain ⟨⟨c0, c1⟩, c2, c3⟩ := Q.cells
        replace HB := bseq HB hb3
        clear hb3
        go_wp2_with fail
        refine (sStoredFits_nofit _ _ _ _ H1.out).mono ?_
        rintro e w4 ⟨rfl, hb4⟩
        clear c0 c1 c2 c3
        replace Q := Q.below hb4
        obtain ⟨⟨c0, c1⟩, c2, c3⟩ := Q.cells
        replace HB := bseq HB hb4
        clear hb4
        go_wp2_with fail
        refine (alive_any _).mono ?_
        rintro e w' ⟨rfl, rfl⟩
        go_wp2
        go_ret
        exact ⟨by first | rfl | (simp; done) | (simp; omega), HB⟩

set_option maxHeartbeats 2000000 in
theorem FnSqrtStored_walk (a0 : Option Addr) (len0 cap0 : Nat) (z0 : List Int) (w : World) (w0 : IsRow .u8 w a0 len0 cap0 z0) : Calls Try.prog 13 #[.slice a0 len0 cap0] w fun e w' => e = .returned (.bool true) ∧ Below w.heap.size w w' := by
  by_cases hlen : (1048576 : Int) < (len0 : Int)
  · go_enter Try.func13, Try.ntmps13
    go_wp2
    go_ret
    exact ⟨by first | rfl | (simp; done) | (simp; omega), Below.refl _ _⟩
  · have I0 := Lib.hid w0
    clear w0
    go_enter Try.func13, Try.ntmps13
    go_wp2_with fail
    refine (DrawSqrtStored_any _ _ _ _ _ I0.out).mono ?_
    rintro e w1 ⟨a, b, n, hn, rfl, hb1⟩
    unfold I64 at *
    have Q : Pair (w1.alloc (.cells #[.int .i64 a, .int .i64 b] 26)) w1.heap.size a b 26 := Pair.new w1 a b _
    have HB : Below w.heap.size w (w1.alloc (.cells #[.int .i64 a, .int .i64 b] 26)) := balloc hb1 _
    clear hb1
    go_wp2_with fail
    generalize w1.heap.size = N at *
    generalize w1.alloc (.cells #[.int .i64 a, .int .i64 b] 26) = W at *
    obtain ⟨⟨c0, c1⟩, c2, c3⟩ := Q.cells
    by_cases h : Fit a b n ∧ 0 ≤ n
    · skip
      obtain ⟨hf, n1⟩ := h
      have bn := hf.bnd
      obtain ⟨q, hq⟩ : ∃ q : Int, (2 : Int) ^ b.toNat = q := ⟨_, rfl⟩
      obtain ⟨u1, u2⟩ := up_bounds n1 bn.2 hf.1.2.2.1 hf.1.2.2.2
      obtain ⟨s, s0, s1, s2⟩ := exists_isqrt (n * 2 ^ b.toNat) u1
      have hs := sqrt_fit hf s0 s1
      have bs := hs.bnd
      have K1 : Hid (∀ w, Calls Try.prog 24 #[.agg #[.int .i64 a, .int .i64 b], .int .i64 (n)] w fun e w' => e = .returned (.tuple #[.int .i64 s, .bool true]) ∧ Below w.heap.size w w') := Lib.hid fun w => by have h := SqrtStored_in a b n s w hf n1 s0 s1 s2; exact h
      have K2 : Hid (∀ w, Calls Try.prog 23 #[.agg #[.int .i64 a, .int .i64 b], .int .i64 (n)] w fun e w' => e = .returned (.tuple #[.int .i64 s, .bool true]) ∧ Below w.heap.size w w') := Lib.hid fun w => by have h := sSqrtStored_in a b n s w hf n1 s0 s1 s2; exact h
      have HS := Lib.hid hs
      obtain ⟨v1, v2, v3, v4⟩ := hf.1
      have t1 : 0 ≤ s * s := Int.mul_nonneg s0 s0
      have t2 : s * s ≤ 268435455 * 268435455 := Int.mul_le_mul bs.2 bs.2 s0 (by omega)
      have t3 : 0 ≤ (s + 1) * (s + 1) := Int.mul_nonneg (by omega) (by omega)
      have t4 : (s + 1) * (s + 1) ≤ 268435456 * 268435456 := Int.mul_le_mul (by omega) (by omega) (by omega) (by omega)
      rw [hq] at s1 s2 u1 u2
      have q1 : 1 ≤ q := by rw [← hq]; exact pow_pos' _
      have q2 : q ≤ 65536 := by rw [← hq]; exact pow_le' (m := 16) (by omega)
      clear hf hs
      go_wp2_with fail
      refine (K1.out _).mono ?_
      rintro e w2 ⟨rfl, hb2⟩
      clear c0 c1 c2 c3
      replace Q := Q.below hb2
      obtain ⟨⟨c0, c1⟩, c2, c3⟩ := Q.cells
      replace HB := bseq HB hb2
      clear hb2
      go_wp2_with fail
      refine (K2.out _).mono ?_
      rintro e w3 ⟨rfl, hb3⟩
      clear c0 c1 c2 c3
      replace Q := Q.below hb3
      obtain ⟨⟨c0, c1⟩, c2, c3⟩ := Q.cells
      replace HB := bseq HB hb3
      clear hb3
      go_wp2_with fail
      refine (StoredFits_fit _ _ _ _ HS.out).mono ?_
      rintro e w4 ⟨rfl, hb4⟩
      clear c0 c1 c2 c3
      replace Q := Q.below hb4
      obtain ⟨⟨c0, c1⟩, c2, c3⟩ := Q.cells
      replace HB := bseq HB hb4
      clear hb4
      go_wp2
      go_ret
      exact ⟨by first | rfl | (simp; done) | (simp; omega), HB⟩
    · skip
      have H : Hid (¬ Fit a b n ∨ n < 0) := Lib.hid (by by_cases hf : Fit a b n; exact .inr (by have : ¬ 0 ≤ n := fun h2 => h ⟨hf, h2⟩; omega); exact .inl hf)
      clear h
      by_cases hn0 : n < 0
      · skip
        go_wp2_with fail
        refine (SqrtStored_no _ _ _ _ H.out).mono ?_
        rintro e w2 ⟨rfl, hb2⟩
        clear c0 c1 c2 c3
        replace Q := Q.below hb2
        obtain ⟨⟨c0, c1⟩, c2, c3⟩ := Q.cells
        replace HB := bseq HB hb2
        clear hb2
        go_wp2_with fail
        refine (sSqrtStored_no _ _ _ _ H.out).mono ?_
        rintro e w3 ⟨rfl, hb3⟩
        clear c0 c1 c2 c3
        replace Q := Q.below hb3
        obtain ⟨⟨c0, c1⟩, c2, c3⟩ := Q.cells
        replace HB := bseq HB hb3
        clear hb3
        go_wp2_with fail
        refine (alive_any _).mono ?_
        rintro e w' ⟨rfl, rfl⟩
        go_wp2
        go_ret
        exact ⟨by first | rfl | (simp; done) | (simp; omega), HB⟩
      · skip
        have H2 : Hid (¬ Fit a b n) := Lib.hid (H.out.resolve_right hn0)
        go_wp2_with fail
        refine (SqrtStored_no _ _ _ _ H.out).mono ?_
        rintro e w2 ⟨rfl, hb2⟩
        clear c0 c1 c2 c3
        replace Q := Q.below hb2
        obtain ⟨⟨c0, c1⟩, c2, c3⟩ := Q.cells
        replace HB := bseq HB hb2
        clear hb2
        go_wp2_with fail
        refine (sSqrtStored_no _ _ _ _ H.out).mono ?_
        rintro e w3 ⟨rfl, hb3⟩
        clear c0 c1 c2 c3
        replace Q := Q.below hb3
        obtain ⟨⟨c0, c1⟩, c2, c3⟩ := Q.cells
        replace HB := bseq HB hb3
        clear hb3
        go_wp2_with fail
        refine (sStoredFits_nofit _ _ _ _ H2.out).mono ?_
        rintro e w4 ⟨rfl, hb4⟩
        clear c0 c1 c2 c3
        replace Q := Q.below hb4
        obtain ⟨⟨c0, c1⟩, c2, c3⟩ := Q.cells
        replace HB := bseq HB hb4
        clear hb4
        go_wp2_with fail
        refine (alive_any _).mono ?_
        rintro e w' ⟨rfl, rfl⟩
        go_wp2
        go_ret
        exact ⟨by first | rfl | (simp; done) | (simp; omega), HB⟩


end Go.Proofs.Ytffgekboieimhaa.K
