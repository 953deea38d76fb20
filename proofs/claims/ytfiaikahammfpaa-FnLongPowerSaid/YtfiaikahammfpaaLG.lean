/- The walks of the laws on drawn long numbers: mul, root, small. -/
import Derived.Test.YtfiaikahammfpaaLE
import Derived.Test.YtfiaikahammfpaaLU
import Derived.Test.YtfiaikahammfpaaLC
import Derived.Test.YtfiaikahammfpaaLM2
import Derived.Test.YtfiaikahammfpaaRoot
namespace Go.Proofs.Ytfiaikahammfpaa.K
open Go.RowKit

theorem alive_any (w : World) : Calls Try.prog 17 #[] w fun e w' => e = .returned (.bool true) ∧ w = w' := by
  have e5 : Lib.bitLen (Int.toNat 5) = 3 := by decide
  go_enter Try.func17, Try.ntmps17
  go_wp2_with (first | (go_at_call 34; refine (BitLength_in _ _ (by omega) (by omega)).mono ?_; rintro e w' ⟨rfl, rfl⟩))
  go_ret
  exact ⟨rfl, rfl⟩
theorem digit_facts' {l : List Nat} (hd : Dig l) : ∃ f : Nat → Nat, (∀ j, f j = l.getD j 0) ∧ ∀ j, j < l.length → f j < 10000 ∧ l[j]? = some (f j) := by
  refine ⟨fun j => l.getD j 0, fun _ => rfl, fun j hj => ?_⟩
  have e : l[j]? = some (l.getD j 0) := by rw [List.getD_eq_getElem?_getD, List.getElem?_eq_getElem hj]; rfl
  exact ⟨hd _ (List.mem_of_getElem? e), e⟩
theorem ofL_len (n : Int) : (ofL n).length ≤ 60 := by
  unfold ofL
  split
  · rw [ofN_len]; have := digs_short (n := n.toNat) (by omega); omega
  · simp
theorem addL_ofN {A B : Nat} (hA : A < 10000 ^ 60) (hB : B < 10000 ^ 60) : addL (ofN A) (ofN B) = fitL (A + B) := by
  rw [addL_in (lv_ofN hA) (lv_ofN hB), toN_ofN, toN_ofN]
theorem addL_nil {A : Nat} (hA : A < 10000 ^ 60) : addL (ofN A) [] = (ofN A, true) := by
  have h := addL_ofN (B := 0) hA (by omega)
  rw [ofN_zero, Nat.add_zero, fitL_yes hA] at h
  exact h
theorem addL_cases (xs ys : List Int) : (addL xs ys = ([], false) ∧ addL ys xs = ([], false)) ∨ ∃ A B, xs = ofN A ∧ ys = ofN B ∧ A + B < 10000 ^ 60 ∧ addL xs ys = (ofN (A + B), true) ∧ addL ys xs = (ofN (A + B), true) := by
  rcases hx : lv xs with _ | _
  · exact .inl ⟨addL_no (.inl hx), addL_no (.inr hx)⟩
  · rcases hy : lv ys with _ | _
    · exact .inl ⟨addL_no (.inr hy), addL_no (.inl hy)⟩
    · obtain ⟨ex, hA⟩ := lv_ofN_out hx
      obtain ⟨ey, hB⟩ := lv_ofN_out hy
      have e1 := addL_in hx hy
      have e2 := addL_in hy hx
      rw [Nat.add_comm (toN ys)] at e2
      generalize toN xs = A at *
      generalize toN ys = B at *
      subst ex ey
      by_cases h : A + B < 10000 ^ 60
      · rw [fitL_yes h] at e1 e2
        exact .inr ⟨A, B, rfl, rfl, h, e1, e2⟩
      · rw [fitL_no h] at e1 e2
        exact .inl ⟨e1, e2⟩
theorem cmpL_ofN {A B : Nat} (hA : A < 10000 ^ 60) (hB : B < 10000 ^ 60) : cmpL (ofN A) (ofN B) = cmpN A B := by
  unfold cmpL; rw [lv_ofN hA, lv_ofN hB, toN_ofN, toN_ofN]; simp
theorem cmpL_ge {A B : Nat} (hA : A < 10000 ^ 60) (hB : B < 10000 ^ 60) (h : B ≤ A) : 0 ≤ cmpL (ofN A) (ofN B) := by
  rw [cmpL_ofN hA hB]
  rcases Nat.eq_or_lt_of_le h with e | h
  · rw [e, cmpN_eq]; omega
  · rw [cmpN_gt h]; omega
theorem cmpL_cases (xs ys : List Int) : (cmpL xs ys = 2 ∧ cmpL ys xs = 2) ∨ ∃ A B, xs = ofN A ∧ ys = ofN B ∧ A < 10000 ^ 60 ∧ B < 10000 ^ 60 := by
  rcases hx : lv xs with _ | _
  · exact .inl ⟨cmpL_no (.inl hx), cmpL_no (.inr hx)⟩
  · rcases hy : lv ys with _ | _
    · exact .inl ⟨cmpL_no (.inr hy), cmpL_no (.inl hy)⟩
    · obtain ⟨ex, hA⟩ := lv_ofN_out hx
      obtain ⟨ey, hB⟩ := lv_ofN_out hy
      exact .inr ⟨_, _, ex, ey, hA, hB⟩
theorem fit_ofN_one : ofN 1 = [1] := by unfold ofN; rw [digs_pos (by omega), show 1 / 10000 = 0 from rfl, digs_zero]; rfl
theorem mulL_ofN {A B : Nat} (hA : A < 10000 ^ 60) (hB : B < 10000 ^ 60) : mulL (ofN A) (ofN B) = fitL (A * B) := by
  rw [mulL_in (lv_ofN hA) (lv_ofN hB), toN_ofN, toN_ofN]
theorem mulL_cases (xs ys : List Int) : (mulL xs ys = ([], false) ∧ mulL ys xs = ([], false)) ∨ ∃ A B, xs = ofN A ∧ ys = ofN B ∧ A < 10000 ^ 60 ∧ B < 10000 ^ 60 ∧ A * B < 10000 ^ 60 ∧ mulL xs ys = (ofN (A * B), true) ∧ mulL ys xs = (ofN (A * B), true) := by
  rcases hx : lv xs with _ | _
  · exact .inl ⟨mulL_no (.inl hx), mulL_no (.inr hx)⟩
  · rcases hy : lv ys with _ | _
    · exact .inl ⟨mulL_no (.inr hy), mulL_no (.inl hy)⟩
    · obtain ⟨ex, hA⟩ := lv_ofN_out hx
      obtain ⟨ey, hB⟩ := lv_ofN_out hy
      have e1 := mulL_in hx hy
      have e2 := mulL_in hy hx
      rw [Nat.mul_comm (toN ys)] at e2
      generalize toN xs = A at *
      generalize toN ys = B at *
      subst ex ey
      by_cases h : A * B < 10000 ^ 60
      · rw [fitL_yes h] at e1 e2
        exact .inr ⟨A, B, rfl, rfl, hA, hB, h, e1, e2⟩
      · rw [fitL_no h] at e1 e2
        exact .inl ⟨e1, e2⟩
theorem ofN_seven : ofN 7 = [7] := by unfold ofN; rw [digs_pos (by omega), show 7 / 10000 = 0 from rfl, digs_zero]; rfl
theorem row_seven (w : World) : Row (w.alloc (.cells #[.int .i64 7] 3)) w.heap.size (some ⟨w.heap.size, 0, none⟩) 1 [7] := (Row.of_own (xs := [7]) (World.ownsRow_lit w #[.int .i64 7] 1 (Nat.le_refl _) (by decide) rfl)).2
theorem mul_one_is {A : Nat} (hA : A < 10000 ^ 60) : mulL (ofN A) [1] = (ofN A, true) := by
  have h := mulL_ofN (B := 1) hA (Nat.one_lt_pow (by omega) (by omega))
  rw [fit_ofN_one, Nat.mul_one, fitL_yes hA] at h
  exact h
/-- The product with a sum is the sum of the products, where all are possible. -/
theorem distrib {A B : Nat} {cs ps qs ss : List Int} {can made small summed : Bool} (hA : A < 10000 ^ 60) (hB : B < 10000 ^ 60) (hAB : A * B < 10000 ^ 60) (h1 : addL (ofN B) [7] = (cs, can)) (h2 : mulL (ofN A) cs = (ps, made)) (h3 : mulL (ofN A) [7] = (qs, small))
    (h4 : addL (ofN (A * B)) qs = (ss, summed)) (c1 : can = true) (c2 : made = true) (c3 : small = true) (c4 : summed = true) : ps = ss := by
  subst c1 c2 c3 c4
  have h7 : (7 : Nat) < 10000 ^ 60 := Nat.lt_of_lt_of_le (show 7 < 10000 ^ 1 by omega) (Nat.pow_le_pow_right (by omega) (by omega))
  rw [← ofN_seven, addL_ofN hB h7] at h1
  rw [← ofN_seven, mulL_ofN hA h7] at h3
  have fit : ∀ {n : Nat} {zs : List Int}, fitL n = (zs, true) → n < 10000 ^ 60 ∧ zs = ofN n := fun {n zs} h => by
    by_cases hn : n < 10000 ^ 60
    · rw [fitL_yes hn] at h; injection h with h _; exact ⟨hn, h.symm⟩
    · rw [fitL_no hn] at h; injection h with _ h; cases h
  obtain ⟨g1, rfl⟩ := fit h1
  obtain ⟨g3, rfl⟩ := fit h3
  rw [mulL_ofN hA g1] at h2
  rw [addL_ofN hAB g3] at h4
  obtain ⟨_, rfl⟩ := fit h2
  obtain ⟨_, rfl⟩ := fit h4
  rw [Nat.mul_add]
/-- A power and the next one. -/
theorem pow_cases (xs : List Int) (e : Int) : powL xs e = ([], false) ∨ ∃ zs, powL xs e = (zs, true) ∧ lv zs = true ∧ zs.length ≤ 60 ∧ 0 ≤ e ∧ e ≤ 1000 ∧ powL xs 0 = ([1], true) ∧ (e < 1000 → powL xs (e + 1) = mulL zs xs) := by
  rcases hx : lv xs with _ | _
  · exact .inl (powL_no (.inl hx))
  · by_cases he : 0 ≤ e ∧ e ≤ 1000
    · obtain ⟨n, rfl⟩ := Int.eq_ofNat_of_zero_le he.1
      have h1 := powL_in hx (e := n) (by omega)
      rcases fit_cases (toN xs ^ n) with ⟨zs, h2, h3⟩ | ⟨h2, h3⟩
      · refine .inr ⟨zs, by rw [h1, h2], ?_, ?_, he.1, he.2, ?_, fun hlt => ?_⟩
        · rw [fitL_yes h3] at h2; injection h2 with h2 _; rw [← h2]; exact lv_ofN h3
        · rw [fitL_yes h3] at h2; injection h2 with h2 _; rw [← h2, ofN_len]; exact (digs_len _ 60).2 h3
        · have := powL_in hx (e := 0) (by omega)
          rw [Nat.pow_zero, fit_one] at this; exact this
        · rw [fitL_yes h3] at h2
          replace h2 := (Prod.mk.inj h2).1
          have h4 := powL_in hx (e := n + 1) (by omega)
          obtain ⟨ex, hA⟩ := lv_ofN_out hx
          have h5 : mulL zs xs = fitL (toN xs ^ n * toN xs) := by
            rw [← h2, mulL_in (lv_ofN h3) hx, toN_ofN]
          rw [h5, ← Nat.pow_succ]
          exact h4
      · exact .inl (by rw [h1, h2])
    · exact .inl (powL_no (.inr he))
theorem cmpN_sq (A B : Nat) : cmpN (A * A) (B * B) = cmpN A B := by
  rcases Nat.lt_trichotomy A B with h | h | h
  · rw [cmpN_lt h, cmpN_lt (Nat.mul_self_lt_mul_self h)]
  · subst h; rw [cmpN_eq, cmpN_eq]
  · rw [cmpN_gt h, cmpN_gt (Nat.mul_self_lt_mul_self h)]

set_option maxHeartbeats 4000000 in
theorem FnLongMul_walk (a0 : Option Addr) (len0 cap0 : Nat) (z0 : List Int) (w : World) (w0 : IsRow .u8 w a0 len0 cap0 z0) : Calls Try.prog 4 #[.slice a0 len0 cap0] w fun e w' => e = .returned (.bool true) ∧ Below w.heap.size w w' := by
  by_cases hlen0 : (1048576 : Int) < (len0 : Int)
  · go_enter Try.func4, Try.ntmps4
    go_wp2
    go_ret
    exact ⟨by first | rfl | (simp; done) | (simp; omega), Below.refl _ _⟩
  · have I0 := Lib.hid w0
    clear w0
    have HB := Below.refl w.heap.size w
    go_enter Try.func4, Try.ntmps4
    go_wp2_with fail
    refine (DrawLongMul_any _ _ _ _ _ I0.out).mono ?_
    rintro e w1 ⟨g1, c1, xs, g2, c2, ys, rfl, r1, hl1, r2, hl2, hb1⟩
    replace HB := bseq HB hb1
    clear hb1
    rcases mulL_cases xs ys with h | ⟨A, B, rfl, rfl, hA, hB, hAB, h, h'⟩
    · have HZ := Lib.hid h.1
      have HZ' := Lib.hid h.2
      clear h
      go_wp2_with fail
      refine (LongMul_any _ _ _ _ _ _ _ _ _ _ HZ _ r1 r2).mono ?_
      rintro e w2 ⟨a3, c3, rfl, r3, hb2⟩
      replace r1 := r1.keep hb2
      replace r2 := r2.keep hb2
      replace HB := bseq HB hb2
      clear hb2
      go_wp2_with fail
      refine (sLongMul_any _ _ _ _ _ _ _ _ _ _ HZ _ r1 r2).mono ?_
      rintro e w3 ⟨a4, c4, rfl, r4, hb3⟩
      replace r1 := r1.keep hb3
      replace r2 := r2.keep hb3
      replace r3 := r3.keep hb3
      replace HB := bseq HB hb3
      clear hb3
      go_wp2_with fail
      refine (LongMul_any _ _ _ _ _ _ _ _ _ _ HZ' _ r2 r1).mono ?_
      rintro e w4 ⟨a5, c5, rfl, r5, hb4⟩
      replace r1 := r1.keep hb4
      replace r2 := r2.keep hb4
      replace r3 := r3.keep hb4
      replace r4 := r4.keep hb4
      replace HB := bseq HB hb4
      clear hb4
      go_wp2_with fail
      refine (sameInts_same _ _ _ _ _ _ _ _ r3 r4).mono ?_
      rintro e w5 ⟨rfl, hb5⟩
      replace r1 := r1.keep hb5
      replace r2 := r2.keep hb5
      replace r3 := r3.keep hb5
      replace r4 := r4.keep hb5
      replace r5 := r5.keep hb5
      replace HB := bseq HB hb5
      clear hb5
      go_wp2_with fail
      refine (sameInts_same _ _ _ _ _ _ _ _ r3 r5).mono ?_
      rintro e w6 ⟨rfl, hb6⟩
      replace r1 := r1.keep hb6
      replace r2 := r2.keep hb6
      replace r3 := r3.keep hb6
      replace r4 := r4.keep hb6
      replace r5 := r5.keep hb6
      replace HB := bseq HB hb6
      clear hb6
      go_wp2_with fail
      refine (alive_any _).mono ?_
      rintro e w' ⟨rfl, rfl⟩
      go_wp2
      go_ret
      exact ⟨by first | rfl | (simp; done) | (simp; omega), HB⟩
    · have HZ := Lib.hid h
      have HZ' := Lib.hid h'
      clear h h'
      have H1 : Hid (mulL (ofN A) [1] = (ofN A, true)) := Lib.hid (mul_one_is hA)
      have HV : Hid (lv (ofN (A * B)) = true) := Lib.hid (lv_ofN hAB)
      obtain ⟨⟨cs, can⟩, h1⟩ : ∃ r, addL (ofN B) [7] = r := ⟨_, rfl⟩
      obtain ⟨⟨ps, made⟩, h2⟩ : ∃ r, mulL (ofN A) cs = r := ⟨_, rfl⟩
      obtain ⟨⟨qs, small⟩, h3⟩ : ∃ r, mulL (ofN A) [7] = r := ⟨_, rfl⟩
      obtain ⟨⟨ss, summed⟩, h4⟩ : ∃ r, addL (ofN (A * B)) qs = r := ⟨_, rfl⟩
      have HD := Lib.hid (distrib hA hB hAB h1 h2 h3 h4)
      have K1 := Lib.hid h1
      have K2 := Lib.hid h2
      have K3 := Lib.hid h3
      have K4 := Lib.hid h4
      clear hAB hA hB h1 h2 h3 h4
      generalize ofN (A * B) = zs at *
      generalize ofN A = xs at *
      generalize ofN B = ys at *
      go_wp2_with fail
      refine (LongMul_any _ _ _ _ _ _ _ _ _ _ HZ _ r1 r2).mono ?_
      rintro e w2 ⟨a3, c3, rfl, r3, hb2⟩
      replace r1 := r1.keep hb2
      replace r2 := r2.keep hb2
      replace HB := bseq HB hb2
      clear hb2
      go_wp2_with fail
      refine (sLongMul_any _ _ _ _ _ _ _ _ _ _ HZ _ r1 r2).mono ?_
      rintro e w3 ⟨a4, c4, rfl, r4, hb3⟩
      replace r1 := r1.keep hb3
      replace r2 := r2.keep hb3
      replace r3 := r3.keep hb3
      replace HB := bseq HB hb3
      clear hb3
      go_wp2_with fail
      refine (LongMul_any _ _ _ _ _ _ _ _ _ _ HZ' _ r2 r1).mono ?_
      rintro e w4 ⟨a5, c5, rfl, r5, hb4⟩
      replace r1 := r1.keep hb4
      replace r2 := r2.keep hb4
      replace r3 := r3.keep hb4
      replace r4 := r4.keep hb4
      replace HB := bseq HB hb4
      clear hb4
      go_wp2_with fail
      refine (sameInts_same _ _ _ _ _ _ _ _ r3 r4).mono ?_
      rintro e w5 ⟨rfl, hb5⟩
      replace r1 := r1.keep hb5
      replace r2 := r2.keep hb5
      replace r3 := r3.keep hb5
      replace r4 := r4.keep hb5
      replace r5 := r5.keep hb5
      replace HB := bseq HB hb5
      clear hb5
      go_wp2_with fail
      refine (sameInts_same _ _ _ _ _ _ _ _ r3 r5).mono ?_
      rintro e w6 ⟨rfl, hb6⟩
      replace r1 := r1.keep hb6
      replace r2 := r2.keep hb6
      replace r3 := r3.keep hb6
      replace r4 := r4.keep hb6
      replace r5 := r5.keep hb6
      replace HB := bseq HB hb6
      clear hb6
      clear r4 r5
      go_wp2_with fail
      refine (LongMul_any _ _ _ _ _ _ _ _ _ _ H1 _ (r1.alloc _) (row_one _)).mono ?_
      rintro e w7 ⟨a6, c6, rfl, r6, hb7⟩
      replace r1 := (r1.alloc _).keep hb7
      replace r2 := (r2.alloc _).keep hb7
      replace r3 := (r3.alloc _).keep hb7
      replace HB := bseq (balloc HB _) hb7
      clear hb7
      go_wp2_with fail
      refine (LongAdd_any _ _ _ _ _ _ _ _ _ _ K1 _ (r2.alloc _) (row_seven _)).mono ?_
      rintro e w8 ⟨a7, c7, rfl, r7, hb8⟩
      replace r1 := (r1.alloc _).keep hb8
      replace r2 := (r2.alloc _).keep hb8
      replace r3 := (r3.alloc _).keep hb8
      replace r6 := (r6.alloc _).keep hb8
      replace HB := bseq (balloc HB _) hb8
      clear hb8
      go_wp2_with fail
      refine (LongMul_any _ _ _ _ _ _ _ _ _ _ K2 _ r1 r7).mono ?_
      rintro e w9 ⟨a8, c8, rfl, r8, hb9⟩
      replace r1 := r1.keep hb9
      replace r2 := r2.keep hb9
      replace r3 := r3.keep hb9
      replace r6 := r6.keep hb9
      replace r7 := r7.keep hb9
      replace HB := bseq HB hb9
      clear hb9
      go_wp2_with fail
      refine (LongMul_any _ _ _ _ _ _ _ _ _ _ K3 _ (r1.alloc _) (row_seven _)).mono ?_
      rintro e w10 ⟨a9, c9, rfl, r9, hb10⟩
      replace r1 := (r1.alloc _).keep hb10
      replace r2 := (r2.alloc _).keep hb10
      replace r3 := (r3.alloc _).keep hb10
      replace r6 := (r6.alloc _).keep hb10
      replace r7 := (r7.alloc _).keep hb10
      replace r8 := (r8.alloc _).keep hb10
      replace HB := bseq (balloc HB _) hb10
      clear hb10
      go_wp2_with fail
      refine (LongAdd_any _ _ _ _ _ _ _ _ _ _ K4 _ r3 r9).mono ?_
      rintro e w11 ⟨a10, c10, rfl, r10, hb11⟩
      replace r1 := r1.keep hb11
      replace r2 := r2.keep hb11
      replace r3 := r3.keep hb11
      replace r6 := r6.keep hb11
      replace r7 := r7.keep hb11
      replace r8 := r8.keep hb11
      replace r9 := r9.keep hb11
      replace HB := bseq HB hb11
      clear hb11
      go_wp2_with fail
      refine (LongValid_is true _ _ _ _ _ r3 HV.out).mono ?_
      rintro e w' ⟨rfl, rfl⟩
      go_wp2_with fail
      refine (sameInts_same _ _ _ _ _ _ _ _ r6 r1).mono ?_
      rintro e w12 ⟨rfl, hb12⟩
      replace r1 := r1.keep hb12
      replace r2 := r2.keep hb12
      replace r3 := r3.keep hb12
      replace r6 := r6.keep hb12
      replace r7 := r7.keep hb12
      replace r8 := r8.keep hb12
      replace r9 := r9.keep hb12
      replace r10 := r10.keep hb12
      replace HB := bseq HB hb12
      clear hb12
      rcases can with _ | _
      · go_wp2
        go_ret
        exact ⟨by first | rfl | (simp; done) | (simp; omega), HB⟩
      · rcases made with _ | _
        · go_wp2
          go_ret
          exact ⟨by first | rfl | (simp; done) | (simp; omega), HB⟩
        · rcases small with _ | _
          · go_wp2
            go_ret
            exact ⟨by first | rfl | (simp; done) | (simp; omega), HB⟩
          · rcases summed with _ | _
            · go_wp2
              go_ret
              exact ⟨by first | rfl | (simp; done) | (simp; omega), HB⟩
            · obtain rfl : ps = ss := HD.out rfl rfl rfl rfl
              go_wp2_with fail
              refine (sameInts_same _ _ _ _ _ _ _ _ r8 r10).mono ?_
              rintro e w13 ⟨rfl, hb13⟩
              replace r1 := r1.keep hb13
              replace r2 := r2.keep hb13
              replace r3 := r3.keep hb13
              replace r6 := r6.keep hb13
              replace r7 := r7.keep hb13
              replace r8 := r8.keep hb13
              replace r9 := r9.keep hb13
              replace r10 := r10.keep hb13
              replace HB := bseq HB hb13
              clear hb13
              go_wp2
              go_ret
              exact ⟨by first | rfl | (simp; done) | (simp; omega), HB⟩

set_option maxHeartbeats 4000000 in
theorem FnLongRoot_walk (a0 : Option Addr) (len0 cap0 : Nat) (z0 : List Int) (w : World) (w0 : IsRow .u8 w a0 len0 cap0 z0) : Calls Try.prog 7 #[.slice a0 len0 cap0] w fun e w' => e = .returned (.bool true) ∧ Below w.heap.size w w' := by
  by_cases hlen0 : (1048576 : Int) < (len0 : Int)
  · go_enter Try.func7, Try.ntmps7
    go_wp2
    go_ret
    exact ⟨by first | rfl | (simp; done) | (simp; omega), Below.refl _ _⟩
  · have I0 := Lib.hid w0
    clear w0
    have HB := Below.refl w.heap.size w
    go_enter Try.func7, Try.ntmps7
    go_wp2_with fail
    refine (DrawLongCompare_any _ _ _ _ _ I0.out).mono ?_
    rintro e w1 ⟨g1, c1, xs, g2, c2, ys, rfl, r1, hl1, r2, hl2, hb1⟩
    replace HB := bseq HB hb1
    clear hb1
    rcases cmpL_cases xs ys with h | ⟨A, B, rfl, rfl, hA, hB⟩
    · have HZ := Lib.hid h.1
      clear h
      obtain ⟨⟨ps, one⟩, hp⟩ : ∃ r, mulL xs xs = r := ⟨_, rfl⟩
      obtain ⟨⟨qs, two⟩, hq⟩ : ∃ r, mulL ys ys = r := ⟨_, rfl⟩
      have HP := Lib.hid hp
      have HQ := Lib.hid hq
      clear hp hq
      go_wp2_with fail
      refine (LongCompare_any _ _ _ _ _ _ _ _ _ HZ _ r1 r2).mono ?_
      rintro e w2 ⟨rfl, hb2⟩
      replace r1 := r1.keep hb2
      replace r2 := r2.keep hb2
      replace HB := bseq HB hb2
      clear hb2
      go_wp2_with fail
      refine (sLongCompare_any _ _ _ _ _ _ _ _ _ HZ _ r1 r2).mono ?_
      rintro e w3 ⟨rfl, hb3⟩
      replace r1 := r1.keep hb3
      replace r2 := r2.keep hb3
      replace HB := bseq HB hb3
      clear hb3
      go_wp2_with fail
      refine (LongMul_any _ _ _ _ _ _ _ _ _ _ HP _ r1 r1).mono ?_
      rintro e w4 ⟨a3, c3, rfl, r3, hb4⟩
      replace r1 := r1.keep hb4
      replace r2 := r2.keep hb4
      replace HB := bseq HB hb4
      clear hb4
      go_wp2_with fail
      refine (LongMul_any _ _ _ _ _ _ _ _ _ _ HQ _ r2 r2).mono ?_
      rintro e w5 ⟨a4, c4, rfl, r4, hb5⟩
      replace r1 := r1.keep hb5
      replace r2 := r2.keep hb5
      replace r3 := r3.keep hb5
      replace HB := bseq HB hb5
      clear hb5
      go_wp2
      go_ret
      exact ⟨by first | rfl | (simp; done) | (simp; omega), HB⟩
    · obtain ⟨c, hc, hcm⟩ : ∃ c : Int, cmpL (ofN A) (ofN B) = c ∧ c ≤ 1 := ⟨_, rfl, by rw [cmpL_ofN hA hB]; unfold cmpN; split <;> (try split) <;> omega⟩
      have HZ := Lib.hid hc
      have hc2 : ¬ c = 2 := by omega
      have HQ : Hid (A * A < 10000 ^ 60 → B * B < 10000 ^ 60 → cmpL (ofN (A * A)) (ofN (B * B)) = c) := Lib.hid fun h1 h2 => by rw [cmpL_ofN h1 h2, cmpN_sq, ← hc, cmpL_ofN hA hB]
      have M1 := mulL_ofN hA hA
      have M2 := mulL_ofN hB hB
      clear hc
      rcases fit_cases (A * A) with ⟨ps, hp, hp2⟩ | ⟨hp, _⟩
      · rw [hp] at M1
        rcases fit_cases (B * B) with ⟨qs, hq, hq2⟩ | ⟨hq, _⟩
        · rw [hq] at M2
          rw [fitL_yes hp2] at hp
          rw [fitL_yes hq2] at hq
          injection hp with hp _
          injection hq with hq _
          have P3 := Lib.hid (HQ.out hp2 hq2)
          rw [hp, hq] at P3
          have P1 := Lib.hid M1
          have P2 := Lib.hid M2
          clear M1 M2 hp hq hp2 hq2 hA hB HQ
          generalize ofN A = xs at *
          generalize ofN B = ys at *
          go_wp2_with fail
          refine (LongCompare_any _ _ _ _ _ _ _ _ _ HZ _ r1 r2).mono ?_
          rintro e w2 ⟨rfl, hb2⟩
          replace r1 := r1.keep hb2
          replace r2 := r2.keep hb2
          replace HB := bseq HB hb2
          clear hb2
          go_wp2_with fail
          refine (sLongCompare_any _ _ _ _ _ _ _ _ _ HZ _ r1 r2).mono ?_
          rintro e w3 ⟨rfl, hb3⟩
          replace r1 := r1.keep hb3
          replace r2 := r2.keep hb3
          replace HB := bseq HB hb3
          clear hb3
          go_wp2_with fail
          refine (LongMul_any _ _ _ _ _ _ _ _ _ _ P1 _ r1 r1).mono ?_
          rintro e w4 ⟨a3, c3, rfl, r3, hb4⟩
          replace r1 := r1.keep hb4
          replace r2 := r2.keep hb4
          replace HB := bseq HB hb4
          clear hb4
          go_wp2_with fail
          refine (LongMul_any _ _ _ _ _ _ _ _ _ _ P2 _ r2 r2).mono ?_
          rintro e w5 ⟨a4, c4, rfl, r4, hb5⟩
          replace r1 := r1.keep hb5
          replace r2 := r2.keep hb5
          replace r3 := r3.keep hb5
          replace HB := bseq HB hb5
          clear hb5
          go_wp2_with fail
          refine (LongCompare_any _ _ _ _ _ _ _ _ _ P3 _ r3 r4).mono ?_
          rintro e w6 ⟨rfl, hb6⟩
          replace r1 := r1.keep hb6
          replace r2 := r2.keep hb6
          replace r3 := r3.keep hb6
          replace r4 := r4.keep hb6
          replace HB := bseq HB hb6
          clear hb6
          go_wp2
          go_ret
          exact ⟨by first | rfl | (simp; done) | (simp; omega), HB⟩
        · rw [hq] at M2
          have P1 := Lib.hid M1
          have P2 := Lib.hid M2
          clear M1 M2 hp hq hp2 hA hB HQ
          generalize ofN A = xs at *
          generalize ofN B = ys at *
          go_wp2_with fail
          refine (LongCompare_any _ _ _ _ _ _ _ _ _ HZ _ r1 r2).mono ?_
          rintro e w2 ⟨rfl, hb2⟩
          replace r1 := r1.keep hb2
          replace r2 := r2.keep hb2
          replace HB := bseq HB hb2
          clear hb2
          go_wp2_with fail
          refine (sLongCompare_any _ _ _ _ _ _ _ _ _ HZ _ r1 r2).mono ?_
          rintro e w3 ⟨rfl, hb3⟩
          replace r1 := r1.keep hb3
          replace r2 := r2.keep hb3
          replace HB := bseq HB hb3
          clear hb3
          go_wp2_with fail
          refine (LongMul_any _ _ _ _ _ _ _ _ _ _ P1 _ r1 r1).mono ?_
          rintro e w4 ⟨a3, c3, rfl, r3, hb4⟩
          replace r1 := r1.keep hb4
          replace r2 := r2.keep hb4
          replace HB := bseq HB hb4
          clear hb4
          go_wp2_with fail
          refine (LongMul_any _ _ _ _ _ _ _ _ _ _ P2 _ r2 r2).mono ?_
          rintro e w5 ⟨a4, c4, rfl, r4, hb5⟩
          replace r1 := r1.keep hb5
          replace r2 := r2.keep hb5
          replace r3 := r3.keep hb5
          replace HB := bseq HB hb5
          clear hb5
          go_wp2
          go_ret
          exact ⟨by first | rfl | (simp; done) | (simp; omega), HB⟩
      · rw [hp] at M1
        obtain ⟨⟨qs, two⟩, hq⟩ : ∃ r, fitL (B * B) = r := ⟨_, rfl⟩
        rw [hq] at M2
        have P1 := Lib.hid M1
        have P2 := Lib.hid M2
        clear M1 M2 hp hq hA hB HQ
        generalize ofN A = xs at *
        generalize ofN B = ys at *
        go_wp2_with fail
        refine (LongCompare_any _ _ _ _ _ _ _ _ _ HZ _ r1 r2).mono ?_
        rintro e w2 ⟨rfl, hb2⟩
        replace r1 := r1.keep hb2
        replace r2 := r2.keep hb2
        replace HB := bseq HB hb2
        clear hb2
        go_wp2_with fail
        refine (sLongCompare_any _ _ _ _ _ _ _ _ _ HZ _ r1 r2).mono ?_
        rintro e w3 ⟨rfl, hb3⟩
        replace r1 := r1.keep hb3
        replace r2 := r2.keep hb3
        replace HB := bseq HB hb3
        clear hb3
        go_wp2_with fail
        refine (LongMul_any _ _ _ _ _ _ _ _ _ _ P1 _ r1 r1).mono ?_
        rintro e w4 ⟨a3, c3, rfl, r3, hb4⟩
        replace r1 := r1.keep hb4
        replace r2 := r2.keep hb4
        replace HB := bseq HB hb4
        clear hb4
        go_wp2_with fail
        refine (LongMul_any _ _ _ _ _ _ _ _ _ _ P2 _ r2 r2).mono ?_
        rintro e w5 ⟨a4, c4, rfl, r4, hb5⟩
        replace r1 := r1.keep hb5
        replace r2 := r2.keep hb5
        replace r3 := r3.keep hb5
        replace HB := bseq HB hb5
        clear hb5
        go_wp2
        go_ret
        exact ⟨by first | rfl | (simp; done) | (simp; omega), HB⟩

set_option maxHeartbeats 4000000 in
theorem FnLongSmall_walk (a0 : Option Addr) (len0 cap0 : Nat) (z0 : List Int) (a1 : Option Addr) (len1 cap1 : Nat) (z1 : List Int) (w : World) (w0 : IsRow .u8 w a0 len0 cap0 z0) (w1 : IsRow .u8 w a1 len1 cap1 z1) : Calls Try.prog 8 #[.slice a0 len0 cap0, .slice a1 len1 cap1] w fun e w' => e = .returned (.bool true) ∧ Below w.heap.size w w' := by
  by_cases hlen0 : (1048576 : Int) < (len0 : Int)
  · go_enter Try.func8, Try.ntmps8
    go_wp2
    go_ret
    exact ⟨by first | rfl | (simp; done) | (simp; omega), Below.refl _ _⟩
  · have I0 := Lib.hid w0
    clear w0
    by_cases hlen1 : (1048576 : Int) < (len1 : Int)
    · go_enter Try.func8, Try.ntmps8
      go_wp2
      go_ret
      exact ⟨by first | rfl | (simp; done) | (simp; omega), Below.refl _ _⟩
    · have I1 := Lib.hid w1
      clear w1
      have HB := Below.refl w.heap.size w
      go_enter Try.func8, Try.ntmps8
      go_wp2_with fail
      refine (DrawLongOf_any _ _ _ _ _ I0.out).mono ?_
      rintro e w1 ⟨n, hn1, hn2, rfl, hb1⟩
      replace HB := bseq HB hb1
      clear hb1
      obtain ⟨zs, hz⟩ : ∃ zs, ofL n = zs := ⟨_, rfl⟩
      have HZ := Lib.hid hz
      clear hz
      go_wp2_with fail
      refine (LongOf_any _ _ HZ _).mono ?_
      rintro e w2 ⟨a1', c1, rfl, r1, hb2⟩
      replace HB := bseq HB hb2
      clear hb2
      go_wp2_with fail
      refine (sLongOf_any _ _ HZ _).mono ?_
      rintro e w3 ⟨g2, c2, rfl, r2, hb3⟩
      replace r1 := r1.keep hb3
      replace HB := bseq HB hb3
      clear hb3
      go_wp2_with fail
      refine (sameInts_same _ _ _ _ _ _ _ _ r1 r2).mono ?_
      rintro e w4 ⟨rfl, hb4⟩
      replace r1 := r1.keep hb4
      replace r2 := r2.keep hb4
      replace HB := bseq HB hb4
      clear hb4
      clear r2
      have J1 := Lib.hid (I1.out.keep HB)
      go_wp2_with fail
      refine (DrawLongOf_any _ _ _ _ _ J1.out).mono ?_
      rintro e w5 ⟨m, hm1, hm2, rfl, hb5⟩
      replace r1 := r1.keep hb5
      replace HB := bseq HB hb5
      clear hb5
      by_cases h1 : n < 0
      · go_wp2_with fail
        refine (alive_any _).mono ?_
        rintro e w' ⟨rfl, rfl⟩
        go_wp2
        go_ret
        exact ⟨by first | rfl | (simp; done) | (simp; omega), HB⟩
      · by_cases h2 : m < 0
        · go_wp2_with fail
          refine (alive_any _).mono ?_
          rintro e w' ⟨rfl, rfl⟩
          go_wp2
          go_ret
          exact ⟨by first | rfl | (simp; done) | (simp; omega), HB⟩
        · by_cases h3 : 536870912 < n
          · go_wp2_with fail
            refine (alive_any _).mono ?_
            rintro e w' ⟨rfl, rfl⟩
            go_wp2
            go_ret
            exact ⟨by first | rfl | (simp; done) | (simp; omega), HB⟩
          · by_cases h4 : 536870912 < m
            · go_wp2_with fail
              refine (alive_any _).mono ?_
              rintro e w' ⟨rfl, rfl⟩
              go_wp2
              go_ret
              exact ⟨by first | rfl | (simp; done) | (simp; omega), HB⟩
            · obtain ⟨A, rfl⟩ := Int.eq_ofNat_of_zero_le (show 0 ≤ n by omega)
              obtain ⟨B, rfl⟩ := Int.eq_ofNat_of_zero_le (show 0 ≤ m by omega)
              have hA : A ≤ 536870912 := by omega
              have hB : B ≤ 536870912 := by omega
              have ofl : ∀ k : Nat, k ≤ 1152921504606846976 → ofL (k : Int) = ofN k := fun k hk => by unfold ofL; rw [if_pos (by omega)]; rfl
              have big : ∀ k : Nat, k ≤ 1152921504606846976 → k < 10000 ^ 60 := fun k hk => Nat.lt_of_lt_of_le (show k < 10000 ^ 5 by omega) (Nat.pow_le_pow_right (by omega) (by omega))
              have hAB : A * B ≤ 536870912 * 536870912 := Nat.mul_le_mul hA hB
              have e0 : zs = ofN A := by rw [← HZ.out, ofl A (by omega)]
              subst e0
              have K0 : Hid (ofL (B : Int) = ofN B) := Lib.hid (ofl B (by omega))
              have K1 : Hid (addL (ofN A) (ofN B) = (ofN (A + B), true)) := Lib.hid (by rw [addL_ofN (big A (by omega)) (big B (by omega)), fitL_yes (big _ (by omega))])
              have K2 : Hid (mulL (ofN A) (ofN B) = (ofN (A * B), true)) := Lib.hid (by rw [mulL_ofN (big A (by omega)) (big B (by omega)), fitL_yes (big _ (by omega))])
              have K3 : Hid (ofL ((A : Int) + (B : Int)) = ofN (A + B)) := Lib.hid (by have := ofl (A + B) (by omega); rwa [Int.natCast_add] at this)
              have K4 : Hid (ofL ((A : Int) * (B : Int)) = ofN (A * B)) := Lib.hid (by have := ofl (A * B) (by omega); rwa [Int.natCast_mul] at this)
              have hp1 : 0 ≤ (A : Int) * (B : Int) := Int.mul_nonneg (by omega) (by omega)
              have hp2 : (A : Int) * (B : Int) ≤ 288230376151711744 := (by have h : ((A * B : Nat) : Int) ≤ 288230376151711744 := (by omega); rwa [Int.natCast_mul] at h)
              obtain ⟨c, hc⟩ : ∃ c : Int, cmpL (ofN A) (ofN B) = c := ⟨_, rfl⟩
              have K5 := Lib.hid hc
              rw [cmpL_ofN (big A (by omega)) (big B (by omega))] at hc
              clear ofl big hAB HZ
              generalize ofN (A + B) = ss at *
              generalize ofN (A * B) = ps at *
              generalize ofN A = xs at *
              generalize ofN B = ys at *
              rcases Nat.lt_trichotomy A B with hlt | hlt | hlt
              · rw [cmpN_lt hlt] at hc
                subst hc
                have hlt' : (A : Int) < (B : Int) := by omega
                go_wp2_with fail
                refine (LongOf_any _ _ K0 _).mono ?_
                rintro e w6 ⟨a6, c6, rfl, r6, hb6⟩
                replace r1 := r1.keep hb6
                replace HB := bseq HB hb6
                clear hb6
                go_wp2_with fail
                refine (LongAdd_any _ _ _ _ _ _ _ _ _ _ K1 _ r1 r6).mono ?_
                rintro e w7 ⟨a7, c7, rfl, r7, hb7⟩
                replace r1 := r1.keep hb7
                replace r6 := r6.keep hb7
                replace HB := bseq HB hb7
                clear hb7
                go_wp2_with fail
                refine (LongMul_any _ _ _ _ _ _ _ _ _ _ K2 _ r1 r6).mono ?_
                rintro e w8 ⟨a8, c8, rfl, r8, hb8⟩
                replace r1 := r1.keep hb8
                replace r6 := r6.keep hb8
                replace r7 := r7.keep hb8
                replace HB := bseq HB hb8
                clear hb8
                go_wp2_with fail
                refine (LongCompare_any _ _ _ _ _ _ _ _ _ K5 _ r1 r6).mono ?_
                rintro e w9 ⟨rfl, hb9⟩
                replace r1 := r1.keep hb9
                replace r6 := r6.keep hb9
                replace r7 := r7.keep hb9
                replace r8 := r8.keep hb9
                replace HB := bseq HB hb9
                clear hb9
                go_wp2_with fail
                refine (LongOf_any _ _ K3 _).mono ?_
                rintro e w10 ⟨a9, c9, rfl, r9, hb10⟩
                replace r1 := r1.keep hb10
                replace r6 := r6.keep hb10
                replace r7 := r7.keep hb10
                replace r8 := r8.keep hb10
                replace HB := bseq HB hb10
                clear hb10
                go_wp2_with fail
                refine (sameInts_same _ _ _ _ _ _ _ _ r7 r9).mono ?_
                rintro e w11 ⟨rfl, hb11⟩
                replace r1 := r1.keep hb11
                replace r6 := r6.keep hb11
                replace r7 := r7.keep hb11
                replace r8 := r8.keep hb11
                replace r9 := r9.keep hb11
                replace HB := bseq HB hb11
                clear hb11
                go_wp2_with fail
                refine (LongOf_any _ _ K4 _).mono ?_
                rintro e w12 ⟨a10, c10, rfl, r10, hb12⟩
                replace r1 := r1.keep hb12
                replace r6 := r6.keep hb12
                replace r7 := r7.keep hb12
                replace r8 := r8.keep hb12
                replace r9 := r9.keep hb12
                replace HB := bseq HB hb12
                clear hb12
                go_wp2_with fail
                refine (sameInts_same _ _ _ _ _ _ _ _ r8 r10).mono ?_
                rintro e w13 ⟨rfl, hb13⟩
                replace r1 := r1.keep hb13
                replace r6 := r6.keep hb13
                replace r7 := r7.keep hb13
                replace r8 := r8.keep hb13
                replace r9 := r9.keep hb13
                replace r10 := r10.keep hb13
                replace HB := bseq HB hb13
                clear hb13
                go_wp2
                go_ret
                exact ⟨by first | rfl | (simp; done) | (simp; omega), HB⟩
              · rw [hlt, cmpN_eq] at hc
                subst hc
                have hlt' : (A : Int) = (B : Int) := by omega
                clear hlt' 
                subst hlt
                go_wp2_with fail
                refine (LongOf_any _ _ K0 _).mono ?_
                rintro e w6 ⟨a6, c6, rfl, r6, hb6⟩
                replace r1 := r1.keep hb6
                replace HB := bseq HB hb6
                clear hb6
                go_wp2_with fail
                refine (LongAdd_any _ _ _ _ _ _ _ _ _ _ K1 _ r1 r6).mono ?_
                rintro e w7 ⟨a7, c7, rfl, r7, hb7⟩
                replace r1 := r1.keep hb7
                replace r6 := r6.keep hb7
                replace HB := bseq HB hb7
                clear hb7
                go_wp2_with fail
                refine (LongMul_any _ _ _ _ _ _ _ _ _ _ K2 _ r1 r6).mono ?_
                rintro e w8 ⟨a8, c8, rfl, r8, hb8⟩
                replace r1 := r1.keep hb8
                replace r6 := r6.keep hb8
                replace r7 := r7.keep hb8
                replace HB := bseq HB hb8
                clear hb8
                go_wp2_with fail
                refine (LongCompare_any _ _ _ _ _ _ _ _ _ K5 _ r1 r6).mono ?_
                rintro e w9 ⟨rfl, hb9⟩
                replace r1 := r1.keep hb9
                replace r6 := r6.keep hb9
                replace r7 := r7.keep hb9
                replace r8 := r8.keep hb9
                replace HB := bseq HB hb9
                clear hb9
                go_wp2_with fail
                refine (LongOf_any _ _ K3 _).mono ?_
                rintro e w10 ⟨a9, c9, rfl, r9, hb10⟩
                replace r1 := r1.keep hb10
                replace r6 := r6.keep hb10
                replace r7 := r7.keep hb10
                replace r8 := r8.keep hb10
                replace HB := bseq HB hb10
                clear hb10
                go_wp2_with fail
                refine (sameInts_same _ _ _ _ _ _ _ _ r7 r9).mono ?_
                rintro e w11 ⟨rfl, hb11⟩
                replace r1 := r1.keep hb11
                replace r6 := r6.keep hb11
                replace r7 := r7.keep hb11
                replace r8 := r8.keep hb11
                replace r9 := r9.keep hb11
                replace HB := bseq HB hb11
                clear hb11
                go_wp2_with fail
                refine (LongOf_any _ _ K4 _).mono ?_
                rintro e w12 ⟨a10, c10, rfl, r10, hb12⟩
                replace r1 := r1.keep hb12
                replace r6 := r6.keep hb12
                replace r7 := r7.keep hb12
                replace r8 := r8.keep hb12
                replace r9 := r9.keep hb12
                replace HB := bseq HB hb12
                clear hb12
                go_wp2_with fail
                refine (sameInts_same _ _ _ _ _ _ _ _ r8 r10).mono ?_
                rintro e w13 ⟨rfl, hb13⟩
                replace r1 := r1.keep hb13
                replace r6 := r6.keep hb13
                replace r7 := r7.keep hb13
                replace r8 := r8.keep hb13
                replace r9 := r9.keep hb13
                replace r10 := r10.keep hb13
                replace HB := bseq HB hb13
                clear hb13
                go_wp2
                go_ret
                exact ⟨by first | rfl | (simp; done) | (simp; omega), HB⟩
              · rw [cmpN_gt hlt] at hc
                subst hc
                have hlt' : (B : Int) < (A : Int) := by omega
                go_wp2_with fail
                refine (LongOf_any _ _ K0 _).mono ?_
                rintro e w6 ⟨a6, c6, rfl, r6, hb6⟩
                replace r1 := r1.keep hb6
                replace HB := bseq HB hb6
                clear hb6
                go_wp2_with fail
                refine (LongAdd_any _ _ _ _ _ _ _ _ _ _ K1 _ r1 r6).mono ?_
                rintro e w7 ⟨a7, c7, rfl, r7, hb7⟩
                replace r1 := r1.keep hb7
                replace r6 := r6.keep hb7
                replace HB := bseq HB hb7
                clear hb7
                go_wp2_with fail
                refine (LongMul_any _ _ _ _ _ _ _ _ _ _ K2 _ r1 r6).mono ?_
                rintro e w8 ⟨a8, c8, rfl, r8, hb8⟩
                replace r1 := r1.keep hb8
                replace r6 := r6.keep hb8
                replace r7 := r7.keep hb8
                replace HB := bseq HB hb8
                clear hb8
                go_wp2_with fail
                refine (LongCompare_any _ _ _ _ _ _ _ _ _ K5 _ r1 r6).mono ?_
                rintro e w9 ⟨rfl, hb9⟩
                replace r1 := r1.keep hb9
                replace r6 := r6.keep hb9
                replace r7 := r7.keep hb9
                replace r8 := r8.keep hb9
                replace HB := bseq HB hb9
                clear hb9
                go_wp2_with fail
                refine (LongOf_any _ _ K3 _).mono ?_
                rintro e w10 ⟨a9, c9, rfl, r9, hb10⟩
                replace r1 := r1.keep hb10
                replace r6 := r6.keep hb10
                replace r7 := r7.keep hb10
                replace r8 := r8.keep hb10
                replace HB := bseq HB hb10
                clear hb10
                go_wp2_with fail
                refine (sameInts_same _ _ _ _ _ _ _ _ r7 r9).mono ?_
                rintro e w11 ⟨rfl, hb11⟩
                replace r1 := r1.keep hb11
                replace r6 := r6.keep hb11
                replace r7 := r7.keep hb11
                replace r8 := r8.keep hb11
                replace r9 := r9.keep hb11
                replace HB := bseq HB hb11
                clear hb11
                go_wp2_with fail
                refine (LongOf_any _ _ K4 _).mono ?_
                rintro e w12 ⟨a10, c10, rfl, r10, hb12⟩
                replace r1 := r1.keep hb12
                replace r6 := r6.keep hb12
                replace r7 := r7.keep hb12
                replace r8 := r8.keep hb12
                replace r9 := r9.keep hb12
                replace HB := bseq HB hb12
                clear hb12
                go_wp2_with fail
                refine (sameInts_same _ _ _ _ _ _ _ _ r8 r10).mono ?_
                rintro e w13 ⟨rfl, hb13⟩
                replace r1 := r1.keep hb13
                replace r6 := r6.keep hb13
                replace r7 := r7.keep hb13
                replace r8 := r8.keep hb13
                replace r9 := r9.keep hb13
                replace r10 := r10.keep hb13
                replace HB := bseq HB hb13
                clear hb13
                go_wp2
                go_ret
                exact ⟨by first | rfl | (simp; done) | (simp; omega), HB⟩

end Go.Proofs.Ytfiaikahammfpaa.K
