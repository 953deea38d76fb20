/- The walks of the laws on drawn long numbers: valid, of, add, compare. -/
import Derived.Test.YtamalihebfcfbaaLE
import Derived.Test.YtamalihebfcfbaaLU
import Derived.Test.YtamalihebfcfbaaLC
import Derived.Test.YtamalihebfcfbaaRoot
namespace Go.Proofs.Ytamalihebfcfbaa.K
open Go.RowKit

theorem alive_any (w : World) : Calls Try.prog 20 #[] w fun e w' => e = .returned (.bool true) ∧ w = w' := by
  have e5 : Lib.bitLen (Int.toNat 5) = 3 := by decide
  go_enter Try.func20, Try.ntmps20
  go_wp2_with (first | (go_at_call 32; refine (BitLength_in _ _ (by omega) (by omega)).mono ?_; rintro e w' ⟨rfl, rfl⟩))
  go_ret
  exact ⟨rfl, rfl⟩
theorem digit_facts' {l : List Nat} (hd : Dig l) : ∃ f : Nat → Nat, (∀ j, f j = l.getD j 0) ∧ ∀ j, j < l.length → f j < 10000 ∧ l[j]? = some (f j) := by
  refine ⟨fun j => l.getD j 0, fun _ => rfl, fun j hj => ?_⟩
  have e : l[j]? = some (l.getD j 0) := by rw [List.getD_eq_getElem?_getD, List.getElem?_eq_getElem hj]; rfl
  exact ⟨hd _ (List.mem_of_getElem? e), e⟩
theorem ofL_len (n : Int) : (ofL n).length ≤ 60 := by
  unfold ofL
  split
  · rw [ofN_len]; have := digs_short (n := n.toNat) (by omega); omega
  · simp
theorem addL_ofN {A B : Nat} (hA : A < 10000 ^ 60) (hB : B < 10000 ^ 60) : addL (ofN A) (ofN B) = fitL (A + B) := by
  rw [addL_in (lv_ofN hA) (lv_ofN hB), toN_ofN, toN_ofN]
theorem addL_nil {A : Nat} (hA : A < 10000 ^ 60) : addL (ofN A) [] = (ofN A, true) := by
  have h := addL_ofN (B := 0) hA (by omega)
  rw [ofN_zero, Nat.add_zero, fitL_yes hA] at h
  exact h
theorem addL_cases (xs ys : List Int) : (addL xs ys = ([], false) ∧ addL ys xs = ([], false)) ∨ ∃ A B, xs = ofN A ∧ ys = ofN B ∧ A + B < 10000 ^ 60 ∧ addL xs ys = (ofN (A + B), true) ∧ addL ys xs = (ofN (A + B), true) := by
  rcases hx : lv xs with _ | _
  · exact .inl ⟨addL_no (.inl hx), addL_no (.inr hx)⟩
  · rcases hy : lv ys with _ | _
    · exact .inl ⟨addL_no (.inr hy), addL_no (.inl hy)⟩
    · obtain ⟨ex, hA⟩ := lv_ofN_out hx
      obtain ⟨ey, hB⟩ := lv_ofN_out hy
      have e1 := addL_in hx hy
      have e2 := addL_in hy hx
      rw [Nat.add_comm (toN ys)] at e2
      generalize toN xs = A at *
      generalize toN ys = B at *
      subst ex ey
      by_cases h : A + B < 10000 ^ 60
      · rw [fitL_yes h] at e1 e2
        exact .inr ⟨A, B, rfl, rfl, h, e1, e2⟩
      · rw [fitL_no h] at e1 e2
        exact .inl ⟨e1, e2⟩
theorem cmpL_ofN {A B : Nat} (hA : A < 10000 ^ 60) (hB : B < 10000 ^ 60) : cmpL (ofN A) (ofN B) = cmpN A B := by
  unfold cmpL; rw [lv_ofN hA, lv_ofN hB, toN_ofN, toN_ofN]; simp
theorem cmpL_ge {A B : Nat} (hA : A < 10000 ^ 60) (hB : B < 10000 ^ 60) (h : B ≤ A) : 0 ≤ cmpL (ofN A) (ofN B) := by
  rw [cmpL_ofN hA hB]
  rcases Nat.eq_or_lt_of_le h with e | h
  · rw [e, cmpN_eq]; omega
  · rw [cmpN_gt h]; omega
theorem cmpL_cases (xs ys : List Int) : (cmpL xs ys = 2 ∧ cmpL ys xs = 2) ∨ ∃ A B, xs = ofN A ∧ ys = ofN B ∧ A < 10000 ^ 60 ∧ B < 10000 ^ 60 := by
  rcases hx : lv xs with _ | _
  · exact .inl ⟨cmpL_no (.inl hx), cmpL_no (.inr hx)⟩
  · rcases hy : lv ys with _ | _
    · exact .inl ⟨cmpL_no (.inr hy), cmpL_no (.inl hy)⟩
    · obtain ⟨ex, hA⟩ := lv_ofN_out hx
      obtain ⟨ey, hB⟩ := lv_ofN_out hy
      exact .inr ⟨_, _, ex, ey, hA, hB⟩
theorem ofN_one : ofN 1 = [1] := by unfold ofN; rw [digs_pos (by omega), show 1 / 10000 = 0 from rfl, digs_zero]; rfl
theorem row_one (w : World) : Row (w.alloc (.cells #[.int .i64 1] 3)) w.heap.size (some ⟨w.heap.size, 0, none⟩) 1 [1] := (Row.of_own (xs := [1]) (World.ownsRow_lit w #[.int .i64 1] 1 (Nat.le_refl _) (by decide) rfl)).2
theorem add_one_cases {A : Nat} (hA : A < 10000 ^ 60) : (addL (ofN A) [1] = (ofN (A + 1), true) ∧ cmpL (ofN A) (ofN (A + 1)) = -1) ∨ addL (ofN A) [1] = ([], false) := by
  have h := addL_ofN (B := 1) hA (Nat.one_lt_pow (by omega) (by omega))
  rw [ofN_one] at h
  by_cases h1 : A + 1 < 10000 ^ 60
  · rw [fitL_yes h1] at h
    exact .inl ⟨h, by rw [cmpL_ofN hA h1, cmpN_lt (by omega)]⟩
  · rw [fitL_no h1] at h
    exact .inr h

set_option maxHeartbeats 1000000 in
theorem FnLongValid_walk (a0 : Option Addr) (len0 cap0 : Nat) (z0 : List Int) (w : World) (w0 : IsRow .u8 w a0 len0 cap0 z0) : Calls Try.prog 5 #[.slice a0 len0 cap0] w fun e w' => e = .returned (.bool true) ∧ Below w.heap.size w w' := by
  by_cases hlen0 : (1048576 : Int) < (len0 : Int)
  · go_enter Try.func5, Try.ntmps5
    go_wp2
    go_ret
    exact ⟨by first | rfl | (simp; done) | (simp; omega), Below.refl _ _⟩
  · have I0 := Lib.hid w0
    clear w0
    have HB := Below.refl w.heap.size w
    go_enter Try.func5, Try.ntmps5
    go_wp2_with fail
    refine (DrawLongValid_any _ _ _ _ _ I0.out).mono ?_
    rintro e w1 ⟨g1, c1, xs, rfl, r1, hl1, hb1⟩
    replace HB := bseq HB hb1
    clear hb1
    go_wp2_with fail
    refine (LongValid_any _ _ _ _ _ r1).mono ?_
    rintro e w' ⟨rfl, rfl⟩
    go_wp2_with fail
    refine (sLongValid_any _ _ _ _ _ r1).mono ?_
    rintro e w' ⟨rfl, rfl⟩
    obtain ⟨i0, hi, hz0, hz1, hz2⟩ := info_parts Try.infoInt
    have hlc := r1.len_lt
    have hsz := HB.size
    have H0 : (w1.alloc (.cells #[] 3)).ownsRow w1.heap.size 3 1 (.slice (some ⟨w1.heap.size, 0, none⟩) 0 0) 0 [] := World.ownsRow_lit w1 #[] 0 (Nat.le_refl _) (by decide) rfl
    have HN := row_cells (r1.alloc (.cells #[] 3))
    have HV : (vs xs).length = xs.length * 1 := by simp [vs]
    go_wp2_with (first
      | (at_builtin; refine wpList_append_own _ rfl _ _ 22 rfl w1.heap.size 3 i0 (.int .i64 0) 1 8 Try.underlying22 hi hz0 hz1 hz2 rfl (by decide) _ _ _ rfl H0 ⟨g1, 0, none⟩ xs.length c1 (vs xs) rfl HV HN (ints_oneCell _ _) (by unfold maxLen; omega) (by omega) (by simp) ?_))
    intro s2 w2 hown' hgrow hnil
    have hne : s2 ≠ .slice none 0 0 := by intro e; first | exact absurd e hnil | (have := (hnil.1 e).1; simp at this)
    obtain ⟨o2, hb2, _⟩ := copy_step (by simpa using hown') hgrow hne
    have HB2 := bseq HB hb2
    have hs2 := hb2.size
    clear hown' hgrow hnil H0 HN HV
    go_wp2_with (first
      | (at_builtin; refine wpList_append_own _ rfl _ _ 22 rfl w1.heap.size 3 i0 (.int .i64 0) 1 8 Try.underlying22 hi hz0 hz1 hz2 rfl (by decide) _ _ _ rfl (World.ownsRow.alloc o2 _) ⟨w2.heap.size, 0, none⟩ 1 1 [.int .i64 0] rfl rfl (one_cell (heap_alloc_new _ _) rfl) (one_flat _) (by unfold maxLen; omega) (by omega) (by simp; omega) ?_))
    intro s3 w3 hown' hgrow hnil
    have hne3 : s3 ≠ .slice none 0 0 := by intro e; first | exact absurd e hnil | (have := (hnil.1 e).2; omega)
    have hb3 : Below w1.heap.size w1 w3 := below_app hb2 hs2 _ o2 hgrow
    have HB3 := bseq HB hb3
    obtain ⟨ys, HY, o3⟩ : ∃ ys, Hid (lv ys = false) ∧ OwnI w3 w1.heap.size s3 ys := ⟨xs ++ [0], Lib.hid (lv_zero xs), own_snocI hown'⟩
    clear hown' hgrow hnil HB HB2 hb3 hb2 o2
    obtain ⟨g3, c3, rfl, r3⟩ := o3.row hne3
    have HB := HB3
    clear o3 hne3 hne
    go_wp2_with fail
    refine (LongValid_is false _ _ _ _ _ r3 HY.out).mono ?_
    rintro e w' ⟨rfl, rfl⟩
    go_wp2_with fail
    refine (alive_any _).mono ?_
    rintro e w' ⟨rfl, rfl⟩
    go_wp2
    go_ret
    exact ⟨by first | rfl | (simp; done) | (simp; omega), HB⟩

set_option maxHeartbeats 1000000 in
theorem FnLongOf_walk (a0 : Option Addr) (len0 cap0 : Nat) (z0 : List Int) (w : World) (w0 : IsRow .u8 w a0 len0 cap0 z0) : Calls Try.prog 6 #[.slice a0 len0 cap0] w fun e w' => e = .returned (.bool true) ∧ Below w.heap.size w w' := by
  by_cases hlen0 : (1048576 : Int) < (len0 : Int)
  · go_enter Try.func6, Try.ntmps6
    go_wp2
    go_ret
    exact ⟨by first | rfl | (simp; done) | (simp; omega), Below.refl _ _⟩
  · have I0 := Lib.hid w0
    clear w0
    have HB := Below.refl w.heap.size w
    go_enter Try.func6, Try.ntmps6
    go_wp2_with fail
    refine (DrawLongOf_any _ _ _ _ _ I0.out).mono ?_
    rintro e w1 ⟨n, hn1, hn2, rfl, hb1⟩
    replace HB := bseq HB hb1
    clear hb1
    obtain ⟨zs, hz⟩ : ∃ zs, ofL n = zs := ⟨_, rfl⟩
    have HZ := Lib.hid hz
    have hzl : zs.length ≤ 60 := by rw [← hz]; exact ofL_len n
    clear hz
    go_wp2_with fail
    refine (LongOf_any _ _ HZ _).mono ?_
    rintro e w2 ⟨a1, c1, rfl, r1, hb2⟩
    replace HB := bseq HB hb2
    clear hb2
    go_wp2_with fail
    refine (sLongOf_any _ _ HZ _).mono ?_
    rintro e w3 ⟨g2, c2, rfl, r2, hb3⟩
    replace r1 := r1.keep hb3
    replace HB := bseq HB hb3
    clear hb3
    go_wp2_with fail
    refine (sameInts_same _ _ _ _ _ _ _ _ r1 r2).mono ?_
    rintro e w4 ⟨rfl, hb4⟩
    replace r1 := r1.keep hb4
    replace r2 := r2.keep hb4
    replace HB := bseq HB hb4
    clear hb4
    by_cases hin : 0 ≤ n ∧ n ≤ 1152921504606846976
    · obtain ⟨hn0, hn3⟩ := hin
      obtain ⟨m, rfl⟩ := Int.eq_ofNat_of_zero_le hn0
      have e : zs = (digs m).map Int.ofNat := by rw [← HZ.out]; unfold ofL; rw [if_pos ⟨hn0, hn3⟩]; rfl
      obtain ⟨l, hl⟩ : ∃ l, digs m = l := ⟨_, rfl⟩
      have hv : val l = m := by rw [← hl, val_digs]
      have hd : Dig l := by rw [← hl]; exact dig_digs m
      rw [hl] at e
      have hlv : lv zs = true := by rw [e, ← hl]; exact lv_ofN (n := m) (by omega)
      subst e
      have hll : l.length ≤ 60 := by simpa using hzl
      obtain ⟨f, hf, hfd⟩ := digit_facts' hd
      have HC : Hid (∀ j, j < l.length → ∃ g, a1 = some ⟨g, 0, none⟩ ∧ w4.cell? ⟨g, j, none⟩ = some (.int .i64 (f j))) := Lib.hid fun j hj => by
        obtain ⟨g, rfl, _, hg⟩ := r1.block (by simp; omega)
        exact ⟨g, rfl, by rw [r1.cell (by simpa using hj), getD_map_ofNat, hf]⟩
      have HS : Hid (∀ k, k < l.length → val (l.drop k) = f k + 10000 * val (l.drop (k + 1)) ∧ val (l.drop k) ≤ m) := Lib.hid fun k hk => by
        have e1 : l[k] = f k := by rw [hf, List.getD_eq_getElem?_getD, List.getElem?_eq_getElem hk]; rfl
        refine ⟨by rw [List.drop_eq_getElem_cons hk, val, e1], ?_⟩
        have h1 := val_append (l.take k) (l.drop k)
        rw [List.take_append_drop, hv] at h1
        have h2 : 1 * val (l.drop k) ≤ 10000 ^ (l.take k).length * val (l.drop k) := Nat.mul_le_mul_right _ (Nat.pow_pos (by omega))
        omega
      have HV : Hid (val (l.drop 0) = m) := Lib.hid (by simpa using hv)
      have HE : Hid (val (l.drop l.length) = 0) := Lib.hid (by rw [List.drop_of_length_le (Nat.le_refl _)]; rfl)
      have RL := Lib.hid r1
      have HLV := Lib.hid hlv
      have hcap := r1.len_lt.2
      have hlc : l.length ≤ c1 := by have := r1.len_lt.1; simpa using this
      have V1 : Hid (Calls Try.prog 13 #[.slice a1 l.length c1] w4 fun e w' => e = .returned (.bool true) ∧ w4 = w') := Lib.hid (by have := LongValid_is true _ _ _ _ _ RL.out HLV.out; rwa [List.length_map] at this)
      clear HZ r1 r2 hf hfd hd hlv hzl RL HLV hn1 hn2 hv hl
      simp only [List.length_map]
      generalize hN : l.length = N at *
      have HLN := Lib.hid hN
      clear hN
      go_wp2
      go_loopw [5, 6] (fun x i wr => ∃ k v : Nat, k ≤ N ∧ i = .int .i64 ((k : Int) - 1) ∧ x = .int .i64 v ∧ v ≤ m ∧ wr = w4 ∧ Hid (v = val (l.drop k))) (fun _ i _ => (intOf i + 1).toNat)
      case atStart => exact ⟨N, 0, by omega, rfl, rfl, by omega, by first | rfl | trivial, Lib.hid HE.out.symm⟩
      case round =>
        obtain ⟨k, v, hk, rfl, rfl, hvm, rfl, HK⟩ := hrel
        by_cases hk0 : 0 < k
        · obtain ⟨k, rfl⟩ : ∃ j, k = j + 1 := ⟨k - 1, by omega⟩
          obtain ⟨g, rfl, hcl⟩ := HC.out k (by omega)
          have ek : ((k + 1 : Nat) : Int) - 1 = (k : Int) := by omega
          have hkn : (k : Int) < (N : Int) := by omega
          obtain ⟨s1, s2⟩ := HS.out k (by omega)
          rw [← HK.out] at s1
          have HK1 := Lib.hid s1
          have s3 : f k + 10000 * v ≤ m := by rw [← s1]; exact s2
          clear s1 s2
          rw [ek]
          go_wp2
          go_roundw
          case rel => exact ⟨k, f k + 10000 * v, by omega, by go_num, by first | rfl | (congr 1; omega) | go_num, s3, by first | rfl | trivial, Lib.hid HK1.out.symm⟩
          case measure => first | (simp [intOf]; done) | (simp [intOf]; omega)
        · obtain rfl : k = 0 := by omega
          have e0 : ((0 : Nat) : Int) - 1 = -1 := by omega
          obtain rfl : v = m := by rw [HK.out]; exact HV.out
          rw [e0]
          go_wp2_with fail
          refine V1.out.mono ?_
          rintro e w' ⟨rfl, rfl⟩
          go_wp2
          go_ret
          exact ⟨by first | rfl | (simp; done) | (simp; omega), HB⟩
    · have e : zs = [] := by rw [← HZ.out]; unfold ofL; rw [if_neg hin]
      subst e
      by_cases h0 : n < 0
      · clear hin
        go_wp2_with fail
        refine (alive_any _).mono ?_
        rintro e w' ⟨rfl, rfl⟩
        go_wp2
        go_ret
        exact ⟨by first | rfl | (simp; done) | (simp; omega), HB⟩
      · have hbig : 1152921504606846976 < n := by omega
        clear hin
        go_wp2_with fail
        refine (alive_any _).mono ?_
        rintro e w' ⟨rfl, rfl⟩
        go_wp2
        go_ret
        exact ⟨by first | rfl | (simp; done) | (simp; omega), HB⟩

set_option maxHeartbeats 1000000 in
theorem FnLongAdd_walk (a0 : Option Addr) (len0 cap0 : Nat) (z0 : List Int) (w : World) (w0 : IsRow .u8 w a0 len0 cap0 z0) : Calls Try.prog 9 #[.slice a0 len0 cap0] w fun e w' => e = .returned (.bool true) ∧ Below w.heap.size w w' := by
  by_cases hlen0 : (1048576 : Int) < (len0 : Int)
  · go_enter Try.func9, Try.ntmps9
    go_wp2
    go_ret
    exact ⟨by first | rfl | (simp; done) | (simp; omega), Below.refl _ _⟩
  · have I0 := Lib.hid w0
    clear w0
    have HB := Below.refl w.heap.size w
    go_enter Try.func9, Try.ntmps9
    go_wp2_with fail
    refine (DrawLongAdd_any _ _ _ _ _ I0.out).mono ?_
    rintro e w1 ⟨g1, c1, xs, g2, c2, ys, rfl, r1, hl1, r2, hl2, hb1⟩
    replace HB := bseq HB hb1
    clear hb1
    rcases addL_cases xs ys with h | ⟨A, B, rfl, rfl, hAB, h, h'⟩
    · have HZ := Lib.hid h.1
      have HZ' := Lib.hid h.2
      clear h
      go_wp2_with fail
      refine (LongAdd_any _ _ _ _ _ _ _ _ _ _ HZ _ r1 r2).mono ?_
      rintro e w2 ⟨a3, c3, rfl, r3, hb2⟩
      replace r1 := r1.keep hb2
      replace r2 := r2.keep hb2
      replace HB := bseq HB hb2
      clear hb2
      go_wp2_with fail
      refine (sLongAdd_any _ _ _ _ _ _ _ _ _ _ HZ _ r1 r2).mono ?_
      rintro e w3 ⟨a4, c4, rfl, r4, hb3⟩
      replace r1 := r1.keep hb3
      replace r2 := r2.keep hb3
      replace r3 := r3.keep hb3
      replace HB := bseq HB hb3
      clear hb3
      go_wp2_with fail
      refine (LongAdd_any _ _ _ _ _ _ _ _ _ _ HZ' _ r2 r1).mono ?_
      rintro e w4 ⟨a5, c5, rfl, r5, hb4⟩
      replace r1 := r1.keep hb4
      replace r2 := r2.keep hb4
      replace r3 := r3.keep hb4
      replace r4 := r4.keep hb4
      replace HB := bseq HB hb4
      clear hb4
      go_wp2_with fail
      refine (sameInts_same _ _ _ _ _ _ _ _ r3 r4).mono ?_
      rintro e w5 ⟨rfl, hb5⟩
      replace r1 := r1.keep hb5
      replace r2 := r2.keep hb5
      replace r3 := r3.keep hb5
      replace r4 := r4.keep hb5
      replace r5 := r5.keep hb5
      replace HB := bseq HB hb5
      clear hb5
      go_wp2_with fail
      refine (sameInts_same _ _ _ _ _ _ _ _ r3 r5).mono ?_
      rintro e w6 ⟨rfl, hb6⟩
      replace r1 := r1.keep hb6
      replace r2 := r2.keep hb6
      replace r3 := r3.keep hb6
      replace r4 := r4.keep hb6
      replace r5 := r5.keep hb6
      replace HB := bseq HB hb6
      clear hb6
      go_wp2_with fail
      refine (alive_any _).mono ?_
      rintro e w' ⟨rfl, rfl⟩
      go_wp2
      go_ret
      exact ⟨by first | rfl | (simp; done) | (simp; omega), HB⟩
    · have HZ := Lib.hid h
      have HZ' := Lib.hid h'
      clear h h'
      have H0 : Hid (addL (ofN A) [] = (ofN A, true)) := Lib.hid (addL_nil (by omega))
      have HV : Hid (lv (ofN (A + B)) = true) := Lib.hid (lv_ofN hAB)
      obtain ⟨c1', hc1, HC1⟩ : ∃ c : Int, 0 ≤ c ∧ Hid (cmpL (ofN (A + B)) (ofN A) = c) := ⟨_, cmpL_ge hAB (by omega) (by omega), Lib.hid rfl⟩
      obtain ⟨c2', hc2, HC2⟩ : ∃ c : Int, 0 ≤ c ∧ Hid (cmpL (ofN (A + B)) (ofN B) = c) := ⟨_, cmpL_ge hAB (by omega) (by omega), Lib.hid rfl⟩
      clear hAB
      generalize ofN (A + B) = zs at *
      generalize ofN A = xs at *
      generalize ofN B = ys at *
      go_wp2_with fail
      refine (LongAdd_any _ _ _ _ _ _ _ _ _ _ HZ _ r1 r2).mono ?_
      rintro e w2 ⟨a3, c3, rfl, r3, hb2⟩
      replace r1 := r1.keep hb2
      replace r2 := r2.keep hb2
      replace HB := bseq HB hb2
      clear hb2
      go_wp2_with fail
      refine (sLongAdd_any _ _ _ _ _ _ _ _ _ _ HZ _ r1 r2).mono ?_
      rintro e w3 ⟨a4, c4, rfl, r4, hb3⟩
      replace r1 := r1.keep hb3
      replace r2 := r2.keep hb3
      replace r3 := r3.keep hb3
      replace HB := bseq HB hb3
      clear hb3
      go_wp2_with fail
      refine (LongAdd_any _ _ _ _ _ _ _ _ _ _ HZ' _ r2 r1).mono ?_
      rintro e w4 ⟨a5, c5, rfl, r5, hb4⟩
      replace r1 := r1.keep hb4
      replace r2 := r2.keep hb4
      replace r3 := r3.keep hb4
      replace r4 := r4.keep hb4
      replace HB := bseq HB hb4
      clear hb4
      go_wp2_with fail
      refine (sameInts_same _ _ _ _ _ _ _ _ r3 r4).mono ?_
      rintro e w5 ⟨rfl, hb5⟩
      replace r1 := r1.keep hb5
      replace r2 := r2.keep hb5
      replace r3 := r3.keep hb5
      replace r4 := r4.keep hb5
      replace r5 := r5.keep hb5
      replace HB := bseq HB hb5
      clear hb5
      go_wp2_with fail
      refine (sameInts_same _ _ _ _ _ _ _ _ r3 r5).mono ?_
      rintro e w6 ⟨rfl, hb6⟩
      replace r1 := r1.keep hb6
      replace r2 := r2.keep hb6
      replace r3 := r3.keep hb6
      replace r4 := r4.keep hb6
      replace r5 := r5.keep hb6
      replace HB := bseq HB hb6
      clear hb6
      clear r4 r5
      go_wp2_with fail
      refine (LongAdd_any _ _ _ _ _ _ _ _ _ _ H0 _ (r1.alloc _) (row_empty _)).mono ?_
      rintro e w7 ⟨a6, c6, rfl, r6, hb7⟩
      replace r1 := (r1.alloc _).keep hb7
      replace r2 := (r2.alloc _).keep hb7
      replace r3 := (r3.alloc _).keep hb7
      replace HB := bseq (balloc HB _) hb7
      clear hb7
      go_wp2_with fail
      refine (LongValid_is true _ _ _ _ _ r3 HV.out).mono ?_
      rintro e w' ⟨rfl, rfl⟩
      go_wp2_with fail
      refine (sameInts_same _ _ _ _ _ _ _ _ r6 r1).mono ?_
      rintro e w8 ⟨rfl, hb8⟩
      replace r1 := r1.keep hb8
      replace r2 := r2.keep hb8
      replace r3 := r3.keep hb8
      replace r6 := r6.keep hb8
      replace HB := bseq HB hb8
      clear hb8
      go_wp2_with fail
      refine (LongCompare_any _ _ _ _ _ _ _ _ _ HC1 _ r3 r1).mono ?_
      rintro e w9 ⟨rfl, hb9⟩
      replace r1 := r1.keep hb9
      replace r2 := r2.keep hb9
      replace r3 := r3.keep hb9
      replace r6 := r6.keep hb9
      replace HB := bseq HB hb9
      clear hb9
      go_wp2_with fail
      refine (LongCompare_any _ _ _ _ _ _ _ _ _ HC2 _ r3 r2).mono ?_
      rintro e w10 ⟨rfl, hb10⟩
      replace r1 := r1.keep hb10
      replace r2 := r2.keep hb10
      replace r3 := r3.keep hb10
      replace r6 := r6.keep hb10
      replace HB := bseq HB hb10
      clear hb10
      go_wp2
      go_ret
      exact ⟨by first | rfl | (simp; done) | (simp; omega), HB⟩

set_option maxHeartbeats 4000000 in
theorem FnLongCompare_walk (a0 : Option Addr) (len0 cap0 : Nat) (z0 : List Int) (w : World) (w0 : IsRow .u8 w a0 len0 cap0 z0) : Calls Try.prog 10 #[.slice a0 len0 cap0] w fun e w' => e = .returned (.bool true) ∧ Below w.heap.size w w' := by
  by_cases hlen0 : (1048576 : Int) < (len0 : Int)
  · go_enter Try.func10, Try.ntmps10
    go_wp2
    go_ret
    exact ⟨by first | rfl | (simp; done) | (simp; omega), Below.refl _ _⟩
  · have I0 := Lib.hid w0
    clear w0
    have HB := Below.refl w.heap.size w
    go_enter Try.func10, Try.ntmps10
    go_wp2_with fail
    refine (DrawLongCompare_any _ _ _ _ _ I0.out).mono ?_
    rintro e w1 ⟨g1, c1, xs, g2, c2, ys, rfl, r1, hl1, r2, hl2, hb1⟩
    replace HB := bseq HB hb1
    clear hb1
    rcases cmpL_cases xs ys with h | ⟨A, B, rfl, rfl, hA, hB⟩
    · have HZ := Lib.hid h.1
      have HZ' := Lib.hid h.2
      clear h
      go_wp2_with fail
      refine (LongCompare_any _ _ _ _ _ _ _ _ _ HZ _ r1 r2).mono ?_
      rintro e w2 ⟨rfl, hb2⟩
      replace r1 := r1.keep hb2
      replace r2 := r2.keep hb2
      replace HB := bseq HB hb2
      clear hb2
      go_wp2_with fail
      refine (sLongCompare_any _ _ _ _ _ _ _ _ _ HZ _ r1 r2).mono ?_
      rintro e w3 ⟨rfl, hb3⟩
      replace r1 := r1.keep hb3
      replace r2 := r2.keep hb3
      replace HB := bseq HB hb3
      clear hb3
      go_wp2_with fail
      refine (LongCompare_any _ _ _ _ _ _ _ _ _ HZ' _ r2 r1).mono ?_
      rintro e w4 ⟨rfl, hb4⟩
      replace r1 := r1.keep hb4
      replace r2 := r2.keep hb4
      replace HB := bseq HB hb4
      clear hb4
      go_wp2_with fail
      refine (alive_any _).mono ?_
      rintro e w' ⟨rfl, rfl⟩
      go_wp2
      go_ret
      exact ⟨by first | rfl | (simp; done) | (simp; omega), HB⟩
    · rcases Nat.lt_trichotomy A B with hlt | rfl | hlt
      · have HZ : Hid (cmpL (ofN A) (ofN B) = -1) := Lib.hid (by rw [cmpL_ofN hA hB, cmpN_lt hlt])
        have HZ' : Hid (cmpL (ofN B) (ofN A) = 1) := Lib.hid (by rw [cmpL_ofN hB hA, cmpN_gt hlt])
        have HD : Hid (decide (ofN A = ofN B) = false) := Lib.hid (decide_eq_false (fun e => by have := ofN_inj e; omega))
        rcases add_one_cases hA with ⟨hm, hm2⟩ | hm
        · have HM := Lib.hid hm
          have HM2 := Lib.hid hm2
          have hlA : (ofN A).length ≤ 61 := hl1
          clear hm hm2
          generalize ofN (A + 1) = ms at *
          generalize ofN A = xs at *
          generalize ofN B = ys at *
          go_wp2_with fail
          refine (LongCompare_any _ _ _ _ _ _ _ _ _ HZ _ r1 r2).mono ?_
          rintro e w2 ⟨rfl, hb2⟩
          replace r1 := r1.keep hb2
          replace r2 := r2.keep hb2
          replace HB := bseq HB hb2
          clear hb2
          go_wp2_with fail
          refine (sLongCompare_any _ _ _ _ _ _ _ _ _ HZ _ r1 r2).mono ?_
          rintro e w3 ⟨rfl, hb3⟩
          replace r1 := r1.keep hb3
          replace r2 := r2.keep hb3
          replace HB := bseq HB hb3
          clear hb3
          go_wp2_with fail
          refine (LongAdd_any _ _ _ _ _ _ _ _ _ _ HM _ (r1.alloc _) (row_one _)).mono ?_
          rintro e w4 ⟨a6, c6, rfl, r6, hb4⟩
          replace r1 := (r1.alloc _).keep hb4
          replace r2 := (r2.alloc _).keep hb4
          replace HB := bseq (balloc HB _) hb4
          clear hb4
          go_wp2_with fail
          refine (LongCompare_any _ _ _ _ _ _ _ _ _ HZ' _ r2 r1).mono ?_
          rintro e w5 ⟨rfl, hb5⟩
          replace r1 := r1.keep hb5
          replace r2 := r2.keep hb5
          replace r6 := r6.keep hb5
          replace HB := bseq HB hb5
          clear hb5
          go_wp2_with fail
          refine (sameInts_is false _ _ _ _ _ _ _ _ _ r1 r2 HD.out).mono ?_
          rintro e w6 ⟨rfl, hb6⟩
          replace r1 := r1.keep hb6
          replace r2 := r2.keep hb6
          replace r6 := r6.keep hb6
          replace HB := bseq HB hb6
          clear hb6
          go_wp2_with fail
          refine (LongCompare_any _ _ _ _ _ _ _ _ _ HM2 _ r1 r6).mono ?_
          rintro e w7 ⟨rfl, hb7⟩
          replace r1 := r1.keep hb7
          replace r2 := r2.keep hb7
          replace r6 := r6.keep hb7
          replace HB := bseq HB hb7
          clear hb7
          go_wp2
          go_ret
          exact ⟨by first | rfl | (simp; done) | (simp; omega), HB⟩
        · have HM := Lib.hid hm
          clear hm
          generalize ofN A = xs at *
          generalize ofN B = ys at *
          go_wp2_with fail
          refine (LongCompare_any _ _ _ _ _ _ _ _ _ HZ _ r1 r2).mono ?_
          rintro e w2 ⟨rfl, hb2⟩
          replace r1 := r1.keep hb2
          replace r2 := r2.keep hb2
          replace HB := bseq HB hb2
          clear hb2
          go_wp2_with fail
          refine (sLongCompare_any _ _ _ _ _ _ _ _ _ HZ _ r1 r2).mono ?_
          rintro e w3 ⟨rfl, hb3⟩
          replace r1 := r1.keep hb3
          replace r2 := r2.keep hb3
          replace HB := bseq HB hb3
          clear hb3
          go_wp2_with fail
          refine (LongAdd_any _ _ _ _ _ _ _ _ _ _ HM _ (r1.alloc _) (row_one _)).mono ?_
          rintro e w4 ⟨a6, c6, rfl, r6, hb4⟩
          replace r1 := (r1.alloc _).keep hb4
          replace r2 := (r2.alloc _).keep hb4
          replace HB := bseq (balloc HB _) hb4
          clear hb4
          go_wp2_with fail
          refine (LongCompare_any _ _ _ _ _ _ _ _ _ HZ' _ r2 r1).mono ?_
          rintro e w5 ⟨rfl, hb5⟩
          replace r1 := r1.keep hb5
          replace r2 := r2.keep hb5
          replace r6 := r6.keep hb5
          replace HB := bseq HB hb5
          clear hb5
          go_wp2_with fail
          refine (sameInts_is false _ _ _ _ _ _ _ _ _ r1 r2 HD.out).mono ?_
          rintro e w6 ⟨rfl, hb6⟩
          replace r1 := r1.keep hb6
          replace r2 := r2.keep hb6
          replace r6 := r6.keep hb6
          replace HB := bseq HB hb6
          clear hb6
          go_wp2
          go_ret
          exact ⟨by first | rfl | (simp; done) | (simp; omega), HB⟩
      · have HZ : Hid (cmpL (ofN A) (ofN A) = 0) := Lib.hid (by rw [cmpL_ofN hA hA, cmpN_eq])
        have HZ' : Hid (cmpL (ofN A) (ofN A) = 0) := Lib.hid (by rw [cmpL_ofN hA hA, cmpN_eq])
        have HD : Hid (decide (ofN A = ofN A) = true) := Lib.hid (by simp)
        rcases add_one_cases hA with ⟨hm, hm2⟩ | hm
        · have HM := Lib.hid hm
          have HM2 := Lib.hid hm2
          have hlA : (ofN A).length ≤ 61 := hl1
          clear hm hm2
          generalize ofN (A + 1) = ms at *
          generalize ofN A = xs at *
          skip
          go_wp2_with fail
          refine (LongCompare_any _ _ _ _ _ _ _ _ _ HZ _ r1 r2).mono ?_
          rintro e w2 ⟨rfl, hb2⟩
          replace r1 := r1.keep hb2
          replace r2 := r2.keep hb2
          replace HB := bseq HB hb2
          clear hb2
          go_wp2_with fail
          refine (sLongCompare_any _ _ _ _ _ _ _ _ _ HZ _ r1 r2).mono ?_
          rintro e w3 ⟨rfl, hb3⟩
          replace r1 := r1.keep hb3
          replace r2 := r2.keep hb3
          replace HB := bseq HB hb3
          clear hb3
          go_wp2_with fail
          refine (LongAdd_any _ _ _ _ _ _ _ _ _ _ HM _ (r1.alloc _) (row_one _)).mono ?_
          rintro e w4 ⟨a6, c6, rfl, r6, hb4⟩
          replace r1 := (r1.alloc _).keep hb4
          replace r2 := (r2.alloc _).keep hb4
          replace HB := bseq (balloc HB _) hb4
          clear hb4
          go_wp2_with fail
          refine (LongCompare_any _ _ _ _ _ _ _ _ _ HZ' _ r2 r1).mono ?_
          rintro e w5 ⟨rfl, hb5⟩
          replace r1 := r1.keep hb5
          replace r2 := r2.keep hb5
          replace r6 := r6.keep hb5
          replace HB := bseq HB hb5
          clear hb5
          go_wp2_with fail
          refine (sameInts_same _ _ _ _ _ _ _ _ r1 r2).mono ?_
          rintro e w6 ⟨rfl, hb6⟩
          replace r1 := r1.keep hb6
          replace r2 := r2.keep hb6
          replace r6 := r6.keep hb6
          replace HB := bseq HB hb6
          clear hb6
          go_wp2_with fail
          refine (LongCompare_any _ _ _ _ _ _ _ _ _ HM2 _ r1 r6).mono ?_
          rintro e w7 ⟨rfl, hb7⟩
          replace r1 := r1.keep hb7
          replace r2 := r2.keep hb7
          replace r6 := r6.keep hb7
          replace HB := bseq HB hb7
          clear hb7
          go_wp2
          go_ret
          exact ⟨by first | rfl | (simp; done) | (simp; omega), HB⟩
        · have HM := Lib.hid hm
          clear hm
          generalize ofN A = xs at *
          skip
          go_wp2_with fail
          refine (LongCompare_any _ _ _ _ _ _ _ _ _ HZ _ r1 r2).mono ?_
          rintro e w2 ⟨rfl, hb2⟩
          replace r1 := r1.keep hb2
          replace r2 := r2.keep hb2
          replace HB := bseq HB hb2
          clear hb2
          go_wp2_with fail
          refine (sLongCompare_any _ _ _ _ _ _ _ _ _ HZ _ r1 r2).mono ?_
          rintro e w3 ⟨rfl, hb3⟩
          replace r1 := r1.keep hb3
          replace r2 := r2.keep hb3
          replace HB := bseq HB hb3
          clear hb3
          go_wp2_with fail
          refine (LongAdd_any _ _ _ _ _ _ _ _ _ _ HM _ (r1.alloc _) (row_one _)).mono ?_
          rintro e w4 ⟨a6, c6, rfl, r6, hb4⟩
          replace r1 := (r1.alloc _).keep hb4
          replace r2 := (r2.alloc _).keep hb4
          replace HB := bseq (balloc HB _) hb4
          clear hb4
          go_wp2_with fail
          refine (LongCompare_any _ _ _ _ _ _ _ _ _ HZ' _ r2 r1).mono ?_
          rintro e w5 ⟨rfl, hb5⟩
          replace r1 := r1.keep hb5
          replace r2 := r2.keep hb5
          replace r6 := r6.keep hb5
          replace HB := bseq HB hb5
          clear hb5
          go_wp2_with fail
          refine (sameInts_same _ _ _ _ _ _ _ _ r1 r2).mono ?_
          rintro e w6 ⟨rfl, hb6⟩
          replace r1 := r1.keep hb6
          replace r2 := r2.keep hb6
          replace r6 := r6.keep hb6
          replace HB := bseq HB hb6
          clear hb6
          go_wp2
          go_ret
          exact ⟨by first | rfl | (simp; done) | (simp; omega), HB⟩
      · have HZ : Hid (cmpL (ofN A) (ofN B) = 1) := Lib.hid (by rw [cmpL_ofN hA hB, cmpN_gt hlt])
        have HZ' : Hid (cmpL (ofN B) (ofN A) = -1) := Lib.hid (by rw [cmpL_ofN hB hA, cmpN_lt hlt])
        have HD : Hid (decide (ofN A = ofN B) = false) := Lib.hid (decide_eq_false (fun e => by have := ofN_inj e; omega))
        rcases add_one_cases hA with ⟨hm, hm2⟩ | hm
        · have HM := Lib.hid hm
          have HM2 := Lib.hid hm2
          have hlA : (ofN A).length ≤ 61 := hl1
          clear hm hm2
          generalize ofN (A + 1) = ms at *
          generalize ofN A = xs at *
          generalize ofN B = ys at *
          go_wp2_with fail
          refine (LongCompare_any _ _ _ _ _ _ _ _ _ HZ _ r1 r2).mono ?_
          rintro e w2 ⟨rfl, hb2⟩
          replace r1 := r1.keep hb2
          replace r2 := r2.keep hb2
          replace HB := bseq HB hb2
          clear hb2
          go_wp2_with fail
          refine (sLongCompare_any _ _ _ _ _ _ _ _ _ HZ _ r1 r2).mono ?_
          rintro e w3 ⟨rfl, hb3⟩
          replace r1 := r1.keep hb3
          replace r2 := r2.keep hb3
          replace HB := bseq HB hb3
          clear hb3
          go_wp2_with fail
          refine (LongAdd_any _ _ _ _ _ _ _ _ _ _ HM _ (r1.alloc _) (row_one _)).mono ?_
          rintro e w4 ⟨a6, c6, rfl, r6, hb4⟩
          replace r1 := (r1.alloc _).keep hb4
          replace r2 := (r2.alloc _).keep hb4
          replace HB := bseq (balloc HB _) hb4
          clear hb4
          go_wp2_with fail
          refine (LongCompare_any _ _ _ _ _ _ _ _ _ HZ' _ r2 r1).mono ?_
          rintro e w5 ⟨rfl, hb5⟩
          replace r1 := r1.keep hb5
          replace r2 := r2.keep hb5
          replace r6 := r6.keep hb5
          replace HB := bseq HB hb5
          clear hb5
          go_wp2_with fail
          refine (sameInts_is false _ _ _ _ _ _ _ _ _ r1 r2 HD.out).mono ?_
          rintro e w6 ⟨rfl, hb6⟩
          replace r1 := r1.keep hb6
          replace r2 := r2.keep hb6
          replace r6 := r6.keep hb6
          replace HB := bseq HB hb6
          clear hb6
          go_wp2_with fail
          refine (LongCompare_any _ _ _ _ _ _ _ _ _ HM2 _ r1 r6).mono ?_
          rintro e w7 ⟨rfl, hb7⟩
          replace r1 := r1.keep hb7
          replace r2 := r2.keep hb7
          replace r6 := r6.keep hb7
          replace HB := bseq HB hb7
          clear hb7
          go_wp2
          go_ret
          exact ⟨by first | rfl | (simp; done) | (simp; omega), HB⟩
        · have HM := Lib.hid hm
          clear hm
          generalize ofN A = xs at *
          generalize ofN B = ys at *
          go_wp2_with fail
          refine (LongCompare_any _ _ _ _ _ _ _ _ _ HZ _ r1 r2).mono ?_
          rintro e w2 ⟨rfl, hb2⟩
          replace r1 := r1.keep hb2
          replace r2 := r2.keep hb2
          replace HB := bseq HB hb2
          clear hb2
          go_wp2_with fail
          refine (sLongCompare_any _ _ _ _ _ _ _ _ _ HZ _ r1 r2).mono ?_
          rintro e w3 ⟨rfl, hb3⟩
          replace r1 := r1.keep hb3
          replace r2 := r2.keep hb3
          replace HB := bseq HB hb3
          clear hb3
          go_wp2_with fail
          refine (LongAdd_any _ _ _ _ _ _ _ _ _ _ HM _ (r1.alloc _) (row_one _)).mono ?_
          rintro e w4 ⟨a6, c6, rfl, r6, hb4⟩
          replace r1 := (r1.alloc _).keep hb4
          replace r2 := (r2.alloc _).keep hb4
          replace HB := bseq (balloc HB _) hb4
          clear hb4
          go_wp2_with fail
          refine (LongCompare_any _ _ _ _ _ _ _ _ _ HZ' _ r2 r1).mono ?_
          rintro e w5 ⟨rfl, hb5⟩
          replace r1 := r1.keep hb5
          replace r2 := r2.keep hb5
          replace r6 := r6.keep hb5
          replace HB := bseq HB hb5
          clear hb5
          go_wp2_with fail
          refine (sameInts_is false _ _ _ _ _ _ _ _ _ r1 r2 HD.out).mono ?_
          rintro e w6 ⟨rfl, hb6⟩
          replace r1 := r1.keep hb6
          replace r2 := r2.keep hb6
          replace r6 := r6.keep hb6
          replace HB := bseq HB hb6
          clear hb6
          go_wp2
          go_ret
          exact ⟨by first | rfl | (simp; done) | (simp; omega), HB⟩

end Go.Proofs.Ytamalihebfcfbaa.K
