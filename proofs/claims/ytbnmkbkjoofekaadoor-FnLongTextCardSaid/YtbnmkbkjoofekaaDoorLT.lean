/- The walk of the law on texts of long numbers. -/
import Derived.Test.YtbnmkbkjoofekaaDoorLE
import Derived.Test.YtbnmkbkjoofekaaDoorRoot
import Derived.Test.YtbnmkbkjoofekaaDoorLT4
import Derived.Test.YtbnmkbkjoofekaaDoorLT5
namespace Go.Proofs.YtbnmkbkjoofekaaDoor.K
open Go.RowKit

theorem four_zeros (s : List UInt8) : ((ByteArray.mk s.toArray) ++ (ByteArray.mk #[48, 48, 48, 48])).toList = s ++ [48, 48, 48, 48] := by
  rw [show (ByteArray.mk #[48, 48, 48, 48]) = ByteArray.mk ([48, 48, 48, 48] : List UInt8).toArray from rfl, cat_str, ByteArray.toList_mk]
theorem byte_at (S : List UInt8) (k : Nat) (h : k < (ByteArray.mk S.toArray).size) (h' : k < S.length) : (ByteArray.mk S.toArray)[k]'h = S[k]'h' := rfl
theorem alive_any' (w : World) : Calls Tryd.prog 11 #[] w fun e w' => e = .returned (.bool true) ∧ w = w' := by
  have e5 : Lib.bitLen (Int.toNat 5) = 3 := by decide
  go_enter Tryd.func11, Tryd.ntmps11
  go_wp2_with (first | (go_at_call 19; refine (BitLength_in _ _ (by omega) (by omega)).mono ?_; rintro e w' ⟨rfl, rfl⟩))
  go_ret
  exact ⟨rfl, rfl⟩

set_option maxHeartbeats 4000000 in
theorem FnLongText_walk (a0 : Option Addr) (len0 cap0 : Nat) (z0 : List Int) (w : World) (w0 : IsRow .u8 w a0 len0 cap0 z0) (ht : Tb w) : Calls Tryd.prog 4 #[.slice a0 len0 cap0] w fun e w' => e = .returned (.bool true) ∧ Below w.heap.size w w' := by
  have HT : Hid (∀ W, Below w.heap.size w W → Tb W) := Lib.hid fun W hb => ht.below hb
  clear ht
  by_cases hlen0 : (1048576 : Int) < (len0 : Int)
  · go_enter Tryd.func4, Tryd.ntmps4
    go_wp2
    go_ret
    exact ⟨by first | rfl | (simp; done) | (simp; omega), Below.refl _ _⟩
  · have I0 := Lib.hid w0
    clear w0
    have HB := Below.refl w.heap.size w
    go_enter Tryd.func4, Tryd.ntmps4
    go_wp2_with fail
    refine (DrawLongText_any _ _ _ _ _ I0.out).mono ?_
    rintro e w1 ⟨g1, c1, xs, rfl, r1, hl1, hb1⟩
    replace HB := bseq HB hb1
    clear hb1
    go_wp2_with fail
    refine (LongText_in _ _ _ _ _ r1 (HT.out _ HB)).mono ?_
    rintro e w2 ⟨rfl, hb2⟩
    replace r1 := r1.keep hb2
    replace HB := bseq HB hb2
    clear hb2
    go_wp2_with fail
    refine (sLongText_in _ _ _ _ _ r1).mono ?_
    rintro e w3 ⟨rfl, hb3⟩
    replace r1 := r1.keep hb3
    replace HB := bseq HB hb3
    clear hb3
    go_wp2_with fail
    refine (sLongValid_any _ _ _ _ _ r1).mono ?_
    rintro e w' ⟨rfl, rfl⟩
    by_cases hv : lv xs = true
    · have hL : xs.length ≤ 60 := ((lv_iff xs).1 hv).1
      rw [hv]
      obtain ⟨S, eS⟩ : ∃ S, ltext xs = S := ⟨_, rfl⟩
      have hS : Hid (∀ k, (h : k < S.length) → 48 ≤ S[k].toNat ∧ S[k].toNat ≤ 57) := Lib.hid fun k h => by
        subst eS
        refine dec_digit (toN xs) _ ?_
        have : ltext xs = Lib.decDigits (toN xs) := by unfold ltext; rw [if_pos hv]
        rw [← this]
        exact List.getElem_mem h
      have hN : S.length ≤ 240 := by
        rw [← eS]; unfold ltext; rw [if_pos hv]
        exact dec_len _ _ (top_lt hv 0) (by omega)
      rw [eS]
      go_wp2
      go_loop [5] (fun i => ∃ k : Nat, k ≤ S.length ∧ i = .int .i64 k) (fun i => S.length - (intOf i).toNat)
      case atStart => exact ⟨0, by omega, rfl⟩
      case round =>
        obtain ⟨k, hk, rfl⟩ := hrel
        by_cases hkn : k < S.length
        · have hkn' : (k : Int) < (S.length : Int) := by omega
          have hc := hS.out k hkn
          have hb : k < (ByteArray.mk S.toArray).size := by simpa [ByteArray.size] using hkn
          have hc1 : ¬ (((ByteArray.mk S.toArray)[k]'hb).toNat : Int) < 48 := by rw [byte_at S k hb hkn]; omega
          have hc2 : ¬ 57 < (((ByteArray.mk S.toArray)[k]'hb).toNat : Int) := by rw [byte_at S k hb hkn]; omega
          go_wp2
          go_round
          case rel => exact ⟨k + 1, by omega, by go_num⟩
          case measure => simp [intOf]; omega
        · obtain rfl : k = S.length := by omega
          clear hk hkn hS
          obtain ⟨i0, hi, hz0, hz1, hz2⟩ := info_parts Tryd.infoInt
          have hlc := r1.len_lt
          have hsz := HB.size
          have H0 : (w3.alloc (.cells #[.int .i64 0] 3)).ownsRow w3.heap.size 3 1 (.slice (some ⟨w3.heap.size, 0, none⟩) 1 1) 1 [.int .i64 0] := World.ownsRow_lit w3 #[.int .i64 0] 1 (Nat.le_refl _) (by decide) rfl
          have HN := row_cells (r1.alloc (.cells #[.int .i64 0] 3))
          have HV : (vs xs).length = xs.length * 1 := by simp [vs]
          go_wp2_with (first | (at_builtin; refine wpList_append_own _ rfl _ _ 22 rfl w3.heap.size 3 i0 (.int .i64 0) 1 8 Tryd.underlying22 hi hz0 hz1 hz2 rfl (by decide) _ _ _ rfl H0 ⟨g1, 0, none⟩ xs.length c1 (vs xs) rfl HV HN (ints_oneCell _ _) (by unfold maxLen; omega) (by omega) (by simp) ?_))
          intro s2 w4 hown' hgrow hnil
          have o2 : OwnI w4 w3.heap.size s2 (0 :: xs) := by
            unfold OwnI
            rw [show (0 :: xs).length = 1 + xs.length by simp [Nat.add_comm]]
            exact hown'
          have hb4 : Below w3.heap.size w3 w4 := bgrow (balloc (Below.refl _ _) _) hgrow (Nat.le_refl _)
          obtain ⟨g3, c3, rfl, r3⟩ := o2.row hnil
          replace HB := bseq HB hb4
          clear hown' hgrow hnil H0 HN HV o2 hb4 r1
          have LC : Hid (Calls Tryd.prog 7 #[.slice (some ⟨g3, 0, none⟩) (0 :: xs).length c3] w4 fun e w' => e = .returned (.string ⟨(ltext (0 :: xs)).toArray⟩) ∧ Below w4.heap.size w4 w') := Lib.hid (LongText_in _ _ _ _ _ r3 (HT.out _ HB))
          have EC : Hid (0 < xs.length → xs.length < 60 → ltext (0 :: xs) = S ++ [48, 48, 48, 48]) := Lib.hid fun h0 h1 => by rw [← eS]; exact ltext_zero hv h0 h1
          have EH : Hid (0 < xs.length → ∃ b l, S = b :: l ∧ b ≠ 48) := Lib.hid fun h0 => by
            rw [← eS]; unfold ltext; rw [if_pos hv]
            exact dec_head _ (top_pos hv (xs.length - 1) 0 (by omega))
          have E0 : Hid (xs.length = 0 → S = [48]) := Lib.hid fun h0 => by
            obtain rfl := List.eq_nil_of_length_eq_zero h0
            rw [← eS]; unfold ltext; rw [if_pos hv, show toN [] = 0 from rfl, Lib.decDigits, dif_pos (by decide)]; rfl
          have hm : (0 :: xs).length = xs.length + 1 := rfl
          clear r3 hv eS
          generalize ltext (0 :: xs) = T at *
          generalize (0 :: xs).length = m at *
          generalize xs.length = n at *
          subst hm
          by_cases hn : n = 0
          · subst hn
            obtain rfl := E0.out rfl
            go_wp2
            go_ret
            exact ⟨by first | rfl | (simp; done) | (simp; omega), HB⟩
          · obtain ⟨b, l, rfl, hb⟩ := EH.out (by omega)
            clear EH E0
            rcases l with _ | ⟨b2, l⟩
            · by_cases h60 : n = 60
              · subst h60
                clear EC LC
                go_wp2
                go_ret
                exact ⟨by first | rfl | (simp; done) | (simp; omega), HB⟩
              · have eT := EC.out (by omega) (by omega)
                clear EC
                go_wp2_with fail
                refine LC.out.mono ?_
                rintro e w5 ⟨rfl, hb5⟩
                have HB5 := bseq HB hb5
                rw [eT]
                go_wp2
                go_ret
                have e4 := four_zeros [b]
                exact ⟨by simp [e4], HB5⟩
            · have hz : 0 < (ByteArray.mk (b :: b2 :: l).toArray).size := by simp [ByteArray.size]
              have hl2 : ¬ ((l.length : Int) + 1 + 1 = 1) := by omega
              have hl4 : (l.length : Int) ≤ 238 := by simp at hN; omega
              have hl3 : (0 : Int) < (l.length : Int) + 1 + 1 := by omega
              have hb' : ¬ (((ByteArray.mk (b :: b2 :: l).toArray)[0]'hz).toNat : Int) = 48 := by
                rw [byte_at (b :: b2 :: l) 0 hz (by simp)]
                intro h
                exact hb (UInt8.toNat_inj.1 (by simp at h ⊢; omega))
              by_cases h60 : n = 60
              · subst h60
                clear EC LC
                go_wp2
                all_goals
                  go_ret
                  exact ⟨by simp [hb'], HB⟩
              · have eT := EC.out (by omega) (by omega)
                clear EC
                go_wp2_with fail
                all_goals
                  refine LC.out.mono ?_
                  rintro e w5 ⟨rfl, hb5⟩
                  have HB5 := bseq HB hb5
                  rw [eT]
                  go_wp2
                  go_ret
                  have e4 := four_zeros (b :: b2 :: l)
                  exact ⟨by simp [e4, hb'], HB5⟩
    · have E : ltext xs = [] := by unfold ltext; rw [if_neg hv]
      rw [E, show lv xs = false by simpa using hv]
      go_wp2_with fail
      refine (alive_any' _).mono ?_
      rintro e w' ⟨rfl, rfl⟩
      go_wp2
      go_ret
      exact ⟨by first | rfl | (simp; done) | (simp; omega), HB⟩

end Go.Proofs.YtbnmkbkjoofekaaDoor.K
