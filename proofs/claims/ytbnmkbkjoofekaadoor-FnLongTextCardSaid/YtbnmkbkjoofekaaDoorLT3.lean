/- The contract of the program's LongText. -/
import Derived.Test.YtbnmkbkjoofekaaDoorLT1
import Derived.Test.YtbnmkbkjoofekaaDoorLT2
import Derived.Test.YtbnmkbkjoofekaaDoorLV
import Derived.Lib.AppendIntMem
namespace Go.Proofs.YtbnmkbkjoofekaaDoor.K
open Go.RowKit

/-- The table of powers of ten that strconv reads. -/
abbrev Tb (w : World) : Prop := Lib.TabIs Tryd.prog w "internal/strconv.uint64pow10" .u64 Lib.pow10Tab
theorem Tb.below {w w' : World} (h : Tb w) (hb : Below w.heap.size w w') : Tb w' := Lib.tabBelow_of_tabIs h w' hb
theorem Bld0.lt {B b : Nat} {bs : List Value} {w : World} (h : Bld0 B b bs w) : b < w.heap.size := by rcases h with h | h <;> exact h.lt
theorem Bld0.grow {B b : Nat} {bs : List Value} {w : World} (h : Bld0 B b bs w) (k : Nat) (os : Array Obj) : Bld0 B b bs (Go.Sort.grow (w.drewN k) os) := by
  have hlt := h.lt
  rcases h with ⟨hB, v, hb, hown, hne⟩ | ⟨hB, v, hb, hown, hne⟩
  · exact .inl ⟨hB, v, (Lib.heap_grow_old w k os b hlt).trans hb, Lib.ownsRow_grow hown k os, hne⟩
  · exact .inr ⟨hB, v, (Lib.heap_grow_old w k os b hlt).trans hb, Lib.ownsRow_grow hown k os, hne⟩
theorem itoa_first (f : Int) (w : World) (ht : Tb w) (h : 0 < f) (h' : f < 10000) : Calls Tryd.prog 14 #[.int .i64 f] w fun e w' => e = .returned (.string ⟨(decN f.toNat).toArray⟩) ∧ ∃ k os, w' = Go.Sort.grow (w.drewN k) os := by
  have := Tryd.strconv_Itoa f (by omega) (by omega) w ht
  rw [show Lib.itoa f = decN f.toNat by unfold Lib.itoa; rw [if_neg (by omega), decN_pos (by omega)]] at this
  exact this
theorem itoa_rest (f : Int) (w : World) (ht : Tb w) (h : 0 ≤ f) (h' : f < 10000) : Calls Tryd.prog 14 #[.int .i64 (10000 + f)] w fun e w' => e = .returned (.string ⟨(49 :: dig4 f.toNat).toArray⟩) ∧ ∃ k os, w' = Go.Sort.grow (w.drewN k) os := by
  have := Tryd.strconv_Itoa (10000 + f) (by omega) (by omega) w ht
  rw [show Lib.itoa (10000 + f) = 49 :: dig4 f.toNat by unfold Lib.itoa; rw [if_neg (by omega), show (10000 + f).toNat = 10000 + f.toNat by omega, dec_tail _ (by omega)]] at this
  exact this
theorem ret_str {a b : List UInt8} (h : a = b) : Ending.returned (.string ⟨a.toArray⟩) = .returned (.string ⟨b.toArray⟩) := by rw [h]

theorem ext_tail (c : UInt8) (l : List UInt8) : (ByteArray.mk (c :: l).toArray).extract 1 (l.length + 1) = ⟨l.toArray⟩ := by
  apply ByteArray.ext
  rw [ByteArray.data_extract]
  simp

set_option maxHeartbeats 2000000 in
theorem LongText_in (lo : Nat) (ao : Option Addr) (cap : Nat) (xs : List Int) (w : World) (h : Row w lo ao cap xs) (ht : Tb w) : Calls Tryd.prog 7 #[.slice ao xs.length cap] w fun e w' => e = .returned (.string ⟨(ltext xs).toArray⟩) ∧ Below w.heap.size w w' := by
  obtain ⟨hlc, hcap⟩ := h.len_lt
  by_cases hv : lv xs = true
  · have HV : Hid (Calls Tryd.prog 12 #[.slice ao xs.length cap] w fun e w' => e = .returned (.bool true) ∧ w = w') := Lib.hid (by have := LongValid_any lo ao cap xs w h; rwa [hv] at this)
    by_cases hn : xs.length = 0
    · have E : Hid (Lib.decDigits 0 = ltext xs) := Lib.hid (by
        obtain rfl := List.eq_nil_of_length_eq_zero hn
        unfold ltext
        rw [if_pos hv]; rfl)
      clear hv h ht
      generalize xs.length = n at *
      subst hn
      go_enter Tryd.func7, Tryd.ntmps7
      go_wp2_with fail
      refine HV.out.mono ?_
      rintro e w' ⟨rfl, rfl⟩
      go_wp2
      go_ret
      exact ⟨by rw [← E.out, Lib.decDigits, dif_pos (by decide)]; rfl, Below.refl _ _⟩
    · obtain ⟨g, rfl, hg1, hg2⟩ := h.block (by omega)
      obtain ⟨f, hf⟩ : ∃ f : Nat → Int, ∀ j, f j = xs.getD j 0 := ⟨_, fun _ => rfl⟩
      have HF : Hid (∀ j, j < xs.length → 0 ≤ f j ∧ f j < 10000) := Lib.hid fun j hj => by rw [hf]; exact lv_digit hv hj
      have HL : Hid (0 < f (xs.length - 1)) := Lib.hid (by rw [hf]; exact lv_last hv (by omega))
      have HC : Hid (∀ W, Below w.heap.size w W → ∀ j, j < xs.length → W.cell? ⟨g, j, none⟩ = some (.int .i64 (f j))) := Lib.hid fun W hb j hj => by rw [hf]; exact (h.keep hb).cell hj
      have HT : Hid (∀ W, Below w.heap.size w W → Tb W) := Lib.hid fun W hb => ht.below hb
      obtain ⟨tp, htp⟩ : ∃ tp : Nat → Nat, ∀ j, tp j = top xs j := ⟨_, fun _ => rfl⟩
      have HP : Hid (∀ j, j < xs.length → 0 < tp j) := Lib.hid fun j hj => by rw [htp]; exact top_pos hv (xs.length - 1 - j) j (by omega)
      have HS : Hid (∀ j, j + 1 < xs.length → decN (tp j) = decN (tp (j + 1)) ++ dig4 (f j).toNat) := Lib.hid fun j hj => by
        rw [htp, htp, hf, top_step (by omega)]
        exact decN_limb _ _ (top_pos hv (xs.length - 1 - (j + 1)) (j + 1) (by omega)) (by have := lv_digit hv (j := j) (by omega); omega)
      have H0 : Hid ((f (xs.length - 1)).toNat = tp (xs.length - 1)) := Lib.hid (by rw [htp, hf, top_step (by omega), show xs.length - 1 + 1 = xs.length by omega, top_end]; omega)
      have HE : Hid (decN (tp 0) = ltext xs) := Lib.hid (by
        unfold ltext
        rw [if_pos hv, htp, ← top_all, decN_pos (top_pos hv (xs.length - 1) 0 (by omega))])
      have HN : Hid (∀ j, (decN (tp j)).length ≤ 240) := Lib.hid fun j => by rw [htp]; exact decN_len _ _ (top_lt hv j) (by omega)
      clear hv h ht hf htp
      generalize xs.length = n at *
      have hn0 : 0 < n := by omega
      have hc := HC.out (w.alloc (.cells #[.pointer none, .slice none 0 0] 33)) (balloc (Below.refl _ _) _) (n - 1) (by omega)
      have B0 : Bld0 w.heap.size w.heap.size [] (w.alloc (.cells #[.pointer none, .slice none 0 0] 33)) := Lib.fresh_isBuilder _ _ w
      go_enter Tryd.func7, Tryd.ntmps7
      go_wp2_with fail
      refine HV.out.mono ?_
      rintro e w' ⟨rfl, rfl⟩
      go_wp2_with fail
      refine (itoa_first (f (n - 1)) _ (HT.out _ (balloc (Below.refl _ _) _)) HL.out (HF.out _ (by omega)).2).mono ?_
      rintro e w1 ⟨rfl, k, os, rfl⟩
      have hBG := Lib.below_grow w.heap.size (w.alloc (.cells #[.pointer none, .slice none 0 0] 33)) (by simp) k os
      rw [H0.out]
      go_wp2_with fail
      refine (WriteString_in _ _ _ _ _ (B0.grow k os) (by have := HN.out (n - 1); simp [ByteArray.size]; omega) (by have := (B0.grow k os).lt; omega)).mono ?_
      rintro e w2 ⟨rfl, hb2, hbl2⟩
      have HB2 : Below w.heap.size w w2 := ((balloc (Below.refl _ _) _ : Below w.heap.size w (w.alloc (.cells #[.pointer none, .slice none 0 0] 33))).trans hBG).trans hbl2
      clear hbl2 hBG
      have hb3 : Bld w.heap.size w.heap.size (Lib.byteCells (decN (tp (n - 1)))) w2 := by simpa [Lib.strCells_toArray] using hb2
      clear hb2 hc
      go_wp2
      go_loopw [4, 5] (fun i s wr => ∃ j : Nat, ∃ ii : Int, j < n ∧ i = .int .i64 ii ∧ ii = (j : Int) - 1 ∧ Bld w.heap.size w.heap.size (Lib.byteCells (decN (tp j))) wr ∧ Below w.heap.size w wr) (fun i _ _ => (intOf i + 1).toNat)
      case atStart => exact ⟨n - 1, (n : Int) - 2, by omega, rfl, by omega, hb3, HB2⟩
      case round =>
        obtain ⟨j, ii, hj, rfl, hi, hbw, hbl⟩ := hrel
        rcases j with _ | m
        · obtain rfl : ii = -1 := by omega
          clear hi
          go_wp2_with fail
          refine (Tryd.Builder_String_any _ _ _ _ (.inr hbw) hbl.size).mono ?_
          rintro e w3 ⟨rfl, hbl3⟩
          go_wp2
          go_ret
          exact ⟨by rw [HE.out]; rfl, hbl.trans hbl3⟩
        · obtain rfl : ii = (m : Int) := by omega
          clear hi
          have hc := HC.out wr hbl m (by omega)
          have hmn : (m : Int) < (n : Int) := by omega
          have hmn' : m < n := by omega
          have hF := HF.out m (by omega)
          go_wp2_with fail
          refine (itoa_rest (f m) _ (HT.out _ hbl) hF.1 hF.2).mono ?_
          rintro e w3 ⟨rfl, k, os, rfl⟩
          have hBG := hbl.trans (Lib.below_grow w.heap.size wr hbl.size k os)
          have hBB : Bld0 w.heap.size w.heap.size (Lib.byteCells (decN (tp (m + 1)))) (Go.Sort.grow (wr.drewN k) os) := Bld0.grow (.inr hbw) k os
          have hN := HN.out (m + 1)
          clear hbw hbl hc
          generalize Go.Sort.grow (wr.drewN k) os = W at *
          go_wp2_with fail
          rw [ext_tail]
          refine (WriteString_in _ _ _ _ _ hBB (by rw [Lib.byteCells_length]; simp [ByteArray.size, dig4]; omega) hBG.size).mono ?_
          rintro e w4 ⟨rfl, hb4, hbl4⟩
          have hb5 : Bld w.heap.size w.heap.size (Lib.byteCells (decN (tp m))) w4 := by
            rw [HS.out m hj, Lib.byteCells_append]; exact hb4
          have hBL := hBG.trans hbl4
          clear hb4 hbl4 hBB hBG
          go_wp2
          go_roundw
          case rel => exact ⟨m, (m : Int) - 1, hmn', by go_num, rfl, hb5, hBL⟩
          case measure => first | (simp [intOf]; done) | (simp [intOf]; omega)
  · have HV : Hid (Calls Tryd.prog 12 #[.slice ao xs.length cap] w fun e w' => e = .returned (.bool false) ∧ w = w') := Lib.hid (by have := LongValid_any lo ao cap xs w h; rwa [show lv xs = false by simpa using hv] at this)
    have E : Hid ([] = ltext xs) := Lib.hid (by unfold ltext; rw [if_neg hv])
    clear hv h ht
    generalize xs.length = n at *
    go_enter Tryd.func7, Tryd.ntmps7
    go_wp2_with fail
    refine HV.out.mono ?_
    rintro e w' ⟨rfl, rfl⟩
    go_wp2
    go_ret
    exact ⟨by rw [← E.out]; rfl, Below.refl _ _⟩

end Go.Proofs.YtbnmkbkjoofekaaDoor.K
