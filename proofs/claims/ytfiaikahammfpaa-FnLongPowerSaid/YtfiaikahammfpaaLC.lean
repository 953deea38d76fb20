/- Contracts of the functions that compare long numbers. -/
import Derived.Test.YtfiaikahammfpaaLA2
namespace Go.Proofs.Ytfiaikahammfpaa.K
open Go.RowKit

def cmpI (a b : Int) : Int := if a < b then -1 else if b < a then 1 else 0
theorem cmpI_nat (a b : Nat) : cmpI a b = cmpN a b := by
  unfold cmpI cmpN
  rcases Nat.lt_trichotomy a b with h | h | h
  · rw [if_pos (by omega), if_pos h]
  · subst h; rw [if_neg (by omega), if_neg (by omega), if_neg (by omega), if_neg (by omega)]
  · rw [if_neg (by omega), if_pos (by omega), if_neg (by omega), if_pos h]
theorem ret_i64 {a b : Int} (h : a = b) : Ending.returned (.int .i64 a) = .returned (.int .i64 b) := by rw [h]

theorem Compare_any (a b : Int) (w : World) : Calls Try.prog 40 #[.int .i64 a, .int .i64 b] w fun e w' => e = .returned (.int .i64 (cmpI a b)) ∧ w = w' := by
  have H1 : Hid (a < b → -1 = cmpI a b) := Lib.hid fun h => by unfold cmpI; rw [if_pos h]
  have H2 : Hid (b < a → 1 = cmpI a b) := Lib.hid fun h => by unfold cmpI; rw [if_neg (by omega), if_pos h]
  have H3 : Hid (a = b → 0 = cmpI a b) := Lib.hid fun h => by unfold cmpI; rw [if_neg (by omega), if_neg (by omega)]
  by_cases h1 : a < b
  · go_enter Try.func40, Try.ntmps40
    go_wp2
    go_ret
    exact ⟨ret_i64 (H1.out h1), rfl⟩
  · by_cases h2 : b < a
    · go_enter Try.func40, Try.ntmps40
      go_wp2
      go_ret
      exact ⟨ret_i64 (H2.out h2), rfl⟩
    · obtain rfl : a = b := by omega
      go_enter Try.func40, Try.ntmps40
      go_wp2
      go_ret
      exact ⟨ret_i64 (H3.out (by first | rfl | trivial)), rfl⟩

theorem cmpL_no {xs ys : List Int} (h : lv xs = false ∨ lv ys = false) : cmpL xs ys = 2 := by
  unfold cmpL
  rcases h with h | h <;> rw [h] <;> simp
theorem cmpL_in {l l' : List Nat} (h : lv (l.map Int.ofNat) = true) (h' : lv (l'.map Int.ofNat) = true) : cmpL (l.map Int.ofNat) (l'.map Int.ofNat) = cmpN (val l) (val l') := by
  unfold cmpL toN
  rw [h, h', toNat_ofNat, toNat_ofNat]
  simp
theorem cmp_len {l l' : List Nat} (h : Canon l) (h' : Canon l') (hne : l.length ≠ l'.length) : cmpI (l.length : Int) (l'.length : Int) = cmpN (val l) (val l') := by
  rw [cmpI_nat]
  rcases Nat.lt_or_ge l.length l'.length with h1 | h1
  · rw [cmpN_lt h1, cmpN_lt (val_lt_of_len h h' h1)]
  · rw [cmpN_gt (by omega), cmpN_gt (val_lt_of_len h' h (by omega))]
theorem drop_eq_step {l l' : List Nat} {k : Nat} (hk : k < l.length) (hk' : k < l'.length) (h : l.drop (k + 1) = l'.drop (k + 1)) (he : l[k] = l'[k]) : l.drop k = l'.drop k := by
  rw [List.drop_eq_getElem_cons hk, List.drop_eq_getElem_cons hk', he, h]
theorem cmp_digit {l l' : List Nat} {k : Nat} (hd : Dig l) (hd' : Dig l') (hk : k < l.length) (hk' : k < l'.length) (h : l.drop (k + 1) = l'.drop (k + 1)) (he : l[k] ≠ l'[k]) : cmpI (l[k] : Int) (l'[k] : Int) = cmpN (val l) (val l') := by
  rw [cmpI_nat]
  rcases Nat.lt_or_ge l[k] l'[k] with h1 | h1
  · rw [cmpN_lt h1, cmpN_lt (val_lt_of_digit hd hk hk' h h1)]
  · rw [cmpN_gt (by omega), cmpN_gt (val_lt_of_digit hd' hk' hk h.symm (by omega))]
/-- All that a comparison of two long numbers of one length asks. -/
theorem cmp_facts {l l' : List Nat} (hc : Canon l) (hc' : Canon l') (hl : l.length = l'.length) (f f' : Nat → Nat) (hf : ∀ j, f j = l.getD j 0) (hf' : ∀ j, f' j = l'.getD j 0) :
    (∀ k, k < l.length → l.drop (k + 1) = l'.drop (k + 1) → f k = f' k → l.drop k = l'.drop k) ∧
    (∀ k, k < l.length → l.drop (k + 1) = l'.drop (k + 1) → f k ≠ f' k → cmpI (f k : Int) (f' k : Int) = cmpN (val l) (val l')) ∧
    (l.drop 0 = l'.drop 0 → 0 = cmpN (val l) (val l')) ∧ l.drop l.length = l'.drop l.length := by
  have g : ∀ (l : List Nat) k (h : k < l.length), l.getD k 0 = l[k] := fun l k h => by rw [List.getD_eq_getElem?_getD, List.getElem?_eq_getElem h]; rfl
  refine ⟨fun k hk hd he => ?_, fun k hk hd he => ?_, fun h => ?_, ?_⟩
  · exact drop_eq_step hk (by omega) hd (by rw [← g l k hk, ← g l' k (by omega), ← hf, ← hf']; exact he)
  · rw [hf, hf', g l k hk, g l' k (by omega)] at *
    exact cmp_digit hc.1 hc'.1 hk (by omega) hd he
  · have e : l = l' := by simpa using h
    rw [e, cmpN_eq]
  · rw [List.drop_of_length_le (Nat.le_refl _), List.drop_of_length_le (by omega)]

set_option maxHeartbeats 400000 in
theorem LongCompare_in (lo lo' : Nat) (ao bo : Option Addr) (cap cap' : Nat) (l l' : List Nat) (w : World) (hx : lv (l.map Int.ofNat) = true) (hy : lv (l'.map Int.ofNat) = true) (hc : Canon l) (hc' : Canon l') (ha : Row w lo ao cap (l.map Int.ofNat)) (hb : Row w lo' bo cap' (l'.map Int.ofNat)) : Calls Try.prog 24 #[.slice ao l.length cap, .slice bo l'.length cap'] w fun e w' =>
    e = .returned (.int .i64 (cmpN (val l) (val l'))) ∧ Below w.heap.size w w' := by
  have hcap : (cap : Int) ≤ 9223372036854775807 := ha.len_lt.2
  have hcap' : (cap' : Int) ≤ 9223372036854775807 := hb.len_lt.2
  have hlc : l.length ≤ cap := by have := ha.len_lt.1; simpa using this
  have hlc' : l'.length ≤ cap' := by have := hb.len_lt.1; simpa using this
  obtain ⟨f, hf⟩ : ∃ f : Nat → Nat, ∀ j, f j = l.getD j 0 := ⟨_, fun _ => rfl⟩
  obtain ⟨f', hf'⟩ : ∃ f' : Nat → Nat, ∀ j, f' j = l'.getD j 0 := ⟨_, fun _ => rfl⟩
  have HC : Hid (∀ j, j < l.length → ∃ g, ao = some ⟨g, 0, none⟩ ∧ w.cell? ⟨g, j, none⟩ = some (.int .i64 (f j))) := Lib.hid fun j hj => by
    obtain ⟨g, rfl, _, hg⟩ := ha.block (by simp; omega)
    exact ⟨g, rfl, by rw [ha.cell (by simpa using hj), getD_map_ofNat, hf]⟩
  have HC' : Hid (∀ j, j < l'.length → ∃ g, bo = some ⟨g, 0, none⟩ ∧ w.cell? ⟨g, j, none⟩ = some (.int .i64 (f' j))) := Lib.hid fun j hj => by
    obtain ⟨g, rfl, _, hg⟩ := hb.block (by simp; omega)
    exact ⟨g, rfl, by rw [hb.cell (by simpa using hj), getD_map_ofNat, hf']⟩
  have V1 : Hid (Calls Try.prog 19 #[.slice ao l.length cap] w fun e w' => e = .returned (.bool true) ∧ w = w') := Lib.hid (by have := LongValid_is true lo ao cap _ w ha hx; rwa [List.length_map] at this)
  have V2 : Hid (Calls Try.prog 19 #[.slice bo l'.length cap'] w fun e w' => e = .returned (.bool true) ∧ w = w') := Lib.hid (by have := LongValid_is true lo' bo cap' _ w hb hy; rwa [List.length_map] at this)
  have L1 : Hid (l.length ≠ l'.length → cmpI (l.length : Int) (l'.length : Int) = cmpN (val l) (val l')) := Lib.hid (cmp_len hc hc')
  have F : Hid (l.length = l'.length → _) := Lib.hid fun hl => cmp_facts hc hc' hl f f' hf hf'
  clear ha hb hf hf' hx hy
  generalize l.length = n at *
  generalize l'.length = n' at *
  by_cases hn : n = n'
  · subst hn
    obtain ⟨f1, f2, f3, f4⟩ := F.out rfl
    have F1 := Lib.hid f1
    have F2 := Lib.hid f2
    have F3 := Lib.hid f3
    have F4 := Lib.hid f4
    clear f1 f2 f3 f4 F L1
    go_enter Try.func24, Try.ntmps24
    go_wp2_with fail
    refine V1.out.mono ?_
    rintro e w' ⟨rfl, rfl⟩
    go_wp2_with fail
    refine V2.out.mono ?_
    rintro e w' ⟨rfl, rfl⟩
    go_wp2_with fail
    go_loopw [5] (fun i wr => ∃ k m : Nat, k ≤ n ∧ i = .int .i64 ((k : Int) - 1) ∧ wr = w.drewN m ∧ Hid (l.drop k = l'.drop k)) (fun i _ => (intOf i + 1).toNat)
    case atStart => exact ⟨n, 0, Nat.le_refl _, rfl, rfl, F4⟩
    case round =>
      obtain ⟨k, m, hk, rfl, rfl, HD⟩ := hrel
      by_cases hk0 : 0 < k
      · obtain ⟨k, rfl⟩ : ∃ j, k = j + 1 := ⟨k - 1, by omega⟩
        obtain ⟨g, rfl, hcl⟩ := HC.out k (by omega)
        obtain ⟨g', rfl, hcl'⟩ := HC'.out k (by omega)
        have hkn : (k : Int) < (n : Int) := by omega
        have ek : ((k + 1 : Nat) : Int) - 1 = (k : Int) := by omega
        rw [ek]
        by_cases he : f k = f' k
        · have he' : ((f k : Nat) : Int) = ((f' k : Nat) : Int) := by omega
          have HD1 := Lib.hid (F1.out k (by omega) HD.out he)
          clear he
          go_wp2_with fail
          go_quiet (fail)
          go_wp2
          go_roundw
          case rel => exact ⟨k, m + _, by omega, by go_num, rfl, HD1⟩
          case measure => first | (simp [intOf]; done) | (simp [intOf]; omega)
        · have he' : ¬ ((f k : Nat) : Int) = ((f' k : Nat) : Int) := by omega
          have HE := Lib.hid (F2.out k (by omega) HD.out he)
          go_wp2_with fail
          go_quiet (fail)
          go_wp2_with fail
          have C1 : ((w.drewN m).drewN nq).cell? ⟨g, k, none⟩ = some (.int .i64 (f k)) := hcl
          have C2 : ((w.drewN m).drewN nq).cell? ⟨g', k, none⟩ = some (.int .i64 (f' k)) := hcl'
          have BB := Lib.hid (bdrewN (bdrewN (Below.refl w.heap.size w) m) nq)
          clear hcl hcl'
          generalize (w.drewN m).drewN nq = w2 at *
          go_quiet (first | (go_at_call 40; refine Calls.quiet_of_same ((Compare_any _ _ _).mono fun e w1 h => ⟨h.1, h.2.symm⟩)))
          go_wp2
          go_ret
          exact ⟨ret_i64 HE.out, bdrewN BB.out _⟩
      · obtain rfl : k = 0 := by omega
        have e0 : ((0 : Nat) : Int) - 1 = -1 := by omega
        rw [e0]
        go_wp2
        go_ret
        exact ⟨ret_i64 (F3.out HD.out), (by repeat (first | exact Below.refl _ _ | refine balloc ?_ _ | refine bdrew ?_ | refine bdrewN ?_ _ | refine bset ?_ (by first | (simp; done) | (simp; omega)) _ | (refine bseq ?_ (by assumption)) | (refine bgrow ?_ (by assumption) (by omega))))⟩
  · have HE := Lib.hid (L1.out hn)
    have hn' : ¬ (n : Int) = (n' : Int) := by omega
    go_enter Try.func24, Try.ntmps24
    go_wp2_with fail
    refine V1.out.mono ?_
    rintro e w' ⟨rfl, rfl⟩
    go_wp2_with fail
    refine V2.out.mono ?_
    rintro e w' ⟨rfl, rfl⟩
    go_wp2_with fail
    refine (Compare_any _ _ _).mono ?_
    rintro e w' ⟨rfl, rfl⟩
    go_wp2
    go_ret
    exact ⟨ret_i64 HE.out, Below.refl _ _⟩

set_option maxHeartbeats 400000 in
theorem sLongCompare_in (lo lo' : Nat) (ao bo : Option Addr) (cap cap' : Nat) (l l' : List Nat) (w : World) (hx : lv (l.map Int.ofNat) = true) (hy : lv (l'.map Int.ofNat) = true) (hc : Canon l) (hc' : Canon l') (ha : Row w lo ao cap (l.map Int.ofNat)) (hb : Row w lo' bo cap' (l'.map Int.ofNat)) : Calls Try.prog 25 #[.slice ao l.length cap, .slice bo l'.length cap'] w fun e w' =>
    e = .returned (.int .i64 (cmpN (val l) (val l'))) ∧ Below w.heap.size w w' := by
  have hcap : (cap : Int) ≤ 9223372036854775807 := ha.len_lt.2
  have hcap' : (cap' : Int) ≤ 9223372036854775807 := hb.len_lt.2
  have hlc : l.length ≤ cap := by have := ha.len_lt.1; simpa using this
  have hlc' : l'.length ≤ cap' := by have := hb.len_lt.1; simpa using this
  obtain ⟨f, hf⟩ : ∃ f : Nat → Nat, ∀ j, f j = l.getD j 0 := ⟨_, fun _ => rfl⟩
  obtain ⟨f', hf'⟩ : ∃ f' : Nat → Nat, ∀ j, f' j = l'.getD j 0 := ⟨_, fun _ => rfl⟩
  have HC : Hid (∀ j, j < l.length → ∃ g, ao = some ⟨g, 0, none⟩ ∧ w.cell? ⟨g, j, none⟩ = some (.int .i64 (f j))) := Lib.hid fun j hj => by
    obtain ⟨g, rfl, _, hg⟩ := ha.block (by simp; omega)
    exact ⟨g, rfl, by rw [ha.cell (by simpa using hj), getD_map_ofNat, hf]⟩
  have HC' : Hid (∀ j, j < l'.length → ∃ g, bo = some ⟨g, 0, none⟩ ∧ w.cell? ⟨g, j, none⟩ = some (.int .i64 (f' j))) := Lib.hid fun j hj => by
    obtain ⟨g, rfl, _, hg⟩ := hb.block (by simp; omega)
    exact ⟨g, rfl, by rw [hb.cell (by simpa using hj), getD_map_ofNat, hf']⟩
  have V1 : Hid (Calls Try.prog 29 #[.slice ao l.length cap] w fun e w' => e = .returned (.bool true) ∧ w = w') := Lib.hid (by have := sLongValid_is true lo ao cap _ w ha hx; rwa [List.length_map] at this)
  have V2 : Hid (Calls Try.prog 29 #[.slice bo l'.length cap'] w fun e w' => e = .returned (.bool true) ∧ w = w') := Lib.hid (by have := sLongValid_is true lo' bo cap' _ w hb hy; rwa [List.length_map] at this)
  have L1 : Hid (l.length ≠ l'.length → cmpI (l.length : Int) (l'.length : Int) = cmpN (val l) (val l')) := Lib.hid (cmp_len hc hc')
  have F : Hid (l.length = l'.length → _) := Lib.hid fun hl => cmp_facts hc hc' hl f f' hf hf'
  clear ha hb hf hf' hx hy
  generalize l.length = n at *
  generalize l'.length = n' at *
  by_cases hn : n = n'
  · subst hn
    obtain ⟨f1, f2, f3, f4⟩ := F.out rfl
    have F1 := Lib.hid f1
    have F2 := Lib.hid f2
    have F3 := Lib.hid f3
    have F4 := Lib.hid f4
    clear f1 f2 f3 f4 F L1
    go_enter Try.func25, Try.ntmps25
    go_wp2_with fail
    refine V1.out.mono ?_
    rintro e w' ⟨rfl, rfl⟩
    go_wp2_with fail
    refine V2.out.mono ?_
    rintro e w' ⟨rfl, rfl⟩
    go_wp2_with fail
    go_loopw [5] (fun i wr => ∃ k m : Nat, k ≤ n ∧ i = .int .i64 ((k : Int) - 1) ∧ wr = w.drewN m ∧ Hid (l.drop k = l'.drop k)) (fun i _ => (intOf i + 1).toNat)
    case atStart => exact ⟨n, 0, Nat.le_refl _, rfl, rfl, F4⟩
    case round =>
      obtain ⟨k, m, hk, rfl, rfl, HD⟩ := hrel
      by_cases hk0 : 0 < k
      · obtain ⟨k, rfl⟩ : ∃ j, k = j + 1 := ⟨k - 1, by omega⟩
        obtain ⟨g, rfl, hcl⟩ := HC.out k (by omega)
        obtain ⟨g', rfl, hcl'⟩ := HC'.out k (by omega)
        have hkn : (k : Int) < (n : Int) := by omega
        have ek : ((k + 1 : Nat) : Int) - 1 = (k : Int) := by omega
        rw [ek]
        by_cases he : f k = f' k
        · have he' : ((f k : Nat) : Int) = ((f' k : Nat) : Int) := by omega
          have HD1 := Lib.hid (F1.out k (by omega) HD.out he)
          clear he
          go_wp2_with fail
          go_quiet (fail)
          go_wp2_with fail
          go_quiet (fail)
          go_wp2
          go_roundw
          case rel => exact ⟨k, m + _ + _, by omega, by go_num, rfl, HD1⟩
          case measure => first | (simp [intOf]; done) | (simp [intOf]; omega)
        · have HE := Lib.hid (F2.out k (by omega) HD.out he)
          by_cases hlt : ((f k : Nat) : Int) < ((f' k : Nat) : Int)
          · have HE1 : Hid (-1 = cmpN (val l) (val l')) := Lib.hid (by rw [← HE.out]; unfold cmpI; rw [if_pos hlt])
            go_wp2_with fail
            go_quiet (fail)
            go_wp2
            go_ret
            exact ⟨ret_i64 HE1.out, (by repeat (first | exact Below.refl _ _ | refine balloc ?_ _ | refine bdrew ?_ | refine bdrewN ?_ _ | refine bset ?_ (by first | (simp; done) | (simp; omega)) _ | (refine bseq ?_ (by assumption)) | (refine bgrow ?_ (by assumption) (by omega))))⟩
          · have hgt : ((f' k : Nat) : Int) < ((f k : Nat) : Int) := by omega
            have HE1 : Hid (1 = cmpN (val l) (val l')) := Lib.hid (by rw [← HE.out]; unfold cmpI; rw [if_neg hlt, if_pos hgt])
            go_wp2_with fail
            go_quiet (fail)
            go_wp2_with fail
            go_quiet (fail)
            go_wp2
            go_ret
            exact ⟨ret_i64 HE1.out, (by repeat (first | exact Below.refl _ _ | refine balloc ?_ _ | refine bdrew ?_ | refine bdrewN ?_ _ | refine bset ?_ (by first | (simp; done) | (simp; omega)) _ | (refine bseq ?_ (by assumption)) | (refine bgrow ?_ (by assumption) (by omega))))⟩
      · obtain rfl : k = 0 := by omega
        have e0 : ((0 : Nat) : Int) - 1 = -1 := by omega
        rw [e0]
        go_wp2
        go_ret
        exact ⟨ret_i64 (F3.out HD.out), (by repeat (first | exact Below.refl _ _ | refine balloc ?_ _ | refine bdrew ?_ | refine bdrewN ?_ _ | refine bset ?_ (by first | (simp; done) | (simp; omega)) _ | (refine bseq ?_ (by assumption)) | (refine bgrow ?_ (by assumption) (by omega))))⟩
  · have HE := Lib.hid (L1.out hn)
    have hn' : ¬ (n : Int) = (n' : Int) := by omega
    by_cases hlt : (n : Int) < (n' : Int)
    · have HE1 : Hid (-1 = cmpN (val l) (val l')) := Lib.hid (by rw [← HE.out]; unfold cmpI; rw [if_pos hlt])
      go_enter Try.func25, Try.ntmps25
      go_wp2_with fail
      refine V1.out.mono ?_
      rintro e w' ⟨rfl, rfl⟩
      go_wp2_with fail
      refine V2.out.mono ?_
      rintro e w' ⟨rfl, rfl⟩
      go_wp2
      go_ret
      exact ⟨ret_i64 HE1.out, Below.refl _ _⟩
    · have HE1 : Hid (1 = cmpN (val l) (val l')) := Lib.hid (by rw [← HE.out]; unfold cmpI; rw [if_neg hlt, if_pos (by omega)])
      go_enter Try.func25, Try.ntmps25
      go_wp2_with fail
      refine V1.out.mono ?_
      rintro e w' ⟨rfl, rfl⟩
      go_wp2_with fail
      refine V2.out.mono ?_
      rintro e w' ⟨rfl, rfl⟩
      go_wp2
      go_ret
      exact ⟨ret_i64 HE1.out, Below.refl _ _⟩

theorem LongCompare_any (lo lo' : Nat) (ao bo : Option Addr) (cap cap' : Nat) (xs ys : List Int) (c : Int) (HZ : Hid (cmpL xs ys = c)) (w : World) (ha : Row w lo ao cap xs) (hb : Row w lo' bo cap' ys) : Calls Try.prog 24 #[.slice ao xs.length cap, .slice bo ys.length cap'] w fun e w' =>
    e = .returned (.int .i64 c) ∧ Below w.heap.size w w' := by
  rcases hx : lv xs with _ | _
  · have e := HZ.out
    rw [cmpL_no (.inl hx)] at e
    subst e
    have HX := Lib.hid hx
    clear hx
    go_enter Try.func24, Try.ntmps24
    go_wp2_with (first | (go_at_call 19; refine (LongValid_is false _ _ _ _ _ ha HX.out).mono ?_; rintro e w' ⟨rfl, rfl⟩))
    go_ret
    exact ⟨rfl, Below.refl _ _⟩
  · rcases hy : lv ys with _ | _
    · have e := HZ.out
      rw [cmpL_no (.inr hy)] at e
      subst e
      have HX := Lib.hid hx
      have HY := Lib.hid hy
      clear hx hy
      go_enter Try.func24, Try.ntmps24
      go_wp2_with fail
      refine (LongValid_is true _ _ _ _ _ ha HX.out).mono ?_
      rintro e w' ⟨rfl, rfl⟩
      go_wp2_with fail
      refine (LongValid_is false _ _ _ _ _ hb HY.out).mono ?_
      rintro e w' ⟨rfl, rfl⟩
      go_wp2
      go_ret
      exact ⟨rfl, Below.refl _ _⟩
    · have hx' := hx
      have hy' := hy
      obtain ⟨l, rfl, hc, _⟩ := lv_out hx
      obtain ⟨l', rfl, hc', _⟩ := lv_out hy
      have e := HZ.out
      rw [cmpL_in hx' hy'] at e
      subst e
      rw [List.length_map, List.length_map]
      exact LongCompare_in lo lo' ao bo cap cap' l l' w hx' hy' hc hc' ha hb

theorem sLongCompare_any (lo lo' : Nat) (ao bo : Option Addr) (cap cap' : Nat) (xs ys : List Int) (c : Int) (HZ : Hid (cmpL xs ys = c)) (w : World) (ha : Row w lo ao cap xs) (hb : Row w lo' bo cap' ys) : Calls Try.prog 25 #[.slice ao xs.length cap, .slice bo ys.length cap'] w fun e w' =>
    e = .returned (.int .i64 c) ∧ Below w.heap.size w w' := by
  rcases hx : lv xs with _ | _
  · have e := HZ.out
    rw [cmpL_no (.inl hx)] at e
    subst e
    have HX := Lib.hid hx
    clear hx
    go_enter Try.func25, Try.ntmps25
    go_wp2_with (first | (go_at_call 29; refine (sLongValid_is false _ _ _ _ _ ha HX.out).mono ?_; rintro e w' ⟨rfl, rfl⟩))
    go_ret
    exact ⟨rfl, Below.refl _ _⟩
  · rcases hy : lv ys with _ | _
    · have e := HZ.out
      rw [cmpL_no (.inr hy)] at e
      subst e
      have HX := Lib.hid hx
      have HY := Lib.hid hy
      clear hx hy
      go_enter Try.func25, Try.ntmps25
      go_wp2_with fail
      refine (sLongValid_is true _ _ _ _ _ ha HX.out).mono ?_
      rintro e w' ⟨rfl, rfl⟩
      go_wp2_with fail
      refine (sLongValid_is false _ _ _ _ _ hb HY.out).mono ?_
      rintro e w' ⟨rfl, rfl⟩
      go_wp2
      go_ret
      exact ⟨rfl, Below.refl _ _⟩
    · have hx' := hx
      have hy' := hy
      obtain ⟨l, rfl, hc, _⟩ := lv_out hx
      obtain ⟨l', rfl, hc', _⟩ := lv_out hy
      have e := HZ.out
      rw [cmpL_in hx' hy'] at e
      subst e
      rw [List.length_map, List.length_map]
      exact sLongCompare_in lo lo' ao bo cap cap' l l' w hx' hy' hc hc' ha hb

end Go.Proofs.Ytfiaikahammfpaa.K
