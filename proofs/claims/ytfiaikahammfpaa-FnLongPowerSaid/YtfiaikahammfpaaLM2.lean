/- Contracts of LongMul and LongPower. -/
import Derived.Test.YtfiaikahammfpaaLM
namespace Go.Proofs.Ytfiaikahammfpaa.K
open Go.RowKit

theorem mulL_in {xs ys : List Int} (h : lv xs = true) (h' : lv ys = true) : mulL xs ys = fitL (toN xs * toN ys) := by
  unfold mulL fitL
  rw [h, h']
  simp
theorem times_xs (lo lo' : Nat) (ao bo : Option Addr) (cap cap' : Nat) (xs ys : List Int) (w : World) (hx : lv xs = true) (hy : lv ys = true) (ha : Row w lo ao cap xs) (hb : Row w lo' bo cap' ys) : Calls Try.prog 31 #[.slice ao xs.length cap, .slice bo ys.length cap'] w fun e w' =>
    ∃ ao cap, e = .returned (.slice ao (ofN (toN xs * toN ys)).length cap) ∧ Row w' w.heap.size ao cap (ofN (toN xs * toN ys)) ∧ Below w.heap.size w w' := by
  obtain ⟨l, rfl, hc, hl, _, _, e⟩ := lv_out hx
  obtain ⟨l', rfl, hc', hl', _, _, e'⟩ := lv_out hy
  rw [e, e', List.length_map, List.length_map]
  exact times_any lo lo' ao bo cap cap' l l' w hc hc' hl hl' ha hb
theorem l3Mul_xs (lo lo' : Nat) (ao bo : Option Addr) (cap cap' : Nat) (xs ys : List Int) (w : World) (hx : lv xs = true) (hy : lv ys = true) (ha : Row w lo ao cap xs) (hb : Row w lo' bo cap' ys) : Calls Try.prog 30 #[.slice ao xs.length cap, .slice bo ys.length cap'] w fun e w' =>
    ∃ g cap, e = .returned (.slice (some ⟨g, 0, none⟩) (ofN (toN xs * toN ys)).length cap) ∧ Row w' w.heap.size (some ⟨g, 0, none⟩) cap (ofN (toN xs * toN ys)) ∧ Below w.heap.size w w' := by
  obtain ⟨l, rfl, hc, hl, _, _, e⟩ := lv_out hx
  obtain ⟨l', rfl, hc', hl', _, _, e'⟩ := lv_out hy
  rw [e, e', List.length_map, List.length_map]
  exact l3Mul_any lo lo' ao bo cap cap' l l' w hc hc' hl hl' ha hb
theorem mulL_no {xs ys : List Int} (h : lv xs = false ∨ lv ys = false) : mulL xs ys = ([], false) := by
  unfold mulL
  rcases h with h | h <;> rw [h] <;> simp

theorem LongMul_any (lo lo' : Nat) (ao bo : Option Addr) (cap cap' : Nat) (xs ys zs : List Int) (ok : Bool) (HZ : Hid (mulL xs ys = (zs, ok))) (w : World) (ha : Row w lo ao cap xs) (hb : Row w lo' bo cap' ys) : Calls Try.prog 11 #[.slice ao xs.length cap, .slice bo ys.length cap'] w fun e w' =>
    ∃ ao cap, e = .returned (.tuple #[.slice ao zs.length cap, .bool ok]) ∧ Row w' w.heap.size ao cap zs ∧ Below w.heap.size w w' := by
  rcases hx : lv xs with _ | _
  · have e := HZ.out
    rw [mulL_no (.inl hx)] at e
    injection e with e1 e2
    subst e1 e2
    have HX := Lib.hid hx
    clear hx
    go_enter Try.func11, Try.ntmps11
    go_wp2_with (first | (go_at_call 19; refine (LongValid_is false _ _ _ _ _ ha HX.out).mono ?_; rintro e w' ⟨rfl, rfl⟩))
    go_ret2
    exact ⟨none, 0, rfl, Row.nil _ _, Below.refl _ _⟩
  · rcases hy : lv ys with _ | _
    · have e := HZ.out
      rw [mulL_no (.inr hy)] at e
      injection e with e1 e2
      subst e1 e2
      have HX := Lib.hid hx
      have HY := Lib.hid hy
      clear hx hy
      go_enter Try.func11, Try.ntmps11
      go_wp2_with fail
      refine (LongValid_is true _ _ _ _ _ ha HX.out).mono ?_
      rintro e w' ⟨rfl, rfl⟩
      go_wp2_with fail
      refine (LongValid_is false _ _ _ _ _ hb HY.out).mono ?_
      rintro e w' ⟨rfl, rfl⟩
      go_wp2
      go_ret2
      exact ⟨none, 0, rfl, Row.nil _ _, Below.refl _ _⟩
    · have HV := HZ.out
      rw [mulL_in hx hy] at HV
      have HV := Lib.hid HV
      have HX := Lib.hid hx
      have HY := Lib.hid hy
      clear hx hy HZ
      go_enter Try.func11, Try.ntmps11
      go_wp2_with fail
      refine (LongValid_is true _ _ _ _ _ ha HX.out).mono ?_
      rintro e w' ⟨rfl, rfl⟩
      go_wp2_with fail
      refine (LongValid_is true _ _ _ _ _ hb HY.out).mono ?_
      rintro e w' ⟨rfl, rfl⟩
      go_wp2_with fail
      refine (times_xs _ _ _ _ _ _ xs ys _ HX.out HY.out ha hb).mono ?_
      rintro e w1 ⟨a1, c1, rfl, r1, hb1⟩
      go_wp2_with fail
      refine (checked_any _ _ _ _ _ _ HV _ r1).mono ?_
      rintro e w' ⟨⟨a2, c2, rfl, r2⟩, rfl⟩
      go_wp2
      go_ret2
      exact ⟨_, _, rfl, r2, hb1⟩



theorem sLongMul_any (lo lo' : Nat) (ao bo : Option Addr) (cap cap' : Nat) (xs ys zs : List Int) (ok : Bool) (HZ : Hid (mulL xs ys = (zs, ok))) (w : World) (ha : Row w lo ao cap xs) (hb : Row w lo' bo cap' ys) : Calls Try.prog 9 #[.slice ao xs.length cap, .slice bo ys.length cap'] w fun e w' =>
    ∃ ao cap, e = .returned (.tuple #[.slice ao zs.length cap, .bool ok]) ∧ Row w' w.heap.size ao cap zs ∧ Below w.heap.size w w' := by
  rcases hx : lv xs with _ | _
  · have e := HZ.out
    rw [mulL_no (.inl hx)] at e
    injection e with e1 e2
    subst e1 e2
    have HX := Lib.hid hx
    clear hx
    go_enter Try.func9, Try.ntmps9
    go_wp2_with (first | (go_at_call 29; refine (sLongValid_is false _ _ _ _ _ ha HX.out).mono ?_; rintro e w' ⟨rfl, rfl⟩))
    go_ret2
    exact ⟨_, _, rfl, row_empty _, (by repeat (first | exact Below.refl _ _ | refine balloc ?_ _ | refine bdrew ?_ | refine bdrewN ?_ _ | refine bset ?_ (by first | (simp; done) | (simp; omega)) _ | (refine bseq ?_ (by assumption)) | (refine bgrow ?_ (by assumption) (by omega))))⟩
  · rcases hy : lv ys with _ | _
    · have e := HZ.out
      rw [mulL_no (.inr hy)] at e
      injection e with e1 e2
      subst e1 e2
      have HX := Lib.hid hx
      have HY := Lib.hid hy
      clear hx hy
      go_enter Try.func9, Try.ntmps9
      go_wp2_with fail
      refine (sLongValid_is true _ _ _ _ _ ha HX.out).mono ?_
      rintro e w' ⟨rfl, rfl⟩
      go_wp2_with fail
      refine (sLongValid_is false _ _ _ _ _ hb HY.out).mono ?_
      rintro e w' ⟨rfl, rfl⟩
      go_wp2
      go_ret2
      exact ⟨_, _, rfl, row_empty _, (by repeat (first | exact Below.refl _ _ | refine balloc ?_ _ | refine bdrew ?_ | refine bdrewN ?_ _ | refine bset ?_ (by first | (simp; done) | (simp; omega)) _ | (refine bseq ?_ (by assumption)) | (refine bgrow ?_ (by assumption) (by omega))))⟩
    · have HV := HZ.out
      rw [mulL_in hx hy] at HV
      have HX := Lib.hid hx
      have HY := Lib.hid hy
      have C := Lib.hid (fun lo lo' ao bo cap cap' w => l3Mul_xs lo lo' ao bo cap cap' xs ys w hx hy)
      have HL : Hid ((ofN (toN xs * toN ys)).length ≤ 60 ↔ toN xs * toN ys < 10000 ^ 60) := Lib.hid (by rw [ofN_len]; exact digs_len _ 60)
      clear hx hy HZ
      generalize toN xs * toN ys = s at *
      by_cases h60 : (ofN (s)).length ≤ 60
      · rw [fitL_yes (HL.out.1 h60)] at HV
        injection HV with e1 e2
        subst e1 e2
        have h60' : ((ofN s).length : Int) ≤ 60 := by omega
        go_enter Try.func9, Try.ntmps9
        go_wp2_with fail
        refine (sLongValid_is true _ _ _ _ _ ha HX.out).mono ?_
        rintro e w' ⟨rfl, rfl⟩
        go_wp2_with fail
        refine (sLongValid_is true _ _ _ _ _ hb HY.out).mono ?_
        rintro e w' ⟨rfl, rfl⟩
        go_wp2_with fail
        refine (C.out _ _ _ _ _ _ _ ha hb).mono ?_
        rintro e w1 ⟨a1, c1, rfl, r1, hb1⟩
        go_wp2
        go_ret2
        exact ⟨_, _, rfl, r1, hb1⟩
      · rw [fitL_no (fun h => h60 (HL.out.2 h))] at HV
        injection HV with e1 e2
        subst e1 e2
        have h60' : (60 : Int) < ((ofN s).length : Int) := by omega
        go_enter Try.func9, Try.ntmps9
        go_wp2_with fail
        refine (sLongValid_is true _ _ _ _ _ ha HX.out).mono ?_
        rintro e w' ⟨rfl, rfl⟩
        go_wp2_with fail
        refine (sLongValid_is true _ _ _ _ _ hb HY.out).mono ?_
        rintro e w' ⟨rfl, rfl⟩
        go_wp2_with fail
        refine (C.out _ _ _ _ _ _ _ ha hb).mono ?_
        rintro e w1 ⟨a1, c1, rfl, r1, hb1⟩
        go_wp2
        go_ret2
        exact ⟨_, _, rfl, (row_empty _).less hb1.size, (by repeat (first | exact Below.refl _ _ | refine balloc ?_ _ | refine bdrew ?_ | refine bdrewN ?_ _ | refine bset ?_ (by first | (simp; done) | (simp; omega)) _ | (refine bseq ?_ (by assumption)) | (refine bgrow ?_ (by assumption) (by omega))))⟩

/-- What a power is. -/
def powL (xs : List Int) (e : Int) : List Int × Bool := if lv xs && decide (0 ≤ e ∧ e ≤ 1000) then fitL (toN xs ^ e.toNat) else ([], false)
theorem powL_no {xs : List Int} {e : Int} (h : lv xs = false ∨ ¬ (0 ≤ e ∧ e ≤ 1000)) : powL xs e = ([], false) := by
  unfold powL
  rcases h with h | h
  · rw [h]; simp
  · simp [h]
theorem powL_in {xs : List Int} {e : Nat} (h : lv xs = true) (he : e ≤ 1000) : powL xs (e : Int) = fitL (toN xs ^ e) := by
  unfold powL
  rw [h]
  simp [show (e : Int) ≤ 1000 by omega]
theorem powL_len (xs : List Int) (e : Int) : (powL xs e).1.length ≤ 60 := by
  unfold powL fitL
  split
  · split
    · rename_i h; rw [ofN_len]; exact (digs_len _ 60).2 h
    · simp
  · simp
/-- One round more: the product, if it is possible; else the power is none. -/
theorem pow_step {xs zs : List Int} {e k : Nat} (h : lv xs = true) (hk : k < e) (hz : fitL (toN xs ^ k) = (zs, true)) : mulL zs xs = fitL (toN xs ^ (k + 1)) ∧ (¬ toN xs ^ (k + 1) < 10000 ^ 60 → fitL (toN xs ^ e) = ([], false)) := by
  by_cases hf : toN xs ^ k < 10000 ^ 60
  · rw [fitL_yes hf] at hz
    injection hz with hz _
    subst hz
    refine ⟨?_, fun hn => fitL_no fun hlt => hn ?_⟩
    · rw [mulL_in (lv_ofN hf) h, toN_ofN, Nat.pow_succ]
    · rcases Nat.eq_zero_or_pos (toN xs) with h0 | h0
      · rw [h0, Nat.zero_pow (by omega)]; exact Nat.pow_pos (by omega)
      · exact Nat.lt_of_le_of_lt (Nat.pow_le_pow_right h0 hk) hlt
  · rw [fitL_no hf] at hz
    injection hz with _ hz
    cases hz
theorem fit_cases (n : Nat) : (∃ zs, fitL n = (zs, true) ∧ n < 10000 ^ 60) ∨ (fitL n = ([], false) ∧ ¬ n < 10000 ^ 60) := by
  by_cases h : n < 10000 ^ 60
  · exact .inl ⟨_, fitL_yes h, h⟩
  · exact .inr ⟨fitL_no h, h⟩
theorem fit_one : fitL 1 = ([1], true) := by
  rw [fitL_yes (Nat.one_lt_pow (by omega) (by omega))]
  have e : ofN 1 = [1] := by unfold ofN; rw [digs_pos (by omega), show 1 / 10000 = 0 from rfl, digs_zero]; rfl
  rw [e]
theorem row_one (w : World) : Row (w.alloc (.cells #[.int .i64 1] 3)) w.heap.size (some ⟨w.heap.size, 0, none⟩) 1 [1] := (Row.of_own (xs := [1]) (World.ownsRow_lit w #[.int .i64 1] 1 (Nat.le_refl _) (by decide) rfl)).2

set_option maxHeartbeats 400000 in
theorem LongPower_in (lo : Nat) (ao : Option Addr) (cap : Nat) (xs : List Int) (e : Nat) (zs : List Int) (ok : Bool) (hx : lv xs = true) (he : e ≤ 1000) (HZ : Hid (fitL (toN xs ^ e) = (zs, ok))) (w : World) (ha : Row w lo ao cap xs) : Calls Try.prog 21 #[.slice ao xs.length cap, .int .i64 (e : Int)] w fun e w' =>
    ∃ ao cap, e = .returned (.tuple #[.slice ao zs.length cap, .bool ok]) ∧ Row w' w.heap.size ao cap zs ∧ Below w.heap.size w w' := by
  have HX := Lib.hid hx
  have HS : Hid (∀ zs (k : Nat), k < e → fitL (toN xs ^ k) = (zs, true) → mulL zs xs = fitL (toN xs ^ (k + 1)) ∧ (¬ toN xs ^ (k + 1) < 10000 ^ 60 → fitL (toN xs ^ e) = ([], false))) := Lib.hid fun zs k hk hz => pow_step HX.out hk hz
  have H1 : Hid (fitL (toN xs ^ 0) = ([1], true)) := Lib.hid (by rw [Nat.pow_zero]; exact fit_one)
  have R1 := Lib.hid (row_one w)
  have he' : (e : Int) ≤ 1000 := by omega
  clear hx
  go_enter Try.func21, Try.ntmps21
  go_wp2_with fail
  refine (LongValid_is true _ _ _ _ _ ha HX.out).mono ?_
  rintro e w' ⟨rfl, rfl⟩
  go_wp2
  go_loopw [6, 22] (fun s i wr => ∃ (k : Nat) (ao : Option Addr) (cap : Nat) (ps : List Int), k ≤ e ∧ i = .int .i64 k ∧ s = .slice ao ps.length cap ∧ Hid (fitL (toN xs ^ k) = (ps, true)) ∧ Row wr w.heap.size ao cap ps ∧ Below w.heap.size w wr) (fun _ i _ => e - (intOf i).toNat)
  case atStart => exact ⟨0, _, 1, [1], by omega, rfl, rfl, H1, R1.out, (Below.refl _ _).alloc (Nat.le_refl _) _⟩
  case round =>
    obtain ⟨k, ao1, cap1, ps, hk, rfl, rfl, HP, hr, hb⟩ := hrel
    have ha1 := ha.keep hb
    have hsz := hb.size
    by_cases hke : k < e
    · have hke' : (k : Int) < (e : Int) := by omega
      obtain ⟨hm, hno⟩ := HS.out ps k hke HP.out
      rcases fit_cases (toN xs ^ (k + 1)) with ⟨qs, hq, _⟩ | ⟨hq, hlt⟩
      · have HM : Hid (mulL ps xs = (qs, true)) := Lib.hid (hm.trans hq)
        have HQ := Lib.hid hq
        clear hm hno hq
        go_wp2_with fail
        refine (LongMul_any _ _ _ _ _ _ _ _ _ _ HM _ hr ha1).mono ?_
        rintro e1 w2 ⟨ao2, cap2, rfl, hr2, hb2⟩
        go_wp2
        go_roundw
        case rel => exact ⟨k + 1, ao2, cap2, qs, by omega, by go_num, rfl, HQ, hr2.less hsz, bseq hb hb2⟩
        case measure => simp [intOf]; omega
      · have HM : Hid (mulL ps xs = ([], false)) := Lib.hid (hm.trans hq)
        have hz := HZ.out
        rw [hno hlt] at hz
        injection hz with h1 h2
        subst h1 h2
        clear hm hno hq hlt
        go_wp2_with fail
        refine (LongMul_any _ _ _ _ _ _ _ _ _ _ HM _ hr ha1).mono ?_
        rintro e1 w2 ⟨ao2, cap2, rfl, hr2, hb2⟩
        have hsz2 := hb2.size
        go_wp2
        go_ret2
        exact ⟨none, 0, rfl, Row.nil _ _, bseq hb hb2⟩
    · obtain rfl : k = e := by omega
      have hz := HZ.out
      rw [HP.out] at hz
      injection hz with h1 h2
      subst h1 h2
      go_wp2
      go_ret2
      exact ⟨_, _, rfl, hr, hb⟩
theorem LongPower_any (lo : Nat) (ao : Option Addr) (cap : Nat) (xs : List Int) (e : Int) (zs : List Int) (ok : Bool) (HZ : Hid (powL xs e = (zs, ok))) (w : World) (ha : Row w lo ao cap xs) : Calls Try.prog 21 #[.slice ao xs.length cap, .int .i64 e] w fun e w' =>
    ∃ ao cap, e = .returned (.tuple #[.slice ao zs.length cap, .bool ok]) ∧ Row w' w.heap.size ao cap zs ∧ Below w.heap.size w w' := by
  rcases hx : lv xs with _ | _
  · have h := HZ.out
    rw [powL_no (.inl hx)] at h
    injection h with e1 e2
    subst e1 e2
    have HX := Lib.hid hx
    clear hx HZ
    go_enter Try.func21, Try.ntmps21
    go_wp2_with fail
    refine (LongValid_is false _ _ _ _ _ ha HX.out).mono ?_
    rintro e w' ⟨rfl, rfl⟩
    go_wp2
    go_ret2
    exact ⟨none, 0, rfl, Row.nil _ _, Below.refl _ _⟩
  · by_cases he : 0 ≤ e ∧ e ≤ 1000
    · obtain ⟨n, rfl⟩ := Int.eq_ofNat_of_zero_le he.1
      have h := HZ.out
      rw [powL_in hx (by omega)] at h
      exact LongPower_in lo ao cap xs n zs ok hx (by omega) (Lib.hid h) w ha
    · have h := HZ.out
      rw [powL_no (.inr he)] at h
      injection h with e1 e2
      subst e1 e2
      have HX := Lib.hid hx
      clear hx HZ
      by_cases h0 : 0 ≤ e
      · have h1 : 1000 < e := by omega
        clear he
        go_enter Try.func21, Try.ntmps21
        go_wp2_with fail
        refine (LongValid_is true _ _ _ _ _ ha HX.out).mono ?_
        rintro e w' ⟨rfl, rfl⟩
        go_wp2
        go_ret2
        exact ⟨none, 0, rfl, Row.nil _ _, Below.refl _ _⟩
      · clear he
        go_enter Try.func21, Try.ntmps21
        go_wp2_with fail
        refine (LongValid_is true _ _ _ _ _ ha HX.out).mono ?_
        rintro e w' ⟨rfl, rfl⟩
        go_wp2
        go_ret2
        exact ⟨none, 0, rfl, Row.nil _ _, Below.refl _ _⟩

set_option maxHeartbeats 400000 in
theorem sLongPower_in (lo : Nat) (ao : Option Addr) (cap : Nat) (xs : List Int) (e : Nat) (zs : List Int) (ok : Bool) (hx : lv xs = true) (he : e ≤ 1000) (HZ : Hid (fitL (toN xs ^ e) = (zs, ok))) (w : World) (ha : Row w lo ao cap xs) : Calls Try.prog 20 #[.slice ao xs.length cap, .int .i64 (e : Int)] w fun e w' =>
    ∃ ao cap, e = .returned (.tuple #[.slice ao zs.length cap, .bool ok]) ∧ Row w' w.heap.size ao cap zs ∧ Below w.heap.size w w' := by
  have HX := Lib.hid hx
  have HS : Hid (∀ zs (k : Nat), k < e → fitL (toN xs ^ k) = (zs, true) → mulL zs xs = fitL (toN xs ^ (k + 1)) ∧ (¬ toN xs ^ (k + 1) < 10000 ^ 60 → fitL (toN xs ^ e) = ([], false))) := Lib.hid fun zs k hk hz => pow_step HX.out hk hz
  have H1 : Hid (fitL (toN xs ^ 0) = ([1], true)) := Lib.hid (by rw [Nat.pow_zero]; exact fit_one)
  have R1 := Lib.hid (row_one w)
  have he' : (e : Int) ≤ 1000 := by omega
  clear hx
  go_enter Try.func20, Try.ntmps20
  go_wp2_with fail
  refine (sLongValid_is true _ _ _ _ _ ha HX.out).mono ?_
  rintro e w' ⟨rfl, rfl⟩
  go_wp2_with fail
  refine (l1In_yes _ _ _ _ (by omega) (by omega)).mono ?_
  rintro e w' ⟨rfl, rfl⟩
  go_wp2
  go_loopw [6, 7] (fun s i wr => ∃ (k : Nat) (ao : Option Addr) (cap : Nat) (ps : List Int), k ≤ e ∧ i = .int .i64 k ∧ s = .slice ao ps.length cap ∧ Hid (fitL (toN xs ^ k) = (ps, true)) ∧ Row wr w.heap.size ao cap ps ∧ Below w.heap.size w wr) (fun _ i _ => e - (intOf i).toNat)
  case atStart => exact ⟨0, _, 1, [1], by omega, rfl, rfl, H1, R1.out, (Below.refl _ _).alloc (Nat.le_refl _) _⟩
  case round =>
    obtain ⟨k, ao1, cap1, ps, hk, rfl, rfl, HP, hr, hb⟩ := hrel
    have ha1 := ha.keep hb
    have hsz := hb.size
    by_cases hke : k < e
    · have hke' : (k : Int) < (e : Int) := by omega
      obtain ⟨hm, hno⟩ := HS.out ps k hke HP.out
      rcases fit_cases (toN xs ^ (k + 1)) with ⟨qs, hq, _⟩ | ⟨hq, hlt⟩
      · have HM : Hid (mulL ps xs = (qs, true)) := Lib.hid (hm.trans hq)
        have HQ := Lib.hid hq
        clear hm hno hq
        go_wp2_with fail
        refine (sLongMul_any _ _ _ _ _ _ _ _ _ _ HM _ hr ha1).mono ?_
        rintro e1 w2 ⟨ao2, cap2, rfl, hr2, hb2⟩
        go_wp2
        go_roundw
        case rel => exact ⟨k + 1, ao2, cap2, qs, by omega, by go_num, rfl, HQ, hr2.less hsz, bseq hb hb2⟩
        case measure => simp [intOf]; omega
      · have HM : Hid (mulL ps xs = ([], false)) := Lib.hid (hm.trans hq)
        have hz := HZ.out
        rw [hno hlt] at hz
        injection hz with h1 h2
        subst h1 h2
        clear hm hno hq hlt
        go_wp2_with fail
        refine (sLongMul_any _ _ _ _ _ _ _ _ _ _ HM _ hr ha1).mono ?_
        rintro e1 w2 ⟨ao2, cap2, rfl, hr2, hb2⟩
        have hsz2 := hb2.size
        go_wp2
        go_ret2
        exact ⟨_, _, rfl, (row_empty _).less (by omega), (by repeat (first | exact Below.refl _ _ | refine balloc ?_ _ | refine bdrew ?_ | refine bdrewN ?_ _ | refine bset ?_ (by first | (simp; done) | (simp; omega)) _ | (refine bseq ?_ (by assumption)) | (refine bgrow ?_ (by assumption) (by omega))))⟩
    · obtain rfl : k = e := by omega
      have hz := HZ.out
      rw [HP.out] at hz
      injection hz with h1 h2
      subst h1 h2
      go_wp2
      go_ret2
      exact ⟨_, _, rfl, hr, hb⟩
theorem sLongPower_any (lo : Nat) (ao : Option Addr) (cap : Nat) (xs : List Int) (e : Int) (zs : List Int) (ok : Bool) (HZ : Hid (powL xs e = (zs, ok))) (w : World) (ha : Row w lo ao cap xs) : Calls Try.prog 20 #[.slice ao xs.length cap, .int .i64 e] w fun e w' =>
    ∃ ao cap, e = .returned (.tuple #[.slice ao zs.length cap, .bool ok]) ∧ Row w' w.heap.size ao cap zs ∧ Below w.heap.size w w' := by
  rcases hx : lv xs with _ | _
  · have h := HZ.out
    rw [powL_no (.inl hx)] at h
    injection h with e1 e2
    subst e1 e2
    have HX := Lib.hid hx
    clear hx HZ
    go_enter Try.func20, Try.ntmps20
    go_wp2_with fail
    refine (sLongValid_is false _ _ _ _ _ ha HX.out).mono ?_
    rintro e w' ⟨rfl, rfl⟩
    go_wp2
    go_ret2
    exact ⟨_, _, rfl, row_empty _, (by repeat (first | exact Below.refl _ _ | refine balloc ?_ _ | refine bdrew ?_ | refine bdrewN ?_ _ | refine bset ?_ (by first | (simp; done) | (simp; omega)) _ | (refine bseq ?_ (by assumption)) | (refine bgrow ?_ (by assumption) (by omega))))⟩
  · by_cases he : 0 ≤ e ∧ e ≤ 1000
    · obtain ⟨n, rfl⟩ := Int.eq_ofNat_of_zero_le he.1
      have h := HZ.out
      rw [powL_in hx (by omega)] at h
      exact sLongPower_in lo ao cap xs n zs ok hx (by omega) (Lib.hid h) w ha
    · have h := HZ.out
      rw [powL_no (.inr he)] at h
      injection h with e1 e2
      subst e1 e2
      have HX := Lib.hid hx
      clear hx HZ
      have HE : Hid (e < 0 ∨ 1000 < e) := Lib.hid (by omega)
      clear he
      go_enter Try.func20, Try.ntmps20
      go_wp2_with fail
      refine (sLongValid_is true _ _ _ _ _ ha HX.out).mono ?_
      rintro e w' ⟨rfl, rfl⟩
      go_wp2_with fail
      refine (l1In_no _ _ _ _ HE.out).mono ?_
      rintro e w' ⟨rfl, rfl⟩
      go_wp2
      go_ret2
      exact ⟨_, _, rfl, row_empty _, (by repeat (first | exact Below.refl _ _ | refine balloc ?_ _ | refine bdrew ?_ | refine bdrewN ?_ _ | refine bset ?_ (by first | (simp; done) | (simp; omega)) _ | (refine bseq ?_ (by assumption)) | (refine bgrow ?_ (by assumption) (by omega))))⟩

end Go.Proofs.Ytfiaikahammfpaa.K
