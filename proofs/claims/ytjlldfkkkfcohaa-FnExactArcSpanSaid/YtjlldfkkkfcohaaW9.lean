/- The walk of the exact law on arc tangents. -/
import Derived.Test.YtjlldfkkkfcohaaW7
namespace Go.Proofs.Ytjlldfkkkfcohaa.K
open Go.RowKit

def ap (k : Int) : Nat → Int | 0 => k | j + 1 => ap k j * (k * k)
def ad (k : Int) (j : Nat) : Int := (2 * (j : Int) + 1) * ap k j
def AL (k : Int) : Nat → Int | 0 => -1 | j + 1 => if j % 2 = 0 then AL k j + 268435456 / ad k j else AL k j - cdiv 268435456 (ad k j)
def AH (k : Int) : Nat → Int | 0 => 1 | j + 1 => if j % 2 = 0 then AH k j + cdiv 268435456 (ad k j) else AH k j - 268435456 / ad k j
/-- The loop has come to j. -/
def Upto (k : Int) (j : Nat) : Prop := ∀ i, i < j → ad k i ≤ 268435456
/-- .. and ends there. -/
def Stop (k : Int) (j : Nat) : Prop := Upto k j ∧ ¬ ad k j ≤ 268435456
theorem stop_unique {k : Int} {i j : Nat} (h : Stop k i) (h' : Stop k j) : i = j := by
  rcases Nat.lt_trichotomy i j with hlt | e | hlt
  · exact absurd (h'.1 i hlt) h.2
  · exact e
  · exact absurd (h.1 j hlt) h'.2
theorem ap_pos {k : Int} (hk : 2 ≤ k) : ∀ j, 1 ≤ ap k j
  | 0 => by show 1 ≤ k; omega
  | j + 1 => by
    have h1 := ap_pos hk j
    have h2 : 1 ≤ k * k := Int.mul_le_mul (a := 1) (c := k) (b := 1) (d := k) (by omega) (by omega) (by omega) (by omega)
    exact Int.mul_le_mul (a := 1) (c := ap k j) (b := 1) (d := k * k) h1 h2 (by omega) (by omega)
theorem ad_pos {k : Int} (hk : 2 ≤ k) (j : Nat) : 1 ≤ ad k j := Int.mul_le_mul (a := 1) (b := 1) (by omega) (ap_pos hk j) (by omega) (by omega)
theorem kk_bd {k : Int} (hk : 2 ≤ k) (hk' : k ≤ 65536) : 4 ≤ k * k ∧ k * k ≤ 4294967296 :=
  ⟨Int.mul_le_mul (a := 2) (b := 2) hk hk (by omega) (by omega), Int.mul_le_mul (c := 65536) (d := 65536) hk' hk' (by omega) (by omega)⟩
theorem arc_in {k : Int} {j : Nat} (hk : 2 ≤ k) (h : ad k j ≤ 268435456) : ap k j ≤ 268435456 ∧ 2 * (j : Int) + 1 ≤ 268435456 := by
  have h1 := ap_pos hk j
  unfold ad at h
  constructor
  · have : 1 * ap k j ≤ (2 * (j : Int) + 1) * ap k j := Int.mul_le_mul_of_nonneg_right (by omega) (by omega)
    omega
  · have : (2 * (j : Int) + 1) * 1 ≤ (2 * (j : Int) + 1) * ap k j := Int.mul_le_mul_of_nonneg_left h1 (by omega)
    omega
theorem arc_le {k : Int} (hk : 2 ≤ k) (hk' : k ≤ 65536) : ∀ j, Upto k j → (j : Int) ≤ 268435456 ∧ ap k j ≤ 1152921504606846976 ∧ ad k j ≤ 3458764513820540928
  | 0, _ => by
    refine ⟨by omega, by show k ≤ _; omega, ?_⟩
    show (2 * ((0 : Nat) : Int) + 1) * k ≤ _
    omega
  | j + 1, h => by
    have h0 := h j (by omega)
    obtain ⟨h1, h2⟩ := arc_in hk h0
    obtain ⟨k1, k2⟩ := kk_bd hk hk'
    have hp := ap_pos hk j
    have hd := ad_pos hk j
    refine ⟨by omega, ?_, ?_⟩
    · exact Int.mul_le_mul (c := 268435456) (d := 4294967296) h1 k2 (by omega) (by omega)
    · show (2 * ((j + 1 : Nat) : Int) + 1) * (ap k j * (k * k)) ≤ _
      have e1 : (2 * ((j + 1 : Nat) : Int) + 1) * (ap k j * (k * k)) ≤ (3 * (2 * (j : Int) + 1)) * (ap k j * (k * k)) :=
        Int.mul_le_mul_of_nonneg_right (by omega) (Int.mul_nonneg (by omega) (by omega))
      have e2 : (3 * (2 * (j : Int) + 1)) * (ap k j * (k * k)) = (3 * ad k j) * (k * k) := by unfold ad; rw [← Int.mul_assoc, Int.mul_assoc 3]
      have e3 : (3 * ad k j) * (k * k) ≤ (3 * 268435456) * 4294967296 := Int.mul_le_mul (by omega) k2 (by omega) (by omega)
      omega
theorem term_bd {D : Int} (h1 : 1 ≤ D) (h2 : D ≤ 268435456) : 0 ≤ 268435456 / D ∧ 268435456 / D ≤ 268435456 ∧ -268435456 ≤ cdiv 268435456 D ∧ cdiv 268435456 D ≤ 268435456 := by
  obtain ⟨q1, q2⟩ := quo_bounds (a := -268435456) (b := D) (M := 268435456) h1 (by omega) (by omega) (by omega)
  refine ⟨Int.ediv_nonneg (by omega) (by omega), Int.ediv_le_self _ (by omega), ?_, ?_⟩ <;> unfold cdiv <;> omega
theorem arc_sum {k : Int} (hk : 2 ≤ k) : ∀ j, Upto k j → (-1 - 268435456 * (j : Int) ≤ AL k j ∧ AL k j ≤ 1 + 268435456 * (j : Int)) ∧ (-1 - 268435456 * (j : Int) ≤ AH k j ∧ AH k j ≤ 1 + 268435456 * (j : Int))
  | 0, _ => by show (_ ≤ (-1 : Int) ∧ (-1 : Int) ≤ _) ∧ (_ ≤ (1 : Int) ∧ (1 : Int) ≤ _); omega
  | j + 1, h => by
    obtain ⟨⟨a1, a2⟩, a3, a4⟩ := arc_sum hk j (fun i hi => h i (by omega))
    obtain ⟨t1, t2, t3, t4⟩ := term_bd (ad_pos hk j) (h j (by omega))
    show (_ ≤ (if j % 2 = 0 then _ else _) ∧ (if j % 2 = 0 then _ else _) ≤ _) ∧ (_ ≤ (if j % 2 = 0 then _ else _) ∧ (if j % 2 = 0 then _ else _) ≤ _)
    by_cases hp : j % 2 = 0
    · rw [if_pos hp, if_pos hp]; omega
    · rw [if_neg hp, if_neg hp]; omega
/-- All that a round asks of its numbers. -/
theorem arc_round {k : Int} (hk : 2 ≤ k) (hk' : k ≤ 65536) {j : Nat} (hu : Upto k j) (h : ad k j ≤ 268435456) : ∃ p D l u q r c p' : Int, ap k j = p ∧ (2 * (j : Int) + 1) * p = D ∧ AL k j = l ∧ AH k j = u ∧ 268435456 / D = q ∧ cdiv 268435456 D = r ∧ k * k = c ∧ p * c = p' ∧ ap k (j + 1) = p' ∧
    (if j % 2 = 0 then AL k (j + 1) = l + q ∧ AH k (j + 1) = u + r else AL k (j + 1) = l - r ∧ AH k (j + 1) = u - q) ∧ Upto k (j + 1) ∧
    1 ≤ p ∧ p ≤ 268435456 ∧ 1 ≤ D ∧ D ≤ 268435456 ∧ (-72057594037927938 ≤ l ∧ l ≤ 72057594037927938) ∧ (-72057594037927938 ≤ u ∧ u ≤ 72057594037927938) ∧ 0 ≤ q ∧ q ≤ 268435456 ∧ -268435456 ≤ r ∧ r ≤ 268435456 ∧ 4 ≤ c ∧ c ≤ 4294967296 ∧ 1 ≤ p' ∧ p' ≤ 1152921504606846976 ∧ (j : Int) ≤ 134217728 := by
  obtain ⟨a1, a2⟩ := arc_in hk h
  obtain ⟨⟨b1, b2⟩, b3, b4⟩ := arc_sum hk j hu
  obtain ⟨t1, t2, t3, t4⟩ := term_bd (ad_pos hk j) h
  obtain ⟨k1, k2⟩ := kk_bd hk hk'
  have hu' : Upto k (j + 1) := fun i hi => by
    rcases Nat.lt_or_ge i j with hl | hl
    · exact hu i hl
    · obtain rfl : i = j := by omega
      exact h
  refine ⟨_, _, _, _, _, _, _, _, rfl, rfl, rfl, rfl, rfl, rfl, rfl, rfl, rfl, ?_, hu', ap_pos hk j, a1, ad_pos hk j, h, by omega, by omega, t1, t2, t3, t4, k1, k2, ap_pos hk (j + 1), (arc_le hk hk' (j + 1) hu').2.1, by omega⟩
  by_cases hp : j % 2 = 0
  · rw [if_pos hp]
    exact ⟨if_pos hp, if_pos hp⟩
  · rw [if_neg hp]
    exact ⟨if_neg hp, if_neg hp⟩

set_option maxHeartbeats 2000000 in
theorem ArcSpan_in (k : Int) (w : World) (hk : 2 ≤ k) (hk' : k ≤ 65536) : Calls Try.prog 31 #[.int .i64 k] w fun e w' => ∃ j, Stop k j ∧ e = .returned (.agg #[.int .i64 (AL k j), .int .i64 (AH k j)]) ∧ Below w.heap.size w w' := by
  have Q0 : Pair ((w.alloc (.cells #[.int .i64 0, .int .i64 0] 24)).alloc (.cells #[.int .i64 (-1), .int .i64 1] 24)) (w.heap.size + 1) (AL k 0) (AH k 0) 24 := by
    have := Pair.new (w.alloc (.cells #[.int .i64 0, .int .i64 0] 24)) (-1) 1 24
    rwa [World.size_alloc] at this
  have Q1 : Pair ((w.alloc (.cells #[.int .i64 0, .int .i64 0] 24)).alloc (.cells #[.int .i64 (-1), .int .i64 1] 24)) w.heap.size 0 0 24 := (Pair.new w 0 0 24).alloc _
  have U0 : Hid (Upto k 0) := Lib.hid fun i hi => by omega
  have RND := Lib.hid (fun j => arc_round hk hk' (j := j))
  have LE := Lib.hid (arc_le hk hk')
  go_enter Try.func31, Try.ntmps31
  go_wp2
  go_loopw [4, 5, 6] (fun b p o wr => ∃ j : Nat, b = .bool (decide (j % 2 = 0)) ∧ p = .int .i64 (ap k j) ∧ o = .int .i64 (2 * (j : Int) + 1) ∧ Hid (Upto k j) ∧ Pair wr (w.heap.size + 1) (AL k j) (AH k j) 24 ∧ Pair wr w.heap.size 0 0 24 ∧ w.heap.size + 1 < wr.heap.size ∧ Below w.heap.size w wr) (fun _ _ o _ => 600000000 - (intOf o).toNat)
  case atStart => exact ⟨0, rfl, rfl, rfl, U0, Q0, Q1, by simp, (by repeat (first | exact Below.refl _ _ | refine balloc ?_ _ | refine bdrew ?_ | refine bdrewN ?_ _ | refine bset ?_ (by first | (simp; done) | (simp; omega)) _ | (refine bseq ?_ (by assumption)) | (refine bgrow ?_ (by assumption) (by omega))))⟩
  case round =>
    obtain ⟨j, rfl, rfl, rfl, HU, hs, hr, hsz, hb⟩ := hrel
    by_cases hD : ad k j ≤ 268435456
    · obtain ⟨p, D, l, u, q, r, c, p', ep, eD, el, eu, eq, er, ec, ep', e3, e12, hu', p1, p2, D1, D2, l12, u12, q1, q2, r1, r2, c1, c2, pp1, pp2, j1⟩ := RND.out j HU.out hD
      rw [el, eu] at hs
      rw [ep]
      obtain ⟨⟨c0, c1'⟩, f0, f1⟩ := hs.cells
      have E3 := Lib.hid e3
      have E12 := Lib.hid e12
      have HU' := Lib.hid hu'
      clear e3 e12 hu' el eu ep hD
      have I1 : Hid (∀ w, Calls Try.prog 45 #[.int .i64 268435456, .int .i64 D] w fun e w' => e = .returned (.int .i64 q) ∧ w = w') := Lib.hid fun w => by rw [← eq]; exact FloorDiv_in _ _ _ (by omega) (by omega)
      have I2 : Hid (∀ w, Calls Try.prog 46 #[.int .i64 268435456, .int .i64 D] w fun e w' => e = .returned (.int .i64 r) ∧ w = w') := Lib.hid fun w => by rw [← er]; exact ceilDiv_in _ _ _ (by omega) (by omega)
      clear eq er
      go_wp2_with fail
      refine (I1.out _).mono ?_
      rintro e w' ⟨rfl, rfl⟩
      go_wp2_with fail
      refine (I2.out _).mono ?_
      rintro e w' ⟨rfl, rfl⟩
      by_cases hp : j % 2 = 0
      · have E1 := E12.out
        rw [if_pos hp] at E1
        have F1 := Lib.hid E1.1
        have F2 := Lib.hid E1.2
        clear E1
        have hpd : decide (j % 2 = 0) = true := decide_eq_true hp
        have hq : Hid (false = decide ((j + 1) % 2 = 0)) := Lib.hid (decide_eq_false (by omega)).symm
        rw [hpd]
        go_wp2
        go_roundw
        case rel => exact ⟨j + 1, by first | (rw [← hq.out]; done) | rw [← hq.out], by first | (rw [E3.out]; done) | (rw [E3.out]; go_num), by go_num, HU', by rw [F1.out, F2.out]; exact ((hs.set0 _).set1 _).alloc _, ((hr.keep (by simp) _).keep (by simp) _).alloc _, by simp; omega, balloc (bset (bset hb (by simp) _) (by simp) _) _⟩
        case measure => simp [intOf]; omega
      · have E1 := E12.out
        rw [if_neg hp] at E1
        have F1 := Lib.hid E1.1
        have F2 := Lib.hid E1.2
        clear E1
        have hpd : decide (j % 2 = 0) = false := decide_eq_false hp
        have hq : Hid (true = decide ((j + 1) % 2 = 0)) := Lib.hid (decide_eq_true (by omega)).symm
        rw [hpd]
        go_wp2
        go_roundw
        case rel => exact ⟨j + 1, by first | (rw [← hq.out]; done) | rw [← hq.out], by first | (rw [E3.out]; done) | (rw [E3.out]; go_num), by go_num, HU', by rw [F1.out, F2.out]; exact ((hs.set0 _).set1 _).alloc _, ((hr.keep (by simp) _).keep (by simp) _).alloc _, by simp; omega, balloc (bset (bset hb (by simp) _) (by simp) _) _⟩
        case measure => simp [intOf]; omega
    · obtain ⟨g1, g2, g3⟩ := LE.out j HU.out
      have HS : Hid (Stop k j) := Lib.hid ⟨HU.out, hD⟩
      obtain ⟨D, eD, hD1⟩ : ∃ D, (2 * (j : Int) + 1) * ap k j = D ∧ 268435456 < D := ⟨_, rfl, by unfold ad at hD; omega⟩
      have hD2 : D ≤ 3458764513820540928 := by rw [← eD]; exact g3
      obtain ⟨l, el⟩ : ∃ l, AL k j = l := ⟨_, rfl⟩
      obtain ⟨u, eu⟩ : ∃ u, AH k j = u := ⟨_, rfl⟩
      obtain ⟨p, ep⟩ : ∃ p, ap k j = p := ⟨_, rfl⟩
      rw [el, eu] at hs
      rw [ep] at eD ⊢
      have EL := Lib.hid el
      have EU := Lib.hid eu
      clear el eu ep hD g1 g2 g3
      obtain ⟨⟨c0, c1⟩, f0, f1⟩ := hs.cells
      obtain ⟨⟨d0, d1⟩, g0, g1⟩ := hr.cells
      have E := (hr.set l u).cells.1
      have HB := Lib.hid (bset (bset hb (p := ⟨w.heap.size, 0, none⟩) (by simp) (.int .i64 l)) (p := ⟨w.heap.size, 1, none⟩) (by simp) (.int .i64 u))
      go_wp2
      refine bodyPost_ret (v := .agg #[.int .i64 l, .int .i64 u]) (by simp [results, Try.results31, go_sem, E.1, E.2]) rfl ?_
      exact ⟨j, HS.out, by rw [EL.out, EU.out], HB.out⟩

theorem ArcSpan_no (k : Int) (w : World) (h : k < 2 ∨ 65536 < k) : Calls Try.prog 31 #[.int .i64 k] w fun e w' => e = .returned (.agg #[.int .i64 0, .int .i64 0]) ∧ Below w.heap.size w w' := by
  by_cases h0 : k < 2
  · have hd : decide (k < 2) = true := decide_eq_true h0
    clear h
    go_enter Try.func31, Try.ntmps31
    go_wp2
    refine bodyPost_ret (v := .agg #[.int .i64 0, .int .i64 0]) (by simp [results, Try.results31, go_sem]) rfl ⟨rfl, (by repeat (first | exact Below.refl _ _ | refine balloc ?_ _ | refine bdrew ?_ | refine bdrewN ?_ _ | refine bset ?_ (by first | (simp; done) | (simp; omega)) _ | (refine bseq ?_ (by assumption)) | (refine bgrow ?_ (by assumption) (by omega))))⟩
  · have h1 : 65536 < k := by omega
    have hd : decide (65536 < k) = true := decide_eq_true h1
    clear h
    go_enter Try.func31, Try.ntmps31
    go_wp2
    refine bodyPost_ret (v := .agg #[.int .i64 0, .int .i64 0]) (by simp [results, Try.results31, go_sem]) rfl ⟨rfl, (by repeat (first | exact Below.refl _ _ | refine balloc ?_ _ | refine bdrew ?_ | refine bdrewN ?_ _ | refine bset ?_ (by first | (simp; done) | (simp; omega)) _ | (refine bseq ?_ (by assumption)) | (refine bgrow ?_ (by assumption) (by omega))))⟩

theorem sArcSpan_no (k : Int) (w : World) (h : k < 2 ∨ 65536 < k) : Calls Try.prog 30 #[.int .i64 k] w fun e w' => e = .returned (.agg #[.int .i64 0, .int .i64 0]) ∧ Below w.heap.size w w' := by
  have H := Lib.hid h
  clear h
  go_enter Try.func30, Try.ntmps30
  go_wp2_with fail
  refine (l1In_no _ _ _ _ H.out).mono ?_
  rintro e w' ⟨rfl, rfl⟩
  go_wp2
  refine bodyPost_ret (v := .agg #[.int .i64 0, .int .i64 0]) (by simp [results, Try.results30, go_sem]) rfl ⟨rfl, (by repeat (first | exact Below.refl _ _ | refine balloc ?_ _ | refine bdrew ?_ | refine bdrewN ?_ _ | refine bset ?_ (by first | (simp; done) | (simp; omega)) _ | (refine bseq ?_ (by assumption)) | (refine bgrow ?_ (by assumption) (by omega))))⟩

theorem arc_mulk {k p : Int} (hk : 2 ≤ k) (hk' : k ≤ 65536) (h1 : 1 ≤ p) (h2 : p ≤ 268435456) : ∃ x, p * k = x ∧ 1 ≤ x ∧ x ≤ 17592186044416 ∧ x * k = p * (k * k) := by
  refine ⟨_, rfl, ?_, ?_, Int.mul_assoc _ _ _⟩
  · exact Int.mul_le_mul (a := 1) (c := p) (b := 1) (d := k) h1 (by omega) (by omega) (by omega)
  · exact Int.mul_le_mul (c := 268435456) (d := 65536) h2 hk' (by omega) (by omega)

set_option maxHeartbeats 2000000 in
theorem sArcSpan_in (k : Int) (w : World) (hk : 2 ≤ k) (hk' : k ≤ 65536) : Calls Try.prog 30 #[.int .i64 k] w fun e w' => ∃ j, Stop k j ∧ e = .returned (.agg #[.int .i64 (AL k j), .int .i64 (AH k j)]) ∧ Below w.heap.size w w' := by
  have Q0 : Pair ((w.alloc (.cells #[.int .i64 0, .int .i64 0] 24)).alloc (.cells #[.int .i64 (-1), .int .i64 1] 24)) (w.heap.size + 1) (AL k 0) (AH k 0) 24 := by
    have := Pair.new (w.alloc (.cells #[.int .i64 0, .int .i64 0] 24)) (-1) 1 24
    rwa [World.size_alloc] at this
  have Q1 : Pair ((w.alloc (.cells #[.int .i64 0, .int .i64 0] 24)).alloc (.cells #[.int .i64 (-1), .int .i64 1] 24)) w.heap.size 0 0 24 := (Pair.new w 0 0 24).alloc _
  have U0 : Hid (Upto k 0) := Lib.hid fun i hi => by omega
  have RND := Lib.hid (fun j => arc_round hk hk' (j := j))
  have LE := Lib.hid (arc_le hk hk')
  have MK := Lib.hid (fun p => arc_mulk (p := p) hk hk')
  go_enter Try.func30, Try.ntmps30
  go_wp2_with fail
  refine (l1In_yes _ _ _ _ hk hk').mono ?_
  rintro e w' ⟨rfl, rfl⟩
  go_wp2
  go_loopw [4, 5] (fun p o wr => ∃ j : Nat, p = .int .i64 (ap k j) ∧ o = .int .i64 j ∧ Hid (Upto k j) ∧ Pair wr (w.heap.size + 1) (AL k j) (AH k j) 24 ∧ Pair wr w.heap.size 0 0 24 ∧ w.heap.size + 1 < wr.heap.size ∧ Below w.heap.size w wr) (fun _ o _ => 600000000 - (intOf o).toNat)
  case atStart => exact ⟨0, rfl, rfl, U0, Q0, Q1, by simp, (by repeat (first | exact Below.refl _ _ | refine balloc ?_ _ | refine bdrew ?_ | refine bdrewN ?_ _ | refine bset ?_ (by first | (simp; done) | (simp; omega)) _ | (refine bseq ?_ (by assumption)) | (refine bgrow ?_ (by assumption) (by omega))))⟩
  case round =>
    obtain ⟨j, rfl, rfl, HU, hs, hr, hsz, hb⟩ := hrel
    by_cases hD : ad k j ≤ 268435456
    · obtain ⟨p, D, l, u, q, r, c, p', ep, eD, el, eu, eq, er, ec, ep', e3, e12, hu', p1, p2, D1, D2, l12, u12, q1, q2, r1, r2, c1, c2, pp1, pp2, j1⟩ := RND.out j HU.out hD
      obtain ⟨x, ex, x1, x2, ex'⟩ := MK.out p p1 p2
      have ex2 : x * k = p' := by rw [ex', ec, ep']
      rw [el, eu] at hs
      rw [ep]
      obtain ⟨⟨c0, c1'⟩, f0, f1⟩ := hs.cells
      have E3 := Lib.hid e3
      have E12 := Lib.hid e12
      have HU' := Lib.hid hu'
      clear e3 e12 hu' el eu ep hD ex' ec ep'
      have k7 : Int.tdiv 268435456 D = q := by rw [← eq]; exact Int.tdiv_eq_ediv_of_nonneg (by omega)
      have k8 : ¬ D = 0 := by omega
      have k9 : (D == 0) = false := by simp; omega
      have I2 : Hid (∀ w, Calls Try.prog 44 #[.int .i64 268435456, .int .i64 D] w fun e w' => e = .returned (.int .i64 r) ∧ w = w') := Lib.hid fun w => by rw [← er]; exact l7Ceil_in _ _ _ (by omega) (by omega)
      clear eq er
      go_wp2_with fail
      refine (I2.out _).mono ?_
      rintro e w' ⟨rfl, rfl⟩
      by_cases hp : j % 2 = 0
      · have E1 := E12.out
        rw [if_pos hp] at E1
        have F1 := Lib.hid E1.1
        have F2 := Lib.hid E1.2
        clear E1
        have hm : Int.tmod (j : Int) 2 = 0 := by rw [Int.tmod_eq_emod_of_nonneg (by omega)]; omega
        go_wp2
        go_roundw
        case rel => exact ⟨j + 1, by first | (rw [E3.out]; done) | (rw [E3.out]; go_num), by go_num, HU', by rw [F1.out, F2.out]; exact (hs.set0 _).set1 _, (hr.keep (by simp) _).keep (by simp) _, by simp; omega, bset (bset hb (by simp) _) (by simp) _⟩
        case measure => simp [intOf]; omega
      · have E1 := E12.out
        rw [if_neg hp] at E1
        have F1 := Lib.hid E1.1
        have F2 := Lib.hid E1.2
        clear E1
        have hm : Int.tmod (j : Int) 2 = 1 := by rw [Int.tmod_eq_emod_of_nonneg (by omega)]; omega
        go_wp2
        go_roundw
        case rel => exact ⟨j + 1, by first | (rw [E3.out]; done) | (rw [E3.out]; go_num), by go_num, HU', by rw [F1.out, F2.out]; exact (hs.set0 _).set1 _, (hr.keep (by simp) _).keep (by simp) _, by simp; omega, bset (bset hb (by simp) _) (by simp) _⟩
        case measure => simp [intOf]; omega
    · obtain ⟨g1, g2, g3⟩ := LE.out j HU.out
      have HS : Hid (Stop k j) := Lib.hid ⟨HU.out, hD⟩
      obtain ⟨D, eD, hD1⟩ : ∃ D, (2 * (j : Int) + 1) * ap k j = D ∧ 268435456 < D := ⟨_, rfl, by unfold ad at hD; omega⟩
      have hD2 : D ≤ 3458764513820540928 := by rw [← eD]; exact g3
      obtain ⟨l, el⟩ : ∃ l, AL k j = l := ⟨_, rfl⟩
      obtain ⟨u, eu⟩ : ∃ u, AH k j = u := ⟨_, rfl⟩
      obtain ⟨p, ep⟩ : ∃ p, ap k j = p := ⟨_, rfl⟩
      rw [el, eu] at hs
      rw [ep] at eD ⊢
      have EL := Lib.hid el
      have EU := Lib.hid eu
      clear el eu ep hD g2 g3
      obtain ⟨⟨c0, c1⟩, f0, f1⟩ := hs.cells
      obtain ⟨⟨d0, d1⟩, g0, g1'⟩ := hr.cells
      have E := (hr.set l u).cells.1
      have HB := Lib.hid (bset (bset hb (p := ⟨w.heap.size, 0, none⟩) (by simp) (.int .i64 l)) (p := ⟨w.heap.size, 1, none⟩) (by simp) (.int .i64 u))
      go_wp2
      refine bodyPost_ret (v := .agg #[.int .i64 l, .int .i64 u]) (by simp [results, Try.results30, go_sem, E.1, E.2]) rfl ?_
      exact ⟨j, HS.out, by rw [EL.out, EU.out], HB.out⟩

set_option maxHeartbeats 1000000 in
theorem FnExactArcSpan_walk (k : Int) (w : World) (_w0 : (Lit.int .i64 k).wf = true) : Calls Try.prog 10 #[.int .i64 k] w fun e w' => e = .returned (.bool true) ∧ Below w.heap.size w w' := by
  have I : ∃ P : Int → Int → Prop, (∀ l u l' u', P l u → P l' u' → l = l' ∧ u = u') ∧ Hid (∀ w, Calls Try.prog 30 #[.int .i64 k] w fun e w' => ∃ l u, P l u ∧ e = .returned (.agg #[.int .i64 l, .int .i64 u]) ∧ Below w.heap.size w w') ∧ Hid (∀ w, Calls Try.prog 31 #[.int .i64 k] w fun e w' => ∃ l u, P l u ∧ e = .returned (.agg #[.int .i64 l, .int .i64 u]) ∧ Below w.heap.size w w') := by
    by_cases hk : 2 ≤ k ∧ k ≤ 65536
    · refine ⟨fun l u => ∃ j, Stop k j ∧ l = AL k j ∧ u = AH k j, ?_, Lib.hid fun w => ?_, Lib.hid fun w => ?_⟩
      · rintro l u l' u' ⟨j, s, rfl, rfl⟩ ⟨j', s', rfl, rfl⟩
        rw [stop_unique s s']
        exact ⟨rfl, rfl⟩
      · refine (sArcSpan_in k w hk.1 hk.2).mono ?_
        rintro e w' ⟨j, s, rfl, hb⟩
        exact ⟨_, _, ⟨j, s, rfl, rfl⟩, rfl, hb⟩
      · refine (ArcSpan_in k w hk.1 hk.2).mono ?_
        rintro e w' ⟨j, s, rfl, hb⟩
        exact ⟨_, _, ⟨j, s, rfl, rfl⟩, rfl, hb⟩
    · refine ⟨fun l u => l = 0 ∧ u = 0, ?_, Lib.hid fun w => ?_, Lib.hid fun w => ?_⟩
      · rintro l u l' u' ⟨rfl, rfl⟩ ⟨rfl, rfl⟩
        exact ⟨rfl, rfl⟩
      · refine (sArcSpan_no k w (by omega)).mono ?_
        rintro e w' ⟨rfl, hb⟩
        exact ⟨_, _, ⟨rfl, rfl⟩, rfl, hb⟩
      · refine (ArcSpan_no k w (by omega)).mono ?_
        rintro e w' ⟨rfl, hb⟩
        exact ⟨_, _, ⟨rfl, rfl⟩, rfl, hb⟩
  obtain ⟨P, un, I1, I2⟩ := I
  have UN := Lib.hid un
  clear un
  go_enter Try.func10, Try.ntmps10
  go_wp2_with fail
  refine (I1.out _).mono ?_
  rintro e w1 ⟨l, u, hP, rfl, hb1⟩
  go_wp2_with fail
  refine (I2.out _).mono ?_
  rintro e w2 ⟨l', u', hP', rfl, hb2⟩
  obtain ⟨rfl, rfl⟩ := UN.out _ _ _ _ hP hP'
  have Q2 := (Pair.new w1 l u 24).below hb2
  have Q3 := Q2.alloc (.cells #[.int .i64 l, .int .i64 u] 24)
  have HB : Hid (Below w.heap.size w (w2.alloc (.cells #[.int .i64 l, .int .i64 u] 24))) := Lib.hid (balloc (bseq (balloc hb1 _) hb2) _)
  have hz := hb2.size
  simp only [World.size_alloc] at hz
  have hne : w2.heap.size ≠ w1.heap.size := by omega
  clear hb1 hb2 Q2 hP hP' UN I1 I2
  obtain ⟨⟨c0, c1⟩, c2, c3⟩ := Q3.cells
  go_wp2_with fail
  refine (eqSpan_same _ _ _).mono ?_
  rintro e w' ⟨rfl, rfl⟩
  go_wp2
  go_ret
  exact ⟨rfl, balloc (balloc HB.out _) _⟩

end Go.Proofs.Ytjlldfkkkfcohaa.K
