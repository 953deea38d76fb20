/- The plain arithmetic that the contracts of fixedmath's functions lean on: no program in sight. -/
namespace Go.Proofs.YtbnmkbkjoofekaaDoor.K
theorem tdiv_neg_bounds {a b M : Int} (_hM : 0 ≤ M) (ha : -M ≤ a) (ha0 : a < 0) (hb : 1 ≤ b) : -M ≤ a.tdiv b ∧ a.tdiv b ≤ 0 := by
  have h : a.tdiv b = -((-a) / b) := by
    have := Int.tdiv_eq_ediv_of_nonneg (a := -a) (b := b) (by omega)
    rw [Int.neg_tdiv] at this
    omega
  have h1 : 0 ≤ (-a) / b := Int.ediv_nonneg (by omega) (by omega)
  have h2 : (-a) / b ≤ -a := Int.ediv_le_self _ (by omega)
  omega

theorem floor_neg {a b : Int} (_ha : a < 0) (hb : 1 ≤ b) (h : a.tmod b < 0) : a.tdiv b - 1 = a / b := by
  have e1 : b * a.tdiv b + a.tmod b = a := Int.mul_tdiv_add_tmod a b
  have e2 := Int.lt_tmod_of_pos a (b := b) (by omega)
  refine Eq.symm ((Int.ediv_emod_unique (by omega : 0 < b) (r := a.tmod b + b) (q := a.tdiv b - 1)).2 ⟨?_, by omega, by omega⟩).1
  rw [Int.mul_sub]; omega

theorem floor_pos {a b : Int} (_ha : a < 0) (hb : 1 ≤ b) (h : ¬ a.tmod b < 0) : a.tdiv b = a / b := by
  have e1 : b * a.tdiv b + a.tmod b = a := Int.mul_tdiv_add_tmod a b
  have e2 := Int.tmod_lt_of_pos a (b := b) (by omega)
  refine Eq.symm ((Int.ediv_emod_unique (by omega : 0 < b) (r := a.tmod b) (q := a.tdiv b)).2 ⟨?_, by omega, by omega⟩).1
  omega

theorem and_mask (n : Int) (k : Nat) (hk : k ≤ 62) : ((BitVec.ofInt 64 n &&& BitVec.ofInt 64 (2 ^ k - 1)).toNat : Int) = n % 2 ^ k := by
  have h1 : (BitVec.ofInt 64 (2 ^ k - 1 : Int)).toNat = 2 ^ k - 1 := by
    have hp : (1 : Nat) ≤ 2 ^ k := Nat.one_le_two_pow
    have e : (2 ^ k - 1 : Int) = ((2 ^ k - 1 : Nat) : Int) := by
      rw [Int.ofNat_sub hp]; simp
    rw [e, BitVec.ofInt_natCast, BitVec.toNat_ofNat]
    have h2 : (2 : Nat) ^ k ≤ 2 ^ 62 := Nat.pow_le_pow_right (by omega) hk
    exact Nat.mod_eq_of_lt (by omega)
  rw [BitVec.toNat_and, h1, Nat.and_two_pow_sub_one_eq_mod, BitVec.toNat_ofInt]
  have h3 : (0 : Int) ≤ n % ((2 ^ 64 : Nat) : Int) := Int.emod_nonneg _ (by decide)
  rw [Int.natCast_emod, Int.toNat_of_nonneg h3]
  have h4 : (((2 : Nat) ^ k : Nat) : Int) = (2 : Int) ^ k := by simp
  rw [h4]
  apply Int.emod_emod_of_dvd
  have : (2 : Int) ^ 64 = 2 ^ k * 2 ^ (64 - k) := by rw [← Int.pow_add]; congr 1; omega
  rw [show ((2 ^ 64 : Nat) : Int) = (2 : Int) ^ 64 from by decide, this]
  exact Int.dvd_mul_right _ _

theorem pow_pos' (k : Nat) : (1 : Int) ≤ 2 ^ k := by
  have : (0 : Int) < 2 ^ k := Int.pow_pos (by decide)
  omega
theorem pow_le' {k m : Nat} (h : k ≤ m) : (2 : Int) ^ k ≤ 2 ^ m := by
  have e : (2 : Int) ^ m = 2 ^ k * 2 ^ (m - k) := by rw [← Int.pow_add]; congr 1; omega
  rw [e]
  have h1 := pow_pos' k
  have h2 := pow_pos' (m - k)
  have := Int.mul_le_mul_of_nonneg_left h2 (by omega : (0 : Int) ≤ 2 ^ k)
  omega
theorem pow_60 {k : Int} (h : k ≤ 60) : (2 : Int) ^ k.toNat ≤ 1152921504606846976 := by
  have := pow_le' (k := k.toNat) (m := 60) (by omega)
  exact this
/-- Rounded to the nearest, and, if two are as near, to the even one. -/
def rnd (a b : Int) : Int := if b < 2 * (a % b) ∨ (2 * (a % b) = b ∧ (a / b) % 2 = 1) then a / b + 1 else a / b

theorem rest_eq (a b : Int) : a - a / b * b = a % b := by
  have := Int.mul_ediv_add_emod a b
  rw [Int.mul_comm] at this
  omega
theorem rest_bounds {a b : Int} (hb : 1 ≤ b) : 0 ≤ a - a / b * b ∧ a - a / b * b < b := by
  rw [rest_eq]
  exact ⟨Int.emod_nonneg _ (by omega), Int.emod_lt_of_pos _ (by omega)⟩
theorem quo_bounds {a b M : Int} (hb : 1 ≤ b) (_hM : 0 ≤ M) (h1 : -M ≤ a) (h2 : a ≤ M) : -M ≤ a / b ∧ a / b ≤ M := by
  constructor
  · refine (Int.le_ediv_iff_mul_le (by omega)).2 ?_
    have : -M * b ≤ -M * 1 := Int.mul_le_mul_of_nonpos_left (by omega) (by omega)
    omega
  · rcases Int.le_total 0 a with h | h
    · exact Int.le_trans (Int.ediv_le_self b h) h2
    · have h3 : a / b ≤ 0 := by
        rcases Int.lt_or_eq_of_le h with h | h
        · have := Int.ediv_neg_of_neg_of_pos h (by omega : 0 < b)
          omega
        · subst h; simp
      omega
theorem tmod_two_ne (q : Int) : (q.tmod 2 = 0) ↔ q % 2 = 0 := by
  rw [← Int.dvd_iff_tmod_eq_zero, Int.dvd_iff_emod_eq_zero]
theorem odd_or (q : Int) : q % 2 = 0 ∨ q % 2 = 1 := by omega

/-! roots -/
theorem sq_mono {a b : Int} (ha : 0 ≤ a) (h : a ≤ b) : a * a ≤ b * b := by
  have h1 := Int.mul_le_mul h h ha (by omega)
  exact h1
theorem sq_unique {n s r : Int} (hs : 0 ≤ s) (hr : 0 ≤ r) (h1 : s * s ≤ n) (h2 : n < (s + 1) * (s + 1)) (h3 : r * r ≤ n) (h4 : n < (r + 1) * (r + 1)) : r = s := by
  rcases Int.lt_trichotomy r s with h | h | h
  · have := sq_mono (a := r + 1) (b := s) (by omega) (by omega)
    omega
  · exact h
  · have := sq_mono (a := s + 1) (b := r) (by omega) (by omega)
    omega
/-- a number below the next square, and not below r's square, has a root of at least r -/
theorem sq_le {n s r : Int} (hs : 0 ≤ s) (h2 : n < (s + 1) * (s + 1)) (h3 : r * r ≤ n) : r ≤ s := by
  rcases Int.lt_or_le s r with h | h
  · have := sq_mono (a := s + 1) (b := r) (by omega) (by omega)
    omega
  · exact h
theorem sq_lt {n s r : Int} (hr : 0 ≤ r) (h1 : s * s ≤ n) (h3 : n < r * r) : s < r := by
  rcases Int.lt_or_le s r with h | h
  · exact h
  · have := sq_mono (a := r) (b := s) (by omega) (by omega)
    omega

/-- Newton's step does not pass the root. -/
theorem newton_ge {n s r : Int} (hr : 1 ≤ r) (h1 : s * s ≤ n) : s ≤ (r + n / r) / 2 := by
  have hq : 2 * s - r ≤ n / r := by
    rw [Int.le_ediv_iff_mul_le (by omega)]
    have h : 0 ≤ (r - s) * (r - s) := by
      rcases Int.le_total 0 (r - s) with h | h
      · exact Int.mul_nonneg h h
      · exact Int.mul_nonneg_of_nonpos_of_nonpos h h
    have e : (r - s) * (r - s) = r * r - 2 * (s * r) + s * s := by grind
    have e2 : (2 * s - r) * r = 2 * (s * r) - r * r := by grind
    omega
  omega
/-- Where it does not go down, r is at most the root. -/
theorem newton_le {n r : Int} (hr : 1 ≤ r) (h : r ≤ (r + n / r) / 2) : r * r ≤ n := by
  have hq : r ≤ n / r := by omega
  exact (Int.le_ediv_iff_mul_le (by omega)).1 hq
theorem exists_sqrt (n : Nat) : ∃ s : Nat, s * s ≤ n ∧ n < (s + 1) * (s + 1) := by
  induction n with
  | zero => exact ⟨0, by simp, by simp⟩
  | succ n ih =>
    obtain ⟨s, h1, h2⟩ := ih
    by_cases h : n + 1 < (s + 1) * (s + 1)
    · exact ⟨s, by omega, h⟩
    · refine ⟨s + 1, by omega, ?_⟩
      have : (s + 1 + 1) * (s + 1 + 1) = (s + 1) * (s + 1) + 2 * s + 3 := by grind
      omega
theorem exists_isqrt (n : Int) (h : 0 ≤ n) : ∃ s : Int, 0 ≤ s ∧ s * s ≤ n ∧ n < (s + 1) * (s + 1) := by
  obtain ⟨s, h1, h2⟩ := exists_sqrt n.toNat
  refine ⟨s, by omega, ?_, ?_⟩
  · have : ((s * s : Nat) : Int) ≤ n := by omega
    simpa using this
  · have : n < (((s + 1) * (s + 1) : Nat) : Int) := by omega
    simpa using this

/-! cube roots -/
theorem cube_mono {a b : Int} (ha : 0 ≤ a) (h : a ≤ b) : a * a * a ≤ b * b * b :=
  Int.mul_le_mul (sq_mono ha h) h ha (Int.mul_nonneg (by omega) (by omega))
theorem cube_unique {n s r : Int} (hs : 0 ≤ s) (hr : 0 ≤ r) (h1 : s * s * s ≤ n) (h2 : n < (s + 1) * (s + 1) * (s + 1)) (h3 : r * r * r ≤ n) (h4 : n < (r + 1) * (r + 1) * (r + 1)) : r = s := by
  rcases Int.lt_trichotomy r s with h | h | h
  · have := cube_mono (a := r + 1) (b := s) (by omega) (by omega)
    omega
  · exact h
  · have := cube_mono (a := s + 1) (b := r) (by omega) (by omega)
    omega
theorem cube_le {n s r : Int} (hs : 0 ≤ s) (h2 : n < (s + 1) * (s + 1) * (s + 1)) (h3 : r * r * r ≤ n) : r ≤ s := by
  rcases Int.lt_or_le s r with h | h
  · have := cube_mono (a := s + 1) (b := r) (by omega) (by omega)
    omega
  · exact h
theorem cube_lt {n s r : Int} (hr : 0 ≤ r) (h1 : s * s * s ≤ n) (h3 : n < r * r * r) : s < r := by
  rcases Int.lt_or_le s r with h | h
  · exact h
  · have := cube_mono (a := r) (b := s) (by omega) (by omega)
    omega
theorem cnewton_ge {n s r : Int} (hr : 1 ≤ r) (hs : 0 ≤ s) (h1 : s * s * s ≤ n) : s ≤ (2 * r + n / (r * r)) / 3 := by
  have hrr : 0 < r * r := Int.mul_pos (by omega) (by omega)
  have hq : 3 * s - 2 * r ≤ n / (r * r) := by
    rw [Int.le_ediv_iff_mul_le hrr]
    have h : 0 ≤ (r - s) * (r - s) := by
      rcases Int.le_total 0 (r - s) with h | h
      · exact Int.mul_nonneg h h
      · exact Int.mul_nonneg_of_nonpos_of_nonpos h h
    have h' : 0 ≤ (r - s) * (r - s) * (2 * r + s) := Int.mul_nonneg h (by omega)
    have e : (r - s) * (r - s) * (2 * r + s) = 2 * (r * r * r) - 3 * (s * (r * r)) + s * s * s := by grind
    have e2 : (3 * s - 2 * r) * (r * r) = 3 * (s * (r * r)) - 2 * (r * r * r) := by grind
    omega
  omega
theorem cnewton_le {n r : Int} (hr : 1 ≤ r) (h : r ≤ (2 * r + n / (r * r)) / 3) : r * r * r ≤ n := by
  have hrr : 0 < r * r := Int.mul_pos (by omega) (by omega)
  have hq : r ≤ n / (r * r) := by omega
  have := (Int.le_ediv_iff_mul_le hrr).1 hq
  have e : r * (r * r) = r * r * r := by grind
  omega
theorem exists_cbrt (n : Nat) : ∃ s : Nat, s * s * s ≤ n ∧ n < (s + 1) * (s + 1) * (s + 1) := by
  induction n with
  | zero => exact ⟨0, by simp, by simp⟩
  | succ n ih =>
    obtain ⟨s, h1, h2⟩ := ih
    by_cases h : n + 1 < (s + 1) * (s + 1) * (s + 1)
    · exact ⟨s, by omega, h⟩
    · refine ⟨s + 1, by omega, ?_⟩
      have e : (s + 1 + 1) * (s + 1 + 1) * (s + 1 + 1) = (s + 1) * (s + 1) * (s + 1) + (3 * (s * s) + 9 * s + 7) := by grind
      omega
theorem exists_icbrt (n : Int) (h : 0 ≤ n) : ∃ s : Int, 0 ≤ s ∧ s * s * s ≤ n ∧ n < (s + 1) * (s + 1) * (s + 1) := by
  obtain ⟨s, h1, h2⟩ := exists_cbrt n.toNat
  refine ⟨s, by omega, ?_, ?_⟩
  · have : ((s * s * s : Nat) : Int) ≤ n := by omega
    simpa using this
  · have : n < (((s + 1) * (s + 1) * (s + 1) : Nat) : Int) := by omega
    simpa using this
/-! the reference's roots, bit by bit: at the head of a round for bit k -/
theorem pow_head {k : Int} (hk : 0 ≤ k) : (2 : Int) ^ (k + 1).toNat = 2 * 2 ^ k.toNat := by
  rw [show (k + 1).toNat = k.toNat + 1 from by omega, Int.pow_succ]; omega
theorem pow_next (k : Int) : (2 : Int) ^ (k - 1 + 1).toNat = 2 ^ k.toNat := by rw [show k - 1 + 1 = k from by omega]

structure BitAt (n r k : Int) : Prop where
  r0 : 0 ≤ r
  lo : r * r ≤ n
  hi : n < (r + 2 ^ (k + 1).toNat) * (r + 2 ^ (k + 1).toNat)
  top : r + 2 ^ (k + 1).toNat ≤ 2147483648
theorem BitAt.yes {n r k : Int} (h : BitAt n r k) (hk : 0 ≤ k) (hx : (r + 2 ^ k.toNat) * (r + 2 ^ k.toNat) ≤ n) : BitAt n (r + 2 ^ k.toNat) (k - 1) := by
  obtain ⟨h1, h2, h3, h4⟩ := h
  rw [pow_head hk] at h3 h4
  have hp := pow_pos' k.toNat
  have e : r + 2 * 2 ^ k.toNat = r + 2 ^ k.toNat + 2 ^ k.toNat := by omega
  refine ⟨by omega, hx, ?_, ?_⟩
  · rw [pow_next]; rw [e] at h3; exact h3
  · rw [pow_next]; omega
theorem BitAt.no {n r k : Int} (h : BitAt n r k) (hk : 0 ≤ k) (hx : n < (r + 2 ^ k.toNat) * (r + 2 ^ k.toNat)) : BitAt n r (k - 1) := by
  obtain ⟨h1, h2, h3, h4⟩ := h
  rw [pow_head hk] at h3 h4
  have hp := pow_pos' k.toNat
  refine ⟨h1, h2, ?_, ?_⟩
  · rw [pow_next]; exact hx
  · rw [pow_next]; omega
theorem BitAt.bnd {n r k : Int} (h : BitAt n r k) (hk : 0 ≤ k) : 0 ≤ r ∧ 1 ≤ (2 : Int) ^ k.toNat ∧ r + 2 ^ k.toNat ≤ 2147483647 ∧ (2 : Int) ^ k.toNat ≤ 2147483647 ∧
    0 ≤ (r + 2 ^ k.toNat) * (r + 2 ^ k.toNat) ∧ (r + 2 ^ k.toNat) * (r + 2 ^ k.toNat) ≤ 4611686014132420609 := by
  obtain ⟨h1, h2, h3, h4⟩ := h
  rw [pow_head hk] at h4
  have hp := pow_pos' k.toNat
  refine ⟨h1, hp, by omega, by omega, Int.mul_nonneg (by omega) (by omega), ?_⟩
  exact Int.mul_le_mul (a := r + 2 ^ k.toNat) (c := 2147483647) (b := r + 2 ^ k.toNat) (d := 2147483647) (by omega) (by omega) (by omega) (by omega)

structure CubeAt (n r k : Int) : Prop where
  r0 : 0 ≤ r
  lo : r * r * r ≤ n
  hi : n < (r + 2 ^ (k + 1).toNat) * (r + 2 ^ (k + 1).toNat) * (r + 2 ^ (k + 1).toNat)
  top : r + 2 ^ (k + 1).toNat ≤ 2097152
theorem CubeAt.yes {n r k : Int} (h : CubeAt n r k) (hk : 0 ≤ k) (hx : (r + 2 ^ k.toNat) * (r + 2 ^ k.toNat) * (r + 2 ^ k.toNat) ≤ n) : CubeAt n (r + 2 ^ k.toNat) (k - 1) := by
  obtain ⟨h1, h2, h3, h4⟩ := h
  rw [pow_head hk] at h3 h4
  have hp := pow_pos' k.toNat
  have e : r + 2 * 2 ^ k.toNat = r + 2 ^ k.toNat + 2 ^ k.toNat := by omega
  refine ⟨by omega, hx, ?_, ?_⟩
  · rw [pow_next]; rw [e] at h3; exact h3
  · rw [pow_next]; omega
theorem CubeAt.no {n r k : Int} (h : CubeAt n r k) (hk : 0 ≤ k) (hx : n < (r + 2 ^ k.toNat) * (r + 2 ^ k.toNat) * (r + 2 ^ k.toNat)) : CubeAt n r (k - 1) := by
  obtain ⟨h1, h2, h3, h4⟩ := h
  rw [pow_head hk] at h3 h4
  have hp := pow_pos' k.toNat
  refine ⟨h1, h2, ?_, ?_⟩
  · rw [pow_next]; exact hx
  · rw [pow_next]; omega
theorem CubeAt.bnd {n r k : Int} (h : CubeAt n r k) (hk : 0 ≤ k) : 0 ≤ r ∧ 1 ≤ (2 : Int) ^ k.toNat ∧ r + 2 ^ k.toNat ≤ 2097151 ∧ (2 : Int) ^ k.toNat ≤ 2097151 ∧
    0 ≤ (r + 2 ^ k.toNat) * (r + 2 ^ k.toNat) ∧ (r + 2 ^ k.toNat) * (r + 2 ^ k.toNat) ≤ 4398042316801 ∧
    0 ≤ (r + 2 ^ k.toNat) * (r + 2 ^ k.toNat) * (r + 2 ^ k.toNat) ∧ (r + 2 ^ k.toNat) * (r + 2 ^ k.toNat) * (r + 2 ^ k.toNat) ≤ 9223358842721533951 := by
  obtain ⟨h1, h2, h3, h4⟩ := h
  rw [pow_head hk] at h4
  have hp := pow_pos' k.toNat
  have hq : (r + 2 ^ k.toNat) * (r + 2 ^ k.toNat) ≤ 4398042316801 := Int.mul_le_mul (a := r + 2 ^ k.toNat) (c := 2097151) (b := r + 2 ^ k.toNat) (d := 2097151) (by omega) (by omega) (by omega) (by omega)
  have hq0 : 0 ≤ (r + 2 ^ k.toNat) * (r + 2 ^ k.toNat) := Int.mul_nonneg (by omega) (by omega)
  refine ⟨h1, hp, by omega, by omega, hq0, hq, Int.mul_nonneg hq0 (by omega), ?_⟩
  exact Int.mul_le_mul (a := (r + 2 ^ k.toNat) * (r + 2 ^ k.toNat)) (c := 4398042316801) (b := r + 2 ^ k.toNat) (d := 2097151) hq (by omega) (by omega) (by omega)

/-- the sums of ArcSpan, with 'fuel' rounds left -/
def arcGo : Nat → Int → Int → Int → Int → Int → Bool → Int × Int
  | 0, _, lo, hi, _, _, _ => (lo, hi)
  | m + 1, k, lo, hi, odd, power, plus =>
    if odd * power ≤ 268435456 then
      (match plus with
      | true => arcGo m k (lo + 268435456 / (odd * power)) (hi + -(-268435456 / (odd * power))) (odd + 2) (power * (k * k)) false
      | false => arcGo m k (lo + -(-(-268435456 / (odd * power)))) (hi + -(268435456 / (odd * power))) (odd + 2) (power * (k * k)) true)
    else (lo, hi)
end Go.Proofs.YtbnmkbkjoofekaaDoor.K
