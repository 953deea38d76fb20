/- Contracts of roots of stored numbers; the walks of the exact laws on formats. -/
import Derived.Test.YtffgekboieimhaaArith
import Derived.Test.YtffgekboieimhaaRoot
namespace Go.Proofs.Ytffgekboieimhaa.K
open Go.RowKit

theorem up_bounds {n b : Int} (n1 : 0 ≤ n) (n2 : n ≤ 268435455) (h3 : 0 ≤ b) (h4 : b ≤ 16) : 0 ≤ n * 2 ^ b.toNat ∧ n * 2 ^ b.toNat ≤ 17592186044416 := by
  have p1 := pow_pos' b.toNat
  have p2 := pow_le' (k := b.toNat) (m := 16) (by omega)
  refine ⟨Int.mul_nonneg n1 (by omega), ?_⟩
  have := Int.mul_le_mul (a := n) (c := 268435456) (b := 2 ^ b.toNat) (d := 65536) (by omega) (by omega) (by omega) (by omega)
  omega

theorem SqrtStored_in (a b n s : Int) (w : World) (h : Fit a b n) (n1 : 0 ≤ n) (s0 : 0 ≤ s) (s1 : s * s ≤ n * 2 ^ b.toNat) (s2 : n * 2 ^ b.toNat < (s + 1) * (s + 1)) : Calls Try.prog 24 #[.agg #[.int .i64 a, .int .i64 b], .int .i64 n] w fun e w' => e = .returned (.tuple #[.int .i64 s, .bool true]) ∧ Below w.heap.size w w' := by
  obtain ⟨h1, h2, h3, h4⟩ := h.valid
  obtain ⟨x1, x2⟩ := h.bnd
  obtain ⟨u1, u2⟩ := up_bounds n1 x2 h3 h4
  have p1 := pow_pos' b.toNat
  have p2 := pow_60 (k := b) (by omega)
  have H := Lib.hid h
  have S1 := Lib.hid s1
  have S2 := Lib.hid s2
  clear h s1 s2
  go_enter Try.func24, Try.ntmps24
  go_wp2_with fail
  refine (StoredFits_fit _ _ _ _ H.out).mono ?_
  rintro e w1 ⟨rfl, hb1⟩
  obtain ⟨hc1, hf1⟩ := bcell hb1
  have hz1 := hb1.size
  simp only [World.size_alloc] at hz1
  go_wp2_with (first | (go_at_call 46; refine (SqrtFloor_in _ s _ (by omega) (by omega) s0 S1.out S2.out).mono ?_; rintro e w' ⟨rfl, rfl⟩))
  go_ret2
  exact ⟨rfl, (by repeat (first | exact Below.refl _ _ | refine balloc ?_ _ | refine bdrew ?_ | refine bdrewN ?_ _ | refine bset ?_ (by first | (simp; done) | (simp; omega)) _ | (refine bseq ?_ (by assumption)) | (refine bgrow ?_ (by assumption) (by omega))))⟩
theorem SqrtStored_no (a b n : Int) (w : World) (h : ¬ Fit a b n ∨ n < 0) : Calls Try.prog 24 #[.agg #[.int .i64 a, .int .i64 b], .int .i64 n] w fun e w' => e = .returned (.tuple #[.int .i64 0, .bool false]) ∧ Below w.heap.size w w' := by
  by_cases hx : Fit a b n
  · have n1 : n < 0 := h.resolve_left (fun h => h hx)
    have H := Lib.hid hx
    clear h hx
    go_enter Try.func24, Try.ntmps24
    go_wp2_with (first | (go_at_call 30; refine (StoredFits_fit _ _ _ _ H.out).mono ?_; rintro e w1 ⟨rfl, hb1⟩))
    go_ret2
    exact ⟨rfl, (by repeat (first | exact Below.refl _ _ | refine balloc ?_ _ | refine bdrew ?_ | refine bdrewN ?_ _ | refine bset ?_ (by first | (simp; done) | (simp; omega)) _ | (refine bseq ?_ (by assumption)) | (refine bgrow ?_ (by assumption) (by omega))))⟩
  · have H := Lib.hid hx
    clear h hx
    go_enter Try.func24, Try.ntmps24
    go_wp2_with (first | (go_at_call 30; refine (StoredFits_nofit _ _ _ _ H.out).mono ?_; rintro e w1 ⟨rfl, hb1⟩))
    go_ret2
    exact ⟨rfl, (by repeat (first | exact Below.refl _ _ | refine balloc ?_ _ | refine bdrew ?_ | refine bdrewN ?_ _ | refine bset ?_ (by first | (simp; done) | (simp; omega)) _ | (refine bseq ?_ (by assumption)) | (refine bgrow ?_ (by assumption) (by omega))))⟩

theorem sSqrtStored_in (a b n s : Int) (w : World) (h : Fit a b n) (n1 : 0 ≤ n) (s0 : 0 ≤ s) (s1 : s * s ≤ n * 2 ^ b.toNat) (s2 : n * 2 ^ b.toNat < (s + 1) * (s + 1)) : Calls Try.prog 23 #[.agg #[.int .i64 a, .int .i64 b], .int .i64 n] w fun e w' => e = .returned (.tuple #[.int .i64 s, .bool true]) ∧ Below w.heap.size w w' := by
  obtain ⟨h1, h2, h3, h4⟩ := h.valid
  obtain ⟨x1, x2⟩ := h.bnd
  obtain ⟨u1, u2⟩ := up_bounds n1 x2 h3 h4
  have p1 := pow_pos' b.toNat
  have p2 := pow_60 (k := b) (by omega)
  have H := Lib.hid h
  have S1 := Lib.hid s1
  have S2 := Lib.hid s2
  clear h s1 s2
  go_enter Try.func23, Try.ntmps23
  go_wp2_with fail
  refine (sStoredFits_fit _ _ _ _ H.out).mono ?_
  rintro e w1 ⟨rfl, hb1⟩
  obtain ⟨hc1, hf1⟩ := bcell hb1
  have hz1 := hb1.size
  simp only [World.size_alloc] at hz1
  go_wp2_with (first | (go_at_call 45; refine (l2Sqrt_in _ s _ (by omega) (by omega) s0 S1.out S2.out).mono ?_; rintro e w' ⟨rfl, rfl⟩))
  go_ret2
  exact ⟨rfl, (by repeat (first | exact Below.refl _ _ | refine balloc ?_ _ | refine bdrew ?_ | refine bdrewN ?_ _ | refine bset ?_ (by first | (simp; done) | (simp; omega)) _ | (refine bseq ?_ (by assumption)) | (refine bgrow ?_ (by assumption) (by omega))))⟩
theorem sSqrtStored_no (a b n : Int) (w : World) (h : ¬ Fit a b n ∨ n < 0) : Calls Try.prog 23 #[.agg #[.int .i64 a, .int .i64 b], .int .i64 n] w fun e w' => e = .returned (.tuple #[.int .i64 0, .bool false]) ∧ Below w.heap.size w w' := by
  by_cases hx : Fit a b n
  · have n1 : n < 0 := h.resolve_left (fun h => h hx)
    have H := Lib.hid hx
    clear h hx
    go_enter Try.func23, Try.ntmps23
    go_wp2_with (first | (go_at_call 31; refine (sStoredFits_fit _ _ _ _ H.out).mono ?_; rintro e w1 ⟨rfl, hb1⟩))
    go_ret2
    exact ⟨rfl, (by repeat (first | exact Below.refl _ _ | refine balloc ?_ _ | refine bdrew ?_ | refine bdrewN ?_ _ | refine bset ?_ (by first | (simp; done) | (simp; omega)) _ | (refine bseq ?_ (by assumption)) | (refine bgrow ?_ (by assumption) (by omega))))⟩
  · have H := Lib.hid hx
    clear h hx
    go_enter Try.func23, Try.ntmps23
    go_wp2_with (first | (go_at_call 31; refine (sStoredFits_nofit _ _ _ _ H.out).mono ?_; rintro e w1 ⟨rfl, hb1⟩))
    go_ret2
    exact ⟨rfl, (by repeat (first | exact Below.refl _ _ | refine balloc ?_ _ | refine bdrew ?_ | refine bdrewN ?_ _ | refine bset ?_ (by first | (simp; done) | (simp; omega)) _ | (refine bseq ?_ (by assumption)) | (refine bgrow ?_ (by assumption) (by omega))))⟩

end Go.Proofs.Ytffgekboieimhaa.K
