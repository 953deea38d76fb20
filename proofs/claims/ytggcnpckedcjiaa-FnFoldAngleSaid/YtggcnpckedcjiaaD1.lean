/- The walks of the laws on lengths, quarters and folded angles. -/
import Derived.Test.YtggcnpckedcjiaaDrawB
import Derived.Test.YtggcnpckedcjiaaRoot
namespace Go.Proofs.Ytggcnpckedcjiaa.K
open Go.RowKit

theorem alive_any (w : World) : Calls Try.prog 28 #[] w fun e w' => e = .returned (.bool true) ∧ w = w' := by
  have e5 : Lib.bitLen (Int.toNat 5) = 3 := by decide
  go_enter Try.func28, Try.ntmps28
  go_wp2_with (first | (go_at_call 16; refine (BitLength_in _ _ (by omega) (by omega)).mono ?_; rintro e w' ⟨rfl, rfl⟩))
  go_ret
  exact ⟨rfl, rfl⟩

theorem FnBitLength_walk (a0 : Option Addr) (len0 cap0 : Nat) (z0 : List Int) (w : World) (w0 : IsRow .u8 w a0 len0 cap0 z0) : Calls Try.prog 9 #[.slice a0 len0 cap0] w fun e w' => e = .returned (.bool true) ∧ Below w.heap.size w w' := by
  by_cases hlen : (1048576 : Int) < (len0 : Int)
  · go_enter Try.func9, Try.ntmps9
    go_wp2
    go_ret
    exact ⟨rfl, (by repeat (first | exact Below.refl _ _ | refine balloc ?_ _ | refine bdrew ?_ | refine bdrewN ?_ _ | refine bset ?_ (by first | (simp; done) | (simp; omega)) _ | (refine bseq ?_ (by assumption)) | (refine bgrow ?_ (by assumption) (by omega))))⟩
  · have R := Lib.hid w0
    clear w0
    go_enter Try.func9, Try.ntmps9
    go_wp2_with fail
    refine (DrawBitLength_any _ _ _ _ _ R.out).mono ?_
    rintro e w1 ⟨n, n1, n2, rfl, hb1⟩
    by_cases h0 : n = 0
    · subst h0
      have e0 : Lib.bitLen 0 = 0 := Lib.bitLenAux_zero 64
      have e1 : Lib.bitLen (Int.toNat 0) = 0 := Lib.bitLenAux_zero 64
      go_wp2_with fail
      refine (BitLength_in _ _ (by omega) (by omega)).mono ?_
      rintro e w' ⟨rfl, rfl⟩
      go_wp2_with fail
      refine (sBitLength_in _ _ (by omega) (by omega)).mono ?_
      rintro e w' ⟨rfl, rfl⟩
      go_wp2
      go_ret
      exact ⟨rfl, (by repeat (first | exact Below.refl _ _ | refine balloc ?_ _ | refine bdrew ?_ | refine bdrewN ?_ _ | refine bset ?_ (by first | (simp; done) | (simp; omega)) _ | (refine bseq ?_ (by assumption)) | (refine bgrow ?_ (by assumption) (by omega))))⟩
    · by_cases h : 0 ≤ n ∧ n ≤ 1152921504606846976
      · obtain ⟨h1, h2⟩ := h
        obtain ⟨l1, l2, l3⟩ := blen n.toNat (by omega)
        have I1 := fun w => BitLength_in n w h1 h2
        have I2 := fun w => sBitLength_in n w h1 h2
        generalize Lib.bitLen n.toNat = L at *
        have HI1 := Lib.hid I1
        have HI2 := Lib.hid I2
        clear I1 I2
        obtain ⟨l4, l5⟩ := l3 (by omega)
        obtain ⟨M, rfl⟩ : ∃ M, L = M + 1 := ⟨L - 1, by omega⟩
        have p1 := pow_le' (k := M + 1) (m := 61) l1
        have p3 : n < (2 : Int) ^ (M + 1) := by
          have h4 : ((n.toNat : Nat) : Int) < ((2 ^ (M + 1) : Nat) : Int) := by omega
          have h5 : ((2 ^ (M + 1) : Nat) : Int) = (2 : Int) ^ (M + 1) := by simp
          omega
        have p4 : (2 : Int) ^ M ≤ n := by
          have h4 : ((2 ^ M : Nat) : Int) ≤ ((n.toNat : Nat) : Int) := by
            have : 2 ^ M ≤ n.toNat := by simpa using l5
            omega
          have h5 : ((2 ^ M : Nat) : Int) = (2 : Int) ^ M := by simp
          omega
        have p5 := pow_pos' M
        have p5' := pow_pos' (M + 1)
        have hL : (M : Int) ≤ 60 := by omega
        clear l2 l3 l5
        go_wp2_with fail
        refine (HI1.out _).mono ?_
        rintro e w' ⟨rfl, rfl⟩
        go_wp2_with fail
        refine (HI2.out _).mono ?_
        rintro e w' ⟨rfl, rfl⟩
        go_wp2
        go_ret
        exact ⟨rfl, (by repeat (first | exact Below.refl _ _ | refine balloc ?_ _ | refine bdrew ?_ | refine bdrewN ?_ _ | refine bset ?_ (by first | (simp; done) | (simp; omega)) _ | (refine bseq ?_ (by assumption)) | (refine bgrow ?_ (by assumption) (by omega))))⟩
      · have H : Hid (n < 0 ∨ 1152921504606846976 < n) := Lib.hid (by omega)
        by_cases hn : n < 0
        · clear h
          go_wp2_with fail
          refine (BitLength_out _ _ H.out).mono ?_
          rintro e w' ⟨rfl, rfl⟩
          go_wp2_with fail
          refine (sBitLength_out _ _ H.out).mono ?_
          rintro e w' ⟨rfl, rfl⟩
          go_wp2_with (first | (go_at_call 28; refine (alive_any _).mono ?_; rintro e w' ⟨rfl, rfl⟩))
          go_ret
          exact ⟨rfl, (by repeat (first | exact Below.refl _ _ | refine balloc ?_ _ | refine bdrew ?_ | refine bdrewN ?_ _ | refine bset ?_ (by first | (simp; done) | (simp; omega)) _ | (refine bseq ?_ (by assumption)) | (refine bgrow ?_ (by assumption) (by omega))))⟩
        · have hn2 : 1152921504606846976 < n := by omega
          clear h
          go_wp2_with fail
          refine (BitLength_out _ _ H.out).mono ?_
          rintro e w' ⟨rfl, rfl⟩
          go_wp2_with fail
          refine (sBitLength_out _ _ H.out).mono ?_
          rintro e w' ⟨rfl, rfl⟩
          go_wp2_with (first | (go_at_call 28; refine (alive_any _).mono ?_; rintro e w' ⟨rfl, rfl⟩))
          go_ret
          exact ⟨rfl, (by repeat (first | exact Below.refl _ _ | refine balloc ?_ _ | refine bdrew ?_ | refine bdrewN ?_ _ | refine bset ?_ (by first | (simp; done) | (simp; omega)) _ | (refine bseq ?_ (by assumption)) | (refine bgrow ?_ (by assumption) (by omega))))⟩

theorem WrapAngle_pos (a : Int) (w : World) (h1 : 0 ≤ a) (h2 : a ≤ 1000000) : Calls Try.prog 35 #[.int .i64 a] w fun e w' => e = .returned (.int .i64 (a % 65536)) ∧ w = w' := by
  have hb := and_65535 a
  have h3 : -1152921504606846976 ≤ a := by omega
  have h4 : a ≤ 1152921504606846976 := by omega
  go_enter Try.func35, Try.ntmps35
  go_wp2
  go_ret
  exact ⟨rfl, rfl⟩

set_option maxHeartbeats 1000000 in
theorem FnQuarterOf_walk (a0 : Option Addr) (len0 cap0 : Nat) (z0 : List Int) (w : World) (w0 : IsRow .u8 w a0 len0 cap0 z0) : Calls Try.prog 13 #[.slice a0 len0 cap0] w fun e w' => e = .returned (.bool true) ∧ Below w.heap.size w w' := by
  by_cases hlen : (1048576 : Int) < (len0 : Int)
  · go_enter Try.func13, Try.ntmps13
    go_wp2
    go_ret
    exact ⟨by first | rfl | (simp; done) | (simp; omega), (by repeat (first | exact Below.refl _ _ | refine balloc ?_ _ | refine bdrew ?_ | refine bdrewN ?_ _ | refine bset ?_ (by first | (simp; done) | (simp; omega)) _ | (refine bseq ?_ (by assumption)) | (refine bgrow ?_ (by assumption) (by omega))))⟩
  · have R := Lib.hid w0
    clear w0
    go_enter Try.func13, Try.ntmps13
    go_wp2_with fail
    refine (DrawQuarterOf_any _ _ _ _ _ R.out).mono ?_
    rintro e w1 ⟨n, n1, n2, rfl, hb1⟩
    have hb := and_65535 (n + 16384)
    by_cases h1 : 0 ≤ n
    · by_cases h2 : n ≤ 65535
      · have hq : ((n + 16384) % 65536 / 16384 == (n / 16384 + 1) % 4) = true := by simp; omega
        go_wp2_with (first | (go_at_call 35; refine (WrapAngle_pos _ _ (by omega) (by omega)).mono ?_; rintro e w' ⟨rfl, rfl⟩) | (go_at_call 28; refine (alive_any _).mono ?_; rintro e w' ⟨rfl, rfl⟩) | go_in)
        go_ret
        exact ⟨by first | rfl | (simp; done) | (simp; omega), (by repeat (first | exact Below.refl _ _ | refine balloc ?_ _ | refine bdrew ?_ | refine bdrewN ?_ _ | refine bset ?_ (by first | (simp; done) | (simp; omega)) _ | (refine bseq ?_ (by assumption)) | (refine bgrow ?_ (by assumption) (by omega))))⟩
      · have hd : decide (n ≤ 65535) = false := decide_eq_false h2
        go_wp2_with (first | (go_at_call 35; refine (WrapAngle_pos _ _ (by omega) (by omega)).mono ?_; rintro e w' ⟨rfl, rfl⟩) | (go_at_call 28; refine (alive_any _).mono ?_; rintro e w' ⟨rfl, rfl⟩) | go_in)
        go_ret
        exact ⟨by first | rfl | (simp; done) | (simp; omega), (by repeat (first | exact Below.refl _ _ | refine balloc ?_ _ | refine bdrew ?_ | refine bdrewN ?_ _ | refine bset ?_ (by first | (simp; done) | (simp; omega)) _ | (refine bseq ?_ (by assumption)) | (refine bgrow ?_ (by assumption) (by omega))))⟩
    · go_wp2_with (first | (go_at_call 35; refine (WrapAngle_pos _ _ (by omega) (by omega)).mono ?_; rintro e w' ⟨rfl, rfl⟩) | (go_at_call 28; refine (alive_any _).mono ?_; rintro e w' ⟨rfl, rfl⟩) | go_in)
      go_ret
      exact ⟨by first | rfl | (simp; done) | (simp; omega), (by repeat (first | exact Below.refl _ _ | refine balloc ?_ _ | refine bdrew ?_ | refine bdrewN ?_ _ | refine bset ?_ (by first | (simp; done) | (simp; omega)) _ | (refine bseq ?_ (by assumption)) | (refine bgrow ?_ (by assumption) (by omega))))⟩

set_option maxHeartbeats 1000000 in
theorem FnFoldAngle_walk (a0 : Option Addr) (len0 cap0 : Nat) (z0 : List Int) (w : World) (w0 : IsRow .u8 w a0 len0 cap0 z0) : Calls Try.prog 14 #[.slice a0 len0 cap0] w fun e w' => e = .returned (.bool true) ∧ Below w.heap.size w w' := by
  by_cases hlen : (1048576 : Int) < (len0 : Int)
  · go_enter Try.func14, Try.ntmps14
    go_wp2
    go_ret
    exact ⟨by first | rfl | (simp; done) | (simp; omega), (by repeat (first | exact Below.refl _ _ | refine balloc ?_ _ | refine bdrew ?_ | refine bdrewN ?_ _ | refine bset ?_ (by first | (simp; done) | (simp; omega)) _ | (refine bseq ?_ (by assumption)) | (refine bgrow ?_ (by assumption) (by omega))))⟩
  · have R := Lib.hid w0
    clear w0
    go_enter Try.func14, Try.ntmps14
    go_wp2_with fail
    refine (DrawFoldAngle_any _ _ _ _ _ R.out).mono ?_
    rintro e w1 ⟨n, n1, n2, rfl, hb1⟩
    have hb := and_16383
    by_cases h1 : 0 ≤ n
    · by_cases h2 : n ≤ 65535
      · by_cases h3 : n % 16384 = 0
        · by_cases h5 : n = 49152
          · subst h5
            go_wp2_with (first | (go_at_call 28; refine (alive_any _).mono ?_; rintro e w' ⟨rfl, rfl⟩) | go_in)
            go_ret
            exact ⟨by first | rfl | (simp; done) | (simp; omega), (by repeat (first | exact Below.refl _ _ | refine balloc ?_ _ | refine bdrew ?_ | refine bdrewN ?_ _ | refine bset ?_ (by first | (simp; done) | (simp; omega)) _ | (refine bseq ?_ (by assumption)) | (refine bgrow ?_ (by assumption) (by omega))))⟩
          · have h6 : n < 49152 := by omega
            go_wp2_with (first | (go_at_call 28; refine (alive_any _).mono ?_; rintro e w' ⟨rfl, rfl⟩) | go_in)
            go_ret
            exact ⟨by first | rfl | (simp; done) | (simp; omega), (by repeat (first | exact Below.refl _ _ | refine balloc ?_ _ | refine bdrew ?_ | refine bdrewN ?_ _ | refine bset ?_ (by first | (simp; done) | (simp; omega)) _ | (refine bseq ?_ (by assumption)) | (refine bgrow ?_ (by assumption) (by omega))))⟩
        · by_cases h4 : n % 16384 ≤ 8192
          · by_cases h5 : n % 16384 = 8192
            · go_wp2_with (first | (go_at_call 28; refine (alive_any _).mono ?_; rintro e w' ⟨rfl, rfl⟩) | go_in)
              go_ret
              exact ⟨by first | rfl | (simp; done) | (simp; omega), (by repeat (first | exact Below.refl _ _ | refine balloc ?_ _ | refine bdrew ?_ | refine bdrewN ?_ _ | refine bset ?_ (by first | (simp; done) | (simp; omega)) _ | (refine bseq ?_ (by assumption)) | (refine bgrow ?_ (by assumption) (by omega))))⟩
            · have h6 : n % 16384 < 8192 := by omega
              go_wp2_with (first | (go_at_call 28; refine (alive_any _).mono ?_; rintro e w' ⟨rfl, rfl⟩) | go_in)
              go_ret
              exact ⟨by first | rfl | (simp; done) | (simp; omega), (by repeat (first | exact Below.refl _ _ | refine balloc ?_ _ | refine bdrew ?_ | refine bdrewN ?_ _ | refine bset ?_ (by first | (simp; done) | (simp; omega)) _ | (refine bseq ?_ (by assumption)) | (refine bgrow ?_ (by assumption) (by omega))))⟩
          · go_wp2_with (first | (go_at_call 28; refine (alive_any _).mono ?_; rintro e w' ⟨rfl, rfl⟩) | go_in)
            go_ret
            exact ⟨by first | rfl | (simp; done) | (simp; omega), (by repeat (first | exact Below.refl _ _ | refine balloc ?_ _ | refine bdrew ?_ | refine bdrewN ?_ _ | refine bset ?_ (by first | (simp; done) | (simp; omega)) _ | (refine bseq ?_ (by assumption)) | (refine bgrow ?_ (by assumption) (by omega))))⟩
      · have hd : decide (n ≤ 65535) = false := decide_eq_false h2
        go_wp2_with (first | (go_at_call 28; refine (alive_any _).mono ?_; rintro e w' ⟨rfl, rfl⟩) | go_in)
        go_ret
        exact ⟨by first | rfl | (simp; done) | (simp; omega), (by repeat (first | exact Below.refl _ _ | refine balloc ?_ _ | refine bdrew ?_ | refine bdrewN ?_ _ | refine bset ?_ (by first | (simp; done) | (simp; omega)) _ | (refine bseq ?_ (by assumption)) | (refine bgrow ?_ (by assumption) (by omega))))⟩
    · go_wp2_with (first | (go_at_call 28; refine (alive_any _).mono ?_; rintro e w' ⟨rfl, rfl⟩) | go_in)
      go_ret
      exact ⟨by first | rfl | (simp; done) | (simp; omega), (by repeat (first | exact Below.refl _ _ | refine balloc ?_ _ | refine bdrew ?_ | refine bdrewN ?_ _ | refine bset ?_ (by first | (simp; done) | (simp; omega)) _ | (refine bseq ?_ (by assumption)) | (refine bgrow ?_ (by assumption) (by omega))))⟩

end Go.Proofs.Ytggcnpckedcjiaa.K
