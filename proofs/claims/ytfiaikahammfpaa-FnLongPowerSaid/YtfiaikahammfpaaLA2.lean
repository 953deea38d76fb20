/- Contracts of the sums of long numbers. -/
import Derived.Test.YtfiaikahammfpaaLA
namespace Go.Proofs.Ytfiaikahammfpaa.K
open Go.RowKit

theorem LongValid_is (b : Bool) (lo : Nat) (ao : Option Addr) (cap : Nat) (xs : List Int) (w : World) (h : Row w lo ao cap xs) (hv : lv xs = b) : Calls Try.prog 19 #[.slice ao xs.length cap] w fun e w' => e = .returned (.bool b) ∧ w = w' := by
  subst hv; exact LongValid_any lo ao cap xs w h
theorem sLongValid_is (b : Bool) (lo : Nat) (ao : Option Addr) (cap : Nat) (xs : List Int) (w : World) (h : Row w lo ao cap xs) (hv : lv xs = b) : Calls Try.prog 29 #[.slice ao xs.length cap] w fun e w' => e = .returned (.bool b) ∧ w = w' := by
  subst hv; exact sLongValid_any lo ao cap xs w h

/-- The digits, if there are not too many. -/
def fitL (n : Nat) : List Int × Bool := if n < 10000 ^ 60 then (ofN n, true) else ([], false)
theorem fitL_yes {n : Nat} (h : n < 10000 ^ 60) : fitL n = (ofN n, true) := if_pos h
theorem fitL_no {n : Nat} (h : ¬ n < 10000 ^ 60) : fitL n = ([], false) := if_neg h

theorem checked_any (lo : Nat) (ao : Option Addr) (cap : Nat) (n : Nat) (zs : List Int) (ok : Bool) (HZ : Hid (fitL n = (zs, ok))) (w : World) (h : Row w lo ao cap (ofN n)) : Calls Try.prog 32 #[.slice ao (ofN n).length cap] w fun e w' =>
    (∃ ao' cap', e = .returned (.tuple #[.slice ao' zs.length cap', .bool ok]) ∧ Row w lo ao' cap' zs) ∧ w = w' := by
  obtain ⟨hlc, hcap⟩ := h.len_lt
  have HL : Hid ((ofN n).length ≤ 60 ↔ n < 10000 ^ 60) := Lib.hid (by rw [ofN_len]; exact digs_len n 60)
  by_cases hb : n < 10000 ^ 60
  · have h60 : (ofN n).length ≤ 60 := HL.out.2 hb
    have e := HZ.out
    rw [fitL_yes hb] at e
    injection e with e1 e2
    subst e1 e2
    have H := Lib.hid h
    clear h HL hb HZ
    have H' : Hid (∃ ao' cap', Ending.returned (.tuple #[.slice ao (ofN n).length cap, .bool true]) = .returned (.tuple #[.slice ao' (ofN n).length cap', .bool true]) ∧ Row w lo ao' cap' (ofN n)) := Lib.hid ⟨ao, cap, rfl, H.out⟩
    clear H
    have h60' : ¬ (60 : Int) < ((ofN n).length : Int) := by omega
    go_enter Try.func32, Try.ntmps32
    go_wp2
    go_ret2
    exact ⟨H'.out, rfl⟩
  · have h60 : ¬ (ofN n).length ≤ 60 := fun h => hb (HL.out.1 h)
    have e := HZ.out
    rw [fitL_no hb] at e
    injection e with e1 e2
    subst e1 e2
    clear h HL hb HZ
    have h60' : (60 : Int) < ((ofN n).length : Int) := by omega
    go_enter Try.func32, Try.ntmps32
    go_wp2
    go_ret2
    exact ⟨⟨none, 0, rfl, Row.nil _ _⟩, rfl⟩

theorem addL_in {xs ys : List Int} (h : lv xs = true) (h' : lv ys = true) : addL xs ys = fitL (toN xs + toN ys) := by
  unfold addL fitL
  rw [h, h']
  simp
theorem plus_xs (lo lo' : Nat) (ao bo : Option Addr) (cap cap' : Nat) (xs ys : List Int) (w : World) (hx : lv xs = true) (hy : lv ys = true) (ha : Row w lo ao cap xs) (hb : Row w lo' bo cap' ys) : Calls Try.prog 35 #[.slice ao xs.length cap, .slice bo ys.length cap'] w fun e w' =>
    ∃ ao cap, e = .returned (.slice ao (ofN (toN xs + toN ys)).length cap) ∧ Row w' w.heap.size ao cap (ofN (toN xs + toN ys)) ∧ Below w.heap.size w w' := by
  obtain ⟨l, rfl, hc, hl, _, _, e⟩ := lv_out hx
  obtain ⟨l', rfl, hc', hl', _, _, e'⟩ := lv_out hy
  rw [e, e', List.length_map, List.length_map]
  exact plus_any lo lo' ao bo cap cap' l l' w hc hc' hl hl' ha hb
theorem addL_no {xs ys : List Int} (h : lv xs = false ∨ lv ys = false) : addL xs ys = ([], false) := by
  unfold addL
  rcases h with h | h <;> rw [h] <;> simp

theorem LongAdd_any (lo lo' : Nat) (ao bo : Option Addr) (cap cap' : Nat) (xs ys zs : List Int) (ok : Bool) (HZ : Hid (addL xs ys = (zs, ok))) (w : World) (ha : Row w lo ao cap xs) (hb : Row w lo' bo cap' ys) : Calls Try.prog 18 #[.slice ao xs.length cap, .slice bo ys.length cap'] w fun e w' =>
    ∃ ao cap, e = .returned (.tuple #[.slice ao zs.length cap, .bool ok]) ∧ Row w' w.heap.size ao cap zs ∧ Below w.heap.size w w' := by
  rcases hx : lv xs with _ | _
  · have e := HZ.out
    rw [addL_no (.inl hx)] at e
    injection e with e1 e2
    subst e1 e2
    have HX := Lib.hid hx
    clear hx
    go_enter Try.func18, Try.ntmps18
    go_wp2_with (first | (go_at_call 19; refine (LongValid_is false _ _ _ _ _ ha HX.out).mono ?_; rintro e w' ⟨rfl, rfl⟩))
    go_ret2
    exact ⟨none, 0, rfl, Row.nil _ _, Below.refl _ _⟩
  · rcases hy : lv ys with _ | _
    · have e := HZ.out
      rw [addL_no (.inr hy)] at e
      injection e with e1 e2
      subst e1 e2
      have HX := Lib.hid hx
      have HY := Lib.hid hy
      clear hx hy
      go_enter Try.func18, Try.ntmps18
      go_wp2_with fail
      refine (LongValid_is true _ _ _ _ _ ha HX.out).mono ?_
      rintro e w' ⟨rfl, rfl⟩
      go_wp2_with fail
      refine (LongValid_is false _ _ _ _ _ hb HY.out).mono ?_
      rintro e w' ⟨rfl, rfl⟩
      go_wp2
      go_ret2
      exact ⟨none, 0, rfl, Row.nil _ _, Below.refl _ _⟩
    · have HV := HZ.out
      rw [addL_in hx hy] at HV
      have HV := Lib.hid HV
      have HX := Lib.hid hx
      have HY := Lib.hid hy
      clear hx hy HZ
      go_enter Try.func18, Try.ntmps18
      go_wp2_with fail
      refine (LongValid_is true _ _ _ _ _ ha HX.out).mono ?_
      rintro e w' ⟨rfl, rfl⟩
      go_wp2_with fail
      refine (LongValid_is true _ _ _ _ _ hb HY.out).mono ?_
      rintro e w' ⟨rfl, rfl⟩
      go_wp2_with fail
      refine (plus_xs _ _ _ _ _ _ xs ys _ HX.out HY.out ha hb).mono ?_
      rintro e w1 ⟨a1, c1, rfl, r1, hb1⟩
      go_wp2_with fail
      refine (checked_any _ _ _ _ _ _ HV _ r1).mono ?_
      rintro e w' ⟨⟨a2, c2, rfl, r2⟩, rfl⟩
      go_wp2
      go_ret2
      exact ⟨_, _, rfl, r2, hb1⟩

theorem row_empty (w : World) : Row (w.alloc (.cells #[] 3)) w.heap.size (some ⟨w.heap.size, 0, none⟩) 0 [] := (Row.of_own (xs := []) (World.ownsRow_lit w #[] 0 (Nat.le_refl _) (by decide) rfl)).2


end Go.Proofs.Ytfiaikahammfpaa.K
