/- The contract of the reference's LongText. -/
import Derived.Test.YtbnmkbkjoofekaaDoorLT3
import Derived.Laws.BytesString
namespace Go.Proofs.YtbnmkbkjoofekaaDoor.K
open Go.RowKit

/-- The divisor of round t, and what the digits up to it make. -/
def dd (t : Nat) : Int := [1000, 100, 10, 1].getD t 0
def pv (q x t : Nat) : Nat := match t with | 0 => q | 1 => 10 * q + x / 1000 | 2 => 100 * q + x / 100 | 3 => 1000 * q + x / 10 | _ => 10000 * q + x
theorem digit_round (q x t : Nat) (hx : x < 10000) (ht : t < 4) : ∃ D D' y c : Int, dd t = D ∧ dd (t + 1) = D' ∧ 0 < D ∧ D ≤ 1000 ∧ Int.tdiv (x : Int) D = y ∧ 0 ≤ y ∧ y ≤ 9999 ∧ Int.tmod y 10 = c ∧ 0 ≤ c ∧ c ≤ 9 ∧ Int.tdiv D 10 = D' ∧ 0 ≤ D' ∧ D' < D ∧
    decN (pv q x (t + 1)) = (if pv q x t = 0 ∧ c = 0 then [] else decN (pv q x t) ++ [UInt8.ofNat (48 + c.toNat)]) := by
  have key : ∀ (D p : Nat), 0 < D → p * 10 + x / D % 10 = pv q x (t + 1) → pv q x t = p → Int.tdiv (x : Int) (D : Int) = ((x / D : Nat) : Int) ∧ x / D ≤ 9999 ∧ Int.tmod ((x / D : Nat) : Int) 10 = ((x / D % 10 : Nat) : Int) ∧ x / D % 10 ≤ 9 ∧ decN (pv q x (t + 1)) = (if pv q x t = 0 ∧ ((x / D % 10 : Nat) : Int) = 0 then [] else decN (pv q x t) ++ [UInt8.ofNat (48 + ((x / D % 10 : Nat) : Int).toNat)]) := by
    intro D p hD h1 h2
    refine ⟨by rw [Int.tdiv_eq_ediv_of_nonneg (by omega)]; rfl, ?_, by rw [Int.tmod_eq_emod_of_nonneg (Int.natCast_nonneg _)]; rfl, Nat.le_of_lt_succ (Nat.mod_lt _ (by decide)), ?_⟩
    · have := Nat.div_le_self x D; omega
    · rw [← h1, h2, Nat.mul_comm p 10, decN_step _ _ (by omega), Int.toNat_natCast]
      by_cases hz : p = 0 ∧ x / D % 10 = 0
      · rw [if_pos hz, if_pos ⟨hz.1, by omega⟩]
      · rw [if_neg hz, if_neg (by omega)]
  match t, ht with
  | 0, _ =>
    obtain ⟨a, b, c, d, e⟩ := key 1000 q (by omega) (by show _ = 10 * q + x / 1000; omega) rfl
    exact ⟨1000, 100, _, _, rfl, rfl, by decide, by decide, a, by omega, by omega, c, by omega, by omega, by decide, by decide, by decide, e⟩
  | 1, _ =>
    obtain ⟨a, b, c, d, e⟩ := key 100 (10 * q + x / 1000) (by omega) (by show _ = 100 * q + x / 100; omega) rfl
    exact ⟨100, 10, _, _, rfl, rfl, by decide, by decide, a, by omega, by omega, c, by omega, by omega, by decide, by decide, by decide, e⟩
  | 2, _ =>
    obtain ⟨a, b, c, d, e⟩ := key 10 (100 * q + x / 100) (by omega) (by show _ = 1000 * q + x / 10; omega) rfl
    exact ⟨10, 1, _, _, rfl, rfl, by decide, by decide, a, by omega, by omega, c, by omega, by omega, by decide, by decide, by decide, e⟩
  | 3, _ =>
    obtain ⟨a, b, c, d, e⟩ := key 1 (1000 * q + x / 10) (by omega) (by show _ = 10000 * q + x; omega) rfl
    exact ⟨1, 0, _, _, rfl, rfl, by decide, by decide, a, by omega, by omega, c, by omega, by omega, by decide, by decide, by decide, e⟩
theorem conv_one (w : World) (u : Int) (g : Nat) (h : w.cell? ⟨g, 0, none⟩ = some (.int .u8 u)) : (convert 27 9 (.slice (some ⟨g, 0, none⟩) 1 1)).run Tryd.prog w = .ok (.string ⟨#[UInt8.ofNat u.toNat]⟩) w := by
  rw [run_convert_bytes_string w _ _ _ _ _ _ Tryd.underlying27 Tryd.underlying5 Tryd.underlying9]
  rw [run_bytesToString w ⟨g, 0, none⟩ 1 1 [u] (run_loadCells_list w ⟨g, 0, none⟩ [.int .u8 u] (by intro j v hv; match j, hv with | 0, hv => simp at hv; subst hv; exact h))]
  rfl
theorem cat_str (a b : List UInt8) : (ByteArray.mk a.toArray) ++ (ByteArray.mk b.toArray) = ⟨(a ++ b).toArray⟩ := by
  apply ByteArray.ext
  simp [ByteArray.data_append]
theorem str_step (p : List UInt8) (k : Nat) : Value.string ((ByteArray.mk p.toArray) ++ (ByteArray.mk #[48 + UInt8.ofNat k])) = .string ⟨(p ++ [UInt8.ofNat (48 + k)]).toArray⟩ := by
  rw [UInt8.ofNat_add]
  exact congrArg Value.string (cat_str p [48 + UInt8.ofNat k])
theorem decN_ne {n : Nat} (h : n ≠ 0) : decN n ≠ [] := by
  intro e
  have h1 := Lib.decDigits_length n
  have h2 := Lib.nDigits_pos n
  rw [decN_pos (by omega)] at e
  rw [e] at h1
  simp at h1
  omega

set_option maxHeartbeats 4000000 in
theorem sLongText_in (lo : Nat) (ao : Option Addr) (cap : Nat) (xs : List Int) (w : World) (h : Row w lo ao cap xs) : Calls Tryd.prog 5 #[.slice ao xs.length cap] w fun e w' => e = .returned (.string ⟨(ltext xs).toArray⟩) ∧ Below w.heap.size w w' := by
  obtain ⟨hlc, hcap⟩ := h.len_lt
  by_cases hv : lv xs = true
  · have HV : Hid (Calls Tryd.prog 10 #[.slice ao xs.length cap] w fun e w' => e = .returned (.bool true) ∧ w = w') := Lib.hid (by have := sLongValid_any lo ao cap xs w h; rwa [hv] at this)
    by_cases hn : xs.length = 0
    · have E : Hid (Lib.decDigits 0 = ltext xs) := Lib.hid (by
        obtain rfl := List.eq_nil_of_length_eq_zero hn
        unfold ltext
        rw [if_pos hv]; rfl)
      clear hv h
      generalize xs.length = n at *
      subst hn
      go_enter Tryd.func5, Tryd.ntmps5
      go_wp2_with fail
      refine HV.out.mono ?_
      rintro e w' ⟨rfl, rfl⟩
      go_wp2
      go_ret
      exact ⟨by rw [← E.out, Lib.decDigits, dif_pos (by decide)]; rfl, Below.refl _ _⟩
    · obtain ⟨g, rfl, hg1, hg2⟩ := h.block (by omega)
      obtain ⟨f, hf⟩ : ∃ f : Nat → Nat, ∀ j, f j = (xs.getD j 0).toNat := ⟨_, fun _ => rfl⟩
      have HF : Hid (∀ j, j < xs.length → f j < 10000) := Lib.hid fun j hj => by rw [hf]; have := lv_digit hv hj; omega
      have HC : Hid (∀ W, Below w.heap.size w W → ∀ j, j < xs.length → W.cell? ⟨g, j, none⟩ = some (.int .i64 (f j : Int))) := Lib.hid fun W hb j hj => by rw [hf, Int.toNat_of_nonneg (lv_digit hv hj).1]; exact (h.keep hb).cell hj
      obtain ⟨tp, htp⟩ : ∃ tp : Nat → Nat, ∀ j, tp j = top xs j := ⟨_, fun _ => rfl⟩
      have HS : Hid (∀ j, j < xs.length → pv (tp (j + 1)) (f j) 4 = tp j) := Lib.hid fun j hj => by
        rw [htp, htp, hf, top_step hj]
        show 10000 * _ + _ = _
        omega
      have HZ : Hid (decN (tp xs.length) = []) := Lib.hid (by rw [htp, top_end]; rfl)
      have HE : Hid (decN (tp 0) = ltext xs) := Lib.hid (by
        unfold ltext
        rw [if_pos hv, htp, ← top_all, decN_pos (top_pos hv (xs.length - 1) 0 (by omega))])
      have HM : Hid (∀ m t, m < xs.length → (decN (pv (tp (m + 1)) (f m) t)).length ≤ 240) := Lib.hid fun m t hm => by
        refine decN_len _ _ (Nat.lt_of_le_of_lt (m := tp m) ?_ (by rw [htp]; exact top_lt hv m)) (by omega)
        rw [← HS.out m hm]
        show pv (tp (m + 1)) (f m) t ≤ 10000 * tp (m + 1) + f m
        match t with
        | 0 => show tp (m + 1) ≤ _; omega
        | 1 => show 10 * tp (m + 1) + f m / 1000 ≤ _; omega
        | 2 => show 100 * tp (m + 1) + f m / 100 ≤ _; omega
        | 3 => show 1000 * tp (m + 1) + f m / 10 ≤ _; omega
        | _ + 4 => exact Nat.le_refl _
      clear hv h hf htp
      generalize xs.length = n at *
      have hn0 : 0 < n := by omega
      have hnb : ((n : Int) == 0) = false := by simp; omega
      have hnb' : ¬ (n : Int) = 0 := by omega
      go_enter Tryd.func5, Tryd.ntmps5
      go_wp2_with fail
      refine HV.out.mono ?_
      rintro e w' ⟨rfl, rfl⟩
      go_wp2
      go_loopw [3, 4] (fun o i wr => ∃ j : Nat, ∃ ii : Int, j ≤ n ∧ o = .string ⟨(decN (tp j)).toArray⟩ ∧ i = .int .i64 ii ∧ ii = (j : Int) - 1 ∧ Below w.heap.size w wr) (fun _ i _ => (intOf i + 1).toNat)
      case atStart => exact ⟨n, (n : Int) - 1, by omega, by rw [HZ.out], rfl, rfl, Below.refl _ _⟩
      case round =>
        obtain ⟨j, ii, hj, rfl, rfl, hi, hbl⟩ := hrel
        rcases j with _ | m
        · obtain rfl : ii = -1 := by omega
          clear hi
          go_wp2
          go_ret
          exact ⟨by rw [HE.out]; rfl, hbl⟩
        · obtain rfl : ii = (m : Int) := by omega
          clear hi
          have hmn : (m : Int) < (n : Int) := by omega
          have hmn' : m < n := by omega
          have hF := HF.out m hmn'
          go_wp2
          go_loopw [3, 5] (fun o d wx => ∃ t : Nat, t ≤ 4 ∧ o = .string ⟨(decN (pv (tp (m + 1)) (f m) t)).toArray⟩ ∧ d = .int .i64 (dd t) ∧ Below w.heap.size w wx) (fun _ d _ => (intOf d).toNat)
          case atStart => exact ⟨0, by omega, rfl, rfl, hbl⟩
          case round =>
            obtain ⟨t, ht, rfl, rfl, hbx⟩ := hrel
            by_cases h4 : t = 4
            · subst h4
              have hdz : dd 4 = 0 := rfl
              rw [hdz]
              go_wp2
              go_roundw
              case rel => exact ⟨m, (m : Int) - 1, by omega, by first | rfl | rw [HS.out m hmn'], by go_num, rfl, hbx⟩
              case measure => first | (simp [intOf]; done) | (simp [intOf]; omega)
            · obtain ⟨D, D', y, c, eD, eD', d1, d2, ey, y1, y2, ec, c1, c2, ed, dd1, dd2, en⟩ := digit_round (tp (m + 1)) (f m) t hF (by omega)
              have EN := Lib.hid en
              have ED := Lib.hid eD'
              clear en eD'
              rw [eD]
              have hc := HC.out wr hbx m hmn'
              have hD0 : ¬ D = 0 := by omega
              have hsz := HM.out m t hmn'
              have EB : (48 + c).toNat = 48 + c.toNat := by omega
              generalize pv (tp (m + 1)) (f m) t = P at *
              by_cases hP : P = 0
              · subst hP
                rw [decN_zero]
                by_cases hc0 : c = 0
                · subst hc0
                  go_wp2
                  go_roundw
                  case rel => exact ⟨t + 1, by omega, by rw [EN.out]; rfl, by rw [ED.out], hbx⟩
                  case measure => first | (simp [intOf]; done) | (simp [intOf]; omega)
                · have hc9 : 0 < c := by omega
                  go_wp2
                  rw [conv_one _ (48 + c) wr.heap.size (by simp)]
                  simp only [Result.andThen]
                  rw [Oper.upon_value]
                  go_wp2
                  go_roundw
                  case rel => exact ⟨t + 1, by omega, by rw [EN.out, if_neg (by omega), decN_zero]; exact str_step [] _, by rw [ED.out], balloc hbx _⟩
                  case measure => first | (simp [intOf]; done) | (simp [intOf]; omega)
              · have hne : decN P ≠ [] := decN_ne hP
                go_wp2
                rw [conv_one _ (48 + c) wr.heap.size (by simp)]
                simp only [Result.andThen]
                rw [Oper.upon_value]
                go_wp2
                go_roundw
                case rel => exact ⟨t + 1, by omega, by rw [EN.out, if_neg (by omega)]; exact str_step _ _, by rw [ED.out], balloc hbx _⟩
                case measure => first | (simp [intOf]; done) | (simp [intOf]; omega)
  · have HV : Hid (Calls Tryd.prog 10 #[.slice ao xs.length cap] w fun e w' => e = .returned (.bool false) ∧ w = w') := Lib.hid (by have := sLongValid_any lo ao cap xs w h; rwa [show lv xs = false by simpa using hv] at this)
    have E : Hid ([] = ltext xs) := Lib.hid (by unfold ltext; rw [if_neg hv])
    clear hv h
    generalize xs.length = n at *
    go_enter Tryd.func5, Tryd.ntmps5
    go_wp2_with fail
    refine HV.out.mono ?_
    rintro e w' ⟨rfl, rfl⟩
    go_wp2
    go_ret
    exact ⟨by rw [← E.out]; rfl, Below.refl _ _⟩

end Go.Proofs.YtbnmkbkjoofekaaDoor.K
