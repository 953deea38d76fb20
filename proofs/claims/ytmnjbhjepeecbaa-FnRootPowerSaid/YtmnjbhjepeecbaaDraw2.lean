/- Contracts of the functions that draw numbers. -/
import Derived.Test.YtmnjbhjepeecbaaDraw
namespace Go.Proofs.Ytmnjbhjepeecbaa.K
open Go.RowKit

set_option maxRecDepth 100000 in
set_option maxHeartbeats 1000000 in
theorem l20Work_any (B lim : Nat) (w : World) (h : Rd w B lim) (hl : lim ≤ 900000) : Calls Try.prog 16 #[.pointer (some ⟨B, 0, none⟩)] w (Picked w B (lim + 9) fun v => -1152921504606846976 ≤ v ∧ v ≤ 1152921504606846976) := by
  go_enter Try.func16, Try.ntmps16
  go_wp2_with fail
  refine (pick_any _ _ _ _ h (by omega)).mono ?_
  rintro e w1 ⟨v1, hv1, rfl, hr1, hg1⟩
  have b1 : (v1 : Int) < 256 := by omega
  go_wp2_with fail
  refine (pick_any _ _ _ _ hr1 (by omega)).mono ?_
  rintro e w2 ⟨v2, hv2, rfl, hr2, hg2⟩
  have b2 : (v2 : Int) < 256 := by omega
  go_wp2_with fail
  refine (pick_any _ _ _ _ hr2 (by omega)).mono ?_
  rintro e w3 ⟨v3, hv3, rfl, hr3, hg3⟩
  have b3 : (v3 : Int) < 256 := by omega
  go_wp2_with fail
  refine (pick_any _ _ _ _ hr3 (by omega)).mono ?_
  rintro e w4 ⟨v4, hv4, rfl, hr4, hg4⟩
  have b4 : (v4 : Int) < 256 := by omega
  go_wp2_with fail
  refine (pick_any _ _ _ _ hr4 (by omega)).mono ?_
  rintro e w5 ⟨v5, hv5, rfl, hr5, hg5⟩
  have b5 : (v5 : Int) < 256 := by omega
  go_wp2_with fail
  refine (pick_any _ _ _ _ hr5 (by omega)).mono ?_
  rintro e w6 ⟨v6, hv6, rfl, hr6, hg6⟩
  have b6 : (v6 : Int) < 256 := by omega
  go_wp2_with fail
  refine (pick_any _ _ _ _ hr6 (by omega)).mono ?_
  rintro e w7 ⟨v7, hv7, rfl, hr7, hg7⟩
  have b7 : (v7 : Int) < 256 := by omega
  go_wp2_with fail
  refine (pick_any _ _ _ _ ((hr7.alloc _).alloc _) (by omega)).mono ?_
  rintro e w8 ⟨v8, hv8, rfl, hr8, hg8⟩
  obtain ⟨k, hk, ek⟩ := sel_nat [0, 0, 1, 1, 2, 2, 3, 3, 4, 5, 6] v8 6 (by decide) (by simp; omega)
  have r11 := at11
  have r7 := at7
  have b8 : v8 < 11 := by omega
  have bk : (k : Int) < 7 := by omega
  have bk' : k < 7 := by omega
  have hB := hr7.lt
  obtain ⟨hc8, hf8⟩ := gcell hg8
  have hB2 : w7.heap.size ≠ B := by omega
  have hB3 : w7.heap.size + 1 ≠ B := by omega
  have hz8 := hg8.size
  obtain ⟨u, hu1, hu2, eu⟩ : ∃ u : Int, -1152921504606846976 ≤ u ∧ u ≤ 1152921504606846976 ∧ selI [(v1 : Int), (v2 : Int) * 257, (v3 : Int) * 1048576 + v4, (v5 : Int) * 1125899906842624 + (v6 : Int) * 1073741824 + v7, 1152921504606846976, 1152921504606846975, 0] k = u := by
    obtain ⟨h1, h2⟩ := sel_bd (l := [(v1 : Int), (v2 : Int) * 257, (v3 : Int) * 1048576 + v4, (v5 : Int) * 1125899906842624 + (v6 : Int) * 1073741824 + v7, 1152921504606846976, 1152921504606846975, 0]) (k := k) (lo := -1152921504606846976) (hi := 1152921504606846976) (by simp only [List.forall_mem_cons]; refine ⟨?_, ?_, ?_, ?_, ?_, ?_, ?_, ?_⟩ <;> first | omega | simp) (by simp; omega)
    exact ⟨_, h1, h2, rfl⟩
  go_wp2_with fail
  refine (pick_any _ _ _ _ hr8 (by omega)).mono ?_
  rintro e w9 ⟨v9, hv9, rfl, hr9, hg9⟩
  go_wp2
  all_goals
    go_ret
    refine ⟨_, ?_, rfl, hr9.more (by omega), (by repeat (first | exact World.grownBy.refl _ _ | refine galloc ?_ _ | refine gdrew ?_ | refine gdrewN ?_ _ | (refine gseq ?_ (by assumption)) | (refine gbelow ?_ (by assumption)) | (refine gset ?_ (by first | (right; simp; done) | (right; simp; omega)) _)))⟩
    omega

/-- What the opening of a reader leaves. -/
def Opened (w : World) (e : Ending) (w' : World) : Prop := ∃ g : Nat, w.heap.size ≤ g ∧ e = .returned (.pointer (some ⟨g, 0, none⟩)) ∧ Rd w' g 0 ∧ Below w.heap.size w w'
/-- What a draw of a number leaves. -/
def DrewI (w : World) (e : Ending) (w' : World) : Prop := ∃ n : Int, -9223372036854775808 ≤ n ∧ n ≤ 9223372036854775807 ∧ e = .returned (.int .i64 n) ∧ Below w.heap.size w w'

theorem wf_u8_bd {n : Int} (h : (Lit.int .u8 n).wf = true) : 0 ≤ n ∧ n ≤ 255 := by
  simp [Lit.wf, IntKind.min, IntKind.max, IntKind.signed, IntKind.bits] at h
  omega
theorem wf_i64_bd {n : Int} (h : (Lit.int .i64 n).wf = true) : -9223372036854775808 ≤ n ∧ n ≤ 9223372036854775807 := by
  simp [Lit.wf, IntKind.min, IntKind.max, IntKind.signed, IntKind.bits] at h
  omega
theorem opened_rd (w : World) (a : Option Addr) (len cap m : Nat) (zs : List Int) (h : IsRow .u8 w a len cap zs) (hm : m ≤ len) (h2 : m ≤ 2000) :
    Rd (w.alloc (.cells #[.slice a m cap, .int .i64 0] 34)) w.heap.size 0 := by
  refine ⟨a, m, cap, 0, fun i => zs.getD i 0, heap_alloc_new w _, Nat.le_refl _, h2, fun hn => ?_⟩
  rcases h with ⟨rfl, rfl, rfl, rfl⟩ | ⟨x, rfl, hl, hc, hz, hcell, hwf⟩
  · omega
  · obtain ⟨b, off, spot⟩ := x
    have h0 := hcell 0 (by omega)
    have hs : spot = none := by simpa [Addr.add] using World.cell?_spot h0
    subst hs
    have hb : b < w.heap.size := by simpa [Addr.add] using World.block_lt_of_cell? w _ h0
    refine ⟨b, off, rfl, hb, fun i hi => ?_⟩
    have hi' : i < zs.length := by omega
    have hci := hcell i hi'
    have e : (Addr.add ⟨b, off, none⟩ i) = ⟨b, off + i, none⟩ := by unfold Addr.add; split <;> simp_all
    rw [e] at hci
    refine ⟨(World.cell?_of_block (Below.heap_alloc _ _ _ hb)).trans hci, ?_⟩
    show 0 ≤ zs.getD i 0 ∧ zs.getD i 0 ≤ 255
    rw [List.getD_eq_getElem?_getD, List.getElem?_eq_getElem hi']
    exact wf_u8_bd (hwf _ (List.getElem_mem hi'))

theorem l20Open_any (a : Option Addr) (len cap : Nat) (zs : List Int) (w : World) (h : IsRow .u8 w a len cap zs) : Calls Try.prog 9 #[.slice a len cap] w (Opened w) := by
  have hlc : len ≤ cap ∧ cap ≤ maxLen := by
    rcases h with ⟨_, rfl, rfl, _⟩ | ⟨x, _, hl, hc, _⟩
    · exact ⟨Nat.le_refl _, by decide⟩
    · exact ⟨hl, hc⟩
  obtain ⟨hl, hc⟩ := hlc
  unfold maxLen at hc
  by_cases hb : 2000 < len
  · have R := Lib.hid (opened_rd w a len cap 2000 zs h (by omega) (by omega))
    have hb' : (2000 : Int) < (len : Int) := by omega
    have hcap : (2000 : Int) ≤ (cap : Int) := by omega
    clear h
    go_enter Try.func9, Try.ntmps9
    go_wp2
    go_ret
    exact ⟨w.heap.size, Nat.le_refl _, rfl, R.out, (by repeat (first | exact Below.refl _ _ | refine balloc ?_ _ | refine bdrew ?_ | refine bdrewN ?_ _ | refine bset ?_ (by first | (simp; done) | (simp; omega)) _ | (refine bseq ?_ (by assumption)) | (refine bgrow ?_ (by assumption) (by omega))))⟩
  · have R := Lib.hid (opened_rd w a len cap len zs h (by omega) (by omega))
    have hb' : (len : Int) ≤ 2000 := by omega
    clear h
    go_enter Try.func9, Try.ntmps9
    go_wp2
    go_ret
    exact ⟨w.heap.size, Nat.le_refl _, rfl, R.out, (by repeat (first | exact Below.refl _ _ | refine balloc ?_ _ | refine bdrew ?_ | refine bdrewN ?_ _ | refine bset ?_ (by first | (simp; done) | (simp; omega)) _ | (refine bseq ?_ (by assumption)) | (refine bgrow ?_ (by assumption) (by omega))))⟩

theorem pow_bd {v k : Nat} {m : Nat} (hv : (v : Int) < 256) (hk : k ≤ m) : 0 ≤ (v : Int) * 2 ^ k ∧ (v : Int) * 2 ^ k ≤ 255 * 2 ^ m := by
  have p1 := pow_pos' k
  have p2 := pow_le' hk
  exact ⟨Int.mul_nonneg (by omega) (by omega), Int.mul_le_mul (by omega) p2 (by omega) (by omega)⟩

set_option maxRecDepth 100000 in
set_option maxHeartbeats 1000000 in
theorem l20Square_any (B lim : Nat) (w : World) (h : Rd w B lim) (hl : lim ≤ 800000) : Calls Try.prog 11 #[.pointer (some ⟨B, 0, none⟩)] w (Picked w B (lim + 13) fun v => -4611686018427387904 ≤ v ∧ v ≤ 4611686018427387904) := by
  go_enter Try.func11, Try.ntmps11
  go_wp2_with fail
  refine (pick_any _ _ _ _ h (by omega)).mono ?_
  rintro e w1 ⟨v1, hv1, rfl, hr1, hg1⟩
  have b1 : (v1 : Int) < 256 := by omega
  go_wp2_with fail
  refine (pick_any _ _ _ _ hr1 (by omega)).mono ?_
  rintro e w2 ⟨v2, hv2, rfl, hr2, hg2⟩
  have b2 : (v2 : Int) < 256 := by omega
  go_wp2_with fail
  refine (pick_any _ _ _ _ hr2 (by omega)).mono ?_
  rintro e w3 ⟨v3, hv3, rfl, hr3, hg3⟩
  have b3 : (v3 : Int) < 22 := by omega
  obtain ⟨q, hq1, hq2, eq⟩ : ∃ q : Int, 0 ≤ q ∧ q ≤ 534773760 ∧ (v2 : Int) * 2 ^ v3 = q := by
    obtain ⟨h1, h2⟩ := pow_bd (m := 21) b2 (by omega : v3 ≤ 21)
    exact ⟨_, h1, by omega, rfl⟩
  have n0 : 0 ≤ (v1 : Int) + q := by omega
  have n1 : (v1 : Int) + q ≤ 534774016 := by omega
  have n2 : 0 ≤ ((v1 : Int) + q) * ((v1 : Int) + q) := Int.mul_nonneg n0 n0
  have n3 : ((v1 : Int) + q) * ((v1 : Int) + q) ≤ 285983248188768256 := Int.mul_le_mul (a := (v1 : Int) + q) (c := 534774016) (b := (v1 : Int) + q) (d := 534774016) n1 n1 n0 (by omega)
  go_wp2_with fail
  refine (l20Work_any _ _ _ hr3 (by omega)).mono ?_
  rintro e w4 ⟨v4, hv4, rfl, hr4, hg4⟩
  go_wp2_with fail
  refine (pick_any _ _ _ _ (hr4.alloc _) (by omega)).mono ?_
  rintro e w5 ⟨v5, hv5, rfl, hr5, hg5⟩
  have r6 := at6
  have b5 : v5 < 6 := by omega
  have b5' : (v5 : Int) < 6 := by omega
  have hB := hr4.lt
  obtain ⟨hc5, hf5⟩ := gcell hg5
  have hB2 : w4.heap.size ≠ B := by omega
  have hz5 := hg5.size
  go_wp2
  go_ret
  refine ⟨_, ?_, rfl, hr5.more (by omega), (by repeat (first | exact World.grownBy.refl _ _ | refine galloc ?_ _ | refine gdrew ?_ | refine gdrewN ?_ _ | (refine gseq ?_ (by assumption)) | (refine gbelow ?_ (by assumption)) | (refine gset ?_ (by first | (right; simp; done) | (right; simp; omega)) _)))⟩
  exact sel_bd (lo := -4611686018427387904) (hi := 4611686018427387904) (by simp only [List.forall_mem_cons]; refine ⟨?_, ?_, ?_, ?_, ?_, ?_, ?_⟩ <;> first | omega | simp) (by simp; omega)

theorem DrawSqrtFloor_any (a : Option Addr) (len cap : Nat) (zs : List Int) (w : World) (h : IsRow .u8 w a len cap zs) : Calls Try.prog 4 #[.slice a len cap] w (DrewI w) := by
  go_enter Try.func4, Try.ntmps4
  go_wp2_with fail
  refine (l20Open_any _ _ _ _ _ h).mono ?_
  rintro e w1 ⟨g, hg, rfl, hr1, hb1⟩
  go_wp2_with fail
  refine (odd_any _ _ _ _ hr1 (by omega) (by omega) (by omega)).mono ?_
  rintro e w2 ⟨v, rfl, hr2, hg2⟩
  by_cases hv : v = true
  · subst hv
    go_wp2
    go_ret
    exact ⟨_, by omega, by omega, rfl, (by repeat (first | exact Below.refl _ _ | refine balloc ?_ _ | refine bdrew ?_ | refine bdrewN ?_ _ | refine bset ?_ (by first | (simp; done) | (simp; omega)) _ | (refine bseq ?_ (by assumption)) | (refine bgrow ?_ (by assumption) (by omega))))⟩
  · obtain rfl : v = false := by simpa using hv
    go_wp2_with fail
    refine (l20Square_any _ _ _ hr2 (by omega)).mono ?_
    rintro e w3 ⟨n, hn, rfl, hr3, hg3⟩
    go_wp2
    go_ret
    exact ⟨_, by omega, by omega, rfl, (by repeat (first | exact Below.refl _ _ | refine balloc ?_ _ | refine bdrew ?_ | refine bdrewN ?_ _ | refine bset ?_ (by first | (simp; done) | (simp; omega)) _ | (refine bseq ?_ (by assumption)) | (refine bgrow ?_ (by assumption) (by omega))))⟩




theorem IsRow.keep {k : IntKind} {w w' : World} {a : Option Addr} {len cap : Nat} {zs : List Int} (h : IsRow k w a len cap zs) (hb : Below w.heap.size w w') : IsRow k w' a len cap zs := by
  rcases h with h | ⟨x, h1, h2, h3, h4, h5, h6⟩
  · exact .inl h
  · exact .inr ⟨x, h1, h2, h3, h4, fun i hi => (hb.cell (World.block_lt_of_cell? w _ (h5 i hi))).trans (h5 i hi), h6⟩



end Go.Proofs.Ytmnjbhjepeecbaa.K
