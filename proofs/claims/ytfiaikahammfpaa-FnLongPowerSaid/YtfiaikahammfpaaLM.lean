/- Contracts of the products of long numbers. -/
import Derived.Test.YtfiaikahammfpaaLA2
import Derived.StillTailTactics
namespace Go.Proofs.Ytfiaikahammfpaa.K
open Go.RowKit

theorem row_set_nat {w : World} {lo g cap : Nat} {p : List Nat} (h : Row w lo (some ⟨g, 0, none⟩) cap (p.map Int.ofNat)) (j d : Nat) {v : Int} (hv : v = (d : Int)) : Row (w.setCell ⟨g, j, none⟩ (.int .i64 v)) lo (some ⟨g, 0, none⟩) cap ((p.set j d).map Int.ofNat) := by
  subst hv
  have h1 := (h.set j (d : Int)).1
  have e : (p.map Int.ofNat).set j (d : Int) = (p.set j d).map Int.ofNat := by rw [List.map_set]; rfl
  rw [e] at h1
  exact h1
theorem row_made {w : World} {lo g n : Nat} (h : w.ownsRow lo 3 1 (.slice (some ⟨g, 0, none⟩) n n) n (madeCells #[Value.int .i64 0] n).toList) : Row w lo (some ⟨g, 0, none⟩) n ((List.replicate n 0).map Int.ofNat) := by
  have e : (madeCells #[Value.int .i64 0] n).toList = vs ((List.replicate n 0).map Int.ofNat) := by
    rw [toList_madeCells_one]; simp [vs]
  rw [e] at h
  exact (Row.of_own h).2
theorem cell_nat {w : World} {lo g cap : Nat} {p : List Nat} (h : Row w lo (some ⟨g, 0, none⟩) cap (p.map Int.ofNat)) {j : Nat} (hj : j < p.length) : ∃ d : Nat, p[j]? = some d ∧ w.cell? ⟨g, j, none⟩ = some (.int .i64 (d : Int)) := by
  refine ⟨p.getD j 0, by rw [List.getD_eq_getElem?_getD, List.getElem?_eq_getElem hj]; rfl, ?_⟩
  rw [h.cell (by simpa using hj), getD_map_ofNat]
/-- The facts on two lists of digits that a loop over them asks. -/
theorem digit_facts {l : List Nat} (hd : Dig l) : ∃ f : Nat → Nat, (∀ j, f j = l.getD j 0) ∧ ∀ j, j < l.length → f j < 10000 ∧ l[j]? = some (f j) := by
  refine ⟨fun j => l.getD j 0, fun _ => rfl, fun j hj => ?_⟩
  have e : l[j]? = some (l.getD j 0) := by rw [List.getD_eq_getElem?_getD, List.getElem?_eq_getElem hj]; rfl
  exact ⟨hd _ (List.mem_of_getElem? e), e⟩
theorem cells_nat {w : World} {lo : Nat} {ao : Option Addr} {cap : Nat} {l : List Nat} {f : Nat → Nat} (h : Row w lo ao cap (l.map Int.ofNat)) (hf : ∀ j, f j = l.getD j 0) : ∀ j, j < l.length → ∃ g, ao = some ⟨g, 0, none⟩ ∧ g < w.heap.size ∧ w.cell? ⟨g, j, none⟩ = some (.int .i64 (f j)) := by
  intro j hj
  obtain ⟨g, rfl, _, hg⟩ := h.block (by simp; omega)
  exact ⟨g, rfl, hg, by rw [h.cell (by simpa using hj), getD_map_ofNat, hf]⟩
theorem prod_bd {x y : Nat} (hx : x < 10000) (hy : y < 10000) : ∃ q : Nat, (x : Int) * (y : Int) = (q : Int) ∧ q ≤ 99980001 ∧ Hid (q = x * y) := by
  refine ⟨x * y, by simp, ?_, Lib.hid rfl⟩
  have : x * y ≤ 9999 * 9999 := Nat.mul_le_mul (by omega) (by omega)
  omega

set_option maxHeartbeats 1000000 in
theorem times_any (lo lo' : Nat) (ao bo : Option Addr) (cap cap' : Nat) (l l' : List Nat) (w : World) (hc : Canon l) (hc' : Canon l') (hl : l.length ≤ 60) (hl' : l'.length ≤ 60) (ha : Row w lo ao cap (l.map Int.ofNat)) (hb : Row w lo' bo cap' (l'.map Int.ofNat)) : Calls Try.prog 31 #[.slice ao l.length cap, .slice bo l'.length cap'] w fun e w' =>
    ∃ ao cap, e = .returned (.slice ao (ofN (val l * val l')).length cap) ∧ Row w' w.heap.size ao cap (ofN (val l * val l')) ∧ Below w.heap.size w w' := by
  obtain ⟨i0, hi, hz0, hz1, hz2⟩ := info_parts Try.infoInt
  have hcap : (cap : Int) ≤ 9223372036854775807 := ha.len_lt.2
  have hcap' : (cap' : Int) ≤ 9223372036854775807 := hb.len_lt.2
  have hlc : l.length ≤ cap := by have := ha.len_lt.1; simpa using this
  have hlc' : l'.length ≤ cap' := by have := hb.len_lt.1; simpa using this
  obtain ⟨f, hf, hd⟩ := digit_facts hc.1
  obtain ⟨f', hf', hd'⟩ := digit_facts hc'.1
  have HC := Lib.hid (cells_nat ha hf)
  have HC' := Lib.hid (cells_nat hb hf')
  have HD := Lib.hid hd
  have HD' := Lib.hid hd'
  have M0 := Lib.hid (MulOut.start l l')
  have HI : Hid (∀ (p : List Nat) (i x : Nat), MulOut l l' p i → MulAt l l' p i 0 0 x) := Lib.hid fun p i x h => h.inner x
  have HS : Hid (∀ (p : List Nat) (i j c y z q : Nat), MulAt l l' p i j c (f i) → i < l.length → j < l'.length → y = f' j → p[i + j]? = some z → q = f i * y → MulAt l l' (p.set (i + j) ((c + (z + q)) % 10000)) i (j + 1) ((c + (z + q)) / 10000) (f i)) := Lib.hid fun p i j c y z q h hi hj hy hz hq => by
    subst hy hq
    exact h.step hc'.1 hi hj (HD'.out j hj).2 hz (HD.out i hi).1
  have HX : Hid (∀ (p : List Nat) (i c : Nat), MulAt l l' p i l'.length c (f i) → i < l.length → MulOut l l' (p.set (i + l'.length) c) (i + 1)) := Lib.hid fun p i c h hi => h.close hi (HD.out i hi).2
  have HE : Hid (∀ (w' : World) (p : List Nat) (k : Nat), MulOut l l' p l.length → k ≤ l.length + l'.length → (∀ i, k ≤ i → i < l.length + l'.length → p[i]? = some 0) → (k = 0 ∨ p[k - 1]? ≠ some 0) → Row w' w.heap.size (some ⟨w.heap.size, 0, none⟩) (l.length + l'.length) (p.map Int.ofNat) → Below w.heap.size w w' → ∃ ao cap, Ending.returned (.slice (some ⟨w.heap.size, 0, none⟩) k k) = .returned (.slice ao (ofN (val l * val l')).length cap) ∧ Row w' w.heap.size ao cap (ofN (val l * val l')) ∧ Below w.heap.size w w') := Lib.hid fun w' p k h hk hz hn hr hbb => by
    have e1 := cut_zeros h.dig k (by rw [h.len]; exact hk) (fun i a b => hz i a (by rw [← h.len]; exact b)) hn
    rw [h.done] at e1
    have e2 : ofN (val l * val l') = (p.map Int.ofNat).take k := by unfold ofN; rw [← e1, List.map_take]
    have e3 : ((p.map Int.ofNat).take k).length = k := by rw [List.length_take, List.length_map, h.len]; omega
    refine ⟨some ⟨w.heap.size, 0, none⟩, k, by rw [e2, e3], ?_, hbb⟩
    rw [e2]
    exact hr.take (by rw [List.length_map, h.len]; exact hk) (Nat.le_refl _) (by have := hr.2.1; omega)
  have HL : Hid (∀ (p : List Nat) (i : Nat), MulOut l l' p i → p.length = l.length + l'.length) := Lib.hid fun p i h => h.len
  have HL2 : Hid (∀ (p : List Nat) (i j c x : Nat), MulAt l l' p i j c x → p.length = l.length + l'.length ∧ c < 10000 ∧ ∀ t z, p[t]? = some z → z < 10000) := Lib.hid fun p i j c x h => ⟨h.len, h.car, fun t z hz => h.dig z (List.mem_of_getElem? hz)⟩
  clear ha hb hf hf' hd hd'
  generalize l.length = n at *
  generalize l'.length = n' at *
  go_enter Try.func31, Try.ntmps31
  go_wp2_with (first
    | (at_make; refine wpList_make_full _ rfl _ _ 43 rfl w.heap.size 3 i0 (.int .i64 0) 1 Try.underlying43 hi hz0 hz1 .i64 .i64 _ _ (n + n') rfl rfl (by omega) (by omega) ?b1 ?b2 ?b3 ?_))
  case b1 => rw [hz2]; omega
  case b2 => unfold maxLen; omega
  case b3 => exact Nat.le_refl _
  intro w1 hown hgrow
  have R0 : Row w1 w.heap.size (some ⟨w.heap.size, 0, none⟩) (n + n') ((List.replicate (n + n') 0).map Int.ofNat) := row_made (by simpa using hown)
  have B0 : Below w.heap.size w w1 := (Below.refl _ _).grown hgrow (Nat.le_refl _) (fun k e => by cases e)
  clear hown hgrow
  go_wp2
  go_loopw [20] (fun i wr => ∃ (k : Nat) (p : List Nat), k ≤ n ∧ i = .int .i64 k ∧ Hid (MulOut l l' p k) ∧ Row wr w.heap.size (some ⟨w.heap.size, 0, none⟩) (n + n') (p.map Int.ofNat) ∧ Below w.heap.size w wr) (fun i _ => n - (intOf i).toNat)
  case atStart => exact ⟨0, _, by omega, rfl, M0, R0, B0⟩
  case round =>
    obtain ⟨k, p, hk, rfl, HM, hr, hb⟩ := hrel
    by_cases hkn : k < n
    · obtain ⟨g, rfl, hg, hcell⟩ := HC.out k hkn
      have hx := (HD.out k hkn).1
      have hcr : wr.cell? ⟨g, k, none⟩ = some (.int .i64 (f k)) := (hb.cell (p := ⟨g, k, none⟩) hg).trans hcell
      have hkn' : (k : Int) < (n : Int) := by omega
      have A0 := Lib.hid (HI.out p k (f k) HM.out)
      clear hcell
      go_wp2_with fail
      go_loopw [8, 27] (fun c j wr2 => ∃ (cN jN : Nat) (p : List Nat), c = .int .i64 cN ∧ j = .int .i64 jN ∧ jN ≤ n' ∧ Hid (MulAt l l' p k jN cN (f k)) ∧ Row wr2 w.heap.size (some ⟨w.heap.size, 0, none⟩) (n + n') (p.map Int.ofNat) ∧ Below w.heap.size w wr2) (fun _ j _ => n' - (intOf j).toNat)
      case atStart => exact ⟨0, 0, p, rfl, rfl, by omega, A0, hr, hb⟩
      case round =>
        obtain ⟨c, j, p2, rfl, rfl, hj, HA, hr2, hb2⟩ := hrel
        obtain ⟨hpl, hcc, hpz⟩ := HL2.out _ _ _ _ _ HA.out
        have HP := Lib.hid hpl
        have HPZ := Lib.hid hpz
        clear hpl hpz
        by_cases hjn : j < n'
        · obtain ⟨g', rfl, hg', hcell'⟩ := HC'.out j hjn
          have hy := (HD'.out j hjn).1
          obtain ⟨y, hy', HY⟩ : ∃ y : Nat, f' j = y ∧ Hid (y = f' j) := ⟨_, rfl, Lib.hid rfl⟩
          rw [hy'] at hcell' hy
          clear hy'
          have hcr' : wr.cell? ⟨g', j, none⟩ = some (.int .i64 y) := (hb2.cell (p := ⟨g', j, none⟩) hg').trans hcell'
          have hjn' : (j : Int) < (n' : Int) := by omega
          obtain ⟨z, hz, hzc⟩ := cell_nat hr2 (j := k + j) (by rw [HP.out]; omega)
          have hz9 := HPZ.out _ _ hz
          have HZ := Lib.hid hz
          obtain ⟨q, hq, hq9, HQ⟩ := prod_bd hx hy
          have hfz := hr2.frozen (k + j)
          have A1 := Lib.hid (HS.out p2 k j c y z q HA.out hkn hjn HY.out HZ.out HQ.out)
          clear hcell' hz
          go_wp2
          go_roundw
          case rel => exact ⟨(c + (z + q)) / 10000, j + 1, _, by go_num, by go_num, by omega, A1, row_set_nat hr2 _ _ (by omega), hb2.setCell (Nat.le_refl _) _⟩
          case measure => simp [intOf]; omega
        · obtain rfl : j = n' := by omega
          obtain ⟨z, hz, hzc⟩ := cell_nat hr2 (j := k + j) (by rw [HP.out]; omega)
          have hfz := hr2.frozen (k + j)
          have A1 := Lib.hid (HX.out p2 k c HA.out hkn)
          clear hz
          go_wp2
          go_roundw
          case rel => exact ⟨k + 1, _, by omega, by go_num, A1, row_set_nat hr2 _ _ rfl, hb2.setCell (Nat.le_refl _) _⟩
          case measure => simp [intOf]; omega
    · obtain rfl : k = n := by omega
      have HP := Lib.hid (HL.out _ _ HM.out)
      go_wp2
      go_loopw [11] (fun i wr2 => ∃ m : Nat, i = .int .i64 m ∧ m ≤ k + n' ∧ wr2 = wr ∧ Hid (∀ i, m ≤ i → i < k + n' → p[i]? = some 0)) (fun i _ => (intOf i).toNat)
      case atStart => exact ⟨k + n', by go_num, Nat.le_refl _, by first | rfl | trivial, Lib.hid fun i h1 h2 => by omega⟩
      case round =>
        obtain ⟨m, rfl, hm, rfl, HK⟩ := hrel
        by_cases h0 : 0 < m
        · have h0' : (0 : Int) < (m : Int) := by omega
          obtain ⟨z, hz, hzc⟩ := cell_nat hr (j := m - 1) (by rw [HP.out]; omega)
          have HZ := Lib.hid hz
          clear hz
          by_cases hz0 : z = 0
          · subst hz0
            go_wp2
            go_roundw
            case rel => exact ⟨m - 1, by go_num, by omega, by first | rfl | trivial, Lib.hid fun i h1 h2 => by
              rcases Nat.lt_or_ge i m with h | h
              · obtain rfl : i = m - 1 := by omega
                exact HZ.out
              · exact HK.out i h h2⟩
            case measure => simp [intOf]; omega
          · have hz0' : ¬ (z : Int) = 0 := by omega
            have HF := Lib.hid (HE.out _ p m HM.out hm HK.out (.inr (by rw [HZ.out]; intro e; injection e with e; exact hz0 e)) hr hb)
            go_wp2
            go_ret
            exact HF.out
        · obtain rfl : m = 0 := by omega
          have HF := Lib.hid (HE.out _ p 0 HM.out hm HK.out (.inl rfl) hr hb)
          go_wp2
          go_ret
          exact HF.out

set_option maxHeartbeats 2000000 in
theorem l3Mul_any (lo lo' : Nat) (ao bo : Option Addr) (cap cap' : Nat) (l l' : List Nat) (w : World) (hc : Canon l) (hc' : Canon l') (hl : l.length ≤ 60) (hl' : l'.length ≤ 60) (ha : Row w lo ao cap (l.map Int.ofNat)) (hb : Row w lo' bo cap' (l'.map Int.ofNat)) : Calls Try.prog 30 #[.slice ao l.length cap, .slice bo l'.length cap'] w fun e w' =>
    ∃ g cap, e = .returned (.slice (some ⟨g, 0, none⟩) (ofN (val l * val l')).length cap) ∧ Row w' w.heap.size (some ⟨g, 0, none⟩) cap (ofN (val l * val l')) ∧ Below w.heap.size w w' := by
  obtain ⟨i0, hi, hz0, hz1, hz2⟩ := info_parts Try.infoInt
  have hcap : (cap : Int) ≤ 9223372036854775807 := ha.len_lt.2
  have hcap' : (cap' : Int) ≤ 9223372036854775807 := hb.len_lt.2
  have hlc : l.length ≤ cap := by have := ha.len_lt.1; simpa using this
  have hlc' : l'.length ≤ cap' := by have := hb.len_lt.1; simpa using this
  obtain ⟨f, hf, hd⟩ := digit_facts hc.1
  obtain ⟨f', hf', hd'⟩ := digit_facts hc'.1
  have HC := Lib.hid (cells_nat ha hf)
  have HC' := Lib.hid (cells_nat hb hf')
  have HD := Lib.hid hd
  have HD' := Lib.hid hd'
  have M0 := Lib.hid (SumOut.start l l')
  have HI : Hid (∀ (p : List Nat) (i x : Nat), SumOut l l' p i → SumAt l l' p i 0 x) := Lib.hid fun p i x h => h.inner x
  have HS : Hid (∀ (p : List Nat) (i j y z q : Nat), SumAt l l' p i j (f i) → i < l.length → j < l'.length → y = f' j → p[i + j]? = some z → q = f i * y → SumAt l l' (p.set (i + j) (z + q)) i (j + 1) (f i)) := Lib.hid fun p i j y z q h hi hj hy hz hq => by
    subst hy hq
    exact h.step hc'.1 hi hj (HD'.out j hj).2 hz (HD.out i hi).1
  have HX : Hid (∀ (p : List Nat) (i : Nat), SumAt l l' p i l'.length (f i) → i < l.length → SumOut l l' p (i + 1)) := Lib.hid fun p i h hi => h.close hi (HD.out i hi).2
  have HB : Hid (∀ (p : List Nat) (i j z : Nat), SumAt l l' p i j (f i) → i < l.length → p.length = l.length + l'.length + 1 ∧ (p[i + j]? = some z → z ≤ 5998800060)) := Lib.hid fun p i j z h hi => ⟨h.len, fun hz => by have := h.hi (i + j) z (Nat.le_refl _) hz; omega⟩
  have HCS : Hid (∀ (p : List Nat), SumOut l l' p l.length → CarAt (val l * val l') (l.length + l'.length) p 0) := Lib.hid fun p h => CarAt.start h hl
  have HCB : Hid (∀ (p : List Nat) (k : Nat), CarAt (val l * val l') (l.length + l'.length) p k → p.length = l.length + l'.length + 1 ∧ (∀ y, p[k]? = some y → y ≤ 7000000000) ∧ ∀ z, p[k + 1]? = some z → z ≤ 6000000000) := Lib.hid fun p k h => ⟨h.len, fun y hy => h.bnd k y hy, fun z hz => h.hi (k + 1) z (by omega) hz⟩
  have HCN : Hid (∀ (p : List Nat) (k y z : Nat), CarAt (val l * val l') (l.length + l'.length) p k → k < l.length + l'.length → p[k]? = some y → p[k + 1]? = some z → CarAt (val l * val l') (l.length + l'.length) ((p.set (k + 1) (z + y / 10000)).set k (y % 10000)) (k + 1)) := Lib.hid fun p k y z h hk hy hz => h.step hk hy hz
  have HCE : Hid (∀ (p : List Nat), CarAt (val l * val l') (l.length + l'.length) p (l.length + l'.length) → Dig p ∧ val p = val l * val l') := Lib.hid fun p h => ⟨h.done (mul_lt_pow hc.1 hc'.1), h.sum⟩
  clear ha hb hf hf' hd hd'
  have HCut : Hid (∀ (w' : World) (p : List Nat), p.length = l.length + l'.length + 1 → Dig p → val p = val l * val l' → Row w' w.heap.size (some ⟨w.heap.size, 0, none⟩) (l.length + l'.length + 1) (p.map Int.ofNat) → Calls Try.prog 43 #[.slice (some ⟨w.heap.size, 0, none⟩) ((l.length + l'.length + 1 : Nat)) (l.length + l'.length + 1)] w' fun e w2 =>
    ∃ g cap, e = .returned (.slice (some ⟨g, 0, none⟩) (ofN (val l * val l')).length cap) ∧ Row w2 w'.heap.size (some ⟨g, 0, none⟩) cap (ofN (val l * val l')) ∧ Below w'.heap.size w' w2) := Lib.hid fun w' p h1 h2 h3 hr => by
    have := l3Cut_any _ _ _ p w' h2 (by omega) hr
    rw [h1, h3] at this
    exact this
  generalize l.length = n at *
  generalize l'.length = n' at *
  go_enter Try.func30, Try.ntmps30
  go_wp2_with (first
    | (at_make; refine wpList_make_full _ rfl _ _ 22 rfl w.heap.size 3 i0 (.int .i64 0) 1 Try.underlying22 hi hz0 hz1 .i64 .i64 _ _ (n + n' + 1) rfl rfl (by omega) (by omega) ?b1 ?b2 ?b3 ?_))
  case b1 => rw [hz2]; omega
  case b2 => unfold maxLen; omega
  case b3 => exact Nat.le_refl _
  intro w1 hown hgrow
  have R0 : Row w1 w.heap.size (some ⟨w.heap.size, 0, none⟩) (n + n' + 1) ((List.replicate (n + n' + 1) 0).map Int.ofNat) := row_made (by simpa using hown)
  have B0 : Below w.heap.size w w1 := (Below.refl _ _).grown hgrow (Nat.le_refl _) (fun k e => by cases e)
  clear hown hgrow
  go_wp2
  go_loopw [6] (fun i wr => ∃ (k : Nat) (p : List Nat), k ≤ n ∧ i = .int .i64 k ∧ Hid (SumOut l l' p k) ∧ Row wr w.heap.size (some ⟨w.heap.size, 0, none⟩) (n + n' + 1) (p.map Int.ofNat) ∧ Below w.heap.size w wr) (fun i _ => n - (intOf i).toNat)
  case atStart => exact ⟨0, _, by omega, rfl, M0, R0, B0⟩
  case round =>
    obtain ⟨k, p, hk, rfl, HM, hr, hb⟩ := hrel
    by_cases hkn : k < n
    · obtain ⟨g, rfl, hg, hcell⟩ := HC.out k hkn
      have HCELL := Lib.hid hcell
      have hx := (HD.out k hkn).1
      have hkn' : (k : Int) < (n : Int) := by omega
      have A0 := Lib.hid (HI.out p k (f k) HM.out)
      clear hcell
      go_wp2_with fail
      go_loopw [7] (fun j wr2 => ∃ (jN : Nat) (p : List Nat), j = .int .i64 jN ∧ jN ≤ n' ∧ Hid (SumAt l l' p k jN (f k)) ∧ Row wr2 w.heap.size (some ⟨w.heap.size, 0, none⟩) (n + n' + 1) (p.map Int.ofNat) ∧ Below w.heap.size w wr2) (fun j _ => n' - (intOf j).toNat)
      case atStart => exact ⟨0, p, rfl, by omega, A0, hr, hb⟩
      case round =>
        obtain ⟨j, p2, rfl, hj, HA, hr2, hb2⟩ := hrel
        by_cases hjn : j < n'
        · obtain ⟨g', rfl, hg', hcell'⟩ := HC'.out j hjn
          have hy := (HD'.out j hjn).1
          obtain ⟨y, hy', HY⟩ : ∃ y : Nat, f' j = y ∧ Hid (y = f' j) := ⟨_, rfl, Lib.hid rfl⟩
          rw [hy'] at hcell' hy
          clear hy'
          have hcr' : wr.cell? ⟨g', j, none⟩ = some (.int .i64 y) := (hb2.cell (p := ⟨g', j, none⟩) hg').trans hcell'
          have hcr : wr.cell? ⟨g, k, none⟩ = some (.int .i64 (f k)) := (hb2.cell (p := ⟨g, k, none⟩) hg).trans HCELL.out
          have hjn' : (j : Int) < (n' : Int) := by omega
          have HP := Lib.hid (HB.out p2 k j 0 HA.out hkn).1
          obtain ⟨z, hz, hzc⟩ := cell_nat hr2 (j := k + j) (by rw [HP.out]; omega)
          have hz9 := (HB.out p2 k j z HA.out hkn).2 hz
          have HZ := Lib.hid hz
          obtain ⟨q, hq, hq9, HQ⟩ := prod_bd hx hy
          have hfz := hr2.frozen (k + j)
          have A1 := Lib.hid (HS.out p2 k j y z q HA.out hkn hjn HY.out HZ.out HQ.out)
          have hgB : g ≠ w.heap.size := by omega
          have hgB' : g' ≠ w.heap.size := by omega
          clear hcell' hz
          go_wp2_with fail
          go_region
          all_goals
            go_wp2
            go_roundw
            case rel => exact ⟨j + 1, _, by go_num, by omega, A1, row_set_nat hr2 _ _ (by omega), (hb2.setCell (Nat.le_refl _) _).drew⟩
            case measure => simp [intOf]; omega
        · obtain rfl : j = n' := by omega
          have A1 := Lib.hid (HX.out p2 k HA.out hkn)
          go_wp2
          go_roundw
          case rel => exact ⟨k + 1, _, by omega, by go_num, A1, hr2, hb2⟩
          case measure => simp [intOf]; omega
    · obtain rfl : k = n := by omega
      have C0 := Lib.hid (HCS.out p HM.out)
      go_wp2
      go_loopw [8] (fun i wr2 => ∃ (m : Nat) (p : List Nat), i = .int .i64 m ∧ m ≤ k + n' ∧ Hid (CarAt (val l * val l') (k + n') p m) ∧ Row wr2 w.heap.size (some ⟨w.heap.size, 0, none⟩) (k + n' + 1) (p.map Int.ofNat) ∧ Below w.heap.size w wr2) (fun i _ => k + n' - (intOf i).toNat)
      case atStart => exact ⟨0, p, rfl, by omega, C0, hr, hb⟩
      case round =>
        obtain ⟨m, p2, rfl, hm, HA, hr2, hb2⟩ := hrel
        obtain ⟨hp1, hp2, hp3⟩ := HCB.out p2 m HA.out
        have HP := Lib.hid hp1
        have HP2 := Lib.hid hp2
        have HP3 := Lib.hid hp3
        clear hp1 hp2 hp3
        by_cases hmn : m < k + n'
        · obtain ⟨y, hy, hyc⟩ := cell_nat hr2 (j := m) (by rw [HP.out]; omega)
          obtain ⟨z, hz, hzc⟩ := cell_nat hr2 (j := m + 1) (by rw [HP.out]; omega)
          have hy9 := HP2.out y hy
          have hz9 := HP3.out z hz
          have A1 := Lib.hid (HCN.out p2 m y z HA.out hmn hy hz)
          have hf1 := hr2.frozen m
          have hf2 := hr2.frozen (m + 1)
          have hmn' : (m : Int) + 1 < (k : Int) + (n' : Int) + 1 := by omega
          clear hy hz
          go_wp2_with fail
          go_region
          all_goals
            go_wp2
            go_roundw
            case rel => exact ⟨m + 1, _, by go_num, by omega, A1, row_set_nat (row_set_nat hr2 _ _ (by omega)) _ _ (by omega), ((hb2.setCell (Nat.le_refl _) _).drew).setCell (Nat.le_refl _) _⟩
            case measure => simp [intOf]; omega
        · obtain rfl : m = k + n' := by omega
          obtain ⟨h1, h2⟩ := HCE.out p2 HA.out
          have HX2 := Lib.hid (HCut.out _ p2 HP.out h1 h2 hr2)
          have hsz := hb2.size
          clear h2
          go_wp2_with fail
          refine HX2.out.mono ?_
          rintro e w3 ⟨g3, c3, rfl, hr3, hb3⟩
          go_wp2
          go_ret
          exact ⟨_, _, rfl, hr3.less hsz, bseq hb2 hb3⟩

end Go.Proofs.Ytfiaikahammfpaa.K
