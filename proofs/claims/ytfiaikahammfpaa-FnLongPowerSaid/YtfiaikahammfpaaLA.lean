/- Contracts of the functions that make and add long numbers. -/
import Derived.Test.YtfiaikahammfpaaLV
namespace Go.Proofs.Ytfiaikahammfpaa.K
open Go.RowKit

/-- The value s owns the digits m in a block of the call's own. -/
def Own (w : World) (lo : Nat) (s : Value) (m : List Nat) : Prop := w.ownsRow lo 3 1 s m.length (vs (m.map Int.ofNat))
theorem own_snoc {w' : World} {lo : Nat} {s' : Value} {m : List Nat} {x : Int} (d : Nat) (hx : x = (d : Int)) (h : w'.ownsRow lo 3 1 s' (m.length + 1) (vs (m.map Int.ofNat) ++ [Value.int .i64 x])) : Own w' lo s' (m ++ [d]) := by
  subst hx
  unfold Own
  rw [List.length_append, List.length_singleton]
  have e : vs ((m ++ [d]).map Int.ofNat) = vs (m.map Int.ofNat) ++ [Value.int .i64 (d : Int)] := by unfold vs; simp
  rw [e]; exact h
theorem Own.row {w : World} {lo : Nat} {s : Value} {m : List Nat} (h : Own w lo s m) : ∃ ao cap, s = .slice ao m.length cap ∧ Row w lo ao cap (m.map Int.ofNat) ∧ (s ≠ .slice none 0 0 → ∃ g, ao = some ⟨g, 0, none⟩) := by
  rcases h.2 with ⟨h1, h2⟩ | ⟨g, cap, cur, h1, _⟩
  · have hm : m = [] := List.eq_nil_of_length_eq_zero h2
    subst hm h1
    exact ⟨none, 0, rfl, Row.nil _ _, fun h => absurd rfl h⟩
  · subst h1
    exact ⟨_, cap, rfl, (Row.of_own (xs := m.map Int.ofNat) (by simpa [Own] using h)).2, fun _ => ⟨g, rfl⟩⟩
theorem below_app {B n : Nat} {w0 wr w' : World} {v : Value} {xs : List Value} (hb : Below B w0 wr) (hB : B ≤ wr.heap.size) (o : Obj) (hown : wr.ownsRow B 3 1 v n xs) (hg : (wr.alloc o).grownBy w' v.ownBlock) : Below B w0 w' :=
  (hb.alloc hB o).grown hg (by simp; omega) (fun k e => (hown.lt k e).1)
theorem one_cell {w : World} {g : Nat} {u : Value} {o : Obj} (h : w.heap[g]? = some o) (ho : o = .cells #[u] 3) : ∀ j x, [u][j]? = some x → w.cell? ((⟨g, 0, none⟩ : Addr).add j) = some x := by
  intro j x hx
  subst ho
  match j, hx with
  | 0, hx =>
    simp at hx; subst hx
    have e : ((⟨g, 0, none⟩ : Addr).add 0) = ⟨g, 0, none⟩ := by simp [Addr.add]
    rw [e, cell_of_row w g 0 _ 3 (0, 0) h]; rfl
theorem one_flat (x : Int) : ∀ u ∈ [Value.int .i64 x], u.oneCell' = true := by intro u hu; simp at hu; subst hu; rfl
theorem digs_short {n : Nat} (h : n ≤ 1152921504606846976) : (digs n).length ≤ 16 := (digs_len n 16).2 (by omega)

theorem LongOf_in (n : Nat) (w : World) (hn : n ≤ 1152921504606846976) : Calls Try.prog 27 #[.int .i64 (n : Int)] w fun e w' =>
    ∃ ao cap, e = .returned (.slice ao (ofN n).length cap) ∧ Row w' w.heap.size ao cap (ofN n) ∧ Below w.heap.size w w' := by
  obtain ⟨i0, hi, hz0, hz1, hz2⟩ := info_parts Try.infoInt
  have HE : Hid (∀ (w' : World) (s : Value) (m : List Nat), digs n = m → Own w' w.heap.size s m → Below w.heap.size w w' → ∃ ao cap, Ending.returned s = .returned (.slice ao (ofN n).length cap) ∧ Row w' w.heap.size ao cap (ofN n) ∧ Below w.heap.size w w') := Lib.hid fun w' s m hm ho hb => by
    subst hm
    obtain ⟨ao, cap, hs, hr, _⟩ := ho.row
    exact ⟨ao, cap, by rw [hs, ofN_len], hr, hb⟩
  have hn1 : (n : Int) ≤ 1152921504606846976 := by omega
  have HL := Lib.hid (digs_short hn)
  go_enter Try.func27, Try.ntmps27
  go_wp2
  go_loopw [0, 3] (fun x s wr => ∃ (v : Nat) (m : List Nat), x = .int .i64 v ∧ v ≤ 1152921504606846976 ∧ Hid (digs n = m ++ digs v) ∧ Own wr w.heap.size s m ∧ Below w.heap.size w wr) (fun x _ _ => (intOf x).toNat)
  case atStart => exact ⟨n, [], rfl, hn, Lib.hid rfl, World.ownsRow_nil _ _ _ _, Below.refl _ _⟩
  case round =>
    obtain ⟨v, m, rfl, hv, HD, ho, hb⟩ := hrel
    by_cases h0 : 0 < v
    · have h0' : (0 : Int) < (v : Int) := by omega
      have hm : m.length ≤ 16 := by have h1 := HL.out; rw [HD.out, List.length_append] at h1; omega
      have hsz := hb.size
      go_wp2_with (first
        | (at_builtin; refine wpList_append_own _ rfl _ _ 22 rfl w.heap.size 3 i0 (.int .i64 0) 1 8 Try.underlying22 hi hz0 hz1 hz2 rfl (by decide) _ _ _ rfl (World.ownsRow.alloc ho _) ⟨wr.heap.size, 0, none⟩ 1 1 [.int .i64 ((v : Int) % 10000)] rfl rfl (one_cell (heap_alloc_new _ _) rfl) (one_flat _) (by unfold maxLen; omega) (by omega) (by simp; omega) ?_))
      intro s' w1 hown' hgrow _
      have hb1 := below_app hb hsz _ ho hgrow
      have ho1 := own_snoc (v % 10000) (by omega) hown'
      clear hown' hgrow ho hb
      go_wp2
      go_roundw
      case rel => exact ⟨v / 10000, m ++ [v % 10000], by go_num, by omega, Lib.hid (by rw [HD.out, digs_pos (by omega : v ≠ 0)]; simp), ho1, hb1⟩
      case measure => simp [intOf]; omega
    · obtain rfl : v = 0 := by omega
      go_wp2
      go_ret
      exact HE.out _ _ _ (by rw [HD.out, digs_zero, List.append_nil]) ho hb
theorem LongOf_out (n : Int) (w : World) (h : n < 0 ∨ 1152921504606846976 < n) : Calls Try.prog 27 #[.int .i64 n] w fun e w' => e = .returned (.slice none 0 0) ∧ w = w' := by
  by_cases h1 : 0 ≤ n
  · have h2 : 1152921504606846976 < n := by omega
    clear h
    go_enter Try.func27, Try.ntmps27
    go_wp2
    go_ret
    exact ⟨rfl, rfl⟩
  · clear h
    go_enter Try.func27, Try.ntmps27
    go_wp2
    go_ret
    exact ⟨rfl, rfl⟩
theorem LongOf_any (n : Int) (zs : List Int) (HZ : Hid (ofL n = zs)) (w : World) : Calls Try.prog 27 #[.int .i64 n] w fun e w' =>
    ∃ ao cap, e = .returned (.slice ao zs.length cap) ∧ Row w' w.heap.size ao cap zs ∧ Below w.heap.size w w' := by
  by_cases h : 0 ≤ n ∧ n ≤ 1152921504606846976
  · obtain ⟨m, rfl⟩ := Int.eq_ofNat_of_zero_le h.1
    have e : zs = ofN m := by rw [← HZ.out]; unfold ofL; rw [if_pos h]; rfl
    rw [e]; exact LongOf_in m w (by omega)
  · have e : zs = [] := by rw [← HZ.out]; unfold ofL; rw [if_neg h]
    subst e
    refine (LongOf_out n w (by omega)).mono ?_
    rintro e w' ⟨rfl, rfl⟩
    exact ⟨none, 0, rfl, Row.nil _ _, Below.refl _ _⟩

theorem sLongOf_in (n : Nat) (w : World) (hn : n ≤ 1152921504606846976) : Calls Try.prog 28 #[.int .i64 (n : Int)] w fun e w' =>
    ∃ g cap, e = .returned (.slice (some ⟨g, 0, none⟩) (ofN n).length cap) ∧ Row w' w.heap.size (some ⟨g, 0, none⟩) cap (ofN n) ∧ Below w.heap.size w w' := by
  obtain ⟨i0, hi, hz0, hz1, hz2⟩ := info_parts Try.infoInt
  have HE : Hid (∀ (w' : World) (s : Value) (m : List Nat), digs n = m → Own w' w.heap.size s m → s ≠ .slice none 0 0 → Below w.heap.size w w' → ∃ g cap, Ending.returned s = .returned (.slice (some ⟨g, 0, none⟩) (ofN n).length cap) ∧ Row w' w.heap.size (some ⟨g, 0, none⟩) cap (ofN n) ∧ Below w.heap.size w w') := Lib.hid fun w' s m hm ho hne hb => by
    subst hm
    obtain ⟨ao, cap, hs, hr, hg⟩ := ho.row
    obtain ⟨g, rfl⟩ := hg hne
    exact ⟨g, cap, by rw [hs, ofN_len], hr, hb⟩
  have hn1 : (n : Int) ≤ 1152921504606846976 := by omega
  have HL := Lib.hid (digs_short hn)
  go_enter Try.func28, Try.ntmps28
  go_wp2
  go_loopw [0, 3] (fun x s wr => ∃ (v : Nat) (m : List Nat), x = .int .i64 v ∧ v ≤ 1152921504606846976 ∧ Hid (digs n = m ++ digs v) ∧ Own wr w.heap.size s m ∧ Hid (s ≠ .slice none 0 0) ∧ Below w.heap.size w wr) (fun x _ _ => (intOf x).toNat)
  case atStart => exact ⟨n, [], rfl, hn, Lib.hid rfl, World.ownsRow_lit w #[] 0 (Nat.le_refl _) (by decide) rfl, Lib.hid (by simp), (Below.refl _ _).alloc (Nat.le_refl _) _⟩
  case round =>
    obtain ⟨v, m, rfl, hv, HD, ho, HS, hb⟩ := hrel
    by_cases h0 : 0 < v
    · have h0' : (0 : Int) < (v : Int) := by omega
      have hv' : (v : Int) ≤ 1152921504606846976 := by omega
      have hm : m.length ≤ 16 := by have h1 := HL.out; rw [HD.out, List.length_append] at h1; omega
      have hsz := hb.size
      go_wp2_with (first
        | (at_builtin; refine wpList_append_own _ rfl _ _ 22 rfl w.heap.size 3 i0 (.int .i64 0) 1 8 Try.underlying22 hi hz0 hz1 hz2 rfl (by decide) _ _ _ rfl (World.ownsRow.alloc ho _) ⟨wr.heap.size, 0, none⟩ 1 1 [.int .i64 ((v : Int) % 10000)] rfl rfl (one_cell (heap_alloc_new _ _) rfl) (one_flat _) (by unfold maxLen; omega) (by omega) (by simp; omega) ?_))
      intro s' w1 hown' hgrow hnil
      have hb1 := below_app hb hsz _ ho hgrow
      have ho1 := own_snoc (v % 10000) (by omega) hown'
      have HS1 : Hid (s' ≠ .slice none 0 0) := Lib.hid (by intro e; first | exact absurd e hnil | (have := (hnil.1 e).2; omega))
      clear hown' hgrow ho hb hnil
      go_wp2
      go_roundw
      case rel => exact ⟨v / 10000, m ++ [v % 10000], by go_num, by omega, Lib.hid (by rw [HD.out, digs_pos (by omega : v ≠ 0)]; simp), ho1, HS1, hb1⟩
      case measure => simp [intOf]; omega
    · obtain rfl : v = 0 := by omega
      go_wp2
      go_ret
      exact HE.out _ _ _ (by rw [HD.out, digs_zero, List.append_nil]) ho HS.out hb
theorem sLongOf_out (n : Int) (w : World) (h : n < 0 ∨ 1152921504606846976 < n) : Calls Try.prog 28 #[.int .i64 n] w fun e w' => ∃ g, e = .returned (.slice (some ⟨g, 0, none⟩) 0 0) ∧ Row w' w.heap.size (some ⟨g, 0, none⟩) 0 [] ∧ Below w.heap.size w w' := by
  have HR : Hid (Row (w.alloc (.cells #[] 3)) w.heap.size (some ⟨w.heap.size, 0, none⟩) 0 []) := Lib.hid (Row.of_own (xs := []) (World.ownsRow_lit w #[] 0 (Nat.le_refl _) (by decide) rfl)).2
  have HB : Hid (Below w.heap.size w (w.alloc (.cells #[] 3))) := Lib.hid ((Below.refl _ _).alloc (Nat.le_refl _) _)
  have HN := Lib.hid h
  clear h
  go_enter Try.func28, Try.ntmps28
  go_wp2
  go_loopw [0, 3] (fun x s wr => x = .int .i64 n ∧ s = .slice (some ⟨w.heap.size, 0, none⟩) 0 0 ∧ wr = w.alloc (.cells #[] 3)) (fun _ _ _ => 0)
  case atStart => exact ⟨rfl, rfl, rfl⟩
  case round =>
    obtain ⟨rfl, rfl, rfl⟩ := hrel
    by_cases h1 : 0 < n
    · have h2 : ¬ n ≤ 1152921504606846976 := by have := HN.out; omega
      have hd : decide (n ≤ 1152921504606846976) = false := decide_eq_false h2
      go_wp2
      go_ret
      exact ⟨_, rfl, HR.out, HB.out⟩
    · have hd : decide (0 < n) = false := decide_eq_false h1
      go_wp2
      go_ret
      exact ⟨_, rfl, HR.out, HB.out⟩
theorem sLongOf_any (n : Int) (zs : List Int) (HZ : Hid (ofL n = zs)) (w : World) : Calls Try.prog 28 #[.int .i64 n] w fun e w' =>
    ∃ g cap, e = .returned (.slice (some ⟨g, 0, none⟩) zs.length cap) ∧ Row w' w.heap.size (some ⟨g, 0, none⟩) cap zs ∧ Below w.heap.size w w' := by
  by_cases h : 0 ≤ n ∧ n ≤ 1152921504606846976
  · obtain ⟨m, rfl⟩ := Int.eq_ofNat_of_zero_le h.1
    have e : zs = ofN m := by rw [← HZ.out]; unfold ofL; rw [if_pos h]; rfl
    rw [e]; exact sLongOf_in m w (by omega)
  · have e : zs = [] := by rw [← HZ.out]; unfold ofL; rw [if_neg h]
    subst e
    refine (sLongOf_out n w (by omega)).mono ?_
    rintro e w' ⟨g, rfl, hr, hb⟩
    exact ⟨g, 0, rfl, hr, hb⟩

theorem plus_any (lo lo' : Nat) (ao bo : Option Addr) (cap cap' : Nat) (l l' : List Nat) (w : World) (hc : Canon l) (hc' : Canon l') (hl : l.length ≤ 60) (hl' : l'.length ≤ 60) (ha : Row w lo ao cap (l.map Int.ofNat)) (hb : Row w lo' bo cap' (l'.map Int.ofNat)) : Calls Try.prog 35 #[.slice ao l.length cap, .slice bo l'.length cap'] w fun e w' =>
    ∃ ao cap, e = .returned (.slice ao (ofN (val l + val l')).length cap) ∧ Row w' w.heap.size ao cap (ofN (val l + val l')) ∧ Below w.heap.size w w' := by
  obtain ⟨i0, hi, hz0, hz1, hz2⟩ := info_parts Try.infoInt
  have hcap : (cap : Int) ≤ 9223372036854775807 := ha.len_lt.2
  have hcap' : (cap' : Int) ≤ 9223372036854775807 := hb.len_lt.2
  have hlc : l.length ≤ cap := by have := ha.len_lt.1; simpa using this
  have hlc' : l'.length ≤ cap' := by have := hb.len_lt.1; simpa using this
  obtain ⟨f, hf⟩ : ∃ f : Nat → Nat, ∀ j, f j = l.getD j 0 := ⟨_, fun _ => rfl⟩
  obtain ⟨f', hf'⟩ : ∃ f' : Nat → Nat, ∀ j, f' j = l'.getD j 0 := ⟨_, fun _ => rfl⟩
  have HC : Hid (∀ j, j < l.length → ∃ g, ao = some ⟨g, 0, none⟩ ∧ g < w.heap.size ∧ w.cell? ⟨g, j, none⟩ = some (.int .i64 (f j))) := Lib.hid fun j hj => by
    obtain ⟨g, rfl, _, hg⟩ := ha.block (by simp; omega)
    exact ⟨g, rfl, hg, by rw [ha.cell (by simpa using hj), getD_map_ofNat, hf]⟩
  have HC' : Hid (∀ j, j < l'.length → ∃ g, bo = some ⟨g, 0, none⟩ ∧ g < w.heap.size ∧ w.cell? ⟨g, j, none⟩ = some (.int .i64 (f' j))) := Lib.hid fun j hj => by
    obtain ⟨g, rfl, _, hg⟩ := hb.block (by simp; omega)
    exact ⟨g, rfl, hg, by rw [hb.cell (by simpa using hj), getD_map_ofNat, hf']⟩
  have get : ∀ (l : List Nat) j, j < l.length → l[j]? = some (l.getD j 0) := fun l j hj => by rw [List.getD_eq_getElem?_getD, List.getElem?_eq_getElem hj]; rfl
  have HD : Hid (∀ j, j < l.length → f j < 10000 ∧ l[j]? = some (f j)) := Lib.hid fun j hj => ⟨by rw [hf]; exact hc.1 _ (List.mem_of_getElem? (get l j hj)), by rw [hf]; exact get l j hj⟩
  have HD' : Hid (∀ j, j < l'.length → f' j < 10000 ∧ l'[j]? = some (f' j)) := Lib.hid fun j hj => ⟨by rw [hf']; exact hc'.1 _ (List.mem_of_getElem? (get l' j hj)), by rw [hf']; exact get l' j hj⟩
  have HS : Hid (∀ (m : List Nat) (k c x y : Nat), AddAt l l' m k c → (k < l.length ∧ x = f k ∨ l.length ≤ k ∧ x = 0) → (k < l'.length ∧ y = f' k ∨ l'.length ≤ k ∧ y = 0) → (k < l.length ∨ k < l'.length ∨ 0 < c) → AddAt l l' (m ++ [(c + x + y) % 10000]) (k + 1) ((c + x + y) / 10000)) := Lib.hid fun m k c x y h hx hy hgo =>
    h.step hc.1 hc'.1 (by rcases hx with ⟨h1, rfl⟩ | h1; exact .inl ⟨h1, (HD.out k h1).2⟩; exact .inr h1) (by rcases hy with ⟨h1, rfl⟩ | h1; exact .inl ⟨h1, (HD'.out k h1).2⟩; exact .inr h1) hgo
  have HE : Hid (∀ (w' : World) (s : Value) (m : List Nat) (k : Nat), l.length ≤ k → l'.length ≤ k → AddAt l l' m k 0 → Own w' w.heap.size s m → Below w.heap.size w w' → ∃ ao cap, Ending.returned s = .returned (.slice ao (ofN (val l + val l')).length cap) ∧ Row w' w.heap.size ao cap (ofN (val l + val l')) ∧ Below w.heap.size w w') := Lib.hid fun w' s m k hk hk' h ho hb => by
    have e := h.done hc hc' hk hk'
    subst e
    obtain ⟨ao, cap, hs, hr, _⟩ := ho.row
    exact ⟨ao, cap, by rw [hs, ofN_len], hr, hb⟩
  have A0 := Lib.hid (AddAt.start l l')
  clear ha hb hf hf' get
  generalize l.length = n at *
  generalize l'.length = n' at *
  go_enter Try.func35, Try.ntmps35
  go_wp2
  go_loopw [5, 6, 7] (fun s q i wr => ∃ (k c : Nat) (m : List Nat), q = .int .i64 c ∧ i = .int .i64 k ∧ c ≤ 1 ∧ k ≤ 61 ∧ (n ≤ k → n' ≤ k → c = 0 ∨ k ≤ 60) ∧ Hid (AddAt l l' m k c) ∧ Own wr w.heap.size s m ∧ Below w.heap.size w wr) (fun _ _ i _ => 70 - (intOf i).toNat)
  case atStart => exact ⟨0, 0, [], rfl, rfl, by omega, by omega, fun _ _ => .inl rfl, A0, World.ownsRow_nil _ _ _ _, Below.refl _ _⟩
  case round =>
    obtain ⟨k, c, m, rfl, rfl, hc1, hk, hkc, HA, ho, hb⟩ := hrel
    have KC := Lib.hid hkc
    clear hkc
    have hsz := hb.size
    have hml : m.length = k := HA.out.len
    have hm : m.length ≤ 61 := by omega
    clear hml
    by_cases h1 : k < n
    · obtain ⟨g, rfl, hg, hcell⟩ := HC.out k h1
      have hx := (HD.out k h1).1
      have hcr : wr.cell? ⟨g, k, none⟩ = some (.int .i64 (f k)) := (hb.cell (p := ⟨g, k, none⟩) hg).trans hcell
      have h1' : (k : Int) < (n : Int) := by omega
      clear hcell
      by_cases h2 : k < n'
      · obtain ⟨g', rfl, hg', hcell'⟩ := HC'.out k h2
        have hy := (HD'.out k h2).1
        have hcr' : wr.cell? ⟨g', k, none⟩ = some (.int .i64 (f' k)) := (hb.cell (p := ⟨g', k, none⟩) hg').trans hcell'
        have h2' : (k : Int) < (n' : Int) := by omega
        clear hcell'
        go_wp2_with (first
          | (at_builtin; refine wpList_append_own _ rfl _ _ 43 rfl w.heap.size 3 i0 (.int .i64 0) 1 8 Try.underlying43 hi hz0 hz1 hz2 rfl (by decide) _ _ _ rfl (World.ownsRow.alloc ho _) ⟨wr.heap.size, 0, none⟩ 1 1 [.int .i64 (((c : Int) + (f k : Int) + (f' k : Int)) % 10000)] rfl rfl (one_cell (heap_alloc_new _ _) rfl) (one_flat _) (by unfold maxLen; omega) (by omega) (by simp; omega) ?_))
        intro s' w1 hown' hgrow hnil
        have hb1 := below_app hb hsz _ ho hgrow
        have ho1 := own_snoc ((c + (f k) + (f' k)) % 10000) (by omega) hown'
        clear hown' hgrow ho hb hnil
        have A1 := Lib.hid (HS.out m k c (f k) (f' k) HA.out (.inl ⟨h1, rfl⟩) (.inl ⟨h2, rfl⟩) (.inl h1))
        have C1 := A1.out.car
        go_wp2
        go_roundw
        case rel => exact ⟨k + 1, (c + (f k) + (f' k)) / 10000, m ++ [(c + (f k) + (f' k)) % 10000], by go_num, by go_num, C1, by have := KC.out; omega, by have := KC.out; omega, A1, ho1, hb1⟩
        case measure => simp [intOf]; omega
      · have h2' : ¬ (k : Int) < (n' : Int) := by omega
        go_wp2_with (first
          | (at_builtin; refine wpList_append_own _ rfl _ _ 43 rfl w.heap.size 3 i0 (.int .i64 0) 1 8 Try.underlying43 hi hz0 hz1 hz2 rfl (by decide) _ _ _ rfl (World.ownsRow.alloc ho _) ⟨wr.heap.size, 0, none⟩ 1 1 [.int .i64 (((c : Int) + (f k : Int)) % 10000)] rfl rfl (one_cell (heap_alloc_new _ _) rfl) (one_flat _) (by unfold maxLen; omega) (by omega) (by simp; omega) ?_))
        intro s' w1 hown' hgrow hnil
        have hb1 := below_app hb hsz _ ho hgrow
        have ho1 := own_snoc ((c + (f k) + (0)) % 10000) (by omega) hown'
        clear hown' hgrow ho hb hnil
        have A1 := Lib.hid (HS.out m k c (f k) (0) HA.out (.inl ⟨h1, rfl⟩) (.inr ⟨by omega, rfl⟩) (.inl h1))
        have C1 := A1.out.car
        go_wp2
        go_roundw
        case rel => exact ⟨k + 1, (c + (f k) + (0)) / 10000, m ++ [(c + (f k) + (0)) % 10000], by go_num, by go_num, C1, by have := KC.out; omega, by have := KC.out; omega, A1, ho1, hb1⟩
        case measure => simp [intOf]; omega
    · have h1' : ¬ (k : Int) < (n : Int) := by omega
      by_cases h2 : k < n'
      · obtain ⟨g', rfl, hg', hcell'⟩ := HC'.out k h2
        have hy := (HD'.out k h2).1
        have hcr' : wr.cell? ⟨g', k, none⟩ = some (.int .i64 (f' k)) := (hb.cell (p := ⟨g', k, none⟩) hg').trans hcell'
        have h2' : (k : Int) < (n' : Int) := by omega
        clear hcell'
        go_wp2_with (first
          | (at_builtin; refine wpList_append_own _ rfl _ _ 43 rfl w.heap.size 3 i0 (.int .i64 0) 1 8 Try.underlying43 hi hz0 hz1 hz2 rfl (by decide) _ _ _ rfl (World.ownsRow.alloc ho _) ⟨wr.heap.size, 0, none⟩ 1 1 [.int .i64 (((c : Int) + (f' k : Int)) % 10000)] rfl rfl (one_cell (heap_alloc_new _ _) rfl) (one_flat _) (by unfold maxLen; omega) (by omega) (by simp; omega) ?_))
        intro s' w1 hown' hgrow hnil
        have hb1 := below_app hb hsz _ ho hgrow
        have ho1 := own_snoc ((c + (0) + (f' k)) % 10000) (by omega) hown'
        clear hown' hgrow ho hb hnil
        have A1 := Lib.hid (HS.out m k c (0) (f' k) HA.out (.inr ⟨by omega, rfl⟩) (.inl ⟨h2, rfl⟩) (.inr (.inl h2)))
        have C1 := A1.out.car
        go_wp2
        go_roundw
        case rel => exact ⟨k + 1, (c + (0) + (f' k)) / 10000, m ++ [(c + (0) + (f' k)) % 10000], by go_num, by go_num, C1, by have := KC.out; omega, by have := KC.out; omega, A1, ho1, hb1⟩
        case measure => simp [intOf]; omega
      · have h2' : ¬ (k : Int) < (n' : Int) := by omega
        by_cases h3 : 0 < c
        · have h3' : (0 : Int) < (c : Int) := by omega
          go_wp2_with (first
            | (at_builtin; refine wpList_append_own _ rfl _ _ 43 rfl w.heap.size 3 i0 (.int .i64 0) 1 8 Try.underlying43 hi hz0 hz1 hz2 rfl (by decide) _ _ _ rfl (World.ownsRow.alloc ho _) ⟨wr.heap.size, 0, none⟩ 1 1 [.int .i64 (((c : Int)) % 10000)] rfl rfl (one_cell (heap_alloc_new _ _) rfl) (one_flat _) (by unfold maxLen; omega) (by omega) (by simp; omega) ?_))
          intro s' w1 hown' hgrow hnil
          have hb1 := below_app hb hsz _ ho hgrow
          have ho1 := own_snoc ((c + (0) + (0)) % 10000) (by omega) hown'
          clear hown' hgrow ho hb hnil
          have A1 := Lib.hid (HS.out m k c (0) (0) HA.out (.inr ⟨by omega, rfl⟩) (.inr ⟨by omega, rfl⟩) (.inr (.inr h3)))
          have C1 := A1.out.car
          go_wp2
          go_roundw
          case rel => exact ⟨k + 1, (c + (0) + (0)) / 10000, m ++ [(c + (0) + (0)) % 10000], by go_num, by go_num, C1, by have := KC.out; omega, by have := KC.out; omega, A1, ho1, hb1⟩
          case measure => simp [intOf]; omega
        · obtain rfl : c = 0 := by omega
          go_wp2
          go_ret
          exact HE.out _ _ _ k (by omega) (by omega) HA.out ho hb

theorem l3Cut_any (lo g cap : Nat) (l : List Nat) (w : World) (hd : Dig l) (hl : l.length ≤ 130) (h : Row w lo (some ⟨g, 0, none⟩) cap (l.map Int.ofNat)) : Calls Try.prog 43 #[.slice (some ⟨g, 0, none⟩) l.length cap] w fun e w' =>
    ∃ g cap, e = .returned (.slice (some ⟨g, 0, none⟩) (ofN (val l)).length cap) ∧ Row w' w.heap.size (some ⟨g, 0, none⟩) cap (ofN (val l)) ∧ Below w.heap.size w w' := by
  obtain ⟨i0, hi, hz0, hz1, hz2⟩ := info_parts Try.infoInt
  have hcap : (cap : Int) ≤ 9223372036854775807 := h.len_lt.2
  have hlc : l.length ≤ cap := by have := h.len_lt.1; simpa using this
  obtain ⟨f, hf⟩ : ∃ f : Nat → Nat, ∀ j, f j = l.getD j 0 := ⟨_, fun _ => rfl⟩
  have HF : Hid (∀ j, j < l.length → l[j]? = some (f j)) := Lib.hid fun j hj => by rw [hf, List.getD_eq_getElem?_getD, List.getElem?_eq_getElem hj]; rfl
  have HC : Hid (∀ j, j < l.length → w.cell? ⟨g, j, none⟩ = some (.int .i64 (f j))) := Lib.hid fun j hj => by
    rw [h.cell (by simpa using hj), getD_map_ofNat, hf]
  have HZ : Hid (∀ k, k ≤ l.length → (∀ i, k ≤ i → i < l.length → l[i]? = some 0) → (k = 0 ∨ f (k - 1) ≠ 0) → l.take k = digs (val l)) := Lib.hid fun k hk hz hn => cut_zeros hd k hk hz (by
    rcases hn with rfl | hn
    · exact .inl rfl
    · rcases Nat.eq_zero_or_pos k with rfl | hp
      · exact .inl rfl
      · exact .inr (by rw [HF.out _ (by omega)]; intro e; injection e with e; exact hn e))
  have HN : Hid (∀ (k : Nat) (o : Obj), k ≤ l.length → ∀ j u, (vs ((l.take k).map Int.ofNat))[j]? = some u → (w.alloc o).cell? ((⟨g, 0, none⟩ : Addr).add j) = some u) := Lib.hid fun k o hk j u hu => by
    have hj : j < k := by
      have := (List.getElem?_eq_some_iff.1 hu).1
      simp [vs] at this; omega
    have e : ((⟨g, 0, none⟩ : Addr).add j) = ⟨g, j, none⟩ := by unfold Addr.add; split <;> simp_all
    have h1 := (h.alloc o).cell (j := j) (by simp; omega)
    rw [e, h1, getD_map_ofNat]
    rw [← hu]
    simp only [vs, List.getElem?_map, List.getElem?_take, if_pos hj]
    rw [HF.out j (by omega), ← hf]; rfl
  have HV : Hid (∀ k, k ≤ l.length → (vs ((l.take k).map Int.ofNat)).length = k * 1) := Lib.hid fun k hk => by simp [vs]; omega
  have HO : Hid (∀ k, ∀ u ∈ vs ((l.take k).map Int.ofNat), u.oneCell' = true) := Lib.hid fun k => ints_oneCell _ _
  have HE : Hid (∀ (w' : World) (s : Value) (k : Nat), k ≤ l.length → l.take k = digs (val l) → w'.ownsRow w.heap.size 3 1 s k (vs ((l.map Int.ofNat).take k)) → s ≠ .slice none 0 0 → Below w.heap.size w w' → ∃ g cap, Ending.returned s = .returned (.slice (some ⟨g, 0, none⟩) (ofN (val l)).length cap) ∧ Row w' w.heap.size (some ⟨g, 0, none⟩) cap (ofN (val l)) ∧ Below w.heap.size w w') := Lib.hid fun w' s k hk he ho hne hb => by
    have hlen : (l.take k).length = k := by rw [List.length_take]; omega
    have ho' : Own w' w.heap.size s (l.take k) := by unfold Own; rw [hlen, List.map_take]; exact ho
    rw [he] at ho'
    obtain ⟨ao, cap, hs, hr, hg⟩ := ho'.row
    obtain ⟨g, rfl⟩ := hg hne
    exact ⟨g, cap, by rw [hs, ofN_len], hr, hb⟩
  have H0 := Lib.hid (World.ownsRow_lit (base := w.heap.size) (e := 3) (size := 1) w #[] 0 (Nat.le_refl _) (by decide) rfl)
  clear h hf
  generalize l.length = n at *
  go_enter Try.func43, Try.ntmps43
  go_wp2
  go_loop [3] (fun i => ∃ k : Nat, i = .int .i64 k ∧ k ≤ n ∧ Hid (∀ i, k ≤ i → i < n → l[i]? = some 0)) (fun i => (intOf i).toNat)
  case atStart => exact ⟨n, rfl, Nat.le_refl _, Lib.hid fun i h1 h2 => by omega⟩
  case round =>
    obtain ⟨k, rfl, hk, HK⟩ := hrel
    by_cases h0 : 0 < k
    · have h0' : (0 : Int) < (k : Int) := by omega
      have hc := HC.out (k - 1) (by omega)
      by_cases hz : f (k - 1) = 0
      · have hz' : ((f (k - 1) : Nat) : Int) = 0 := by omega
        go_wp2
        go_round
        case rel => exact ⟨k - 1, by go_num, by omega, Lib.hid fun i h1 h2 => by
          rcases Nat.lt_or_ge i k with h | h
          · obtain rfl : i = k - 1 := by omega
            rw [HF.out _ h2, hz]
          · exact HK.out i h h2⟩
        case measure => simp [intOf]; omega
      · have hz' : ¬ ((f (k - 1) : Nat) : Int) = 0 := by omega
        go_wp2_with (first
          | (at_builtin; refine wpList_append_own _ rfl _ _ 22 rfl w.heap.size 3 i0 (.int .i64 0) 1 8 Try.underlying22 hi hz0 hz1 hz2 rfl (by decide) _ _ _ rfl H0.out ⟨g, 0, none⟩ k cap (vs ((l.take k).map Int.ofNat)) rfl (HV.out k hk) (HN.out k _ hk) (HO.out k) (by unfold maxLen; omega) (by omega) (by simp) ?_))
        intro s' w1 hown' hgrow hnil
        have HB1 : Hid (Below w.heap.size w w1) := Lib.hid (((Below.refl _ _).alloc (Nat.le_refl _) _).grown hgrow (by simp) (fun k e => by simp [Value.ownBlock] at e; omega))
        have HS1 : Hid (s' ≠ .slice none 0 0) := Lib.hid (by intro e; first | exact absurd e hnil | (have := (hnil.1 e).1; simp at this))
        have HO1 := Lib.hid hown'
        clear hown' hgrow hnil
        go_wp2
        go_ret
        exact HE.out _ _ k hk (HZ.out k hk HK.out (.inr hz)) HO1.out HS1.out HB1.out
    · obtain rfl : k = 0 := by omega
      go_wp2_with (first
        | (at_builtin; refine wpList_append_own _ rfl _ _ 22 rfl w.heap.size 3 i0 (.int .i64 0) 1 8 Try.underlying22 hi hz0 hz1 hz2 rfl (by decide) _ _ _ rfl H0.out ⟨g, 0, none⟩ 0 cap (vs ((l.take 0).map Int.ofNat)) rfl (HV.out 0 hk) (HN.out 0 _ hk) (HO.out 0) (by unfold maxLen; omega) (by omega) (by simp) ?_))
      intro s' w1 hown' hgrow hnil
      have HB1 : Hid (Below w.heap.size w w1) := Lib.hid (((Below.refl _ _).alloc (Nat.le_refl _) _).grown hgrow (by simp) (fun k e => by simp [Value.ownBlock] at e; omega))
      have HS1 : Hid (s' ≠ .slice none 0 0) := Lib.hid (by intro e; first | exact absurd e hnil | (have := (hnil.1 e).1; simp at this))
      have HO1 := Lib.hid hown'
      clear hown' hgrow hnil
      go_wp2
      go_ret
      exact HE.out _ _ 0 hk (HZ.out 0 hk HK.out (.inl rfl)) HO1.out HS1.out HB1.out


end Go.Proofs.Ytfiaikahammfpaa.K
