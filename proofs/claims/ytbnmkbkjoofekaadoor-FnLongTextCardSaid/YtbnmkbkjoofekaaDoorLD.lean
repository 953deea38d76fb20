/- Contracts of the functions that draw long numbers. -/
import Derived.Test.YtbnmkbkjoofekaaDoorLA2
import Derived.Test.YtbnmkbkjoofekaaDoorDraw2
namespace Go.Proofs.YtbnmkbkjoofekaaDoor.K
open Go.RowKit

def OwnI (w : World) (lo : Nat) (s : Value) (xs : List Int) : Prop := w.ownsRow lo 3 1 s xs.length (vs xs)
theorem OwnI.row {w : World} {lo : Nat} {s : Value} {xs : List Int} (h : OwnI w lo s xs) (hne : s ≠ .slice none 0 0) : ∃ g cap, s = .slice (some ⟨g, 0, none⟩) xs.length cap ∧ Row w lo (some ⟨g, 0, none⟩) cap xs := by
  rcases h.2 with ⟨h1, h2⟩ | ⟨g, cap, cur, h1, _⟩
  · have hm : xs = [] := List.eq_nil_of_length_eq_zero h2
    subst hm
    exact absurd h1 hne
  · subst h1
    exact ⟨g, cap, rfl, (Row.of_own (by simpa [OwnI] using h)).2⟩
theorem OwnI.pick {w w' : World} {lo B : Nat} {s : Value} {xs : List Int} (h : OwnI w lo s xs) (hg : w.grownBy w' (some B)) (hB : B < lo) : OwnI w' lo s xs :=
  World.ownsRow.kept h hg (by
    rcases he : s.ownBlock with _ | k
    · exact .inl rfl
    · exact .inr (fun e => by injection e with e; have := (World.ownsRow.lt h k he).1; omega))
theorem OwnI.alloc {w : World} {lo : Nat} {s : Value} {xs : List Int} (h : OwnI w lo s xs) (o : Obj) : OwnI (w.alloc o) lo s xs := World.ownsRow.alloc h o
theorem app_step {w wr w' : World} {B L : Nat} {s s' : Value} {xs : List Int} {u : Int} {o : Obj} (ho : OwnI wr w.heap.size s xs) (hR : Rd wr B L) (hG : w.grownBy wr (some B)) (hB : B < w.heap.size)
    (hown' : w'.ownsRow w.heap.size 3 1 s' (xs.length + 1) (vs xs ++ [Value.int .i64 u])) (hgrow : (wr.alloc o).grownBy w' s.ownBlock) : OwnI w' w.heap.size s' (xs ++ [u]) ∧ Rd w' B L ∧ w.grownBy w' (some B) := by
  have hlo : ∀ k, s.ownBlock = some k → w.heap.size ≤ k := fun k e => (World.ownsRow.lt ho k e).1
  refine ⟨?_, (hR.alloc o).grown hgrow (fun g e => by have := hlo g e; omega), ?_⟩
  · unfold OwnI
    rw [List.length_append, List.length_singleton]
    have e : vs (xs ++ [u]) = vs xs ++ [Value.int .i64 u] := by unfold vs; simp
    rw [e]; exact hown'
  · have h1 := galloc hG o
    refine ⟨hgrow.os.trans h1.os, hgrow.tape.trans h1.tape, hgrow.output.trans h1.output, Nat.le_trans h1.size hgrow.size, fun i hi hne => ?_⟩
    exact (hgrow.block i (Nat.lt_of_lt_of_le hi h1.size) (fun e => by have := hlo i e.symm; omega)).trans (h1.block i hi hne)
/-- What a draw of a long number leaves. -/
def LongDraw (w : World) (B lim : Nat) (e : Ending) (w' : World) : Prop := ∃ g cap xs, e = .returned (.slice (some ⟨g, 0, none⟩) xs.length cap) ∧ Row w' w.heap.size (some ⟨g, 0, none⟩) cap xs ∧ xs.length ≤ 61 ∧ Rd w' B lim ∧ w.grownBy w' (some B)
theorem LongDraw.of {w w' : World} {B lim L : Nat} {s : Value} {xs : List Int} (h : OwnI w' w.heap.size s xs) (hne : s ≠ .slice none 0 0) (hl : xs.length ≤ 61) (hR : Rd w' B L) (hL : L ≤ lim) (hG : w.grownBy w' (some B)) : LongDraw w B lim (.returned s) w' := by
  obtain ⟨g, cap, rfl, hr⟩ := h.row hne
  exact ⟨g, cap, xs, rfl, hr, hl, hR.more hL, hG⟩
/-- a store into a row of the call's own -/
theorem set_step {w wr : World} {B L g cap j : Nat} {xs : List Int} {u : Int} (ho : OwnI wr w.heap.size (.slice (some ⟨g, 0, none⟩) xs.length cap) xs) (hR : Rd wr B L) (hG : w.grownBy wr (some B)) (hB : B < w.heap.size) :
    OwnI (wr.setCell ⟨g, j, none⟩ (.int .i64 u)) w.heap.size (.slice (some ⟨g, 0, none⟩) xs.length cap) (xs.set j u) ∧ Rd (wr.setCell ⟨g, j, none⟩ (.int .i64 u)) B L ∧ w.grownBy (wr.setCell ⟨g, j, none⟩ (.int .i64 u)) (some B) := by
  have hg : w.heap.size ≤ g := (World.ownsRow.lt ho g rfl).1
  have h1 := (World.ownsRow.stored ho j (.int .i64 u)).1
  have e : (vs xs).set j (.int .i64 u) = vs (xs.set j u) := by unfold vs; rw [List.map_set]
  rw [e] at h1
  refine ⟨?_, hR.setCell (by simp; omega) _, gset hG (.inr (by simpa using hg)) _⟩
  unfold OwnI
  rw [List.length_set]
  exact h1

set_option maxRecDepth 100000 in
set_option maxHeartbeats 4000000 in
theorem l20Long_any (B lim : Nat) (n : Int) (w : World) (h : Rd w B lim) (hl : lim ≤ 800000) (hn : 0 < n) (hn' : n ≤ 1000) : Calls Tryd.prog 16 #[.pointer (some ⟨B, 0, none⟩), .int .i64 n] w (LongDraw w B (lim + 200)) := by
  obtain ⟨i0, hi, hz0, hz1, hz2⟩ := info_parts Tryd.infoInt
  have hB := h.lt
  go_enter Tryd.func16, Tryd.ntmps16
  go_wp2_with fail
  refine (pick_any _ _ _ _ (h.alloc _) (by omega)).mono ?_
  rintro e w1 ⟨v1, hv1, rfl, hr1, hg1⟩
  have b1 : (v1 : Int) < 5 := by omega
  go_wp2_with fail
  refine (pick_any _ _ _ _ hr1 (by omega)).mono ?_
  rintro e w2 ⟨v2, hv2, rfl, hr2, hg2⟩
  have b2 : (v2 : Int) < 31 := by omega
  have o2 : OwnI w2 w.heap.size (.slice (some ⟨w.heap.size, 0, none⟩) 0 0) [] := OwnI.pick (OwnI.pick (World.ownsRow_lit w #[] 0 (Nat.le_refl _) (by decide) rfl : OwnI (w.alloc (.cells #[] 3)) w.heap.size _ []) hg1 hB) hg2 hB
  have G2 : w.grownBy w2 (some B) := gseq (gseq (galloc (World.grownBy.refl w _) _) hg1) hg2
  clear hg1 hg2
  go_wp2_with fail
  refine (pick_any _ _ _ _ ((hr2.alloc _).alloc _) (by omega)).mono ?_
  rintro e w3 ⟨v3, hv3, rfl, hr3, hg3⟩
  obtain ⟨k, hk, ek⟩ := sel_nat [0, 0, 0, 1, 2] v3 2 (by decide) (by simp; omega)
  have r5 := at5
  have r3 := at3
  have b3 : v3 < 5 := by omega
  have bk : (k : Int) < 3 := by omega
  have bk' : k < 3 := by omega
  have hB2 := hr2.lt
  obtain ⟨hc3, hf3⟩ := gcell hg3
  have hn2 : w2.heap.size ≠ B := by omega
  have hn3 : w2.heap.size + 1 ≠ B := by omega
  have hz3 := hg3.size
  obtain ⟨K, hK, eK⟩ := sel_nat [(v1 : Int), (v2 : Int), 60] k 60 (by simp only [List.forall_mem_cons]; refine ⟨?_, ?_, ?_, ?_⟩ <;> first | omega | simp) (by simp; omega)
  have o3 := (OwnI.alloc (OwnI.alloc o2 (.cells #[.int .i64 (v1 : Int), .int .i64 (v2 : Int), .int .i64 60] 3)) (.cells #[.int .i64 0, .int .i64 0, .int .i64 0, .int .i64 1, .int .i64 2] 3)).pick hg3 hB
  have G3 : w.grownBy w3 (some B) := gseq (galloc (galloc G2 _) _) hg3
  go_wp2
  clear o2 G2 hg3 hr1 hr2
  go_loopw [5, 6] (fun s c wr => ∃ (j : Nat) (xs : List Int), c = .int .i64 j ∧ xs.length + j ≤ 60 ∧ OwnI wr w.heap.size s xs ∧ Hid (s ≠ .slice none 0 0) ∧ Rd wr B (lim + 3 + 2 * xs.length) ∧ w.grownBy wr (some B)) (fun _ c _ => (intOf c).toNat)
  case atStart => exact ⟨K, [], rfl, by simpa using hK, o3, Lib.hid (by simp), hr3.more (by simp), G3⟩
  case round =>
    clear hc3 hf3 hz3 ek eK hv3 b3 bk bk' r5 o3 G3 hr3 hn2 hn3 hB2
    obtain ⟨j, xs, rfl, hj, ho, HS, hR, hG⟩ := hrel
    by_cases hj0 : 0 < j
    · have hj0' : (0 : Int) < (j : Int) := by omega
      go_wp2_with fail
      refine (pick_any _ _ _ _ hR (by omega)).mono ?_
      rintro e w4 ⟨v4, hv4, rfl, hr4, hg4⟩
      have b4 : (v4 : Int) < 256 := by omega
      go_wp2_with fail
      refine (pick_any _ _ _ _ (hr4.alloc _) (by omega)).mono ?_
      rintro e w5 ⟨v5, hv5, rfl, hr5, hg5⟩
      have b5 : (v5 : Int) < 5 := by omega
      have b5' : v5 / 2 < 3 := by omega
      have hB4 := hr4.lt
      obtain ⟨hc5, hf5⟩ := gcell hg5
      have hn4 : w4.heap.size ≠ B := by omega
      have hz5 := hg5.size
      have o5 := (OwnI.alloc (ho.pick hg4 hB) (.cells #[.int .i64 ((v4 : Int) * 39), .int .i64 9999, .int .i64 0] 3)).pick hg5 hB
      have G5 : w.grownBy w5 (some B) := gseq (galloc (gseq hG hg4) _) hg5
      have hs5 := G5.size
      obtain ⟨u, hu⟩ : ∃ u, selI [(v4 : Int) * 39, 9999, 0] (v5 / 2) = u := ⟨_, rfl⟩
      go_wp2_with (first
        | (at_builtin; refine wpList_append_own _ rfl _ _ 22 rfl w.heap.size 3 i0 (.int .i64 0) 1 8 Tryd.underlying22 hi hz0 hz1 hz2 rfl (by decide) _ _ _ rfl (World.ownsRow.alloc o5 _) ⟨w5.heap.size, 0, none⟩ 1 1 [.int .i64 u] rfl rfl (one_cell (heap_alloc_new _ _) rfl) (one_flat _) (by unfold maxLen; omega) (by omega) (by simp; omega) ?_))
      intro s' w6 hown' hgrow hnil
      obtain ⟨o6, R6, G6⟩ := app_step o5 hr5 G5 hB hown' hgrow
      have HS1 : Hid (s' ≠ .slice none 0 0) := Lib.hid (by intro e; first | exact absurd e hnil | (have := (hnil.1 e).2; omega))
      clear hown' hgrow hnil hc5 hf5 o5 G5 hr5 hr4 hg4 hg5 hu ho hR hG
      go_wp2
      go_roundw
      case rel => exact ⟨j - 1, xs ++ [u], by go_num, by simp; omega, o6, HS1, R6.more (by simp; omega), G6⟩
      case measure => simp [intOf]; omega
    · obtain rfl : j = 0 := by omega
      obtain ⟨g, cap, rfl, hrow⟩ := ho.row HS.out
      have hx60 : xs.length ≤ 60 := by omega
      obtain ⟨hlc, hcap⟩ := hrow.len_lt
      have hgl := hrow.lt
      by_cases hx0 : 0 < xs.length
      · have hc := hrow.cell (j := xs.length - 1) (by omega)
        have hfz := hrow.frozen (xs.length - 1)
        obtain ⟨y, hy⟩ : ∃ y, xs.getD (xs.length - 1) 0 = y := ⟨_, rfl⟩
        rw [hy] at hc
        have hx0' : (0 : Int) < (xs.length : Int) := by omega
        clear hy hrow
        by_cases hy0 : y = 0
        · subst hy0
          go_wp2_with fail
          refine (pick_any _ _ _ _ hR (by omega)).mono ?_
          rintro e w7 ⟨v7, hv7, rfl, hr7, hg7⟩
          have b7 : (v7 : Int) < 256 := by omega
          have o7 := ho.pick hg7 hB
          have G7 := gseq hG hg7
          obtain ⟨hc7, hf7⟩ := gcell hg7
          have hgB : g ≠ B := by omega
          have hfz7 : w7.frozen? ⟨g, xs.length - 1, none⟩ = false := (hf7 _ _ hgl.2 hgB).trans hfz
          have hcc7 : w7.cell? ⟨g, xs.length - 1, none⟩ = some (.int .i64 0) := (hc7 _ _ hgl.2 hgB).trans hc
          clear hc7 hf7 hc hfz
          obtain ⟨o8, R8, G8⟩ := set_step (j := xs.length - 1) (u := 1 + (v7 : Int)) o7 hr7 G7 hB
          have e8 : (xs.set (xs.length - 1) (1 + (v7 : Int))).length = xs.length := by simp
          generalize xs.set (xs.length - 1) (1 + (v7 : Int)) = ys at *
          have HL := Lib.hid e8
          clear e8
          have R9 := R8.more (show _ ≤ lim + 130 by omega)
          have hL1 : (ys).length + 1 ≤ 61 := by rw [HL.out]; omega
          go_wp2_with fail
          refine (odd_any _ _ _ _ R9 (by omega) hn hn').mono ?_
          rintro e wo ⟨v, rfl, hro, hgo⟩
          have oo := OwnI.pick o8 hgo hB
          have Go := gseq G8 hgo
          clear hgo
          by_cases hv : v = true
          · subst hv
            go_wp2_with fail
            refine (pick_any _ _ _ _ hro (by omega)).mono ?_
            rintro e wp ⟨u, hu, rfl, hrp, hgp⟩
            have op := oo.pick hgp hB
            have Gp := gseq Go hgp
            have hsp := Gp.size
            clear hgp oo Go hro
            by_cases hu0 : u = 0
            · subst hu0
              go_wp2_with (first
                | (at_builtin; refine wpList_append_own _ rfl _ _ 22 rfl w.heap.size 3 i0 (.int .i64 0) 1 8 Tryd.underlying22 hi hz0 hz1 hz2 rfl (by decide) _ _ _ rfl (World.ownsRow.alloc op _) ⟨wp.heap.size, 0, none⟩ 1 1 [.int .i64 0] rfl rfl (one_cell (heap_alloc_new _ _) rfl) (one_flat _) (by unfold maxLen; omega) (by omega) (by simp; omega) ?_))
              intro s' wz hown' hgrow hnil
              obtain ⟨oz, Rz, Gz⟩ := app_step op hrp Gp hB hown' hgrow
              have HS1 : Hid (s' ≠ .slice none 0 0) := Lib.hid (by intro e; first | exact absurd e hnil | (have := (hnil.1 e).2; omega))
              clear hown' hgrow hnil
              go_wp2
              go_ret
              exact LongDraw.of oz HS1.out (by rw [List.length_append]; exact hL1) Rz (by omega) Gz
            · by_cases hu1 : u = 1
              · subst hu1
                go_wp2_with fail
                refine (pick_any _ _ _ _ (hrp.alloc _) (by omega)).mono ?_
                rintro e wq ⟨v9, hv9, rfl, hrq, hgq⟩
                have b9 : v9 < 2 := by omega
                have b9' : (v9 : Int) < 2 := by omega
                have r2 := at2
                obtain ⟨hcq, hfq⟩ := gcell hgq
                have hBp := hrp.lt
                have hnp : wp.heap.size ≠ B := by omega
                have hzq := hgq.size
                have oq := (OwnI.alloc op (.cells #[.int .i64 (-1), .int .i64 10000] 3)).pick hgq hB
                have Gq := gseq (galloc Gp _) hgq
                have hsq := Gq.size
                obtain ⟨t, ht⟩ : ∃ t, selI [-1, 10000] v9 = t := ⟨_, rfl⟩
                go_wp2_with (first
                  | (at_builtin; refine wpList_append_own _ rfl _ _ 22 rfl w.heap.size 3 i0 (.int .i64 0) 1 8 Tryd.underlying22 hi hz0 hz1 hz2 rfl (by decide) _ _ _ rfl (World.ownsRow.alloc oq _) ⟨wq.heap.size, 0, none⟩ 1 1 [.int .i64 t] rfl rfl (one_cell (heap_alloc_new _ _) rfl) (one_flat _) (by unfold maxLen; omega) (by omega) (by simp; omega) ?_))
                intro s' wz hown' hgrow hnil
                obtain ⟨oz, Rz, Gz⟩ := app_step oq hrq Gq hB hown' hgrow
                have HS1 : Hid (s' ≠ .slice none 0 0) := Lib.hid (by intro e; first | exact absurd e hnil | (have := (hnil.1 e).2; omega))
                clear hown' hgrow hnil
                go_wp2
                go_ret
                exact LongDraw.of oz HS1.out (by rw [List.length_append]; exact hL1) Rz (by omega) Gz
              · have hu1' : ¬ (u : Int) = 1 := by omega
                have hu0' : ¬ (u : Int) = 0 := by omega
                go_wp2_with (first
                  | (at_make; refine wpList_make_full _ rfl _ _ 22 rfl w.heap.size 3 i0 (.int .i64 0) 1 Tryd.underlying22 hi hz0 hz1 .i64 .i64 _ _ 61 rfl rfl rfl rfl (by rw [hz2]; omega) (by decide) hsp ?_))
                intro wm hown hgrow
                have om : OwnI wm w.heap.size (.slice (some ⟨wp.heap.size, 0, none⟩) 61 61) (List.replicate 61 0) := by
                  have e : (madeCells #[Value.int .i64 0] 61).toList = vs (List.replicate 61 0) := by rw [toList_madeCells_one]; simp [vs]
                  unfold OwnI; rw [← e]; simpa using hown
                have Gm : w.grownBy wm (some B) := ⟨hgrow.os.trans Gp.os, hgrow.tape.trans Gp.tape, hgrow.output.trans Gp.output, Nat.le_trans Gp.size hgrow.size, fun i hi hne => (hgrow.block i (Nat.lt_of_lt_of_le hi hsp) (fun e => by cases e)).trans (Gp.block i hi hne)⟩
                have Rm := hrp.grown hgrow (fun g e => by cases e)
                have rm := (Row.of_own om).2
                have hcm := rm.cell (j := 60) (by simp)
                have hfm := rm.frozen 60
                obtain ⟨oz, Rz, Gz⟩ := set_step (j := 60) (u := 1) (xs := List.replicate 61 0) om Rm Gm hB
                have HZ := Lib.hid (LongDraw.of (lim := lim + 200) oz (by simp) (by simp) Rz (by omega) Gz)
                clear hown hgrow om Gm Rm rm oz Rz Gz
                go_wp2
                go_ret
                exact HZ.out
          · obtain rfl : v = false := by simpa using hv
            go_wp2
            go_ret
            exact LongDraw.of oo (by simp) (by omega) hro (by omega) Go
        · have R9 := hR.more (show _ ≤ lim + 130 by omega)
          have hL1 : (xs).length + 1 ≤ 61 := by omega
          go_wp2_with fail
          refine (odd_any _ _ _ _ R9 (by omega) hn hn').mono ?_
          rintro e wo ⟨v, rfl, hro, hgo⟩
          have oo := OwnI.pick ho hgo hB
          have Go := gseq hG hgo
          clear hgo
          by_cases hv : v = true
          · subst hv
            go_wp2_with fail
            refine (pick_any _ _ _ _ hro (by omega)).mono ?_
            rintro e wp ⟨u, hu, rfl, hrp, hgp⟩
            have op := oo.pick hgp hB
            have Gp := gseq Go hgp
            have hsp := Gp.size
            clear hgp oo Go hro
            by_cases hu0 : u = 0
            · subst hu0
              go_wp2_with (first
                | (at_builtin; refine wpList_append_own _ rfl _ _ 22 rfl w.heap.size 3 i0 (.int .i64 0) 1 8 Tryd.underlying22 hi hz0 hz1 hz2 rfl (by decide) _ _ _ rfl (World.ownsRow.alloc op _) ⟨wp.heap.size, 0, none⟩ 1 1 [.int .i64 0] rfl rfl (one_cell (heap_alloc_new _ _) rfl) (one_flat _) (by unfold maxLen; omega) (by omega) (by simp; omega) ?_))
              intro s' wz hown' hgrow hnil
              obtain ⟨oz, Rz, Gz⟩ := app_step op hrp Gp hB hown' hgrow
              have HS1 : Hid (s' ≠ .slice none 0 0) := Lib.hid (by intro e; first | exact absurd e hnil | (have := (hnil.1 e).2; omega))
              clear hown' hgrow hnil
              go_wp2
              go_ret
              exact LongDraw.of oz HS1.out (by rw [List.length_append]; exact hL1) Rz (by omega) Gz
            · by_cases hu1 : u = 1
              · subst hu1
                go_wp2_with fail
                refine (pick_any _ _ _ _ (hrp.alloc _) (by omega)).mono ?_
                rintro e wq ⟨v9, hv9, rfl, hrq, hgq⟩
                have b9 : v9 < 2 := by omega
                have b9' : (v9 : Int) < 2 := by omega
                have r2 := at2
                obtain ⟨hcq, hfq⟩ := gcell hgq
                have hBp := hrp.lt
                have hnp : wp.heap.size ≠ B := by omega
                have hzq := hgq.size
                have oq := (OwnI.alloc op (.cells #[.int .i64 (-1), .int .i64 10000] 3)).pick hgq hB
                have Gq := gseq (galloc Gp _) hgq
                have hsq := Gq.size
                obtain ⟨t, ht⟩ : ∃ t, selI [-1, 10000] v9 = t := ⟨_, rfl⟩
                go_wp2_with (first
                  | (at_builtin; refine wpList_append_own _ rfl _ _ 22 rfl w.heap.size 3 i0 (.int .i64 0) 1 8 Tryd.underlying22 hi hz0 hz1 hz2 rfl (by decide) _ _ _ rfl (World.ownsRow.alloc oq _) ⟨wq.heap.size, 0, none⟩ 1 1 [.int .i64 t] rfl rfl (one_cell (heap_alloc_new _ _) rfl) (one_flat _) (by unfold maxLen; omega) (by omega) (by simp; omega) ?_))
                intro s' wz hown' hgrow hnil
                obtain ⟨oz, Rz, Gz⟩ := app_step oq hrq Gq hB hown' hgrow
                have HS1 : Hid (s' ≠ .slice none 0 0) := Lib.hid (by intro e; first | exact absurd e hnil | (have := (hnil.1 e).2; omega))
                clear hown' hgrow hnil
                go_wp2
                go_ret
                exact LongDraw.of oz HS1.out (by rw [List.length_append]; exact hL1) Rz (by omega) Gz
              · have hu1' : ¬ (u : Int) = 1 := by omega
                have hu0' : ¬ (u : Int) = 0 := by omega
                go_wp2_with (first
                  | (at_make; refine wpList_make_full _ rfl _ _ 22 rfl w.heap.size 3 i0 (.int .i64 0) 1 Tryd.underlying22 hi hz0 hz1 .i64 .i64 _ _ 61 rfl rfl rfl rfl (by rw [hz2]; omega) (by decide) hsp ?_))
                intro wm hown hgrow
                have om : OwnI wm w.heap.size (.slice (some ⟨wp.heap.size, 0, none⟩) 61 61) (List.replicate 61 0) := by
                  have e : (madeCells #[Value.int .i64 0] 61).toList = vs (List.replicate 61 0) := by rw [toList_madeCells_one]; simp [vs]
                  unfold OwnI; rw [← e]; simpa using hown
                have Gm : w.grownBy wm (some B) := ⟨hgrow.os.trans Gp.os, hgrow.tape.trans Gp.tape, hgrow.output.trans Gp.output, Nat.le_trans Gp.size hgrow.size, fun i hi hne => (hgrow.block i (Nat.lt_of_lt_of_le hi hsp) (fun e => by cases e)).trans (Gp.block i hi hne)⟩
                have Rm := hrp.grown hgrow (fun g e => by cases e)
                have rm := (Row.of_own om).2
                have hcm := rm.cell (j := 60) (by simp)
                have hfm := rm.frozen 60
                obtain ⟨oz, Rz, Gz⟩ := set_step (j := 60) (u := 1) (xs := List.replicate 61 0) om Rm Gm hB
                have HZ := Lib.hid (LongDraw.of (lim := lim + 200) oz (by simp) (by simp) Rz (by omega) Gz)
                clear hown hgrow om Gm Rm rm oz Rz Gz
                go_wp2
                go_ret
                exact HZ.out
          · obtain rfl : v = false := by simpa using hv
            go_wp2
            go_ret
            exact LongDraw.of oo (by simp) (by omega) hro (by omega) Go
      · have hx0' : xs.length = 0 := by omega
        clear hrow
        obtain rfl : xs = [] := List.eq_nil_of_length_eq_zero hx0'
        have R9 := hR.more (show _ ≤ lim + 130 by first | (simp; done) | (simp; omega))
        have hL1 : ([] : List Int).length + 1 ≤ 61 := by simp
        go_wp2_with fail
        refine (odd_any _ _ _ _ R9 (by omega) hn hn').mono ?_
        rintro e wo ⟨v, rfl, hro, hgo⟩
        have oo := OwnI.pick ho hgo hB
        have Go := gseq hG hgo
        clear hgo
        by_cases hv : v = true
        · subst hv
          go_wp2_with fail
          refine (pick_any _ _ _ _ hro (by omega)).mono ?_
          rintro e wp ⟨u, hu, rfl, hrp, hgp⟩
          have op := oo.pick hgp hB
          have Gp := gseq Go hgp
          have hsp := Gp.size
          clear hgp oo Go hro
          by_cases hu0 : u = 0
          · subst hu0
            go_wp2_with (first
              | (at_builtin; refine wpList_append_own _ rfl _ _ 22 rfl w.heap.size 3 i0 (.int .i64 0) 1 8 Tryd.underlying22 hi hz0 hz1 hz2 rfl (by decide) _ _ _ rfl (World.ownsRow.alloc op _) ⟨wp.heap.size, 0, none⟩ 1 1 [.int .i64 0] rfl rfl (one_cell (heap_alloc_new _ _) rfl) (one_flat _) (by unfold maxLen; omega) (by omega) (by simp; omega) ?_))
            intro s' wz hown' hgrow hnil
            obtain ⟨oz, Rz, Gz⟩ := app_step op hrp Gp hB hown' hgrow
            have HS1 : Hid (s' ≠ .slice none 0 0) := Lib.hid (by intro e; first | exact absurd e hnil | (have := (hnil.1 e).2; omega))
            clear hown' hgrow hnil
            go_wp2
            go_ret
            exact LongDraw.of oz HS1.out (by rw [List.length_append]; exact hL1) Rz (by omega) Gz
          · by_cases hu1 : u = 1
            · subst hu1
              go_wp2_with fail
              refine (pick_any _ _ _ _ (hrp.alloc _) (by omega)).mono ?_
              rintro e wq ⟨v9, hv9, rfl, hrq, hgq⟩
              have b9 : v9 < 2 := by omega
              have b9' : (v9 : Int) < 2 := by omega
              have r2 := at2
              obtain ⟨hcq, hfq⟩ := gcell hgq
              have hBp := hrp.lt
              have hnp : wp.heap.size ≠ B := by omega
              have hzq := hgq.size
              have oq := (OwnI.alloc op (.cells #[.int .i64 (-1), .int .i64 10000] 3)).pick hgq hB
              have Gq := gseq (galloc Gp _) hgq
              have hsq := Gq.size
              obtain ⟨t, ht⟩ : ∃ t, selI [-1, 10000] v9 = t := ⟨_, rfl⟩
              go_wp2_with (first
                | (at_builtin; refine wpList_append_own _ rfl _ _ 22 rfl w.heap.size 3 i0 (.int .i64 0) 1 8 Tryd.underlying22 hi hz0 hz1 hz2 rfl (by decide) _ _ _ rfl (World.ownsRow.alloc oq _) ⟨wq.heap.size, 0, none⟩ 1 1 [.int .i64 t] rfl rfl (one_cell (heap_alloc_new _ _) rfl) (one_flat _) (by unfold maxLen; omega) (by omega) (by simp; omega) ?_))
              intro s' wz hown' hgrow hnil
              obtain ⟨oz, Rz, Gz⟩ := app_step oq hrq Gq hB hown' hgrow
              have HS1 : Hid (s' ≠ .slice none 0 0) := Lib.hid (by intro e; first | exact absurd e hnil | (have := (hnil.1 e).2; omega))
              clear hown' hgrow hnil
              go_wp2
              go_ret
              exact LongDraw.of oz HS1.out (by rw [List.length_append]; exact hL1) Rz (by omega) Gz
            · have hu1' : ¬ (u : Int) = 1 := by omega
              have hu0' : ¬ (u : Int) = 0 := by omega
              go_wp2_with (first
                | (at_make; refine wpList_make_full _ rfl _ _ 22 rfl w.heap.size 3 i0 (.int .i64 0) 1 Tryd.underlying22 hi hz0 hz1 .i64 .i64 _ _ 61 rfl rfl rfl rfl (by rw [hz2]; omega) (by decide) hsp ?_))
              intro wm hown hgrow
              have om : OwnI wm w.heap.size (.slice (some ⟨wp.heap.size, 0, none⟩) 61 61) (List.replicate 61 0) := by
                have e : (madeCells #[Value.int .i64 0] 61).toList = vs (List.replicate 61 0) := by rw [toList_madeCells_one]; simp [vs]
                unfold OwnI; rw [← e]; simpa using hown
              have Gm : w.grownBy wm (some B) := ⟨hgrow.os.trans Gp.os, hgrow.tape.trans Gp.tape, hgrow.output.trans Gp.output, Nat.le_trans Gp.size hgrow.size, fun i hi hne => (hgrow.block i (Nat.lt_of_lt_of_le hi hsp) (fun e => by cases e)).trans (Gp.block i hi hne)⟩
              have Rm := hrp.grown hgrow (fun g e => by cases e)
              have rm := (Row.of_own om).2
              have hcm := rm.cell (j := 60) (by simp)
              have hfm := rm.frozen 60
              obtain ⟨oz, Rz, Gz⟩ := set_step (j := 60) (u := 1) (xs := List.replicate 61 0) om Rm Gm hB
              have HZ := Lib.hid (LongDraw.of (lim := lim + 200) oz (by simp) (by simp) Rz (by omega) Gz)
              clear hown hgrow om Gm Rm rm oz Rz Gz
              go_wp2
              go_ret
              exact HZ.out
        · obtain rfl : v = false := by simpa using hv
          go_wp2
          go_ret
          exact LongDraw.of oo (by simp) (by omega) hro (by omega) Go

end Go.Proofs.YtbnmkbkjoofekaaDoor.K
