/- Contracts of the functions that draw: they return some value of their type, and write nothing but their own reader. -/
import Derived.Test.YtbnmkbkjoofekaaDoorNum
namespace Go.Proofs.YtbnmkbkjoofekaaDoor.K
open Go.RowKit

/-- Block B is a reader that is at most at place 'lim'; its bytes lie below it. -/
def Rd (w : World) (B : Nat) (lim : Nat) : Prop := ∃ (A : Option Addr) (n c p : Nat) (f : Nat → Int), w.heap[B]? = some (.cells #[.slice A n c, .int .i64 (p : Int)] 48 (0, 0)) ∧ p ≤ lim ∧ n ≤ 2000 ∧
  (0 < n → ∃ b off, A = some ⟨b, off, none⟩ ∧ b < B ∧ ∀ i, i < n → w.cell? ⟨b, off + i, none⟩ = some (.int .u8 (f i)) ∧ 0 ≤ f i ∧ f i ≤ 255)

theorem Rd.lt {w : World} {B lim : Nat} (h : Rd w B lim) : B < w.heap.size := by
  obtain ⟨A, n, c, p, f, h, _⟩ := h
  rcases Nat.lt_or_ge B w.heap.size with hlt | hge
  · exact hlt
  · rw [Array.getElem?_eq_none hge] at h; cases h
theorem Rd.more {w : World} {B lim lim' : Nat} (h : Rd w B lim) (hl : lim ≤ lim') : Rd w B lim' := by
  obtain ⟨A, n, c, p, f, h1, h2, h3⟩ := h
  exact ⟨A, n, c, p, f, h1, Nat.le_trans h2 hl, h3⟩
/-- A reader is kept where its block and what lies below it are kept. -/
theorem Rd.keep {w w' : World} {B lim : Nat} (h : Rd w B lim) (hk : ∀ k, k ≤ B → w'.heap[k]? = w.heap[k]?) : Rd w' B lim := by
  obtain ⟨A, n, c, p, f, h1, h2, h3, h4⟩ := h
  refine ⟨A, n, c, p, f, (hk B (Nat.le_refl _)).trans h1, h2, h3, fun hn => ?_⟩
  obtain ⟨b, off, e, hb, hc⟩ := h4 hn
  exact ⟨b, off, e, hb, fun i hi => ⟨(World.cell?_of_block (hk b (by omega))).trans (hc i hi).1, (hc i hi).2⟩⟩
theorem Rd.drew {w : World} {B lim : Nat} (h : Rd w B lim) : Rd w.drew B lim := h.keep fun _ _ => rfl
theorem Rd.drewN {w : World} {B lim : Nat} (h : Rd w B lim) (n : Nat) : Rd (w.drewN n) B lim := h.keep fun _ _ => rfl
theorem Rd.alloc {w : World} {B lim : Nat} (h : Rd w B lim) (o : Obj) : Rd (w.alloc o) B lim := h.keep fun k hk => Below.heap_alloc _ _ _ (by have := h.lt; omega)
theorem Rd.setCell {w : World} {B lim : Nat} (h : Rd w B lim) {a : Addr} (ha : B < a.block) (u : Value) : Rd (w.setCell a u) B lim := h.keep fun k hk => Below.heap_setCell _ _ _ _ (by omega)
theorem Rd.below {w w' : World} {B lim m : Nat} (h : Rd w B lim) (hb : Below m w w') (hm : B < m) : Rd w' B lim := h.keep fun k hk => hb.block k (by omega)
theorem Rd.grown {w w' : World} {B lim : Nat} {row : Option Nat} (h : Rd w B lim) (hb : w.grownBy w' row) (hr : ∀ g, row = some g → B < g) : Rd w' B lim :=
  h.keep fun k hk => hb.block k (by have := h.lt; omega) (fun e => by have := hr k e.symm; omega)

theorem gdrewN {a w : World} {row : Option Nat} (h : a.grownBy w row) (n : Nat) : a.grownBy (w.drewN n) row := ⟨h.os, h.tape, h.output, h.size, h.block⟩
theorem gdrew {a w : World} {row : Option Nat} (h : a.grownBy w row) : a.grownBy w.drew row := ⟨h.os, h.tape, h.output, h.size, h.block⟩
theorem galloc {a w : World} {row : Option Nat} (h : a.grownBy w row) (o : Obj) : a.grownBy (w.alloc o) row :=
  ⟨h.os, h.tape, h.output, Nat.le_trans h.size (by simp), fun i hi hne => (Below.heap_alloc w o i (Nat.lt_of_lt_of_le hi h.size)).trans (h.block i hi hne)⟩
theorem gset {a w : World} {g : Nat} (h : a.grownBy w (some g)) {p : Addr} (hp : p.block = g ∨ a.heap.size ≤ p.block) (u : Value) : a.grownBy (w.setCell p u) (some g) :=
  ⟨h.os, h.tape, h.output, by simpa [World.setCell] using h.size, fun i hi hne => (Below.heap_setCell w p u i (by
    rintro rfl
    rcases hp with hp | hp
    · exact hne (by rw [hp])
    · omega)).trans (h.block i hi hne)⟩
theorem gseq {a X w : World} {g : Nat} (h : a.grownBy X (some g)) (k : X.grownBy w (some g)) : a.grownBy w (some g) :=
  ⟨k.os.trans h.os, k.tape.trans h.tape, k.output.trans h.output, Nat.le_trans h.size k.size, fun i hi hne => (k.block i (Nat.lt_of_lt_of_le hi h.size) hne).trans (h.block i hi hne)⟩
theorem gbelow {a X w : World} {g : Nat} (h : a.grownBy X (some g)) (k : Below X.heap.size X w) : a.grownBy w (some g) :=
  ⟨k.os.trans h.os, k.tape.trans h.tape, k.output.trans h.output, Nat.le_trans h.size k.size, fun i hi hne => (k.block i (Nat.lt_of_lt_of_le hi h.size)).trans (h.block i hi hne)⟩
/-- what a reader's call keeps, in the walk's own form -/
theorem gcell {W w1 : World} {B : Nat} (h : W.grownBy w1 (some B)) : (∀ b o, b < W.heap.size → b ≠ B → w1.cell? ⟨b, o, none⟩ = W.cell? ⟨b, o, none⟩) ∧ (∀ b o, b < W.heap.size → b ≠ B → w1.frozen? ⟨b, o, none⟩ = W.frozen? ⟨b, o, none⟩) :=
  ⟨fun b o hb hn => World.cell?_of_block (a := ⟨b, o, none⟩) (h.block b hb (fun e => hn (by injection e))), fun b o hb hn => World.frozen?_of_block (a := ⟨b, o, none⟩) (h.block b hb (fun e => hn (by injection e)))⟩

/-- What a draw of a number leaves. -/
def Picked (w : World) (B lim : Nat) (P : Int → Prop) (e : Ending) (w' : World) : Prop := ∃ v, P v ∧ e = .returned (.int .i64 v) ∧ Rd w' B lim ∧ w.grownBy w' (some B)

theorem rd_step {w : World} {B : Nat} {A : Option Addr} {n c p lim : Nat} {f : Nat → Int} (h1 : w.heap[B]? = some (.cells #[.slice A n c, .int .i64 (p : Int)] 48 (0, 0))) (h2 : p ≤ lim) (h3 : n ≤ 2000)
    (h4 : 0 < n → ∃ b off, A = some ⟨b, off, none⟩ ∧ b < B ∧ ∀ i, i < n → w.cell? ⟨b, off + i, none⟩ = some (.int .u8 (f i)) ∧ 0 ≤ f i ∧ f i ≤ 255) (k : Nat) :
    Rd ((w.setCell ⟨B, 1, none⟩ (.int .i64 ((p : Int) + 1))).drewN k) B (lim + 1) ∧ w.grownBy ((w.setCell ⟨B, 1, none⟩ (.int .i64 ((p : Int) + 1))).drewN k) (some B) := by
  refine ⟨Rd.drewN ⟨A, n, c, p + 1, f, ?_, by omega, h3, fun hn => ?_⟩ k, gdrewN (gset (World.grownBy.refl w _) (.inl rfl) _) k⟩
  · simp [World.setCell, Array.getElem?_modify, h1]
  · obtain ⟨b, off, e, hb, hc⟩ := h4 hn
    exact ⟨b, off, e, hb, fun i hi => ⟨(World.cell?_of_block (Below.heap_setCell _ _ _ _ (by simp; omega))).trans (hc i hi).1, (hc i hi).2⟩⟩

theorem xor_pos (x : Int) (h : 0 ≤ x) (h' : x ≤ 4611686018427387903) : 0 ≤ bits .xor .i64 x (x / 64) := by
  obtain ⟨a, rfl⟩ := Int.eq_ofNat_of_zero_le h
  show 0 ≤ IntKind.i64.wrap ((BitVec.ofInt 64 (a : Int) ^^^ BitVec.ofInt 64 ((a : Int) / 64)).toNat : Int)
  have e : ((a : Int) / 64) = ((a / 64 : Nat) : Int) := by omega
  rw [e, BitVec.toNat_xor, BitVec.ofInt_natCast, BitVec.ofInt_natCast, BitVec.toNat_ofNat, BitVec.toNat_ofNat, Nat.mod_eq_of_lt (by omega), Nat.mod_eq_of_lt (by omega)]
  have hx : a ^^^ a / 64 < 2 ^ 62 := Nat.xor_lt_two_pow (by omega) (by omega)
  rw [IntWalk.i64_in _ (by omega)]
  omega

set_option maxHeartbeats 1000000 in
theorem pick_int (B lim : Nat) (n : Int) (w : World) (h : Rd w B lim) (hl : lim ≤ 1000000) : Calls Tryd.prog 22 #[.pointer (some ⟨B, 0, none⟩), .int .i64 n] w (Picked w B (lim + 1) fun v => 0 ≤ v ∧ (v < n ∨ n < 1 ∧ v = 0)) := by
  obtain ⟨A, m, c, p, f, h1, h2, h3, h4⟩ := h
  have q0 : w.cell? ⟨B, 0, none⟩ = some (.slice A m c) := by rw [cell_of_row w B 0 _ _ _ h1]; rfl
  have q1 : w.cell? ⟨B, 1, none⟩ = some (.int .i64 (p : Int)) := by rw [cell_of_row w B 1 _ _ _ h1]; rfl
  have g1 : w.frozen? ⟨B, 1, none⟩ = false := by simp [World.frozen?, h1]
  have hp : (p : Int) ≤ 1000000 := by omega
  have hm : (m : Int) ≤ 2000 := by omega
  have ST := Lib.hid (rd_step h1 h2 h3 h4)
  have H4 := Lib.hid h4
  clear h1 h2 h3 h4 hl
  by_cases hn : n < 1
  · go_enter Tryd.func22, Tryd.ntmps22
    go_wp2
    go_ret
    exact ⟨0, ⟨by omega, .inr ⟨hn, rfl⟩⟩, rfl, (ST.out 0).1, (ST.out 0).2⟩
  · by_cases hz : m = 0
    · subst hz
      go_enter Tryd.func22, Tryd.ntmps22
      go_wp2
      go_ret
      exact ⟨0, ⟨by omega, .inl (by omega)⟩, rfl, (ST.out 0).1, (ST.out 0).2⟩
    · obtain ⟨b, off, rfl, hb, hc⟩ := H4.out (by omega)
      have hne : ((m : Int) == 0) = false := by simp; omega
      have hbn : b ≠ B := by omega
      by_cases hk : p < m
      · obtain ⟨c1, c2, c3⟩ := hc p hk
        clear hc
        go_enter Tryd.func22, Tryd.ntmps22
        go_wp2
        go_ret
        exact ⟨_, ⟨Int.emod_nonneg _ (by omega), .inl (Int.emod_lt_of_pos _ (by omega))⟩, rfl, (ST.out 0).1, (ST.out 0).2⟩
      · have hm1 : 1 ≤ m := by omega
        obtain ⟨i1, hi1, t3⟩ : ∃ i1 : Nat, i1 < m ∧ (p : Int).tmod m = i1 := ⟨p % m, Nat.mod_lt _ (by omega), rfl⟩
        obtain ⟨i2, hi2, t4⟩ : ∃ i2 : Nat, i2 < m ∧ ((p : Int) * 7 + 3).tmod m = i2 := ⟨(p * 7 + 3) % m, Nat.mod_lt _ (by omega), rfl⟩
        obtain ⟨c1, c2, c3⟩ := hc i1 hi1
        obtain ⟨d1, d2, d3⟩ := hc i2 hi2
        generalize f i1 = u at *
        generalize f i2 = v at *
        obtain ⟨q, q2, q3, t5, t6⟩ : ∃ q : Int, 0 ≤ q ∧ q ≤ 1000000 ∧ IntKind.i64.wrap ((p : Int).tdiv m) = q ∧ IntKind.i64.wrap ((p : Int) / m) = q := by
          have b1 : 0 ≤ (p : Int) / m := Int.ediv_nonneg (by omega) (by omega)
          have b2 : (p : Int) / m ≤ p := Int.ediv_le_self _ (by omega)
          refine ⟨(p : Int) / m, b1, by omega, ?_, IntWalk.i64_in _ (by omega)⟩
          rw [Int.tdiv_eq_ediv_of_nonneg (by omega)]
          exact IntWalk.i64_in _ (by omega)
        have t1 := IntWalk.i64_in ((p : Int) * 7) (by omega)
        have t2 := IntWalk.i64_in ((p : Int) * 7 + 3) (by omega)
        have k1 := IntWalk.i64_in u (by omega)
        have k2 := IntWalk.i64_in v (by omega)
        have s1 := IntWalk.i64_in (u * 131) (by omega)
        have s2 := IntWalk.i64_in (v * 1117) (by omega)
        have s3 := IntWalk.i64_in (u * 131 + v * 1117) (by omega)
        have s4 := IntWalk.i64_in ((p : Int) * 29) (by omega)
        have s5 := IntWalk.i64_in (u * 131 + v * 1117 + (p : Int) * 29) (by omega)
        have s6 := IntWalk.i64_in (q * 53) (by omega)
        have s7 := IntWalk.i64_in (u * 131 + v * 1117 + (p : Int) * 29 + q * 53) (by omega)
        have j1 : ((i1 : Nat) : Int) < (m : Int) := by omega
        have j2 : ((i2 : Nat) : Int) < (m : Int) := by omega
        have j3 : (0 : Int) ≤ (i1 : Int) := by omega
        have j4 : (0 : Int) ≤ (i2 : Int) := by omega
        have x1 := xor_pos (u * 131 + v * 1117 + (p : Int) * 29 + q * 53) (by omega) (by omega)
        clear hc
        go_enter Tryd.func22, Tryd.ntmps22
        go_wp2
        go_region_held3 (fun w' => (w'.cell? ⟨B, 0, none⟩ = some (.slice (some ⟨b, off, none⟩) m c) ∧ w'.cell? ⟨b, off + i1, none⟩ = some (.int .u8 u)) ∧ w'.cell? ⟨b, off + i2, none⟩ = some (.int .u8 v)) (refine ⟨⟨?_, ?_⟩, ?_⟩ <;> (go_simp; done)) (fail)
        go_wp2
        go_ret
        exact ⟨_, ⟨Int.emod_nonneg _ (by omega), .inl (Int.emod_lt_of_pos _ (by omega))⟩, rfl, (ST.out 1).1, (ST.out 1).2⟩

/-- pick returns a number in 0..n-1, or 0. -/
def PickN (w : World) (B lim : Nat) (n : Int) (e : Ending) (w' : World) : Prop := ∃ v : Nat, ((v : Int) < n ∨ n < 1 ∧ v = 0) ∧ e = .returned (.int .i64 (v : Int)) ∧ Rd w' B lim ∧ w.grownBy w' (some B)
theorem pick_any (B lim : Nat) (n : Int) (w : World) (h : Rd w B lim) (hl : lim ≤ 1000000) : Calls Tryd.prog 22 #[.pointer (some ⟨B, 0, none⟩), .int .i64 n] w (PickN w B (lim + 1) n) :=
  (pick_int B lim n w h hl).mono fun e w' ⟨v, ⟨h0, h1⟩, he, hr, hg⟩ => by
    obtain ⟨k, rfl⟩ := Int.eq_ofNat_of_zero_le h0
    exact ⟨k, by omega, he, hr, hg⟩
/-- pick with a positive number -/
theorem pick_pos (B lim : Nat) (n : Nat) (w : World) (hn : 0 < n) (h : Rd w B lim) (hl : lim ≤ 1000000) : Calls Tryd.prog 22 #[.pointer (some ⟨B, 0, none⟩), .int .i64 (n : Int)] w fun e w' => ∃ v : Nat, v < n ∧ e = .returned (.int .i64 (v : Int)) ∧ Rd w' B (lim + 1) ∧ w.grownBy w' (some B) :=
  (pick_any B lim n w h hl).mono fun e w' ⟨v, h1, he, hr, hg⟩ => ⟨v, by omega, he, hr, hg⟩

/-! literals of slices, indexed by a number that was drawn -/
def selI (l : List Int) (k : Nat) : Int := l.getD k 0
theorem sel_at (l : List Int) (k : Nat) (h : k < (l.map (Value.int .i64)).length) : (l.map (Value.int .i64))[k]'h = .int .i64 (selI l k) := by
  rw [List.getElem_map]
  unfold selI
  rw [List.getD_eq_getElem?_getD, List.getElem?_eq_getElem (by simpa using h)]
  rfl
theorem at2 (a0 a1 : Int) (k : Nat) (h : k < [Value.int .i64 a0, Value.int .i64 a1].length) : ([Value.int .i64 a0, Value.int .i64 a1] : List Value)[k]'h = .int .i64 (selI [a0, a1] k) := sel_at [a0, a1] k h
theorem at3 (a0 a1 a2 : Int) (k : Nat) (h : k < [Value.int .i64 a0, Value.int .i64 a1, Value.int .i64 a2].length) : ([Value.int .i64 a0, Value.int .i64 a1, Value.int .i64 a2] : List Value)[k]'h = .int .i64 (selI [a0, a1, a2] k) := sel_at [a0, a1, a2] k h
theorem at4 (a0 a1 a2 a3 : Int) (k : Nat) (h : k < [Value.int .i64 a0, Value.int .i64 a1, Value.int .i64 a2, Value.int .i64 a3].length) : ([Value.int .i64 a0, Value.int .i64 a1, Value.int .i64 a2, Value.int .i64 a3] : List Value)[k]'h = .int .i64 (selI [a0, a1, a2, a3] k) := sel_at [a0, a1, a2, a3] k h
theorem at5 (a0 a1 a2 a3 a4 : Int) (k : Nat) (h : k < [Value.int .i64 a0, Value.int .i64 a1, Value.int .i64 a2, Value.int .i64 a3, Value.int .i64 a4].length) : ([Value.int .i64 a0, Value.int .i64 a1, Value.int .i64 a2, Value.int .i64 a3, Value.int .i64 a4] : List Value)[k]'h = .int .i64 (selI [a0, a1, a2, a3, a4] k) := sel_at [a0, a1, a2, a3, a4] k h
theorem at6 (a0 a1 a2 a3 a4 a5 : Int) (k : Nat) (h : k < [Value.int .i64 a0, Value.int .i64 a1, Value.int .i64 a2, Value.int .i64 a3, Value.int .i64 a4, Value.int .i64 a5].length) : ([Value.int .i64 a0, Value.int .i64 a1, Value.int .i64 a2, Value.int .i64 a3, Value.int .i64 a4, Value.int .i64 a5] : List Value)[k]'h = .int .i64 (selI [a0, a1, a2, a3, a4, a5] k) := sel_at [a0, a1, a2, a3, a4, a5] k h
theorem at7 (a0 a1 a2 a3 a4 a5 a6 : Int) (k : Nat) (h : k < [Value.int .i64 a0, Value.int .i64 a1, Value.int .i64 a2, Value.int .i64 a3, Value.int .i64 a4, Value.int .i64 a5, Value.int .i64 a6].length) : ([Value.int .i64 a0, Value.int .i64 a1, Value.int .i64 a2, Value.int .i64 a3, Value.int .i64 a4, Value.int .i64 a5, Value.int .i64 a6] : List Value)[k]'h = .int .i64 (selI [a0, a1, a2, a3, a4, a5, a6] k) := sel_at [a0, a1, a2, a3, a4, a5, a6] k h
theorem at8 (a0 a1 a2 a3 a4 a5 a6 a7 : Int) (k : Nat) (h : k < [Value.int .i64 a0, Value.int .i64 a1, Value.int .i64 a2, Value.int .i64 a3, Value.int .i64 a4, Value.int .i64 a5, Value.int .i64 a6, Value.int .i64 a7].length) : ([Value.int .i64 a0, Value.int .i64 a1, Value.int .i64 a2, Value.int .i64 a3, Value.int .i64 a4, Value.int .i64 a5, Value.int .i64 a6, Value.int .i64 a7] : List Value)[k]'h = .int .i64 (selI [a0, a1, a2, a3, a4, a5, a6, a7] k) := sel_at [a0, a1, a2, a3, a4, a5, a6, a7] k h
theorem at9 (a0 a1 a2 a3 a4 a5 a6 a7 a8 : Int) (k : Nat) (h : k < [Value.int .i64 a0, Value.int .i64 a1, Value.int .i64 a2, Value.int .i64 a3, Value.int .i64 a4, Value.int .i64 a5, Value.int .i64 a6, Value.int .i64 a7, Value.int .i64 a8].length) : ([Value.int .i64 a0, Value.int .i64 a1, Value.int .i64 a2, Value.int .i64 a3, Value.int .i64 a4, Value.int .i64 a5, Value.int .i64 a6, Value.int .i64 a7, Value.int .i64 a8] : List Value)[k]'h = .int .i64 (selI [a0, a1, a2, a3, a4, a5, a6, a7, a8] k) := sel_at [a0, a1, a2, a3, a4, a5, a6, a7, a8] k h
theorem at10 (a0 a1 a2 a3 a4 a5 a6 a7 a8 a9 : Int) (k : Nat) (h : k < [Value.int .i64 a0, Value.int .i64 a1, Value.int .i64 a2, Value.int .i64 a3, Value.int .i64 a4, Value.int .i64 a5, Value.int .i64 a6, Value.int .i64 a7, Value.int .i64 a8, Value.int .i64 a9].length) : ([Value.int .i64 a0, Value.int .i64 a1, Value.int .i64 a2, Value.int .i64 a3, Value.int .i64 a4, Value.int .i64 a5, Value.int .i64 a6, Value.int .i64 a7, Value.int .i64 a8, Value.int .i64 a9] : List Value)[k]'h = .int .i64 (selI [a0, a1, a2, a3, a4, a5, a6, a7, a8, a9] k) := sel_at [a0, a1, a2, a3, a4, a5, a6, a7, a8, a9] k h
theorem at11 (a0 a1 a2 a3 a4 a5 a6 a7 a8 a9 a10 : Int) (k : Nat) (h : k < [Value.int .i64 a0, Value.int .i64 a1, Value.int .i64 a2, Value.int .i64 a3, Value.int .i64 a4, Value.int .i64 a5, Value.int .i64 a6, Value.int .i64 a7, Value.int .i64 a8, Value.int .i64 a9, Value.int .i64 a10].length) : ([Value.int .i64 a0, Value.int .i64 a1, Value.int .i64 a2, Value.int .i64 a3, Value.int .i64 a4, Value.int .i64 a5, Value.int .i64 a6, Value.int .i64 a7, Value.int .i64 a8, Value.int .i64 a9, Value.int .i64 a10] : List Value)[k]'h = .int .i64 (selI [a0, a1, a2, a3, a4, a5, a6, a7, a8, a9, a10] k) := sel_at [a0, a1, a2, a3, a4, a5, a6, a7, a8, a9, a10] k h
theorem sel_bd {l : List Int} {k : Nat} {lo hi : Int} (h : ∀ x ∈ l, lo ≤ x ∧ x ≤ hi) (hk : k < l.length) : lo ≤ selI l k ∧ selI l k ≤ hi := by
  unfold selI
  rw [List.getD_eq_getElem?_getD, List.getElem?_eq_getElem hk]
  exact h _ (List.getElem_mem hk)
theorem sel_nat (l : List Int) (i m : Nat) (h : ∀ x ∈ l, 0 ≤ x ∧ x ≤ (m : Int)) (hi : i < l.length) : ∃ k : Nat, k ≤ m ∧ selI l i = (k : Int) := by
  obtain ⟨h0, h1⟩ := sel_bd h hi
  obtain ⟨k, hk⟩ := Int.eq_ofNat_of_zero_le h0
  exact ⟨k, by omega, hk⟩

theorem odd_any (B lim : Nat) (n : Int) (w : World) (h : Rd w B lim) (hl : lim ≤ 1000000) (hn : 0 < n) (hn' : n ≤ 1000) : Calls Tryd.prog 23 #[.pointer (some ⟨B, 0, none⟩), .int .i64 n] w fun e w' => ∃ v : Bool, e = .returned (.bool v) ∧ Rd w' B (lim + 1) ∧ w.grownBy w' (some B) := by
  have H := Lib.hid h
  clear h
  go_enter Tryd.func23, Tryd.ntmps23
  go_wp2_with fail
  refine (pick_any _ _ _ _ H.out hl).mono ?_
  rintro e w1 ⟨v, hv, rfl, hr1, hg1⟩
  go_wp2
  go_ret
  exact ⟨_, rfl, hr1, hg1⟩

end Go.Proofs.YtbnmkbkjoofekaaDoor.K
