/- The walk of the law on what a span has; the draw's one statement leaves its order open. -/
import Derived.Test.YtjlldfkkkfcohaaW8
import Derived.Test.YtjlldfkkkfcohaaReg3
namespace Go.Proofs.Ytjlldfkkkfcohaa.K
open Go.RowKit

def HJ (B lim N R W0 : Nat) (x y : Int) (w0 : World) (c : Nat) (w : World) : Prop := Rd w B (lim + c) ∧ Pair w N x y 24 ∧ (∃ p q, Pair w R p q 24) ∧ Below w0.heap.size w0 w ∧ W0 ≤ w.heap.size
theorem HJ.mono {B lim N R W0 : Nat} {x y : Int} {w0 : World} {c c' : Nat} {w : World} (h : c ≤ c') (hj : HJ B lim N R W0 x y w0 c w) : HJ B lim N R W0 x y w0 c' w := ⟨hj.1.more (by omega), hj.2⟩
def HD (R : Nat) (x y : Int) (i : Nat) (w : World) : Prop := i = 22 → Pair w R x y 24
def DrewSN (w : World) (e : Ending) (w' : World) : Prop := ∃ a b n : Int, (-1073741825 ≤ a ∧ a ≤ 1073741825) ∧ (-1073741825 ≤ b ∧ b ≤ 1073741825) ∧ (-2147483650 ≤ n ∧ n ≤ 2147483650) ∧ e = .returned (.tuple #[.agg #[.int .i64 a, .int .i64 b], .int .i64 n]) ∧ Below w.heap.size w w'
theorem arr32 (t : Array Value) (h : t.size = 32) : ∃ x0 x1 x2 x3 x4 x5 x6 x7 x8 x9 x10 x11 x12 x13 x14 x15 x16 x17 x18 x19 x20 x21 x22 x23 x24 x25 x26 x27 x28 x29 x30 x31 : Value, t = List.toArray (x0 :: x1 :: x2 :: x3 :: x4 :: x5 :: x6 :: x7 :: x8 :: x9 :: x10 :: x11 :: x12 :: x13 :: x14 :: x15 :: x16 :: x17 :: x18 :: x19 :: x20 :: x21 :: x22 :: x23 :: x24 :: x25 :: x26 :: x27 :: x28 :: x29 :: x30 :: x31 :: []) := by
  obtain ⟨l⟩ := t
  have h32 : l.length = 32 := h
  clear h
  obtain ⟨x0, l0, rfl, h31⟩ := cons_len h32
  obtain ⟨x1, l1, rfl, h30⟩ := cons_len h31
  obtain ⟨x2, l2, rfl, h29⟩ := cons_len h30
  obtain ⟨x3, l3, rfl, h28⟩ := cons_len h29
  obtain ⟨x4, l4, rfl, h27⟩ := cons_len h28
  obtain ⟨x5, l5, rfl, h26⟩ := cons_len h27
  obtain ⟨x6, l6, rfl, h25⟩ := cons_len h26
  obtain ⟨x7, l7, rfl, h24⟩ := cons_len h25
  obtain ⟨x8, l8, rfl, h23⟩ := cons_len h24
  obtain ⟨x9, l9, rfl, h22⟩ := cons_len h23
  obtain ⟨x10, l10, rfl, h21⟩ := cons_len h22
  obtain ⟨x11, l11, rfl, h20⟩ := cons_len h21
  obtain ⟨x12, l12, rfl, h19⟩ := cons_len h20
  obtain ⟨x13, l13, rfl, h18⟩ := cons_len h19
  obtain ⟨x14, l14, rfl, h17⟩ := cons_len h18
  obtain ⟨x15, l15, rfl, h16⟩ := cons_len h17
  obtain ⟨x16, l16, rfl, h15⟩ := cons_len h16
  obtain ⟨x17, l17, rfl, h14⟩ := cons_len h15
  obtain ⟨x18, l18, rfl, h13⟩ := cons_len h14
  obtain ⟨x19, l19, rfl, h12⟩ := cons_len h13
  obtain ⟨x20, l20, rfl, h11⟩ := cons_len h12
  obtain ⟨x21, l21, rfl, h10⟩ := cons_len h11
  obtain ⟨x22, l22, rfl, h9⟩ := cons_len h10
  obtain ⟨x23, l23, rfl, h8⟩ := cons_len h9
  obtain ⟨x24, l24, rfl, h7⟩ := cons_len h8
  obtain ⟨x25, l25, rfl, h6⟩ := cons_len h7
  obtain ⟨x26, l26, rfl, h5⟩ := cons_len h6
  obtain ⟨x27, l27, rfl, h4⟩ := cons_len h5
  obtain ⟨x28, l28, rfl, h3⟩ := cons_len h4
  obtain ⟨x29, l29, rfl, h2⟩ := cons_len h3
  obtain ⟨x30, l30, rfl, h1⟩ := cons_len h2
  obtain ⟨x31, l31, rfl, h0⟩ := cons_len h1
  obtain rfl := List.eq_nil_of_length_eq_zero h0
  exact ⟨x0, x1, x2, x3, x4, x5, x6, x7, x8, x9, x10, x11, x12, x13, x14, x15, x16, x17, x18, x19, x20, x21, x22, x23, x24, x25, x26, x27, x28, x29, x30, x31, rfl⟩

set_option maxRecDepth 100000 in
set_option maxHeartbeats 8000000 in
theorem DrawSpanHas_any (a : Option Addr) (len cap : Nat) (zs : List Int) (w : World) (h : IsRow .u8 w a len cap zs) : Calls Try.prog 36 #[.slice a len cap] w (DrewSN w) := by
  have R := Lib.hid (h.keep (w' := w.alloc (.cells #[.int .i64 0, .int .i64 0] 24)) (balloc (Below.refl _ _) _))
  clear h
  go_enter Try.func36, Try.ntmps36
  go_wp2_with fail
  refine (l20Open_any _ _ _ _ _ R.out).mono ?_
  rintro e w0 ⟨g, hg, rfl, hr0, hb0⟩
  have hz0 := hb0.size
  simp only [World.size_alloc] at hz0 hg
  have Q0 : Pair w0 w.heap.size 0 0 24 := (hb0.block _ (by simp)).trans (Pair.new w 0 0 24)
  go_wp2_with fail
  refine (l20Span_any _ _ _ _ hr0 (by omega) (by omega) (by omega)).mono ?_
  rintro e w1 ⟨x, y, hx, hy, rfl, hr1, hg1⟩
  have hl1 := hr1.lt
  have QW : Pair (w1.alloc (.cells #[.int .i64 x, .int .i64 y] 24)) w.heap.size 0 0 24 := (Q0.grown hg1 (by omega)).alloc _
  have PW : Pair (w1.alloc (.cells #[.int .i64 x, .int .i64 y] 24)) w1.heap.size x y 24 := Pair.new w1 x y _
  have RW := (hr1.alloc (.cells #[.int .i64 x, .int .i64 y] 24))
  have BW : Below w.heap.size w (w1.alloc (.cells #[.int .i64 x, .int .i64 y] 24)) := balloc (bgrow (bseq (balloc (Below.refl _ _) _) hb0) hg1 (by omega)) _
  have hzW : (w1.alloc (.cells #[.int .i64 x, .int .i64 y] 24)).heap.size = w1.heap.size + 1 := by simp
  have n1 : w1.heap.size ≠ g := by omega
  have n2 : w.heap.size ≠ g := by omega
  have n3 : w.heap.size < w1.heap.size := by omega
  clear Q0 hr0 hb0 hg1 hr1
  go_wp2_with fail
  generalize w1.alloc (.cells #[.int .i64 x, .int .i64 y] 24) = W at *
  generalize hLIM : 0 + 9 = LIM at *
  obtain ⟨md, EM0, m1, m2⟩ : ∃ md : Int, Int.tdiv (x + y) 2 = md ∧ -1073741825 ≤ md ∧ md ≤ 1073741825 := by
    refine ⟨_, rfl, ?_, ?_⟩ <;> rw [Int.tdiv_eq_ediv] <;> split <;> (try simp only [show Int.sign 2 = 1 from rfl]) <;> omega
  have EM := Lib.hid EM0
  have H0 : Hid (HJ g LIM w1.heap.size w.heap.size W.heap.size x y w 0 W.drew) := Lib.hid ⟨RW.drew, PW.drew, ⟨_, _, QW.drew⟩, bdrew BW, by simp⟩
  clear EM0 RW PW QW BW
  refine wp_region_owe3 rfl (HJ g LIM w1.heap.size w.heap.size W.heap.size x y w) (kinAt (W0 := W.heap.size) [jIs W.heap.size (.agg #[.int .i64 x, .int .i64 y]), jIs W.heap.size (.pointer (some ⟨w1.heap.size, 0, none⟩)), jIs W.heap.size (.int .i64 x), jIs W.heap.size (.pointer (some ⟨w1.heap.size, 1, none⟩)), jIs W.heap.size (.int .i64 y), jIs W.heap.size (.pointer (some ⟨w1.heap.size, 0, none⟩)), jIs W.heap.size (.int .i64 x), jIs W.heap.size (.int .i64 (x - 1)), jIs W.heap.size (.pointer (some ⟨w1.heap.size, 1, none⟩)), jIs W.heap.size (.int .i64 y), jIs W.heap.size (.int .i64 (y + 1)), jIs W.heap.size (.pointer (some ⟨w1.heap.size, 0, none⟩)), jIs W.heap.size (.int .i64 x), jIs W.heap.size (.pointer (some ⟨w1.heap.size, 1, none⟩)), jIs W.heap.size (.int .i64 y), jIs W.heap.size (.int .i64 (x + y)), jIs W.heap.size (.int .i64 md), jTab W.heap.size 5 (-2147483650) (2147483650), jIs W.heap.size (.pointer (some ⟨g, 0, none⟩)), jInt W.heap.size (0) (4), jCell W.heap.size (-2147483650) (2147483650), jInt W.heap.size (-2147483650) (2147483650), jIs W.heap.size (undef), jInt W.heap.size (-2147483650) (2147483650)]) (HD w.heap.size x y) (by kernel_rfl) (by simp) (fun c c' w' => HJ.mono) H0.out ⟨?o0, ?o1, ?o2, ?o3, ?o4, ?o5, ?o6, ?o7, ?o8, ?o9, ?o10, ?o11, ?o12, ?o13, ?o14, ?o15, ?o16, ?o17, ?o18, ?o19, ?o20, ?o21, ?o22, ?o23, trivial⟩ ?_ (by kernel_rfl)
  case o0 =>
    intro a wx c hcs hJ hold hdep K hK0
    have hcs' : c ≤ 24 := hcs
    clear hcs
    have hK : ∀ v w', (jIs W.heap.size (.agg #[.int .i64 x, .int .i64 y])).1 v w' → HD w.heap.size x y 0 w' → HJ g LIM w1.heap.size w.heap.size W.heap.size x y w (c + 1) w' → (∀ _ _, _ → _) → (∀ _, _ → _) → K (a.put (some 10) v) w' := hK0
    clear hK0
    obtain ⟨hR, hN, ⟨p, q, hP⟩, hBl, hz⟩ := hJ
    obtain ⟨⟨c0, c1⟩, c2, c3⟩ := hN.cells
    refine wpOp_plain rfl rfl ?_
    (try simp only [List.getElem_toArray, List.getElem_cons_succ, List.getElem_cons_zero])
    have e5 : a.tmps[5]?.getD undef = .pointer (some ⟨w1.heap.size, 0, none⟩) := (Array.getD_eq_getD_getElem? ..).symm.trans (hold 5 (by simp))
    go_simp
    exact hK _ _ rfl (fun e => absurd e (by decide)) ⟨hR.more (by omega), hN, ⟨p, q, hP⟩, hBl, hz⟩ (fun _ _ h => h) (fun _ h => h)
  case o1 =>
    intro a wx c hcs hJ hold hdep K hK0
    have hcs' : c ≤ 24 := hcs
    clear hcs
    have hK : ∀ v w', (jIs W.heap.size (.pointer (some ⟨w1.heap.size, 0, none⟩))).1 v w' → HD w.heap.size x y 1 w' → HJ g LIM w1.heap.size w.heap.size W.heap.size x y w (c + 1) w' → (∀ _ _, _ → _) → (∀ _, _ → _) → K (a.put (some 11) v) w' := hK0
    clear hK0
    obtain ⟨hR, hN, ⟨p, q, hP⟩, hBl, hz⟩ := hJ
    obtain ⟨⟨c0, c1⟩, c2, c3⟩ := hN.cells
    refine wpOp_plain rfl rfl ?_
    (try simp only [List.getElem_toArray, List.getElem_cons_succ, List.getElem_cons_zero])
    have e5 : a.tmps[5]?.getD undef = .pointer (some ⟨w1.heap.size, 0, none⟩) := (Array.getD_eq_getD_getElem? ..).symm.trans (hold 5 (by simp))
    go_simp
    exact hK _ _ rfl (fun e => absurd e (by decide)) ⟨hR.more (by omega), hN, ⟨p, q, hP⟩, hBl, hz⟩ (fun _ _ h => h) (fun _ h => h)
  case o2 =>
    intro a wx c hcs hJ hold hdep K hK0
    have hcs' : c ≤ 24 := hcs
    clear hcs
    have hK : ∀ v w', (jIs W.heap.size (.int .i64 x)).1 v w' → HD w.heap.size x y 2 w' → HJ g LIM w1.heap.size w.heap.size W.heap.size x y w (c + 1) w' → (∀ _ _, _ → _) → (∀ _, _ → _) → K (a.put (some 12) v) w' := hK0
    clear hK0
    obtain ⟨hR, hN, ⟨p, q, hP⟩, hBl, hz⟩ := hJ
    obtain ⟨⟨c0, c1⟩, c2, c3⟩ := hN.cells
    refine wpOp_plain rfl rfl ?_
    (try simp only [List.getElem_toArray, List.getElem_cons_succ, List.getElem_cons_zero])
    have e11 : a.tmps[11]?.getD undef = .pointer (some ⟨w1.heap.size, 0, none⟩) := (Array.getD_eq_getD_getElem? ..).symm.trans (hdep 1 _ 11 (by kernel_rfl) rfl rfl)
    go_simp
    exact hK _ _ rfl (fun e => absurd e (by decide)) ⟨hR.more (by omega), hN, ⟨p, q, hP⟩, hBl, hz⟩ (fun _ _ h => h) (fun _ h => h)
  case o3 =>
    intro a wx c hcs hJ hold hdep K hK0
    have hcs' : c ≤ 24 := hcs
    clear hcs
    have hK : ∀ v w', (jIs W.heap.size (.pointer (some ⟨w1.heap.size, 1, none⟩))).1 v w' → HD w.heap.size x y 3 w' → HJ g LIM w1.heap.size w.heap.size W.heap.size x y w (c + 1) w' → (∀ _ _, _ → _) → (∀ _, _ → _) → K (a.put (some 13) v) w' := hK0
    clear hK0
    obtain ⟨hR, hN, ⟨p, q, hP⟩, hBl, hz⟩ := hJ
    obtain ⟨⟨c0, c1⟩, c2, c3⟩ := hN.cells
    refine wpOp_plain rfl rfl ?_
    (try simp only [List.getElem_toArray, List.getElem_cons_succ, List.getElem_cons_zero])
    have e5 : a.tmps[5]?.getD undef = .pointer (some ⟨w1.heap.size, 0, none⟩) := (Array.getD_eq_getD_getElem? ..).symm.trans (hold 5 (by simp))
    go_simp
    exact hK _ _ rfl (fun e => absurd e (by decide)) ⟨hR.more (by omega), hN, ⟨p, q, hP⟩, hBl, hz⟩ (fun _ _ h => h) (fun _ h => h)
  case o4 =>
    intro a wx c hcs hJ hold hdep K hK0
    have hcs' : c ≤ 24 := hcs
    clear hcs
    have hK : ∀ v w', (jIs W.heap.size (.int .i64 y)).1 v w' → HD w.heap.size x y 4 w' → HJ g LIM w1.heap.size w.heap.size W.heap.size x y w (c + 1) w' → (∀ _ _, _ → _) → (∀ _, _ → _) → K (a.put (some 14) v) w' := hK0
    clear hK0
    obtain ⟨hR, hN, ⟨p, q, hP⟩, hBl, hz⟩ := hJ
    obtain ⟨⟨c0, c1⟩, c2, c3⟩ := hN.cells
    refine wpOp_plain rfl rfl ?_
    (try simp only [List.getElem_toArray, List.getElem_cons_succ, List.getElem_cons_zero])
    have e13 : a.tmps[13]?.getD undef = .pointer (some ⟨w1.heap.size, 1, none⟩) := (Array.getD_eq_getD_getElem? ..).symm.trans (hdep 3 _ 13 (by kernel_rfl) rfl rfl)
    go_simp
    exact hK _ _ rfl (fun e => absurd e (by decide)) ⟨hR.more (by omega), hN, ⟨p, q, hP⟩, hBl, hz⟩ (fun _ _ h => h) (fun _ h => h)
  case o5 =>
    intro a wx c hcs hJ hold hdep K hK0
    have hcs' : c ≤ 24 := hcs
    clear hcs
    have hK : ∀ v w', (jIs W.heap.size (.pointer (some ⟨w1.heap.size, 0, none⟩))).1 v w' → HD w.heap.size x y 5 w' → HJ g LIM w1.heap.size w.heap.size W.heap.size x y w (c + 1) w' → (∀ _ _, _ → _) → (∀ _, _ → _) → K (a.put (some 15) v) w' := hK0
    clear hK0
    obtain ⟨hR, hN, ⟨p, q, hP⟩, hBl, hz⟩ := hJ
    obtain ⟨⟨c0, c1⟩, c2, c3⟩ := hN.cells
    refine wpOp_plain rfl rfl ?_
    (try simp only [List.getElem_toArray, List.getElem_cons_succ, List.getElem_cons_zero])
    have e5 : a.tmps[5]?.getD undef = .pointer (some ⟨w1.heap.size, 0, none⟩) := (Array.getD_eq_getD_getElem? ..).symm.trans (hold 5 (by simp))
    go_simp
    exact hK _ _ rfl (fun e => absurd e (by decide)) ⟨hR.more (by omega), hN, ⟨p, q, hP⟩, hBl, hz⟩ (fun _ _ h => h) (fun _ h => h)
  case o6 =>
    intro a wx c hcs hJ hold hdep K hK0
    have hcs' : c ≤ 24 := hcs
    clear hcs
    have hK : ∀ v w', (jIs W.heap.size (.int .i64 x)).1 v w' → HD w.heap.size x y 6 w' → HJ g LIM w1.heap.size w.heap.size W.heap.size x y w (c + 1) w' → (∀ _ _, _ → _) → (∀ _, _ → _) → K (a.put (some 16) v) w' := hK0
    clear hK0
    obtain ⟨hR, hN, ⟨p, q, hP⟩, hBl, hz⟩ := hJ
    obtain ⟨⟨c0, c1⟩, c2, c3⟩ := hN.cells
    refine wpOp_plain rfl rfl ?_
    (try simp only [List.getElem_toArray, List.getElem_cons_succ, List.getElem_cons_zero])
    have e15 : a.tmps[15]?.getD undef = .pointer (some ⟨w1.heap.size, 0, none⟩) := (Array.getD_eq_getD_getElem? ..).symm.trans (hdep 5 _ 15 (by kernel_rfl) rfl rfl)
    go_simp
    exact hK _ _ rfl (fun e => absurd e (by decide)) ⟨hR.more (by omega), hN, ⟨p, q, hP⟩, hBl, hz⟩ (fun _ _ h => h) (fun _ h => h)
  case o7 =>
    intro a wx c hcs hJ hold hdep K hK0
    have hcs' : c ≤ 24 := hcs
    clear hcs
    have hK : ∀ v w', (jIs W.heap.size (.int .i64 (x - 1))).1 v w' → HD w.heap.size x y 7 w' → HJ g LIM w1.heap.size w.heap.size W.heap.size x y w (c + 1) w' → (∀ _ _, _ → _) → (∀ _, _ → _) → K (a.put (some 17) v) w' := hK0
    clear hK0
    obtain ⟨hR, hN, ⟨p, q, hP⟩, hBl, hz⟩ := hJ
    obtain ⟨⟨c0, c1⟩, c2, c3⟩ := hN.cells
    refine wpOp_plain rfl rfl ?_
    (try simp only [List.getElem_toArray, List.getElem_cons_succ, List.getElem_cons_zero])
    have e16 : a.tmps[16]?.getD undef = .int .i64 x := (Array.getD_eq_getD_getElem? ..).symm.trans (hdep 6 _ 16 (by kernel_rfl) rfl rfl)
    have kw := IntWalk.i64_in (x - 1) (by omega)
    go_simp
    exact hK _ _ rfl (fun e => absurd e (by decide)) ⟨hR.more (by omega), hN, ⟨p, q, hP⟩, hBl, hz⟩ (fun _ _ h => h) (fun _ h => h)
  case o8 =>
    intro a wx c hcs hJ hold hdep K hK0
    have hcs' : c ≤ 24 := hcs
    clear hcs
    have hK : ∀ v w', (jIs W.heap.size (.pointer (some ⟨w1.heap.size, 1, none⟩))).1 v w' → HD w.heap.size x y 8 w' → HJ g LIM w1.heap.size w.heap.size W.heap.size x y w (c + 1) w' → (∀ _ _, _ → _) → (∀ _, _ → _) → K (a.put (some 18) v) w' := hK0
    clear hK0
    obtain ⟨hR, hN, ⟨p, q, hP⟩, hBl, hz⟩ := hJ
    obtain ⟨⟨c0, c1⟩, c2, c3⟩ := hN.cells
    refine wpOp_plain rfl rfl ?_
    (try simp only [List.getElem_toArray, List.getElem_cons_succ, List.getElem_cons_zero])
    have e5 : a.tmps[5]?.getD undef = .pointer (some ⟨w1.heap.size, 0, none⟩) := (Array.getD_eq_getD_getElem? ..).symm.trans (hold 5 (by simp))
    go_simp
    exact hK _ _ rfl (fun e => absurd e (by decide)) ⟨hR.more (by omega), hN, ⟨p, q, hP⟩, hBl, hz⟩ (fun _ _ h => h) (fun _ h => h)
  case o9 =>
    intro a wx c hcs hJ hold hdep K hK0
    have hcs' : c ≤ 24 := hcs
    clear hcs
    have hK : ∀ v w', (jIs W.heap.size (.int .i64 y)).1 v w' → HD w.heap.size x y 9 w' → HJ g LIM w1.heap.size w.heap.size W.heap.size x y w (c + 1) w' → (∀ _ _, _ → _) → (∀ _, _ → _) → K (a.put (some 19) v) w' := hK0
    clear hK0
    obtain ⟨hR, hN, ⟨p, q, hP⟩, hBl, hz⟩ := hJ
    obtain ⟨⟨c0, c1⟩, c2, c3⟩ := hN.cells
    refine wpOp_plain rfl rfl ?_
    (try simp only [List.getElem_toArray, List.getElem_cons_succ, List.getElem_cons_zero])
    have e18 : a.tmps[18]?.getD undef = .pointer (some ⟨w1.heap.size, 1, none⟩) := (Array.getD_eq_getD_getElem? ..).symm.trans (hdep 8 _ 18 (by kernel_rfl) rfl rfl)
    go_simp
    exact hK _ _ rfl (fun e => absurd e (by decide)) ⟨hR.more (by omega), hN, ⟨p, q, hP⟩, hBl, hz⟩ (fun _ _ h => h) (fun _ h => h)
  case o10 =>
    intro a wx c hcs hJ hold hdep K hK0
    have hcs' : c ≤ 24 := hcs
    clear hcs
    have hK : ∀ v w', (jIs W.heap.size (.int .i64 (y + 1))).1 v w' → HD w.heap.size x y 10 w' → HJ g LIM w1.heap.size w.heap.size W.heap.size x y w (c + 1) w' → (∀ _ _, _ → _) → (∀ _, _ → _) → K (a.put (some 20) v) w' := hK0
    clear hK0
    obtain ⟨hR, hN, ⟨p, q, hP⟩, hBl, hz⟩ := hJ
    obtain ⟨⟨c0, c1⟩, c2, c3⟩ := hN.cells
    refine wpOp_plain rfl rfl ?_
    (try simp only [List.getElem_toArray, List.getElem_cons_succ, List.getElem_cons_zero])
    have e19 : a.tmps[19]?.getD undef = .int .i64 y := (Array.getD_eq_getD_getElem? ..).symm.trans (hdep 9 _ 19 (by kernel_rfl) rfl rfl)
    have kw := IntWalk.i64_in (y + 1) (by omega)
    go_simp
    exact hK _ _ rfl (fun e => absurd e (by decide)) ⟨hR.more (by omega), hN, ⟨p, q, hP⟩, hBl, hz⟩ (fun _ _ h => h) (fun _ h => h)
  case o11 =>
    intro a wx c hcs hJ hold hdep K hK0
    have hcs' : c ≤ 24 := hcs
    clear hcs
    have hK : ∀ v w', (jIs W.heap.size (.pointer (some ⟨w1.heap.size, 0, none⟩))).1 v w' → HD w.heap.size x y 11 w' → HJ g LIM w1.heap.size w.heap.size W.heap.size x y w (c + 1) w' → (∀ _ _, _ → _) → (∀ _, _ → _) → K (a.put (some 21) v) w' := hK0
    clear hK0
    obtain ⟨hR, hN, ⟨p, q, hP⟩, hBl, hz⟩ := hJ
    obtain ⟨⟨c0, c1⟩, c2, c3⟩ := hN.cells
    refine wpOp_plain rfl rfl ?_
    (try simp only [List.getElem_toArray, List.getElem_cons_succ, List.getElem_cons_zero])
    have e5 : a.tmps[5]?.getD undef = .pointer (some ⟨w1.heap.size, 0, none⟩) := (Array.getD_eq_getD_getElem? ..).symm.trans (hold 5 (by simp))
    go_simp
    exact hK _ _ rfl (fun e => absurd e (by decide)) ⟨hR.more (by omega), hN, ⟨p, q, hP⟩, hBl, hz⟩ (fun _ _ h => h) (fun _ h => h)
  case o12 =>
    intro a wx c hcs hJ hold hdep K hK0
    have hcs' : c ≤ 24 := hcs
    clear hcs
    have hK : ∀ v w', (jIs W.heap.size (.int .i64 x)).1 v w' → HD w.heap.size x y 12 w' → HJ g LIM w1.heap.size w.heap.size W.heap.size x y w (c + 1) w' → (∀ _ _, _ → _) → (∀ _, _ → _) → K (a.put (some 22) v) w' := hK0
    clear hK0
    obtain ⟨hR, hN, ⟨p, q, hP⟩, hBl, hz⟩ := hJ
    obtain ⟨⟨c0, c1⟩, c2, c3⟩ := hN.cells
    refine wpOp_plain rfl rfl ?_
    (try simp only [List.getElem_toArray, List.getElem_cons_succ, List.getElem_cons_zero])
    have e21 : a.tmps[21]?.getD undef = .pointer (some ⟨w1.heap.size, 0, none⟩) := (Array.getD_eq_getD_getElem? ..).symm.trans (hdep 11 _ 21 (by kernel_rfl) rfl rfl)
    go_simp
    exact hK _ _ rfl (fun e => absurd e (by decide)) ⟨hR.more (by omega), hN, ⟨p, q, hP⟩, hBl, hz⟩ (fun _ _ h => h) (fun _ h => h)
  case o13 =>
    intro a wx c hcs hJ hold hdep K hK0
    have hcs' : c ≤ 24 := hcs
    clear hcs
    have hK : ∀ v w', (jIs W.heap.size (.pointer (some ⟨w1.heap.size, 1, none⟩))).1 v w' → HD w.heap.size x y 13 w' → HJ g LIM w1.heap.size w.heap.size W.heap.size x y w (c + 1) w' → (∀ _ _, _ → _) → (∀ _, _ → _) → K (a.put (some 23) v) w' := hK0
    clear hK0
    obtain ⟨hR, hN, ⟨p, q, hP⟩, hBl, hz⟩ := hJ
    obtain ⟨⟨c0, c1⟩, c2, c3⟩ := hN.cells
    refine wpOp_plain rfl rfl ?_
    (try simp only [List.getElem_toArray, List.getElem_cons_succ, List.getElem_cons_zero])
    have e5 : a.tmps[5]?.getD undef = .pointer (some ⟨w1.heap.size, 0, none⟩) := (Array.getD_eq_getD_getElem? ..).symm.trans (hold 5 (by simp))
    go_simp
    exact hK _ _ rfl (fun e => absurd e (by decide)) ⟨hR.more (by omega), hN, ⟨p, q, hP⟩, hBl, hz⟩ (fun _ _ h => h) (fun _ h => h)
  case o14 =>
    intro a wx c hcs hJ hold hdep K hK0
    have hcs' : c ≤ 24 := hcs
    clear hcs
    have hK : ∀ v w', (jIs W.heap.size (.int .i64 y)).1 v w' → HD w.heap.size x y 14 w' → HJ g LIM w1.heap.size w.heap.size W.heap.size x y w (c + 1) w' → (∀ _ _, _ → _) → (∀ _, _ → _) → K (a.put (some 24) v) w' := hK0
    clear hK0
    obtain ⟨hR, hN, ⟨p, q, hP⟩, hBl, hz⟩ := hJ
    obtain ⟨⟨c0, c1⟩, c2, c3⟩ := hN.cells
    refine wpOp_plain rfl rfl ?_
    (try simp only [List.getElem_toArray, List.getElem_cons_succ, List.getElem_cons_zero])
    have e23 : a.tmps[23]?.getD undef = .pointer (some ⟨w1.heap.size, 1, none⟩) := (Array.getD_eq_getD_getElem? ..).symm.trans (hdep 13 _ 23 (by kernel_rfl) rfl rfl)
    go_simp
    exact hK _ _ rfl (fun e => absurd e (by decide)) ⟨hR.more (by omega), hN, ⟨p, q, hP⟩, hBl, hz⟩ (fun _ _ h => h) (fun _ h => h)
  case o15 =>
    intro a wx c hcs hJ hold hdep K hK0
    have hcs' : c ≤ 24 := hcs
    clear hcs
    have hK : ∀ v w', (jIs W.heap.size (.int .i64 (x + y))).1 v w' → HD w.heap.size x y 15 w' → HJ g LIM w1.heap.size w.heap.size W.heap.size x y w (c + 1) w' → (∀ _ _, _ → _) → (∀ _, _ → _) → K (a.put (some 25) v) w' := hK0
    clear hK0
    obtain ⟨hR, hN, ⟨p, q, hP⟩, hBl, hz⟩ := hJ
    obtain ⟨⟨c0, c1⟩, c2, c3⟩ := hN.cells
    refine wpOp_plain rfl rfl ?_
    (try simp only [List.getElem_toArray, List.getElem_cons_succ, List.getElem_cons_zero])
    have e22 : a.tmps[22]?.getD undef = .int .i64 x := (Array.getD_eq_getD_getElem? ..).symm.trans (hdep 12 _ 22 (by kernel_rfl) rfl rfl)
    have e24 : a.tmps[24]?.getD undef = .int .i64 y := (Array.getD_eq_getD_getElem? ..).symm.trans (hdep 14 _ 24 (by kernel_rfl) rfl rfl)
    have kw := IntWalk.i64_in (x + y) (by omega)
    go_simp
    exact hK _ _ rfl (fun e => absurd e (by decide)) ⟨hR.more (by omega), hN, ⟨p, q, hP⟩, hBl, hz⟩ (fun _ _ h => h) (fun _ h => h)
  case o16 =>
    intro a wx c hcs hJ hold hdep K hK0
    have hcs' : c ≤ 24 := hcs
    clear hcs
    have hK : ∀ v w', (jIs W.heap.size (.int .i64 md)).1 v w' → HD w.heap.size x y 16 w' → HJ g LIM w1.heap.size w.heap.size W.heap.size x y w (c + 1) w' → (∀ _ _, _ → _) → (∀ _, _ → _) → K (a.put (some 26) v) w' := hK0
    clear hK0
    obtain ⟨hR, hN, ⟨p, q, hP⟩, hBl, hz⟩ := hJ
    obtain ⟨⟨c0, c1⟩, c2, c3⟩ := hN.cells
    refine wpOp_plain rfl rfl ?_
    (try simp only [List.getElem_toArray, List.getElem_cons_succ, List.getElem_cons_zero])
    have e25 : a.tmps[25]?.getD undef = .int .i64 (x + y) := (Array.getD_eq_getD_getElem? ..).symm.trans (hdep 15 _ 25 (by kernel_rfl) rfl rfl)
    have em := EM.out
    have kw := IntWalk.i64_in md (by omega)
    go_simp
    exact hK _ _ rfl (fun e => absurd e (by decide)) ⟨hR.more (by omega), hN, ⟨p, q, hP⟩, hBl, hz⟩ (fun _ _ h => h) (fun _ h => h)
  case o17 =>
    intro a wx c hcs hJ hold hdep K hK0
    have hcs' : c ≤ 24 := hcs
    clear hcs
    have hK : ∀ v w', (jTab W.heap.size 5 (-2147483650) (2147483650)).1 v w' → HD w.heap.size x y 17 w' → HJ g LIM w1.heap.size w.heap.size W.heap.size x y w (c + 1) w' → (∀ _ _, _ → _) → (∀ _, _ → _) → K (a.put (some 27) v) w' := hK0
    clear hK0
    obtain ⟨hR, hN, ⟨p, q, hP⟩, hBl, hz⟩ := hJ
    obtain ⟨⟨c0, c1⟩, c2, c3⟩ := hN.cells
    refine wpOp_plain rfl rfl ?_
    (try simp only [List.getElem_toArray, List.getElem_cons_succ, List.getElem_cons_zero])
    have e12 : a.tmps[12]?.getD undef = .int .i64 x := (Array.getD_eq_getD_getElem? ..).symm.trans (hdep 2 _ 12 (by kernel_rfl) rfl rfl)
    have e14 : a.tmps[14]?.getD undef = .int .i64 y := (Array.getD_eq_getD_getElem? ..).symm.trans (hdep 4 _ 14 (by kernel_rfl) rfl rfl)
    have e17 : a.tmps[17]?.getD undef = .int .i64 (x - 1) := (Array.getD_eq_getD_getElem? ..).symm.trans (hdep 7 _ 17 (by kernel_rfl) rfl rfl)
    have e20 : a.tmps[20]?.getD undef = .int .i64 (y + 1) := (Array.getD_eq_getD_getElem? ..).symm.trans (hdep 10 _ 20 (by kernel_rfl) rfl rfl)
    have e26 : a.tmps[26]?.getD undef = .int .i64 md := (Array.getD_eq_getD_getElem? ..).symm.trans (hdep 16 _ 26 (by kernel_rfl) rfl rfl)
    go_simp
    exact hK _ _ (jtab_new wx [x, y, x - 1, y + 1, md] hz (by simp only [List.forall_mem_cons]; refine ⟨?_, ?_, ?_, ?_, ?_, ?_⟩ <;> first | omega | simp) rfl) (fun e => absurd e (by decide)) ⟨(hR.alloc _).more (by omega), hN.alloc _, ⟨p, q, hP.alloc _⟩, balloc hBl _, by simp; omega⟩ (fun j x h => kinAt_keep (St.alloc _ _ _) j x h) (fun j h e => (h e).alloc _)
  case o18 =>
    intro a wx c hcs hJ hold hdep K hK0
    have hcs' : c ≤ 24 := hcs
    clear hcs
    have hK : ∀ v w', (jIs W.heap.size (.pointer (some ⟨g, 0, none⟩))).1 v w' → HD w.heap.size x y 18 w' → HJ g LIM w1.heap.size w.heap.size W.heap.size x y w (c + 1) w' → (∀ _ _, _ → _) → (∀ _, _ → _) → K (a.put (some 28) v) w' := hK0
    clear hK0
    obtain ⟨hR, hN, ⟨p, q, hP⟩, hBl, hz⟩ := hJ
    obtain ⟨⟨c0, c1⟩, c2, c3⟩ := hN.cells
    refine wpOp_plain rfl rfl ?_
    (try simp only [List.getElem_toArray, List.getElem_cons_succ, List.getElem_cons_zero])
    have e4 : a.tmps[4]?.getD undef = .pointer (some ⟨g, 0, none⟩) := (Array.getD_eq_getD_getElem? ..).symm.trans (hold 4 (by simp))
    go_simp
    exact hK _ _ rfl (fun e => absurd e (by decide)) ⟨hR.more (by omega), hN, ⟨p, q, hP⟩, hBl, hz⟩ (fun _ _ h => h) (fun _ h => h)
  case o19 =>
    intro a wx c hcs hJ hold hdep K hK0
    have hcs' : c ≤ 24 := hcs
    clear hcs
    have hK : ∀ v w', (jInt W.heap.size (0) (4)).1 v w' → HD w.heap.size x y 19 w' → HJ g LIM w1.heap.size w.heap.size W.heap.size x y w (c + 1) w' → (∀ _ _, _ → _) → (∀ _, _ → _) → K (a.put (some 29) v) w' := hK0
    clear hK0
    obtain ⟨hR, hN, ⟨p, q, hP⟩, hBl, hz⟩ := hJ
    obtain ⟨⟨c0, c1⟩, c2, c3⟩ := hN.cells
    refine wpOp_plain rfl rfl ?_
    (try simp only [List.getElem_toArray, List.getElem_cons_succ, List.getElem_cons_zero])
    have e28 : a.tmps[28]?.getD undef = .pointer (some ⟨g, 0, none⟩) := (Array.getD_eq_getD_getElem? ..).symm.trans (hdep 18 _ 28 (by kernel_rfl) rfl rfl)
    go_simp
    refine (pick_any _ _ _ _ hR (by omega)).mono ?_
    rintro e w' ⟨v, hv, rfl, hr, hg⟩
    have hzz := hg.size
    exact hK _ _ (jInt_mk (by omega) (by omega)) (fun e => absurd e (by decide)) ⟨hr.more (by omega), hN.grown hg (by omega), ⟨p, q, hP.grown hg (by omega)⟩, bgrow hBl hg (by omega), by omega⟩ (fun j x h => kinAt_keep (St.grown hg (by omega)) j x h) (fun j h e => (h e).grown hg (by omega))
  case o20 =>
    intro a wx c hcs hJ hold hdep K hK0
    have hcs' : c ≤ 24 := hcs
    clear hcs
    have hK : ∀ v w', (jCell W.heap.size (-2147483650) (2147483650)).1 v w' → HD w.heap.size x y 20 w' → HJ g LIM w1.heap.size w.heap.size W.heap.size x y w (c + 1) w' → (∀ _ _, _ → _) → (∀ _, _ → _) → K (a.put (some 30) v) w' := hK0
    clear hK0
    obtain ⟨hR, hN, ⟨p, q, hP⟩, hBl, hz⟩ := hJ
    obtain ⟨⟨c0, c1⟩, c2, c3⟩ := hN.cells
    refine wpOp_plain rfl rfl ?_
    (try simp only [List.getElem_toArray, List.getElem_cons_succ, List.getElem_cons_zero])
    obtain ⟨g27, e27, u27, p27, q27⟩ := jTab_out (k := 5) (lo := -2147483650) (hi := 2147483650) (hdep 17 _ 27 (by kernel_rfl) rfl rfl)
    rw [Array.getD_eq_getD_getElem?] at e27
    obtain ⟨n29, e29, l29, h29⟩ := jInt_out (lo := 0) (hi := 4) (hdep 19 _ 29 (by kernel_rfl) rfl rfl)
    rw [Array.getD_eq_getD_getElem?] at e29
    obtain ⟨m, rfl⟩ := Int.eq_ofNat_of_zero_le (show 0 ≤ n29 by omega)
    have hm : m < 5 := by omega
    have hm' : (m : Int) < 5 := by omega
    go_simp
    exact hK _ _ (jCell_mk u27 p27 (q27 m hm)) (fun e => absurd e (by decide)) ⟨hR.more (by omega), hN, ⟨p, q, hP⟩, hBl, hz⟩ (fun _ _ h => h) (fun _ h => h)
  case o21 =>
    intro a wx c hcs hJ hold hdep K hK0
    have hcs' : c ≤ 24 := hcs
    clear hcs
    have hK : ∀ v w', (jInt W.heap.size (-2147483650) (2147483650)).1 v w' → HD w.heap.size x y 21 w' → HJ g LIM w1.heap.size w.heap.size W.heap.size x y w (c + 1) w' → (∀ _ _, _ → _) → (∀ _, _ → _) → K (a.put (some 31) v) w' := hK0
    clear hK0
    obtain ⟨hR, hN, ⟨p, q, hP⟩, hBl, hz⟩ := hJ
    obtain ⟨⟨c0, c1⟩, c2, c3⟩ := hN.cells
    refine wpOp_plain rfl rfl ?_
    (try simp only [List.getElem_toArray, List.getElem_cons_succ, List.getElem_cons_zero])
    obtain ⟨g30, j30, e30, u30, p30, n30, q30, l30, h30⟩ := jCell_out (lo := -2147483650) (hi := 2147483650) (hdep 20 _ 30 (by kernel_rfl) rfl rfl)
    rw [Array.getD_eq_getD_getElem?] at e30
    go_simp
    exact hK _ _ (jInt_mk l30 h30) (fun e => absurd e (by decide)) ⟨hR.more (by omega), hN, ⟨p, q, hP⟩, hBl, hz⟩ (fun _ _ h => h) (fun _ h => h)
  case o22 =>
    intro a wx c hcs hJ hold hdep K hK0
    have hcs' : c ≤ 24 := hcs
    clear hcs
    have hK : ∀ v w', (jIs W.heap.size (undef)).1 v w' → HD w.heap.size x y 22 w' → HJ g LIM w1.heap.size w.heap.size W.heap.size x y w (c + 1) w' → (∀ _ _, _ → _) → (∀ _, _ → _) → K (a.put (none) v) w' := hK0
    clear hK0
    obtain ⟨hR, hN, ⟨p, q, hP⟩, hBl, hz⟩ := hJ
    obtain ⟨⟨c0, c1⟩, c2, c3⟩ := hN.cells
    refine wpOp_plain rfl rfl ?_
    (try simp only [List.getElem_toArray, List.getElem_cons_succ, List.getElem_cons_zero])
    have e2 : a.tmps[2]?.getD undef = .pointer (some ⟨w.heap.size, 0, none⟩) := (Array.getD_eq_getD_getElem? ..).symm.trans (hold 2 (by simp))
    have e10 : a.tmps[10]?.getD undef = .agg #[.int .i64 x, .int .i64 y] := (Array.getD_eq_getD_getElem? ..).symm.trans (hdep 0 _ 10 (by kernel_rfl) rfl rfl)
    obtain ⟨⟨d0, d1⟩, d2, d3⟩ := hP.cells
    go_simp
    refine hK undef ((wx.setCell ⟨w.heap.size, 0, none⟩ (.int .i64 x)).setCell ⟨w.heap.size, 1, none⟩ (.int .i64 y)) rfl (fun _ => hP.set x y) ⟨((hR.pair hP (by omega) 0 _).pair (hP.set0 x) (by omega) 1 _).more (by omega), (hN.keep (by simp; omega) _).keep (by simp; omega) _, ⟨x, y, hP.set x y⟩, bset (bset hBl (by simp) _) (by simp) _, by simpa using hz⟩ (fun j x h => kinAt_keep (((St.refl _ _).set (by simp; omega) _).set (by simp; omega) _) j x h) (fun _ _ _ => hP.set x y)
  case o23 =>
    intro a wx c hcs hJ hold hdep K hK0
    have hcs' : c ≤ 24 := hcs
    clear hcs
    have hK : ∀ v w', (jInt W.heap.size (-2147483650) (2147483650)).1 v w' → HD w.heap.size x y 23 w' → HJ g LIM w1.heap.size w.heap.size W.heap.size x y w (c + 1) w' → (∀ _ _, _ → _) → (∀ _, _ → _) → K (a.put (some 3) v) w' := hK0
    clear hK0
    obtain ⟨hR, hN, ⟨p, q, hP⟩, hBl, hz⟩ := hJ
    obtain ⟨⟨c0, c1⟩, c2, c3⟩ := hN.cells
    refine wpOp_plain rfl rfl ?_
    (try simp only [List.getElem_toArray, List.getElem_cons_succ, List.getElem_cons_zero])
    obtain ⟨n31, e31, l31, h31⟩ := jInt_out (lo := -2147483650) (hi := 2147483650) (hdep 21 _ 31 (by kernel_rfl) rfl rfl)
    rw [Array.getD_eq_getD_getElem?] at e31
    go_simp
    exact hK _ _ (jInt_mk (by omega) (by omega)) (fun e => absurd e (by decide)) ⟨hR.more (by omega), hN, ⟨p, q, hP⟩, hBl, hz⟩ (fun _ _ h => h) (fun _ h => h)
  intro a' wz hJ hdef hsize hold hnew hD
  obtain ⟨v, ev, v1, v2⟩ := jInt_out (lo := -2147483650) (hi := 2147483650) (hnew 23 _ 3 rfl rfl)
  have s2 : a'.tmps.getD 2 undef = .pointer (some ⟨w.heap.size, 0, none⟩) := hold 2 (by simp)
  have E := (show Pair wz w.heap.size x y 24 from hD 22 (by simp) rfl).cells.1
  obtain ⟨tm, df⟩ := a'
  obtain rfl : df = [] := hdef
  obtain ⟨x0, x1, x2, x3, x4, x5, x6, x7, x8, x9, x10, x11, x12, x13, x14, x15, x16, x17, x18, x19, x20, x21, x22, x23, x24, x25, x26, x27, x28, x29, x30, x31, rfl⟩ := arr32 tm hsize
  have q2 : x2 = .pointer (some ⟨w.heap.size, 0, none⟩) := s2
  have q3 : x3 = .int .i64 v := ev
  subst q2 q3
  have HB := Lib.hid hJ.2.2.2.1
  clear hold hnew hsize s2 ev hD hJ
  go_wp2
  refine bodyPost_ret (v := .tuple #[.agg #[.int .i64 x, .int .i64 y], .int .i64 v]) (by simp [results, Try.results36, go_sem, E.1, E.2]) rfl ?_
  exact ⟨x, y, v, hx, hy, ⟨v1, v2⟩, rfl, HB.out⟩

theorem sSpanValid_is (b : Bool) (l h : Int) (w : World) (hb : decide (SV l h) = b) : Calls Try.prog 34 #[.agg #[.int .i64 l, .int .i64 h]] w fun e w' => e = .returned (.bool b) ∧ Below w.heap.size w w' := by
  subst hb
  by_cases v : SV l h
  · rw [decide_eq_true v]
    exact (sSpanValid_yes l h w v).mono fun e w' ⟨he, hw⟩ => ⟨he, hw ▸ balloc (Below.refl _ _) _⟩
  · rw [decide_eq_false v]
    exact (sSpanValid_no l h w v).mono fun e w' ⟨he, hw⟩ => ⟨he, hw ▸ balloc (Below.refl _ _) _⟩

set_option maxHeartbeats 4000000 in
theorem FnSpanHas_walk (a0 : Option Addr) (len0 cap0 : Nat) (z0 : List Int) (w : World) (w0 : IsRow .u8 w a0 len0 cap0 z0) : Calls Try.prog 12 #[.slice a0 len0 cap0] w fun e w' => e = .returned (.bool true) ∧ Below w.heap.size w w' := by
  by_cases hlen : (1048576 : Int) < (len0 : Int)
  · go_enter Try.func12, Try.ntmps12
    go_wp2
    go_ret
    exact ⟨by first | rfl | (simp; done) | (simp; omega), Below.refl _ _⟩
  · have R := Lib.hid w0
    clear w0
    go_enter Try.func12, Try.ntmps12
    go_wp2_with fail
    refine (DrawSpanHas_any _ _ _ _ _ R.out).mono ?_
    rintro e w1 ⟨l, u, n, hx, hy, hn, rfl, hb1⟩
    obtain ⟨bb, ebb⟩ : ∃ bb, decide (SV l u ∧ l ≤ n ∧ n ≤ u) = bb := ⟨_, rfl⟩
    have Q : Pair (w1.alloc (.cells #[.int .i64 l, .int .i64 u] 24)) w1.heap.size l u 24 := Pair.new w1 l u _
    have HB : Below w.heap.size w (w1.alloc (.cells #[.int .i64 l, .int .i64 u] 24)) := balloc hb1 _
    by_cases v : SV l u
    · have HV : Hid (decide (SV l u) = true) := Lib.hid (decide_eq_true v)
      have b2 : l ≤ u ∧ -1073741824 ≤ l ∧ u ≤ 1073741824 := by have := v; unfold SV at this; omega
      have H1 : Hid (decide (SV l u ∧ l ≤ l ∧ l ≤ u) = true) := Lib.hid (decide_eq_true ⟨v, by omega, by omega⟩)
      have H2 : Hid (decide (SV l u ∧ l ≤ u ∧ u ≤ u) = true) := Lib.hid (decide_eq_true ⟨v, by omega, by omega⟩)
      have H3 : Hid (decide (SV l u ∧ l ≤ l - 1 ∧ l - 1 ≤ u) = false) := Lib.hid (decide_eq_false (fun h => by omega))
      have H4 : Hid (decide (SV l u ∧ l ≤ u + 1 ∧ u + 1 ≤ u) = false) := Lib.hid (decide_eq_false (fun h => by omega))
      clear hb1 v
      cases bb
      all_goals
        have HH := Lib.hid ebb
        clear ebb
        go_wp2_with fail
        generalize w1.heap.size = N at *
        generalize w1.alloc (.cells #[.int .i64 l, .int .i64 u] 24) = W at *
        obtain ⟨⟨c0, c1⟩, c2, c3⟩ := Q.cells
        refine (SpanHas_is _ _ _ _ _ HH.out).mono ?_
        rintro e w' ⟨rfl, hb⟩
        clear c0 c1 c2 c3
        replace Q := Q.below hb
        replace HB := bseq HB hb
        clear hb
        obtain ⟨⟨c0, c1⟩, c2, c3⟩ := Q.cells
        go_wp2_with fail
        refine (sSpanHas_is _ _ _ _ _ HH.out).mono ?_
        rintro e w' ⟨rfl, hb⟩
        clear c0 c1 c2 c3
        replace Q := Q.below hb
        replace HB := bseq HB hb
        clear hb
        obtain ⟨⟨c0, c1⟩, c2, c3⟩ := Q.cells
        go_wp2_with fail
        refine (sSpanValid_is true _ _ _ HV.out).mono ?_
        rintro e w' ⟨rfl, hb⟩
        clear c0 c1 c2 c3
        replace Q := Q.below hb
        replace HB := bseq HB hb
        clear hb
        obtain ⟨⟨c0, c1⟩, c2, c3⟩ := Q.cells
        go_wp2_with fail
        refine (SpanHas_is true _ _ _ _ H1.out).mono ?_
        rintro e w' ⟨rfl, hb⟩
        clear c0 c1 c2 c3
        replace Q := Q.below hb
        replace HB := bseq HB hb
        clear hb
        obtain ⟨⟨c0, c1⟩, c2, c3⟩ := Q.cells
        go_wp2_with fail
        refine (SpanHas_is true _ _ _ _ H2.out).mono ?_
        rintro e w' ⟨rfl, hb⟩
        clear c0 c1 c2 c3
        replace Q := Q.below hb
        replace HB := bseq HB hb
        clear hb
        obtain ⟨⟨c0, c1⟩, c2, c3⟩ := Q.cells
        go_wp2_with fail
        refine (SpanHas_is false _ _ _ _ H3.out).mono ?_
        rintro e w' ⟨rfl, hb⟩
        clear c0 c1 c2 c3
        replace Q := Q.below hb
        replace HB := bseq HB hb
        clear hb
        obtain ⟨⟨c0, c1⟩, c2, c3⟩ := Q.cells
        go_wp2_with fail
        refine (SpanHas_is false _ _ _ _ H4.out).mono ?_
        rintro e w' ⟨rfl, hb⟩
        clear c0 c1 c2 c3
        replace Q := Q.below hb
        replace HB := bseq HB hb
        clear hb
        obtain ⟨⟨c0, c1⟩, c2, c3⟩ := Q.cells
        go_wp2_with fail
        go_wp2
        go_ret
        exact ⟨by first | rfl | (simp; done) | (simp; omega), HB⟩
    · have HV : Hid (decide (SV l u) = false) := Lib.hid (decide_eq_false v)
      have HH : Hid (decide (SV l u ∧ l ≤ n ∧ n ≤ u) = false) := Lib.hid (decide_eq_false (fun h => v h.1))
      clear hb1 ebb v
      go_wp2_with fail
      generalize w1.heap.size = N at *
      generalize w1.alloc (.cells #[.int .i64 l, .int .i64 u] 24) = W at *
      obtain ⟨⟨c0, c1⟩, c2, c3⟩ := Q.cells
      refine (SpanHas_is false _ _ _ _ HH.out).mono ?_
      rintro e w' ⟨rfl, hb⟩
      clear c0 c1 c2 c3
      replace Q := Q.below hb
      replace HB := bseq HB hb
      clear hb
      obtain ⟨⟨c0, c1⟩, c2, c3⟩ := Q.cells
      go_wp2_with fail
      refine (sSpanHas_is false _ _ _ _ HH.out).mono ?_
      rintro e w' ⟨rfl, hb⟩
      clear c0 c1 c2 c3
      replace Q := Q.below hb
      replace HB := bseq HB hb
      clear hb
      obtain ⟨⟨c0, c1⟩, c2, c3⟩ := Q.cells
      go_wp2_with fail
      refine (sSpanValid_is false _ _ _ HV.out).mono ?_
      rintro e w' ⟨rfl, hb⟩
      clear c0 c1 c2 c3
      replace Q := Q.below hb
      replace HB := bseq HB hb
      clear hb
      obtain ⟨⟨c0, c1⟩, c2, c3⟩ := Q.cells
      go_wp2_with fail
      refine (alive_any' _).mono ?_
      rintro e w' ⟨rfl, rfl⟩
      go_wp2
      go_ret
      exact ⟨by first | rfl | (simp; done) | (simp; omega), HB⟩

end Go.Proofs.Ytjlldfkkkfcohaa.K
